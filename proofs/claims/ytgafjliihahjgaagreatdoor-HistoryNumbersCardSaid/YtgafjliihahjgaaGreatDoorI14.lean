/- See I36. -/
import Derived.Test.YtgafjliihahjgaaGreatDoorI13
set_option linter.all false
set_option maxRecDepth 100000
set_option maxHeartbeats 40000000
namespace Go.Proofs
open Go.Eng
open Tryz
def jY(mn:Bool)(v:Nat):List UInt8:=if v=0 then [48] else if mn then 45::az v else az v
theorem mF(z:Int):jY (decide (z<0)) z.natAbs=cf z:=by
 unfold jY;by_cases Z:z=0
 .subst Z;rfl
 .rw[if_neg (by omega)]
  by_cases h:z<0
  .rw[decide_eq_true h,if_pos rfl]
   have:=nN (n:= -z) (by omega);rw[Int.neg_neg] at this;rw[this,kD (by omega),Int.natAbs_neg]
  .rw[decide_eq_false h,if_neg (by simp),kD (by omega)]
variable{J' body:Code}{ps:Array Tmp}
section
variable (v:Nat)(mn:Bool)(hv:0<v)(hl:(dig 1000000000 v).length<=1000000)(hb:dD f149=[(ps,J',body)])
include v mn hv hl hb
theorem yE:
  ∃O:af3,adM prog O/\∀Z,(ad Z 1=.ptr 1 0/\ad Z 3=.ptr 2 0/\Z.flatMap (fun e=>e.2.refs 5)=[])->
   O (.fn 265) [.yield 4,.ptr 3 0] [.cells false 1 (iN .u64 (dig 1000000000 v)),.cells true 0 [.bool mn,.slice 0 0 (dig 1000000000 v).length none],.cells true aK [.agk,.y9],.cells true 0 [.slice 0 0 (dig 1000000000 v).length none],.loop ⟨.ready,none,Z,34,ps,J',body⟩]=some ⟨.tuple [],some [.cells false 1 (iN .u64 (dig 1000000000 v)),.cells true 0 [.bool mn,.slice 0 0 (dig 1000000000 v).length none],.cells true aK [.ptr 2 0,.slice 5 0 (az v).length none],.cells true 0 [.slice 0 0 (dig 1000000000 v).length none],.loop ⟨.ready,none,Z,34,ps,J',body⟩],[.cells true 6001 (iB (az v))]⟩:=by
 refine gd (ι:=Env) (fun Z=>ad Z 1=.ptr 1 0/\ad Z 3=.ptr 2 0/\Z.flatMap (fun e=>e.2.refs 5)=[]) (fun _=>.fn 265) (fun _=>[.yield 4,.ptr 3 0]) (fun Z=>[.cells false 1 (iN .u64 (dig 1000000000 v)),.cells true 0 [.bool mn,.slice 0 0 (dig 1000000000 v).length none],.cells true aK [.agk,.y9],.cells true 0 [.slice 0 0 (dig 1000000000 v).length none],.loop ⟨.ready,none,Z,34,ps,J',body⟩]) (fun Z=>⟨.tuple [],some [.cells false 1 (iN .u64 (dig 1000000000 v)),.cells true 0 [.bool mn,.slice 0 0 (dig 1000000000 v).length none],.cells true aK [.ptr 2 0,.slice 5 0 (az v).length none],.cells true 0 [.slice 0 0 (dig 1000000000 v).length none],.loop ⟨.ready,none,Z,34,ps,J',body⟩],[.cells true 6001 (iB (az v))]⟩) ?_ ?_
 .rintro Z ⟨h1,h3,he⟩
  refine⟨?_,fun q hq=>by cases hq;rfl⟩;exact AG v mn hv hl hb Z h1 h3 he
 .intro i j _ _ _ _ h
  simp only[List.cons.injEq,af6.loop.injEq,agV.mk.injEq,and_true,true_and] at h;rw[h]
theorem wW:
  ∃O:af3,adM prog O/\∀Z,(ad Z 1=.ptr 1 0/\ad Z 3=.ptr 2 0/\Z.flatMap (fun e=>e.2.refs 7)=[])->
   O (.fn 265) [.yield 6,.ptr 5 0] [.cells false 1 (iN .u64 (dig 1000000000 v)),.cells true 0 [.bool mn,.slice 0 0 (dig 1000000000 v).length none],.cells true aK [.ptr 2 0,.slice 4 0 1 none],.cells true 1 (iB [45]),.cells true 6001 (iB [45]),.cells true 0 [.slice 0 0 (dig 1000000000 v).length none],.loop ⟨.ready,none,Z,34,ps,J',body⟩]=some ⟨.tuple [],some [.cells false 1 (iN .u64 (dig 1000000000 v)),.cells true 0 [.bool mn,.slice 0 0 (dig 1000000000 v).length none],.cells true aK [.ptr 2 0,.slice 7 0 (45::az v).length none],.cells true 1 (iB [45]),.HS,.cells true 0 [.slice 0 0 (dig 1000000000 v).length none],.loop ⟨.ready,none,Z,34,ps,J',body⟩],[.cells true 6001 (iB (45::az v))]⟩:=by
 refine gd (ι:=Env) (fun Z=>ad Z 1=.ptr 1 0/\ad Z 3=.ptr 2 0/\Z.flatMap (fun e=>e.2.refs 7)=[]) (fun _=>.fn 265) (fun _=>[.yield 6,.ptr 5 0]) (fun Z=>[.cells false 1 (iN .u64 (dig 1000000000 v)),.cells true 0 [.bool mn,.slice 0 0 (dig 1000000000 v).length none],.cells true aK [.ptr 2 0,.slice 4 0 1 none],.cells true 1 (iB [45]),.cells true 6001 (iB [45]),.cells true 0 [.slice 0 0 (dig 1000000000 v).length none],.loop ⟨.ready,none,Z,34,ps,J',body⟩]) (fun Z=>⟨.tuple [],some [.cells false 1 (iN .u64 (dig 1000000000 v)),.cells true 0 [.bool mn,.slice 0 0 (dig 1000000000 v).length none],.cells true aK [.ptr 2 0,.slice 7 0 (45::az v).length none],.cells true 1 (iB [45]),.HS,.cells true 0 [.slice 0 0 (dig 1000000000 v).length none],.loop ⟨.ready,none,Z,34,ps,J',body⟩],[.cells true 6001 (iB (45::az v))]⟩) ?_ ?_
 .rintro Z ⟨h1,h3,he⟩
  refine⟨?_,fun q hq=>by cases hq;rfl⟩;exact yF v mn hv hl hb Z h1 h3 he
 .intro i j _ _ _ _ h
  simp only[List.cons.injEq,af6.loop.injEq,agV.mk.injEq,and_true,true_and] at h;rw[h]
end
theorem ahL:aS prog 149=some f149:=by kernel_rfl
theorem Ez(v:Nat)(mn:Bool)(y:0<v)(H:(dig 1000000000 v).length<=1000000):
  ∃O:af3,adM prog O/\aa (aU prog) (fun _=>[]) (aS prog) ((bH.or gW).or O) 1 149 [.agg [.bool mn,.slice 0 0 (dig 1000000000 v).length none]] [.cells false 1 (iN .u64 (dig 1000000000 v))]=
   some ⟨.str (if mn then 45::az v else az v),some [.cells false 1 (iN .u64 (dig 1000000000 v))],[]⟩:=by
 obtain⟨ps,J',body,S⟩:∃ps J' body,dD f149=[(ps,J',body)]:=⟨_,_,_,rfl⟩
 have M:dig 1000000000 v≠[]:=by rw[ne_eq,tT (by omega)];omega
 have z:(az v).length<=90000000:=by
  have J:=jJ (dI (B:=1000000000) (by omega) v);rw[cY (by omega)] at J;have u:(1000000000:Nat) ^ (dig 1000000000 v).length=10 ^ (9*(dig 1000000000 v).length):=by rw[Nat.pow_mul]
  rw[u] at J;have h3:=List.length_pos_iff.2 M;have m:=aV (by omega) J;omega
 have K:=kI v;cases mn with
 |false=>
  obtain⟨O,G,Z⟩:=yE v false y H S;refine⟨O,G,?_⟩;obtain⟨A,W⟩:=xE (dig 1000000000 v);obtain⟨t,X⟩:=xE (az v);rw[<-W] at M;rw[<-W,<-X] at Z;rw[<-W];rw[<-X] at z K;simp only[Bool.false_eq_true,if_false,<-X];have V:¬A.length=0:=fun e=>M (M0 e)
  have F:t.length<=100000000:=by omega
  simp[dD,fP,f149] at S;obtain⟨rfl,rfl,rfl⟩:=S;simp[aa,ahL,f149,af3.or,bH,cg,cq,bV,gW,af,bw,ar,V,vV,Z,mJ,lz,F,K]
 |true=>
  obtain⟨O,G,Z⟩:=wW v true y H S;refine⟨O,G,?_⟩;obtain⟨A,W⟩:=xE (dig 1000000000 v);obtain⟨t,X⟩:=xE (45::az v);have D :t.length<=100000000:=by rw[X,List.length_cons];omega
  have C :t≠[]:=by rw[X];simp
  rw[<-W] at M;rw[<-W,<-X] at Z;rw[<-W];simp only[if_true,<-X];have V:¬A.length=0:=fun e=>M (M0 e)
  simp[dD,fP,f149] at S;obtain⟨rfl,rfl,rfl⟩:=S;simp[aa,ahL,f149,af3.or,bH,cg,cq,bV,gW,af,bw,ar,V,vV,Z,mJ,lz,D,C]
theorem Cb(mn:Bool):aa (aU prog) (fun _=>[]) (aS prog) bD 1 149 [.agg [.bool mn,.slice 0 0 0 none]] [.cells false 1 []]=some ⟨.str [48],none,[]⟩:=by simp[aa,ahL,f149]
theorem Ec(mn:Bool)(M:Mem):kO prog 149 [.agg [.bool mn,.y9]] M (.str [48]) M:=by refine aD (aj _) ?_ M;simp[aa,ahL,f149]
variable{A:List Nat}
theorem IB{M:Mem}{x:AV}(mn:Bool)(y:lok 1000000000 A=true)(tA:bB A=A)(H:A.length<=1000000)(hx:agi .u64 M x A):
  kO prog 149 [.agg [.bool mn,x]] M (.str (jY mn (aG 1000000000 A))) M:=by
 obtain⟨b,o,J,rfl,X,V⟩:=hx;have S:=gL X;have small:kO prog 149 [.agg [.bool mn,.slice 0 0 A.length none]] [.cells false 1 (iN .u64 A)] (.str (jY mn (aG 1000000000 A))) ([.cells false 1 (iN .u64 A)]++[]):=by
  by_cases W:aG 1000000000 A=0
  .have e:A=[]:=by have:=Bp (by omega) y tA;rw[W,fz] at this;exact this.symm
   subst e;have:=(ah ae (al _) (aj _) (ao _) (Cb mn)).1;simpa [afA.mem,jY,aG] using this
  .have e:=Bp (by omega) y tA
   obtain⟨O,K,h⟩:=Ez (aG 1000000000 A) mn (by omega) (by rw[e];exact H);rw[e] at h;have:=(ah ae (al _) ((rn.or zu).or K) (ao _) h).1;simpa [afA.mem,jY,W] using this
 have:=kO.frame (M:=M) [b] (m:=[.cells false 1 (iN .u64 A)]) rfl (by simpa using S) (by simp) (fun i s Z=>by
  cases i with
  |zero=>simp at Z;subst Z;exact .row X V
  |succ i=>simp at Z) rfl small
 simpa [AV.agd,AV.ren,eg] using this
noncomputable def cv:af3:=fun c Z M=>match c,Z with
 |.fn 149,[.agg [.bool mn,.y9]]=>some ⟨.str (jY mn 0),none,[]⟩
 |.fn 149,[.agg [.bool mn,x]]=>match cb .u64 M x with
  |some A=>if lok 1000000000 A=true/\bB A=A/\A.length<=1000000 then some ⟨.str (jY mn (aG 1000000000 A)),none,[]⟩ else none
  |none=>none
 |.fn 147,[.str s]=>match mZ s with
  |some z=>if (az z.natAbs).length<=1000000 then some ⟨.agg [.bool (decide (z<0)),.slice M.length 0 (dig 1000000000 z.natAbs).length none],none,[.cells true 1 (iN .u64 (dig 1000000000 z.natAbs))]⟩ else none
  |none=>none
 |c,Z=>bH c Z M
theorem Jf:adM prog cv:=by
 refine cP fun c Z M r h=>?_
 unfold cv at h;split at h
 .cases h
  refine aC ?_;rw[List.append_nil];exact Ec _ M
 .split at h
  .rename_i X
   split at h
   .rename_i hc
    obtain⟨W,V,S⟩:=hc;cases h;refine aC ?_;rw[List.append_nil];exact IB _ W V S (cD X)
   .cases h
  .cases h
 .split at h
  .rename_i O
   split at h
   .rename_i K
    cases h;rw[dy O];exact aC (NP _ K M)
   .cases h
  .cases h
 .exact fK rn h
theorem di(n:Nat):(dig 1000000000 n).length<=(az n).length:=by
 obtain⟨X,Z,V⟩:=mE _ (az n) (L9 _) (ff _);rw[fm] at Z;have W:bB (ji (az n))=dig 1000000000 n:=by rw[<-gP (by omega) X,Z]
 have:=ef (ji (az n));rw[W] at this;omega
variable{a b k:Nat}
section
variable (ha:(az a).length<=k)(hb:(az b).length<=k)
include ha hb
theorem sV:(az (a+b)).length<=k+1:=by have Z:=dC a;have X:=dC b;have h3:10 ^ (az a).length<=10 ^ k:=P1 (by omega) ha;have W:10 ^ (az b).length<=10 ^ k:=P1 (by omega) hb;refine aV (by omega) ?_;rw[Nat.pow_succ];omega
theorem ke:(az (a*b)).length<=2*k:=by have Z:=dC a;have X:=dC b;have h3:10 ^ (az a).length<=10 ^ k:=P1 (by omega) ha;have W:10 ^ (az b).length<=10 ^ k:=P1 (by omega) hb;have:=uf a;exact aV (by omega) (SM (by omega) (by omega))
end
theorem dM(h:a<=b):(az a).length<=(az b).length:=by have:=dC b;exact aV (uf b) (by omega)
theorem MS(n:Int):(az n.natAbs).length<=(cf n).length:=by
 cases n with
 |ofNat u=>exact L9 _
 |negSucc u=>simp[cf]
theorem kF{n:Int}(h:(cf n).length<=k):n.natAbs<10 ^ k:=by have Z:=dC n.natAbs;have X:=MS n;have h3:10 ^ (az n.natAbs).length<=10 ^ k:=P1 (by omega) (by omega);omega
noncomputable def aL(f:FuncId)(args:List AV):Option AV:=
 match f,args with
 |146,[.str s,.int .i64 m]=>match mZ s with
  |some n=>if m<=18/\s.length<=1000000000 then some (if (s.length:Int)<=m then .tuple [.int .i64 n,.bool true] else .tuple [.int .i64 0,.bool false]) else none
  |none=>none
 |98,[.int .i64 n]=>if dw n then some (.str (cf n)) else none
 |170,[.str s]=>match mZ s with
  |some n=>if s.length<=1000000000 then some (.str (cf (-n))) else none
  |none=>none
 |95,[.str s,.str t]=>match mZ s,mZ t with
  |some m,some n=>some (.int .i64 (Ml m n))
  |_,_=>none
 |f,args=>aP f args
theorem zB:adM prog (af aL):=bX fun f X v h mem=>by
 unfold aL at h;split at h
 .split at h
  .rename_i n Z
   split at h
   .rename_i hc
    cases h;rw[dy Z] at hc |-;exact NT n _ hc.1 hc.2 mem
   .cases h
  .cases h
 .split at h
  next hc=>cases h;exact PL _ hc mem
  .cases h
 .split at h
  .rename_i n Z
   split at h
   .rename_i hc
    cases h;rw[dy Z] at hc |-;exact Tx n hc mem
   .cases h
  .cases h
 .split at h
  .rename_i m n W Z
   cases h;rw[dy W,dy Z];exact Ed m n mem
  .cases h
 .have:=rZ.fn _ _ mem ⟨v,none,[]⟩ (by unfold af;simp only;rw[h])
  simpa [afA.mem] using this
noncomputable def cH:af3:=fun c Z M=>((af aL).or cv) c Z M
theorem pT:adM prog cH:=zB.or Jf
section
variable (ow:Bool)
include ow
theorem hs0(l:Mem):cb .u64 (.cells ow 1 (iN .u64 A)::l) (.slice 0 0 A.length none)=some A:=bq rfl (by simp) (GE (by simp))
theorem hs1(y:af6)(l:Mem):cb .u64 (y::.cells ow 1 (iN .u64 A)::l) (.slice 1 0 A.length none)=some A:=bq rfl (by simp) (GE (by simp))
theorem hs2(y a1:af6)(l:Mem):cb .u64 (y::a1::.cells ow 1 (iN .u64 A)::l) (.slice 2 0 A.length none)=some A:=bq rfl (by simp) (GE (by simp))
theorem hs3(y a1 a2:af6)(l:Mem):cb .u64 (y::a1::a2::.cells ow 1 (iN .u64 A)::l) (.slice 3 0 A.length none)=some A:=bq rfl (by simp) (GE (by simp))
theorem hs4(y a1 a2 a3:af6)(l:Mem):cb .u64 (y::a1::a2::a3::.cells ow 1 (iN .u64 A)::l) (.slice 4 0 A.length none)=some A:=bq rfl (by simp) (GE (by simp))
theorem hs5(y a1 a2 a3 a4:af6)(l:Mem):cb .u64 (y::a1::a2::a3::a4::.cells ow 1 (iN .u64 A)::l) (.slice 5 0 A.length none)=some A:=bq rfl (by simp) (GE (by simp))
end
theorem QM(a b:Int)(ha:(az a.natAbs).length<=100000)(hb:(az b.natAbs).length<=100000)(mem:Mem):kO prog 169 [.str (cf a),.str (cf b)] mem (.str (cf (a+b))) mem:=by
 have Q:aS prog 169=some f169:=by kernel_rfl
 refine aD pT ?_ mem;have la:=dz a;have lb:=dz b;have O:(cf a).length<=1000000000:=by omega
 have F:(cf b).length<=1000000000:=by omega
 by_cases hq:(cf a).length<=18/\(cf b).length<=18
 .have G:((cf a).length:Int)<=18:=by omega
  have I:((cf b).length:Int)<=18:=by omega
  have s1:=kF hq.1;have s2:=kF hq.2;have w1:IntKind.i64.wrap (a+b)=a+b:=ai;have hf:dw (a+b)=true:=by unfold dw;simp;omega
  simp[aa,Q,f169,cH,af3.or,af,aL,aW,O,F,G,I,w1,hf]
 .have da:=di a.natAbs
  have db:=di b.natAbs;have K:(az a.natAbs).length<=1000000:=by omega
  have J:(az b.natAbs).length<=1000000:=by omega
  have sum:=sV ha hb;have ds:=di (a.natAbs+b.natAbs);have H:aG 1000000000 (dig 1000000000 a.natAbs)=a.natAbs:=cY (by omega) _;have y:aG 1000000000 (dig 1000000000 b.natAbs)=b.natAbs:=cY (by omega) _;have oa:lok 1000000000 (dig 1000000000 a.natAbs)=true:=dI (by omega) _;have ob:lok 1000000000 (dig 1000000000 b.natAbs)=true:=dI (by omega) _;have ta:bB (dig 1000000000 a.natAbs)=dig 1000000000 a.natAbs:=ed (by omega) _;have tb:bB (dig 1000000000 b.natAbs)=dig 1000000000 b.natAbs:=ed (by omega) _;obtain⟨A,D⟩:=xE (dig 1000000000 a.natAbs);obtain⟨B,C⟩:=xE (dig 1000000000 b.natAbs);rw[<-D] at da H oa ta;rw[<-C] at db y ob tb;have g1:A.length<=100000000:=by omega
  have g2:B.length<=100000000:=by omega
  have g3:A.length<=1000000000:=by omega
  have g4:B.length<=1000000000:=by omega
  by_cases z:(decide (a<0))=(decide (b<0))
  .obtain⟨S,Z⟩:=xE (dig 1000000000 (a.natAbs+b.natAbs))
   have u:aG 1000000000 S=a.natAbs+b.natAbs:=by rw[Z];exact cY (by omega) _
   have j:lok 1000000000 S=true:=by rw[Z];exact dI (by omega) _
   have Y:bB S=S:=by rw[Z];exact ed (by omega) _
   have R:S.length<=1000000:=by rw[Z];omega
   have W:jY (decide (a<0)) (a.natAbs+b.natAbs)=cf (a+b):=by
    rw[<-mF (a+b)];have:(a+b).natAbs=a.natAbs+b.natAbs:=by by_cases X:a<0<;>by_cases V:b<0<;>simp[X,V] at z<;>omega
    rw[this];by_cases X:a<0<;>by_cases V:b<0<;>simp[X,V] at z
    .rw[decide_eq_true X,decide_eq_true (by omega)]
    .rw[decide_eq_false X,decide_eq_false (by omega)]
   have M :(decide (a<0)==decide (b<0))=true:=by rw[z];simp
   by_cases G:((cf a).length:Int)<=18
   .have I:¬((cf b).length:Int)<=18:=fun e=>hq (by omega)
    simp[aa,Q,f169,cH,af3.or,af,aL,aP,ar,aW,O,F,G,I,cv,K,J,<-D,<-C,bH,bw,cg,cq,bV,hs0,hs1,oa,ob,g1,g2,H,y,<-Z,bZ,aF,hs4,j,Y,R,u,M,W,Nat.testBit]
   .simp[aa,Q,f169,cH,af3.or,af,aL,aP,ar,aW,O,G,cv,K,J,<-D,<-C,bH,bw,cg,cq,bV,hs0,hs1,oa,ob,g1,g2,H,y,<-Z,bZ,aF,hs4,j,Y,R,u,M,W,Nat.testBit]
  .have M :(decide (a<0)==decide (b<0))=false:=by cases X:decide (a<0)<;>cases V:decide (b<0)<;>simp[X,V] at z |-
   by_cases B':a.natAbs<b.natAbs
   .have hc:lC a.natAbs b.natAbs= -1:=by unfold lC;rw[if_pos B']
    obtain⟨S,Z⟩:=xE (dig 1000000000 (b.natAbs-a.natAbs));have u:aG 1000000000 S=b.natAbs-a.natAbs:=by rw[Z];exact cY (by omega) _
    have j:lok 1000000000 S=true:=by rw[Z];exact dI (by omega) _
    have Y:bB S=S:=by rw[Z];exact ed (by omega) _
    have R:S.length<=1000000:=by rw[Z];have X:=di (b.natAbs-a.natAbs);have V:=dM (show b.natAbs-a.natAbs<=b.natAbs by omega);omega
    have g6:A.length<=B.length:=by
     rcases Nat.lt_or_ge B.length A.length with h | h
     .have:=fy (B:=1000000000) (m:=b.natAbs) (n:=a.natAbs) (by omega) (by rw[<-D,<-C];exact h)
      omega
     .exact h
    have g7:a.natAbs<=b.natAbs:=by omega
    have W:jY (decide (b<0)) (b.natAbs-a.natAbs)=cf (a+b):=by
     rw[<-mF (a+b)];have h0:(a+b).natAbs=b.natAbs-a.natAbs:=by by_cases X:a<0<;>by_cases V:b<0<;>simp[X,V] at z<;>omega
     rw[h0];by_cases X:a<0<;>by_cases V:b<0<;>simp[X,V] at z
     .rw[decide_eq_false V,decide_eq_false (by omega)]
     .rw[decide_eq_true V,decide_eq_true (by omega)]
    by_cases G:((cf a).length:Int)<=18
    .have I:¬((cf b).length:Int)<=18:=fun e=>hq (by omega)
     simp[aa,Q,f169,cH,af3.or,af,aL,aP,ar,aW,O,F,G,I,cv,K,J,<-D,<-C,bH,bw,cg,cq,bV,bu,hs0,hs1,oa,ob,ta,tb,g2,g3,H,y,hc,g6,g7,<-Z,bZ,aF,hs4,j,Y,R,u,M,W,Nat.testBit]
    .simp[aa,Q,f169,cH,af3.or,af,aL,aP,ar,aW,O,G,cv,K,J,<-D,<-C,bH,bw,cg,cq,bV,bu,hs0,hs1,oa,ob,ta,tb,g2,g3,H,y,hc,g6,g7,<-Z,bZ,aF,hs4,j,Y,R,u,M,W,Nat.testBit]
   .have hc:¬lC a.natAbs b.natAbs<0:=by unfold lC;rw[if_neg B'];split<;>omega
    obtain⟨S,Z⟩:=xE (dig 1000000000 (a.natAbs-b.natAbs));have u:aG 1000000000 S=a.natAbs-b.natAbs:=by rw[Z];exact cY (by omega) _
    have j:lok 1000000000 S=true:=by rw[Z];exact dI (by omega) _
    have Y:bB S=S:=by rw[Z];exact ed (by omega) _
    have R:S.length<=1000000:=by rw[Z];have X:=di (a.natAbs-b.natAbs);have V:=dM (show a.natAbs-b.natAbs<=a.natAbs by omega);omega
    have g6:B.length<=A.length:=by
     rcases Nat.lt_or_ge A.length B.length with h | h
     .have:=fy (B:=1000000000) (m:=a.natAbs) (n:=b.natAbs) (by omega) (by rw[<-D,<-C];exact h)
      omega
     .exact h
    have g7:b.natAbs<=a.natAbs:=by omega
    have W:jY (decide (a<0)) (a.natAbs-b.natAbs)=cf (a+b):=by
     rw[<-mF (a+b)];have h0:(a+b).natAbs=a.natAbs-b.natAbs:=by by_cases X:a<0<;>by_cases V:b<0<;>simp[X,V] at z<;>omega
     rw[h0];by_cases hz:a.natAbs-b.natAbs=0
     .unfold jY;rw[if_pos hz,if_pos hz]
     by_cases X:a<0<;>by_cases V:b<0<;>simp[X,V] at z
     .rw[decide_eq_true X,decide_eq_true (by omega)]
     .rw[decide_eq_false X,decide_eq_false (by omega)]
    by_cases G:((cf a).length:Int)<=18
    .have I:¬((cf b).length:Int)<=18:=fun e=>hq (by omega)
     simp[aa,Q,f169,cH,af3.or,af,aL,aP,ar,aW,O,F,G,I,cv,K,J,<-D,<-C,bH,bw,cg,cq,bV,bu,hs0,hs1,oa,ob,ta,tb,g1,g3,H,y,hc,g6,g7,<-Z,bZ,aF,hs4,j,Y,R,u,M,W,Nat.testBit]
    .simp[aa,Q,f169,cH,af3.or,af,aL,aP,ar,aW,O,G,cv,K,J,<-D,<-C,bH,bw,cg,cq,bV,bu,hs0,hs1,oa,ob,ta,tb,g1,g3,H,y,hc,g6,g7,<-Z,bZ,aF,hs4,j,Y,R,u,M,W,Nat.testBit]
theorem Sj(a b:Int):jY (!(decide (a<0)==decide (b<0))) (a.natAbs*b.natAbs)=cf (a*b):=by
 rw[<-mF (a*b),QXQ];by_cases W:a.natAbs*b.natAbs=0
 .unfold jY;rw[if_pos W,if_pos W]
 .have S:a≠0:=by rintro rfl;simp at W
  have O:b≠0:=by rintro rfl;simp at W
  congr 1;by_cases Z:a<0<;>by_cases X:b<0
  .have h3:=Int.mul_pos_of_neg_of_neg Z X
   have V:¬a*b<0:=by omega
   simp[Z,X,V]
  .have h3:=Int.mul_neg_of_neg_of_pos Z (show 0<b by omega)
   simp[Z,X,h3]
  .have h3:=Int.mul_neg_of_pos_of_neg (show 0<a by omega) X
   simp[Z,X,h3]
  .have h3:=Int.mul_nonneg (show 0<=a by omega) (show 0<=b by omega)
   have V:¬a*b<0:=by omega
   simp[Z,X,V]
theorem Q9(a b:Int)(ha:(az a.natAbs).length<=100000)(hb:(az b.natAbs).length<=100000)(mem:Mem):kO prog 119 [.str (cf a),.str (cf b)] mem (.str (cf (a*b))) mem:=by
 have G:aS prog 119=some f119:=by kernel_rfl
 refine aD pT ?_ mem;have la:=dz a;have lb:=dz b;have Z:(cf a).length<=1000000000:=by omega
 have V:(cf b).length<=1000000000:=by omega
 by_cases hq:(cf a).length<=9/\(cf b).length<=9
 .have J:((cf a).length:Int)<=9:=by omega
  have F:((cf b).length:Int)<=9:=by omega
  have s1:=kF hq.1;have s2:=kF hq.2;have s3:(a*b).natAbs<10 ^ 9*10 ^ 9:=by rw[QXQ];exact Nat.mul_lt_mul'' s1 s2
  have w1:IntKind.i64.wrap (a*b)=a*b:=ai;have hf:dw (a*b)=true:=by unfold dw;simp;omega
  simp[aa,G,f119,cH,af3.or,af,aL,aW,Z,V,J,F,w1,hf]
 .have da:=di a.natAbs
  have db:=di b.natAbs;have O:(az a.natAbs).length<=1000000:=by omega
  have M:(az b.natAbs).length<=1000000:=by omega
  have sum:=ke ha hb;have ds:=di (a.natAbs*b.natAbs);have D:aG 1000000000 (dig 1000000000 a.natAbs)=a.natAbs:=cY (by omega) _;have C:aG 1000000000 (dig 1000000000 b.natAbs)=b.natAbs:=cY (by omega) _;have z:lok 1000000000 (dig 1000000000 a.natAbs)=true:=dI (by omega) _;have u:lok 1000000000 (dig 1000000000 b.natAbs)=true:=dI (by omega) _;obtain⟨A,m⟩:=xE (dig 1000000000 a.natAbs);obtain⟨B,j⟩:=xE (dig 1000000000 b.natAbs);rw[<-m] at da D z;rw[<-j] at db C u;have Y:A.length<=100000000:=by omega
  have R:B.length<=100000000:=by omega
  obtain⟨S,W⟩:=xE (dig 1000000000 (a.natAbs*b.natAbs));have Q:aG 1000000000 S=a.natAbs*b.natAbs:=by rw[W];exact cY (by omega) _
  have I:lok 1000000000 S=true:=by rw[W];exact dI (by omega) _
  have H:bB S=S:=by rw[W];exact ed (by omega) _
  have y:S.length<=1000000:=by rw[W];omega
  obtain⟨mn,X⟩:=xE (!(decide (a<0)==decide (b<0)));have K:jY mn (a.natAbs*b.natAbs)=cf (a*b):=by rw[X];exact Sj a b
  by_cases J:((cf a).length:Int)<=9
  .have F:¬((cf b).length:Int)<=9:=fun e=>hq (by omega)
   simp[aa,G,f119,cH,af3.or,af,aL,aP,ar,aW,Z,V,J,F,cv,O,M,<-m,<-j,bH,bw,cg,cq,bV,hs0,hs1,z,u,Y,R,D,C,<-W,bZ,aF,hs4,I,H,y,Q,<-X,K,Nat.testBit]
  .simp[aa,G,f119,cH,af3.or,af,aL,aP,ar,aW,Z,J,cv,O,M,<-m,<-j,bH,bw,cg,cq,bV,hs0,hs1,z,u,Y,R,D,C,<-W,bZ,aF,hs4,I,H,y,Q,<-X,K,Nat.testBit]
theorem sD(n:Nat):jY false n=az n:=by
 unfold jY;by_cases h:n=0
 .subst h;rfl
 .rw[if_neg h];rfl
theorem Si{a:Int}(y:0<b)(h:0<=a\/a.natAbs%b=0):jY (decide (a<0)) (a.natAbs / b)=cf (a / b):=by
 rw[<-mF (a / b)];by_cases W:a<0
 .have V:a.natAbs%b=0:=by rcases h with h | h<;>omega
  have Z:a= -((a.natAbs / b*b:Nat):Int):=by have:=Nat.div_add_mod a.natAbs b;rw[V,Nat.add_zero,V1] at this;omega
  obtain⟨q,hq⟩:=xE (a.natAbs / b);rw[<-hq] at Z;have h3:a / (b:Int)= -(q:Int):=by rw[Z,Int.natCast_mul,<-Int.neg_mul];exact Int.mul_ediv_cancel _ (by omega)
  rw[h3,<-hq,Int.natAbs_neg,Int.natAbs_natCast];by_cases X:q=0
  .unfold jY;rw[if_pos X,if_pos X]
  .rw[decide_eq_true W,decide_eq_true (by omega)]
 .obtain⟨n,rfl⟩:∃n:Nat,a=n:=⟨a.toNat,by omega⟩
  rw[<-Int.natCast_ediv,Int.natAbs_natCast,Int.natAbs_natCast,decide_eq_false (by omega),decide_eq_false (Int.not_lt.2 (Int.natCast_nonneg _))]
theorem Gy(a:Int)(b:Nat)(y:0<b)(H:0<=a\/a.natAbs%b=0)(ha:(az a.natAbs).length<=100000)(hb:(az b).length<=100000)(mem:Mem):
  kO prog 171 [.str (cf a),.str (az b)] mem (.tuple [.str (cf (a / b)),.str (az (a.natAbs%b)),.int .i64 0]) mem:=by
 have hG:aS prog 171=some f171:=by kernel_rfl
 refine aD pT ?_ mem;rw[<-Si y H,<-sD (a.natAbs%b)];have X:mZ (az b)=some (b:Int):=aW (b:Int);have W:(az b==[48])=false:=by rw[beq_eq_false_iff_ne];intro e;have:=H4 (e.trans (show [48]=az 0 from rfl));omega
 have da:=di a.natAbs;have db:=di b;have Z:(az a.natAbs).length<=1000000:=by omega
 have V:(az b).length<=1000000:=by omega
 have G:aG 1000000000 (dig 1000000000 a.natAbs)=a.natAbs:=cY (by omega) _;have C:aG 1000000000 (dig 1000000000 b)=b:=cY (by omega) _;have z:lok 1000000000 (dig 1000000000 a.natAbs)=true:=dI (by omega) _;have u:lok 1000000000 (dig 1000000000 b)=true:=dI (by omega) _;have m:bB (dig 1000000000 a.natAbs)=dig 1000000000 a.natAbs:=ed (by omega) _;have j:bB (dig 1000000000 b)=dig 1000000000 b:=ed (by omega) _;obtain⟨A,F⟩:=xE (dig 1000000000 a.natAbs);obtain⟨B,Y⟩:=xE (dig 1000000000 b);rw[<-F] at da G z m;rw[<-Y] at db C u j;have g1:A.length<=1000000:=by omega
 have g2:B.length<=1000000:=by omega
 obtain⟨n,I⟩:=xE a.natAbs;rw[<-I] at G F H Z |-;have S:¬(b:Int)<0:=by omega
 by_cases M:n<b
 .have K:¬a<0:=by
   rcases H with h | h
   .omega
   .rw[QQd M] at h;omega
  rw[Nat.div_eq_of_lt M,QQd M];simp[aa,hG,f171,cH,af3.or,af,aL,aP,ar,aW,X,W,<-I,cv,Z,V,<-F,<-Y,bH,bw,cg,hs0,hs1,z,u,m,j,g1,G,C,y,M,K,S,bZ,aF]
 .obtain⟨q,hq⟩:=xE (n / b)
  obtain⟨r,D⟩:=xE (n%b);rw[<-D] at H;rw[<-hq,<-D];obtain⟨Q,hQ⟩:=xE (dig 1000000000 q);obtain⟨R,J⟩:=xE (dig 1000000000 r);have vq:aG 1000000000 Q=q:=by rw[hQ];exact cY (by omega) _
  have oq:lok 1000000000 Q=true:=by rw[hQ];exact dI (by omega) _
  have tq:bB Q=Q:=by rw[hQ];exact ed (by omega) _
  have gq:Q.length<=1000000:=by rw[hQ];have h1:=di q;have h2:=dM (show q<=n by rw[hq];exact Nat.div_le_self _ _);omega
  have vr:aG 1000000000 R=r:=by rw[J];exact cY (by omega) _
  have or:lok 1000000000 R=true:=by rw[J];exact dI (by omega) _
  have tr:bB R=R:=by rw[J];exact ed (by omega) _
  have gr:R.length<=1000000:=by rw[J];have h1:=di r;have h2:=dM (show r<=n by rw[D];exact Nat.mod_le _ _);omega
  have cond:∀x:Nat,¬(a<0/\0<R.length):=by
   intro _ h;rcases H with h1 | h1
   .omega
   .rw[J,h1,fz] at h;simp at h
  by_cases hz:2<=B.length/\r=0
  .obtain⟨O,hz2⟩:=hz
   by_cases K:a<0
   .simp[aa,hG,f171,cH,af3.or,af,aL,aP,ar,aW,X,W,<-I,cv,Z,V,<-F,<-Y,bH,bw,cg,hs0,hs1,z,u,m,j,g1,G,C,y,M,S,<-hq,<-D,<-hQ,O,hz2,K,hs4,vq,oq,tq,gq,bZ,aF]
   .simp[aa,hG,f171,cH,af3.or,af,aL,aP,ar,aW,X,W,<-I,cv,Z,V,<-F,<-Y,bH,bw,cg,hs0,hs1,z,u,m,j,g1,G,C,y,M,S,<-hq,<-D,<-hQ,O,hz2,K,hs4,vq,oq,tq,gq,bZ,aF]
  .by_cases K:a<0
   .have hrl:¬0<R.length:=fun e=>cond 0 ⟨K,e⟩
    have acr :R=[]:=M0 (by omega);have hr0:r=0:=by rcases H with h | h<;>omega
    subst hr0;have O:¬2<=B.length:=fun e=>hz ⟨e,rfl⟩
    rw[acr] at J vr;have k1:lok 1000000000 []=true:=rfl;have k2:bB []=[]:=rfl;have h5e:∀a0 a1 a2 a3 a4 l,cb .u64 (a0::a1::a2::a3::a4::.cells true 1 []::l) (.slice 5 0 0 none)=some []:=fun a0 a1 a2 a3 a4 l=>hs5 (A:=[]) true a0 a1 a2 a3 a4 l
    simp[aa,hG,f171,cH,af3.or,af,aL,aP,ar,aW,X,W,<-I,cv,Z,V,<-F,<-Y,bH,bw,cg,hs0,hs1,z,u,m,j,g1,G,C,y,M,S,<-hq,<-D,<-hQ,<-J,O,hs4,h5e,k1,k2,vr,vq,oq,tq,gq,K,bZ,aF]
   .simp[aa,hG,f171,cH,af3.or,af,aL,aP,ar,aW,X,W,<-I,cv,Z,V,<-F,<-Y,bH,bw,cg,hs0,hs1,z,u,m,j,g1,G,C,y,M,S,<-hq,<-D,<-hQ,<-J,hz,hs4,hs5,vq,oq,tq,gq,vr,or,tr,gr,K,bZ,aF]
end Go.Proofs
namespace Go.Eng
open Classical in
theorem PD{β:Type}[Inhabited β]{p:Env->Bool->Prop}{q:Env->Bool->β->Prop}(h:∀e d,p e d->∃x,q e d x):∃F:Env->Bool->β,∀e d,p e d->q e d (F e d):=
 ⟨fun e d=>if Z:p e d then Classical.choose (h e d Z) else default,fun e d Z=>by simp only[dif_pos Z];exact Classical.choose_spec (h e d Z)⟩
theorem kG{α:Type}{f:XS->Option (Exit×XS)}{lv wr:List Nat}{I:Env}{m1:Nat}(S:α->XS)(m:α->Nat)(Inv:α->Prop)(y:Exit) (H :Bool)(Q:Env->Mem->Prop)(he:y≠ .normal)
  (h:∀a,Inv a->(∃W V,f (S a)=some (.normal,V)/\mM lv wr I m1 V =S W /\Inv W /\m W <m a)\/(∃X Z,f (S a)=some (y,⟨X,Z,H⟩)/\Q X Z)):
  ∀k a,Inv a->m a<k->∃X Z,fW lv wr I m1 f k (S a)=some (y,⟨X,Z,H⟩)/\Q X Z
 |0,a,_,hk=>by omega
 |k+1,a,ha,hk=>by
  unfold fW;rcases h a ha with⟨W,V,O,M,h3,K⟩ | ⟨X,Z,O,h3⟩
  .rw[O]
   simp only[M];exact kG S m Inv y H Q he h k W h3 (by omega)
  .rw[O]
   refine⟨X,Z,?_,h3⟩;cases y<;>first | rfl | exact absurd rfl he
theorem kH{β:Type}[Inhabited β]{T:TypeId->Option TyI}{lv:Code->List Nat}{O:af3}{K N m0:Nat}{tp:Bool}{b:Code}{L:List Nat}(I:lv b=L){mem:Mem}{e:Exit}(H:Env->Prop)(y:Env->Env->Mem->β->Prop)(h:∀Z d,H Z->∃W X,fW L (ab b) Z mem.length (aT T lv O K N m0 tp b) K ⟨au L (ab b) Z Z,mem,d⟩=some (e,⟨W,X,d⟩)/\∃x,y Z W X x):
  ∃F:Env->Bool->Env×Mem×β,∀Z d,H Z->aT T lv O K N m0 tp (.loop b) ⟨Z,mem,d⟩=some (e,⟨(F Z d).1,(F Z d).2.1,d⟩)/\y Z (F Z d).1 (F Z d).2.1 (F Z d).2.2:=by
 refine PD (β:=Env×Mem×β) (p:=fun Z _=>H Z) (q:=fun Z d x=>aT T lv O K N m0 tp (.loop b) ⟨Z,mem,d⟩=some (e,⟨x.1,x.2.1,d⟩)/\y Z x.1 x.2.1 x.2.2) ?_;intro Z d V;obtain⟨W,X,S,x,M⟩:=h Z d V;exact⟨(W,X,x),by rw[aR,I];exact S,M⟩
end Go.Eng
namespace Go.Proofs
open Go.Eng
open Tryz
def gM(A B:List Nat)(a b:Nat):Nat->Mem
 |2 | 3=>[.cells true 1 (iN .u64 A),.cells true 1 (iN .u64 B),.cells true 1 (iN .u64 (dig 1000000000 b))]
 |6=>[.cells true 1 (iN .u64 A),.cells true 1 (iN .u64 B),.cells true 1 (iN .u64 (dig 1000000000 a)),.cells true 1 (iN .u64 (dig 1000000000 b))]
 |7=>[.cells true 1 (iN .u64 A),.cells true 1 (iN .u64 B),.cells true 1 (iN .u64 (dig 1000000000 a))]
 |_=>[.cells true 1 (iN .u64 A),.cells true 1 (iN .u64 B)]
def gX(a:Nat):Nat->Nat
 |0 | 2 | 4=>0
 |1 | 3 | 5=>1
 |_=>2
def gY(b:Nat):Nat->AV
 |0=>.slice 1 0 (dig 1000000000 b).length none
 |1=>.slice 0 0 (dig 1000000000 b).length none
 |2 | 3=>.slice 2 0 (dig 1000000000 b).length none
 |6=>.slice 3 0 (dig 1000000000 b).length none
 |_=>.y9
def gI(x y:Nat)(a b:Nat):Nat->Prop
 |0=>a=x/\b=y
 |1=>a=y/\b=x/\b<a
 |2=>a=x/\b<a
 |3=>a=y/\b<a
 |4=>a=x/\b=0
 |5=>a=y/\b=0
 |6=>b<a
 |7=>b=0
 |_=>False
theorem aaf:List.idxOf? 2 [2,4]=some 0:=rfl
theorem aag:List.idxOf? 4 [2,4]=some 1:=rfl
theorem aal:List.idxOf? 3 [3,5]=some 0:=rfl
theorem aam:List.idxOf? 5 [3,5]=some 1:=rfl
theorem dj{α:Type}{p q:α->Prop}{r:Prop}(hr:r)(h:∃s,p s/\q s):∃s,p s/\q s/\r:=let ⟨s,a,b⟩:=h;⟨s,a,b,hr⟩
def kx(c:Code):List Nat:=if (ab c).contains 9 then [9,10] else [5,7]
variable{K:Nat}
theorem EG(x y:Nat)(hx:(dig 1000000000 x).length<=1000000)(hy:(dig 1000000000 y).length<=1000000){b0 b:Code}(hb:ag f96=[b0,b])(Q:Env)(d:Bool)(s:Nat)(a c:Nat)(H:gI x y a c s)(I:(dig 1000000000 a).length<=1000000)(hc:(dig 1000000000 c).length<=1000000):
  (∃s' u m e',aT (aU prog) kx cH K 56 0 true b ⟨au [9,10] (ab b) Q ((9,.slice (gX a s) 0 (dig 1000000000 a).length none)::(10,gY c s)::Q),gM (dig 1000000000 x) (dig 1000000000 y) a c s,d⟩=some (.normal,e')/\
    mM [9,10] (ab b) Q 2 e' =⟨au [9,10] (ab b) Q ((9,.slice (gX u s') 0 (dig 1000000000 u).length none)::(10,gY m s')::Q),gM (dig 1000000000 x) (dig 1000000000 y) u m s',d⟩/\
    gI x y u m s' /\u.gcd m =a.gcd c/\u <=max a c/\m <=max a c/\2*m +(if u <m then 1 else 0)<2*c+(if a<c then 1 else 0))\/
  (∃AC,aT (aU prog) kx cH K 56 0 true b ⟨au [9,10] (ab b) Q ((9,.slice (gX a s) 0 (dig 1000000000 a).length none)::(10,gY c s)::Q),gM (dig 1000000000 x) (dig 1000000000 y) a c s,d⟩=some (.exit 2,⟨AC,gM (dig 1000000000 x) (dig 1000000000 y) a c s,d⟩)/\ad AC 9=.slice (gX a s) 0 (dig 1000000000 a).length none/\c=0):=by
 simp[ag,aH,f96] at hb;obtain⟨rfl,rfl⟩:=hb;have M:lok 1000000000 (dig 1000000000 a)=true:=dI (by omega) _;have J:lok 1000000000 (dig 1000000000 c)=true:=dI (by omega) _;have G:bB (dig 1000000000 a)=dig 1000000000 a:=ed (by omega) _;have F:bB (dig 1000000000 c)=dig 1000000000 c:=ed (by omega) _;have D:aG 1000000000 (dig 1000000000 a)=a:=cY (by omega) _;have C:aG 1000000000 (dig 1000000000 c)=c:=cY (by omega) _;by_cases hc0:c=0
 .right
  subst hc0;have R:dig 1000000000 0=[]:=fz _
  match s,H with
  |0,H=>simp[gM,gX,gY,R]
  |1,H=>simp[gM,gX,gY,R]
  |2,H=>simp[gM,gX,gY,R]
  |3,H=>simp[gM,gX,gY,R]
  |4,H=>simp[gM,gX,gY]
  |5,H=>simp[gM,gX,gY]
  |6,H=>simp[gM,gX,gY,R]
  |7,H=>simp[gM,gX,gY]
  |s+8,H=>exact absurd H (by simp[gI])
 .left
  have X:0<c:=by omega
  have O:0<(dig 1000000000 c).length:=by
   rcases QQY (dig 1000000000 c).length with h | h
   .have:=(tT (B:=1000000000) (n:=c) (by omega)).1 (M0 h)
    omega
   .exact h
  have ad3 :dig 1000000000 c≠[]:=List.length_pos_iff.1 O;have A:c.gcd (a%c)=a.gcd c:=by rw[Nat.gcd_comm a c,Nat.gcd_rec c a,Nat.gcd_comm]
  have hg2:c.gcd a=a.gcd c:=Nat.gcd_comm _ _;have j:a%c<c:=Nat.mod_lt _ X;have aax:a<=max a c:=Nat.le_max_left _ _;have W:c<=max a c:=Nat.le_max_right _ _;have V:2*(a%c)+(if c<a%c then 1 else 0)<2*c+(if a<c then 1 else 0):=by rw[if_neg (by omega)];split<;>omega
  by_cases Z:a<c
  .have hs:s=0:=by
    match s,H with
    |0,_=>rfl
    |1,H=>exact absurd H.2.2 (by omega)
    |2,H=>exact absurd H.2 (by omega)
    |3,H=>exact absurd H.2 (by omega)
    |4,H=>exact absurd H.2 (by omega)
    |5,H=>exact absurd H.2 (by omega)
    |6,H=>exact absurd (show c<a from H) (by omega)
    |7,H=>exact absurd (show c=0 from H) (by omega)
    |s+8,H=>exact absurd H (by simp[gI])
   subst hs;obtain⟨rfl,rfl⟩:=H;refine⟨1,c,a,?_⟩;refine dj (show gI a c c a 1/\_/\_/\_/\_ from⟨⟨rfl,rfl,Z⟩,hg2,W,aax,by rw[if_neg (by omega),if_pos Z];omega⟩) ?_;simp[gM,gX,gY,cH,af3.or,af,aL,aP,ar,cv,bH,bw,cg,hs0,hs1,M,J,G,F,D,C,I,X,Z,O]
  .by_cases Y:2<=(dig 1000000000 c).length/\a%c=0
   .obtain⟨z,S⟩:=Y
    rw[S] at A j V
    match s,H with
    |0,H=>
     obtain⟨rfl,rfl⟩:=H;refine⟨5,c,0,?_⟩;refine dj (show gI a c c 0 5/\_/\_/\_/\_ from⟨⟨rfl,rfl⟩,A,W,by omega,V⟩) ?_;simp[gM,gX,gY,cH,af3.or,af,aL,aP,ar,cv,bH,bw,cg,hs0,hs1,M,J,G,F,D,C,I,X,Z,O,z,S]
    |1,H=>
     obtain⟨rfl,rfl,h⟩:=H;refine⟨4,c,0,?_⟩;refine dj (show gI c a c 0 4/\_/\_/\_/\_ from⟨⟨rfl,rfl⟩,A,W,by omega,V⟩) ?_;simp[gM,gX,gY,cH,af3.or,af,aL,aP,ar,cv,bH,bw,cg,hs0,hs1,M,J,G,F,D,C,I,X,Z,O,z,S]
    |2,H=>
     obtain⟨rfl,h⟩:=H;refine⟨7,c,0,?_⟩;refine dj (show gI _ _ c 0 7/\_/\_/\_/\_ from⟨rfl,A,W,by omega,V⟩) ?_;simp[gM,gX,gY,cH,af3.or,af,aL,aP,ar,cv,bH,bw,cg,hs0,hs2,M,J,G,F,D,C,I,X,Z,O,z,S]
    |3,H=>
     obtain⟨rfl,h⟩:=H;refine⟨7,c,0,?_⟩;refine dj (show gI _ _ c 0 7/\_/\_/\_/\_ from⟨rfl,A,W,by omega,V⟩) ?_;simp[gM,gX,gY,cH,af3.or,af,aL,aP,ar,cv,bH,bw,cg,hs1,hs2,M,J,G,F,D,C,I,X,Z,O,z,S]
    |6,H=>
     refine⟨7,c,0,?_⟩;refine dj (show gI _ _ c 0 7/\_/\_/\_/\_ from⟨rfl,A,W,by omega,V⟩) ?_;simp[gM,gX,gY,cH,af3.or,af,aL,aP,ar,cv,bH,bw,cg,hs2,hs3,M,J,G,F,D,C,I,X,Z,O,z,S]
    |4,H=>exact absurd H.2 (by omega)
    |5,H=>exact absurd H.2 (by omega)
    |7,H=>exact absurd (show c=0 from H) (by omega)
    |s+8,H=>exact absurd H (by simp[gI])
   .match s,H with
    |0,H=>
     obtain⟨rfl,rfl⟩:=H;refine⟨3,c,a%c,?_⟩;refine dj (show gI a c c (a%c) 3/\_/\_/\_/\_ from⟨⟨rfl,j⟩,A,W,by omega,V⟩) ?_;simp[gM,gX,gY,cH,af3.or,af,aL,aP,ar,cv,bH,bw,cg,hs0,hs1,M,J,G,F,D,C,I,X,Z,O,Y]
    |1,H=>
     obtain⟨rfl,rfl,h⟩:=H;refine⟨2,c,a%c,?_⟩;refine dj (show gI c a c (a%c) 2/\_/\_/\_/\_ from⟨⟨rfl,j⟩,A,W,by omega,V⟩) ?_;simp[gM,gX,gY,cH,af3.or,af,aL,aP,ar,cv,bH,bw,cg,hs0,hs1,M,J,G,F,D,C,I,X,Z,O,Y]
    |2,H=>
     obtain⟨rfl,h⟩:=H;refine⟨6,c,a%c,?_⟩;refine dj (show gI _ _ c (a%c) 6/\_/\_/\_/\_ from⟨j,A,W,by omega,V⟩) ?_;simp[gM,gX,gY,cH,af3.or,af,aL,aP,ar,cv,bH,bw,cg,hs0,hs2,M,J,G,F,D,C,I,X,aaf,aag,Z,O,Y]
    |3,H=>
     obtain⟨rfl,h⟩:=H;refine⟨6,c,a%c,?_⟩;refine dj (show gI _ _ c (a%c) 6/\_/\_/\_/\_ from⟨j,A,W,by omega,V⟩) ?_;simp[gM,gX,gY,cH,af3.or,af,aL,aP,ar,cv,bH,bw,cg,hs1,hs2,M,J,G,F,D,C,I,X,aaf,aag,Z,O,Y]
    |6,H=>
     refine⟨6,c,a%c,?_⟩;refine dj (show gI _ _ c (a%c) 6/\_/\_/\_/\_ from⟨j,A,W,by omega,V⟩) ?_;simp[gM,gX,gY,cH,af3.or,af,aL,aP,ar,cv,bH,bw,cg,hs2,hs3,M,J,G,F,D,C,I,X,aal,aam,Z,O,Y]
    |4,H=>exact absurd H.2 (by omega)
    |5,H=>exact absurd H.2 (by omega)
    |7,H=>exact absurd (show c=0 from H) (by omega)
    |s+8,H=>exact absurd H (by simp[gI])
theorem sH{B a b:Nat}(y:2<=B)(h:a<=b):(dig B a).length<=(dig B b).length:=by
 rcases Nat.lt_or_ge (dig B b).length (dig B a).length with h1 | h1
 .have:=fy y h1;omega
 .exact h1
theorem Hh(x y:Nat)(hx:(az x).length<=1000000)(I:(az y).length<=1000000)(Q:2*y+1<K){b0 b:Code}(H:ag f96=[b0,b]):
  ∃F:Env->Bool->Env×Mem×Nat,∀Z d,(ad Z 9=.slice 0 0 (dig 1000000000 x).length none/\ad Z 10=.slice 1 0 (dig 1000000000 y).length none)->
   aT (aU prog) kx cH K 56 0 true (.loop b) ⟨Z,[.cells true 1 (iN .u64 (dig 1000000000 x)),.cells true 1 (iN .u64 (dig 1000000000 y))],d⟩=some (.exit 2,⟨(F Z d).1,(F Z d).2.1,d⟩)/\
   (ad (F Z d).1 9=.slice (F Z d).2.2 0 (dig 1000000000 (x.gcd y)).length none/\cb .u64 (F Z d).2.1 (.slice (F Z d).2.2 0 (dig 1000000000 (x.gcd y)).length none)=some (dig 1000000000 (x.gcd y))):=by
 have V:kx b=[9,10]:=by simp[ag,aH,f96] at H;obtain⟨rfl,rfl⟩:=H;decide
 refine kH (β:=Nat) V (fun Z=>ad Z 9=.slice 0 0 (dig 1000000000 x).length none/\ad Z 10=.slice 1 0 (dig 1000000000 y).length none)
  (fun Z S X k=>ad S 9=.slice k 0 (dig 1000000000 (x.gcd y)).length none/\cb .u64 X (.slice k 0 (dig 1000000000 (x.gcd y)).length none)=some (dig 1000000000 (x.gcd y))) ?_
 rintro Z d ⟨h9,h10⟩;have D:au [9,10] (ab b) Z ((9,.slice (gX x 0) 0 (dig 1000000000 x).length none)::(10,gY y 0)::Z)=au [9,10] (ab b) Z Z:=by simp[au,h9,h10,gX,gY]
 rw[<-D];have O:(dig 1000000000 x).length<=1000000:=by have:=di x;omega
 have M:(dig 1000000000 y).length<=1000000:=by have:=di y;omega
 have W:∀a,a<=max x y->(dig 1000000000 a).length<=1000000:=by
  intro a J;by_cases C:x<=y
  .have:=sH (B:=1000000000) (a:=a) (b:=y) (by omega) (by omega);omega
  .have:=sH (B:=1000000000) (a:=a) (b:=x) (by omega) (by omega);omega
 refine kG (α:=Nat×Nat×Nat) (fun s=>⟨au [9,10] (ab b) Z ((9,.slice (gX s.2.1 s.1) 0 (dig 1000000000 s.2.1).length none)::(10,gY s.2.2 s.1)::Z),gM (dig 1000000000 x) (dig 1000000000 y) s.2.1 s.2.2 s.1,d⟩)
  (fun s=>2*s.2.2+(if s.2.1<s.2.2 then 1 else 0)) (fun s=>gI x y s.2.1 s.2.2 s.1/\s.2.1.gcd s.2.2=x.gcd y/\s.2.1<=max x y/\s.2.2<=max x y) (.exit 2) d _ (by simp) ?_ K (0,x,y) ⟨⟨rfl,rfl⟩,rfl,Nat.le_max_left _ _,Nat.le_max_right _ _⟩ (by simp only;split<;>omega)
 rintro ⟨s,a,c⟩ ⟨hI,hg,J,hc⟩;simp only at hI hg J hc |-;rcases EG (K:=K) x y O M H Z d s a c hI (W a J) (W c hc) with⟨A,z,u,m,r1,r2,G,j,R,r6,Y⟩ | ⟨S,r1,r2,G⟩
 .left
  exact⟨(A,z,u),m,r1,r2,⟨G,by rw[j,hg],by simp only;omega,by simp only;omega⟩,Y⟩
 .right
  refine⟨S,_,r1,gX a s,?_⟩;subst G;rw[Nat.gcd_zero_right] at hg;rw[<-hg];refine⟨r2,?_⟩
  match s,hI with
  |0,hI=>obtain⟨rfl,_⟩:=hI;exact hs0 true _
  |1,hI=>obtain⟨rfl,_⟩:=hI;exact hs1 true _ _
  |2,hI=>obtain⟨rfl,_⟩:=hI;exact hs0 true _
  |3,hI=>obtain⟨rfl,_⟩:=hI;exact hs1 true _ _
  |4,hI=>obtain⟨rfl,_⟩:=hI;exact hs0 true _
  |5,hI=>obtain⟨rfl,_⟩:=hI;exact hs1 true _ _
  |6,hI=>exact hs2 true _ _ _
  |7,hI=>exact hs2 true _ _ _
  |s+8,hI=>exact absurd hI (by simp[gI])
theorem EF{O:af3}(n m:Int)(I:m.natAbs<K){b0 b:Code}(H:ag f96=[b0,b]):
  ∃F:Env->Bool->Env,∀Z d,(ad Z 5=.int .i64 n/\ad Z 7=.int .i64 m)->
   aT (aU prog) kx O K 56 0 true (.loop b0) ⟨Z,[],d⟩=some (.exit 0,⟨F Z d,[],d⟩)/\(∃g:Int,ad (F Z d) 5=.int .i64 g/\g.natAbs=n.natAbs.gcd m.natAbs):=by
 have X:kx b0=[5,7]:=by simp[ag,aH,f96] at H;obtain⟨rfl,rfl⟩:=H;decide
 refine bG X (fun Z=>ad Z 5=.int .i64 n/\ad Z 7=.int .i64 m) (fun _ V =>∃g:Int,ad V 5=.int .i64 g/\g.natAbs=n.natAbs.gcd m.natAbs) ?_;rintro Z d ⟨h5,h7⟩;have S:au [5,7] (ab b0) Z ((5,.int .i64 n)::(7,.int .i64 m)::Z)=au [5,7] (ab b0) Z Z:=by simp[au,h5,h7]
 rw[<-S];refine bW (α:=Int×Int) (fun s=>⟨au [5,7] (ab b0) Z ((5,.int .i64 s.1)::(7,.int .i64 s.2)::Z),[],d⟩) (fun s=>s.2.natAbs) (fun s=>s.1.natAbs.gcd s.2.natAbs=n.natAbs.gcd m.natAbs) (.exit 0) _ d _ (by simp) ?_ K (n,m) rfl I;rintro ⟨x,y⟩ hg;simp only at hg |-;simp[ag,aH,f96] at H;obtain⟨rfl,rfl⟩:=H;by_cases W:y=0
 .right
  subst W;simp only[Int.natAbs_zero,Nat.gcd_zero_right] at hg;simp[hg]
 .left
  have M:(x.tmod y).natAbs<y.natAbs:=by rw[Int.natAbs_tmod];exact Nat.mod_lt _ (by omega)
  refine⟨(y,x.tmod y),?_⟩;refine bM (show y.natAbs.gcd (x.tmod y).natAbs=n.natAbs.gcd m.natAbs/\_ from⟨by rw[Int.natAbs_tmod,<-hg,Nat.gcd_comm x.natAbs,Nat.gcd_rec y.natAbs x.natAbs,Nat.gcd_comm],M⟩) ?_;simp[W]
theorem Q1(a b:Int)(ha:(az a.natAbs).length<=100000)(hb:(az b.natAbs).length<=100000)(mem:Mem):
  kO prog 96 [.str (cf a),.str (cf b)] mem (.str (az (a.natAbs.gcd b.natAbs))) mem:=by
 have j:aS prog 96=some f96:=by kernel_rfl
 refine dv pT (lv:=kx) (K:=2*b.natAbs+2) rfl rfl ?_ mem;obtain⟨b0,b1,Z⟩:∃b0 b1,ag f96=[b0,b1]:=⟨_,_,rfl⟩
 have la:=dz a;have lb:=dz b;have X:(cf a).length<=1000000000:=by omega
 have C:(cf b).length<=1000000000:=by omega
 by_cases hq:(cf a).length<=18/\(cf b).length<=18
 .have m:((cf a).length:Int)<=18:=by omega
  have Y:((cf b).length:Int)<=18:=by omega
  have s1:=kF hq.1;have s2:=kF hq.2;obtain⟨F,W⟩:=EF (O:=cH) (K:=2*b.natAbs+2) a b (by omega) Z;obtain⟨G,u⟩:=PD (β:=Int) (p:=fun M _=>ad M 5=.int .i64 a/\ad M 7=.int .i64 b) (q:=fun M d g=>ad (F M d) 5=.int .i64 g/\g.natAbs=a.natAbs.gcd b.natAbs) (fun M d h=>(W M d h).2);have R:a.natAbs.gcd b.natAbs<10 ^ 18:=by
   by_cases Q:a.natAbs=0
   .rw[Q,Nat.gcd_zero_left];exact s2
   .exact Nat.lt_of_le_of_lt (Nat.gcd_le_left _ (by omega)) s1
  obtain⟨g,J⟩:=xE (a.natAbs.gcd b.natAbs);rw[<-J] at R u |-;have w1:∀z:Int,z.natAbs=g->IntKind.i64.wrap (-z)= -z:=fun z hz=>ai
  have w2:∀z:Int,z.natAbs=g->(if z< -z then -z else z)=(g:Int):=fun z hz=>by split<;>omega
  have hf:dw (g:Int)=true:=by unfold dw;simp;omega
  have I:cf (g:Int)=az g:=rfl;simp[ag,aH,f96] at Z;obtain⟨rfl,rfl⟩:=Z;simp[aa,j,f96,cH,af3.or,af,aL,aW,X,C,m,Y,W,u,w1,w2,hf,I]
 .have da:=di a.natAbs
  have db:=di b.natAbs;have V:(az a.natAbs).length<=1000000:=by omega
  have S:(az b.natAbs).length<=1000000:=by omega
  obtain⟨F,W⟩:=Hh (K:=2*b.natAbs+2) a.natAbs b.natAbs V S (by omega) Z;obtain⟨g,J⟩:=xE (a.natAbs.gcd b.natAbs);have H:lok 1000000000 (dig 1000000000 g)=true:=dI (by omega) _;have y:bB (dig 1000000000 g)=dig 1000000000 g:=ed (by omega) _;have vg:aG 1000000000 (dig 1000000000 g)=g:=cY (by omega) _;have gg:(dig 1000000000 g).length<=1000000:=by
   have h1:=di g;by_cases Q:a.natAbs=0
   .rw[Q,Nat.gcd_zero_left] at J
    rw[J] at h1 |-;omega
   .have h2:=dM (show g<=a.natAbs by rw[J];exact Nat.gcd_le_left _ (by omega))
    omega
  rw[<-J] at W |-;obtain⟨A,hA⟩:=xE (dig 1000000000 a.natAbs);obtain⟨B,hB⟩:=xE (dig 1000000000 b.natAbs);obtain⟨D,hD⟩:=xE (dig 1000000000 g);rw[<-hA,<-hB,<-hD] at W;rw[<-hD] at H y vg gg;simp[ag,aH,f96] at Z;obtain⟨rfl,rfl⟩:=Z;by_cases m:((cf a).length:Int)<=18
  .have Y:¬((cf b).length:Int)<=18:=fun e=>hq (by omega)
   simp[aa,j,f96,cH,af3.or,af,aL,aP,ar,aW,X,C,m,Y,cv,V,S,<-hA,<-hB,W,bZ,aF,H,y,vg,gg,sD]
  .simp[aa,j,f96,cH,af3.or,af,aL,aP,ar,aW,X,m,cv,V,S,<-hA,<-hB,W,bZ,aF,H,y,vg,gg,sD]
end Go.Proofs
