/- See D38. -/
import Derived.Test.YthpgbelancmpjaaGreatDoorD14
set_option linter.all false
set_option maxRecDepth 100000
set_option maxHeartbeats 40000000
namespace Go.Proofs
open Go.Eng
open Tryz
def ei(mn:Bool)(v:Nat):List UInt8:=if v=0 then [48] else if mn then 45::ai v else ai v
theorem iq(z:Int):ei (decide (z<0)) z.natAbs=bL z:=by
 unfold ei;by_cases Z:z=0
 .subst Z;rfl
 .rw[if_neg (by omega)]
  by_cases h:z<0
  .rw[decide_eq_true h,if_pos rfl]
   have:=kP (n:= -z) (by omega);rw[Int.neg_neg] at this;rw[this,gF (by omega),Int.natAbs_neg]
  .rw[decide_eq_false h,if_neg (by simp),gF (by omega)]
variable{Zb body:Code}{ps:Array Tmp}
section
variable (v:Nat)(mn:Bool)(hv:0<v)(hl:(dig 1000000000 v).length<=1000000)(hb:fh f212=[(ps,Zb,body)])
include v mn hv hl hb
theorem xo:
  ∃O:y9,qS prog O/\∀Z,(ae Z 1=.ptr 1 0/\ae Z 3=.ptr 2 0/\Z.flatMap (fun e=>e.2.refs 5)=[])->
   O (.fn 279) [.yield 4,.ptr 3 0] [.cells false 1 (iN .u64 (dig 1000000000 v)),.cells true 0 [.bool mn,.slice 0 0 (dig 1000000000 v).length none],.cells true aO [.afw,.qF],.cells true 0 [.slice 0 0 (dig 1000000000 v).length none],.loop ⟨.ready,none,Z,34,ps,Zb,body⟩]=some ⟨.tuple [],some [.cells false 1 (iN .u64 (dig 1000000000 v)),.cells true 0 [.bool mn,.slice 0 0 (dig 1000000000 v).length none],.cells true aO [.ptr 2 0,.slice 5 0 (ai v).length none],.cells true 0 [.slice 0 0 (dig 1000000000 v).length none],.loop ⟨.ready,none,Z,34,ps,Zb,body⟩],[.cells true 6001 (iB (ai v))]⟩:=by
 refine jR (ι:=Env) (fun Z=>ae Z 1=.ptr 1 0/\ae Z 3=.ptr 2 0/\Z.flatMap (fun e=>e.2.refs 5)=[]) (fun _=>.fn 279) (fun _=>[.yield 4,.ptr 3 0]) (fun Z=>[.cells false 1 (iN .u64 (dig 1000000000 v)),.cells true 0 [.bool mn,.slice 0 0 (dig 1000000000 v).length none],.cells true aO [.afw,.qF],.cells true 0 [.slice 0 0 (dig 1000000000 v).length none],.loop ⟨.ready,none,Z,34,ps,Zb,body⟩]) (fun Z=>⟨.tuple [],some [.cells false 1 (iN .u64 (dig 1000000000 v)),.cells true 0 [.bool mn,.slice 0 0 (dig 1000000000 v).length none],.cells true aO [.ptr 2 0,.slice 5 0 (ai v).length none],.cells true 0 [.slice 0 0 (dig 1000000000 v).length none],.loop ⟨.ready,none,Z,34,ps,Zb,body⟩],[.cells true 6001 (iB (ai v))]⟩) ?_ ?_
 .rintro Z ⟨h1,h3,he⟩
  refine⟨?_,fun q X=>by cases X;rfl⟩;exact zG v mn hv hl hb Z h1 h3 he
 .intro i j _ _ _ _ h
  simp only[List.cons.injEq,afl.loop.injEq,agq.mk.injEq,and_true,true_and] at h;rw[h]
theorem vK:
  ∃O:y9,qS prog O/\∀Z,(ae Z 1=.ptr 1 0/\ae Z 3=.ptr 2 0/\Z.flatMap (fun e=>e.2.refs 7)=[])->
   O (.fn 279) [.yield 6,.ptr 5 0] [.cells false 1 (iN .u64 (dig 1000000000 v)),.cells true 0 [.bool mn,.slice 0 0 (dig 1000000000 v).length none],.cells true aO [.ptr 2 0,.slice 4 0 1 none],.cells true 1 (iB [45]),.cells true 6001 (iB [45]),.cells true 0 [.slice 0 0 (dig 1000000000 v).length none],.loop ⟨.ready,none,Z,34,ps,Zb,body⟩]=some ⟨.tuple [],some [.cells false 1 (iN .u64 (dig 1000000000 v)),.cells true 0 [.bool mn,.slice 0 0 (dig 1000000000 v).length none],.cells true aO [.ptr 2 0,.slice 7 0 (45::ai v).length none],.cells true 1 (iB [45]),.qK,.cells true 0 [.slice 0 0 (dig 1000000000 v).length none],.loop ⟨.ready,none,Z,34,ps,Zb,body⟩],[.cells true 6001 (iB (45::ai v))]⟩:=by
 refine jR (ι:=Env) (fun Z=>ae Z 1=.ptr 1 0/\ae Z 3=.ptr 2 0/\Z.flatMap (fun e=>e.2.refs 7)=[]) (fun _=>.fn 279) (fun _=>[.yield 6,.ptr 5 0]) (fun Z=>[.cells false 1 (iN .u64 (dig 1000000000 v)),.cells true 0 [.bool mn,.slice 0 0 (dig 1000000000 v).length none],.cells true aO [.ptr 2 0,.slice 4 0 1 none],.cells true 1 (iB [45]),.cells true 6001 (iB [45]),.cells true 0 [.slice 0 0 (dig 1000000000 v).length none],.loop ⟨.ready,none,Z,34,ps,Zb,body⟩]) (fun Z=>⟨.tuple [],some [.cells false 1 (iN .u64 (dig 1000000000 v)),.cells true 0 [.bool mn,.slice 0 0 (dig 1000000000 v).length none],.cells true aO [.ptr 2 0,.slice 7 0 (45::ai v).length none],.cells true 1 (iB [45]),.qK,.cells true 0 [.slice 0 0 (dig 1000000000 v).length none],.loop ⟨.ready,none,Z,34,ps,Zb,body⟩],[.cells true 6001 (iB (45::ai v))]⟩) ?_ ?_
 .rintro Z ⟨h1,h3,he⟩
  refine⟨?_,fun q X=>by cases X;rfl⟩;exact xp v mn hv hl hb Z h1 h3 he
 .intro i j _ _ _ _ h
  simp only[List.cons.injEq,afl.loop.injEq,agq.mk.injEq,and_true,true_and] at h;rw[h]
end
theorem agV:aX prog 212=some f212:=by kernel_rfl
theorem Du(v:Nat)(mn:Bool)(H:0<v)(I:(dig 1000000000 v).length<=1000000):
  ∃O:y9,qS prog O/\aa (bd prog) (fun _=>[]) (aX prog) ((bW.or gJ).or O) 1 212 [.agg [.bool mn,.slice 0 0 (dig 1000000000 v).length none]] [.cells false 1 (iN .u64 (dig 1000000000 v))]=
   some ⟨.str (if mn then 45::ai v else ai v),some [.cells false 1 (iN .u64 (dig 1000000000 v))],[]⟩:=by
 obtain⟨ps,Zb,body,S⟩:∃ps Zb body,fh f212=[(ps,Zb,body)]:=⟨_,_,_,rfl⟩
 have R:dig 1000000000 v≠[]:=by rw[ne_eq,fC (by omega)];omega
 have D:(ai v).length<=90000000:=by
  have M:=ia (bX (B:=1000000000) (by omega) v);rw[bO (by omega)] at M;have C:(1000000000:Nat) ^ (dig 1000000000 v).length=10 ^ (9*(dig 1000000000 v).length):=by rw[Nat.pow_mul]
  rw[C] at M;have h3:=List.length_pos_iff.2 R;have u:=aN (by omega) M;omega
 have N:=jQ v;cases mn with
 |false=>
  obtain⟨O,L,Z⟩:=xo v false H I S;refine⟨O,L,?_⟩;obtain⟨A,V⟩:=xE (dig 1000000000 v);obtain⟨t,X⟩:=xE (ai v);rw[<-V] at R;rw[<-V,<-X] at Z;rw[<-V];rw[<-X] at D N;simp only[Bool.false_eq_true,if_false,<-X];have U:¬A.length=0:=fun e=>R (Mp e)
  have K:t.length<=100000000:=by omega
  simp[fh,gv,f212] at S;obtain⟨rfl,rfl,rfl⟩:=S;simp[aa,agV,f212,y9.or,bW,ct,cC,cg,gJ,ag,bS,ak,U,uT,Z,yW,kK,K,N]
 |true=>
  obtain⟨O,L,Z⟩:=vK v true H I S;refine⟨O,L,?_⟩;obtain⟨A,V⟩:=xE (dig 1000000000 v);obtain⟨t,X⟩:=xE (45::ai v);have G :t.length<=100000000:=by rw[X,List.length_cons];omega
  have F :t≠[]:=by rw[X];simp
  rw[<-V] at R;rw[<-V,<-X] at Z;rw[<-V];simp only[if_true,<-X];have U:¬A.length=0:=fun e=>R (Mp e)
  simp[fh,gv,f212] at S;obtain⟨rfl,rfl,rfl⟩:=S;simp[aa,agV,f212,y9.or,bW,ct,cC,cg,gJ,ag,bS,ak,U,uT,Z,yW,kK,G,F]
theorem Bc(mn:Bool):aa (bd prog) (fun _=>[]) (aX prog) cP 1 212 [.agg [.bool mn,.slice 0 0 0 none]] [.cells false 1 []]=some ⟨.str [48],none,[]⟩:=by simp[aa,agV,f212]
theorem De(mn:Bool)(M:Mem):kO prog 212 [.agg [.bool mn,.qF]] M (.str [48]) M:=by refine aA (az _) ?_ M;simp[aa,agV,f212]
variable{A:List Nat}
theorem Ho{M:Mem}{x:AV}(mn:Bool)(H:lok 1000000000 A=true)(tA:aW A=A)(I:A.length<=1000000)(J:aft .u64 M x A):
  kO prog 212 [.agg [.bool mn,x]] M (.str (ei mn (aq 1000000000 A))) M:=by
 obtain⟨b,o,N,rfl,X,U⟩:=J;have S:=gL X;have small:kO prog 212 [.agg [.bool mn,.slice 0 0 A.length none]] [.cells false 1 (iN .u64 A)] (.str (ei mn (aq 1000000000 A))) ([.cells false 1 (iN .u64 A)]++[]):=by
  by_cases V:aq 1000000000 A=0
  .have e:A=[]:=by have:=mL (by omega) H tA;rw[V,dT] at this;exact this.symm
   subst e;have:=(ar aj (aJ _) (az _) (aM _) (Bc mn)).1;simpa [afh.mem,ei,aq] using this
  .have e:=mL (by omega) H tA
   obtain⟨O,R,h⟩:=Du (aq 1000000000 A) mn (by omega) (by rw[e];exact I);rw[e] at h;have:=(ar aj (aJ _) ((qO.or yx).or R) (aM _) h).1;simpa [afh.mem,ei,V] using this
 have:=kO.frame (M:=M) [b] (m:=[.cells false 1 (iN .u64 A)]) rfl (by simpa using S) (by simp) (fun i s Z=>by
  cases i with
  |zero=>simp at Z;subst Z;exact .row X U
  |succ i=>simp at Z) rfl small
 simpa [AV.afz,AV.ren,fa] using this
noncomputable def cD:y9:=fun c Z M=>match c,Z with
 |.fn 212,[.agg [.bool mn,.qF]]=>some ⟨.str (ei mn 0),none,[]⟩
 |.fn 212,[.agg [.bool mn,x]]=>match bh .u64 M x with
  |some A=>if lok 1000000000 A=true/\aW A=A/\A.length<=1000000 then some ⟨.str (ei mn (aq 1000000000 A)),none,[]⟩ else none
  |none=>none
 |.fn 210,[.str s]=>match iH s with
  |some z=>if (ai z.natAbs).length<=1000000 then some ⟨.agg [.bool (decide (z<0)),.slice M.length 0 (dig 1000000000 z.natAbs).length none],none,[.cells true 1 (iN .u64 (dig 1000000000 z.natAbs))]⟩ else none
  |none=>none
 |c,Z=>bW c Z M
theorem Il:qS prog cD:=by
 refine cB fun c Z M r h=>?_
 unfold cD at h;split at h
 .cases h
  refine aC ?_;rw[List.append_nil];exact De _ M
 .split at h
  .rename_i X
   split at h
   .rename_i V
    obtain⟨U,S,R⟩:=V;cases h;refine aC ?_;rw[List.append_nil];exact Ho _ U S R (bk X)
   .cases h
  .cases h
 .split at h
  .rename_i O
   split at h
   .rename_i N
    cases h;rw[bK O];exact aC (MQ _ N M)
   .cases h
  .cases h
 .exact dZ qO h
theorem dm(n:Nat):(dig 1000000000 n).length<=(ai n).length:=by
 obtain⟨X,Z,U⟩:=lW _ (ai n) (L9 _) (dH _);rw[dK] at Z;have V:aW (iX (ai n))=dig 1000000000 n:=by rw[<-dS (by omega) X,Z]
 have:=dp (iX (ai n));rw[V] at this;omega
variable{a b k:Nat}
section
variable (ha:(ai a).length<=k)(hb:(ai b).length<=k)
include ha hb
theorem jP:(ai (a+b)).length<=k+1:=by have Z:=cm a;have X:=cm b;have h3:10 ^ (ai a).length<=10 ^ k:=P3 (by omega) ha;have V:10 ^ (ai b).length<=10 ^ k:=P3 (by omega) hb;refine aN (by omega) ?_;rw[Nat.pow_succ];omega
theorem dE:(ai (a*b)).length<=2*k:=by have Z:=cm a;have X:=cm b;have h3:10 ^ (ai a).length<=10 ^ k:=P3 (by omega) ha;have V:10 ^ (ai b).length<=10 ^ k:=P3 (by omega) hb;have:=pN a;exact aN (by omega) (Rs (by omega) (by omega))
end
theorem bI(h:a<=b):(ai a).length<=(ai b).length:=by have:=cm b;exact aN (pN b) (by omega)
theorem LL(n:Int):(ai n.natAbs).length<=(bL n).length:=by
 cases n with
 |ofNat u=>exact L9 _
 |negSucc u=>simp[bL]
theorem kf{n:Int}(h:(bL n).length<=k):n.natAbs<10 ^ k:=by have Z:=cm n.natAbs;have X:=LL n;have h3:10 ^ (ai n.natAbs).length<=10 ^ k:=P3 (by omega) (by omega);omega
noncomputable def aP(f:FuncId)(args:List AV):Option AV:=
 match f,args with
 |209,[.str s,.int .i64 m]=>match iH s with
  |some n=>if m<=18/\s.length<=1000000000 then some (if (s.length:Int)<=m then .tuple [.int .i64 n,.bool true] else .tuple [.int .i64 0,.bool false]) else none
  |none=>none
 |143,[.int .i64 n]=>if dV n then some (.str (bL n)) else none
 |205,[.str s]=>match iH s with
  |some n=>if s.length<=1000000000 then some (.str (bL (-n))) else none
  |none=>none
 |139,[.str s,.str t]=>match iH s,iH t with
  |some m,some n=>some (.int .i64 (Le m n))
  |_,_=>none
 |f,args=>aQ f args
theorem yA:qS prog (ag aP):=bP fun f V v h mem=>by
 unfold aP at h;split at h
 .split at h
  .rename_i n X
   split at h
   .rename_i Z
    cases h;rw[bK X] at Z |-;exact MU n _ Z.1 Z.2 mem
   .cases h
  .cases h
 .split at h
  next Z=>cases h;exact Ux _ Z mem
  .cases h
 .split at h
  .rename_i n X
   split at h
   .rename_i Z
    cases h;rw[bK X] at Z |-;exact RX n Z mem
   .cases h
  .cases h
 .split at h
  .rename_i m n U X
   cases h;rw[bK U,bK X];exact Df m n mem
  .cases h
 .have:=rA.fn _ _ mem ⟨v,none,[]⟩ (by unfold ag;simp only;rw[h])
  simpa [afh.mem] using this
noncomputable def cH:y9:=fun c Z M=>((ag aP).or cD) c Z M
theorem pg:qS prog cH:=yA.or Il
section
variable (ow:Bool)
include ow
theorem hs0(l:Mem):bh .u64 (.cells ow 1 (iN .u64 A)::l) (.slice 0 0 A.length none)=some A:=aR rfl (by simp) (B5 (by simp))
theorem hs1(a0:afl)(l:Mem):bh .u64 (a0::.cells ow 1 (iN .u64 A)::l) (.slice 1 0 A.length none)=some A:=aR rfl (by simp) (B5 (by simp))
theorem hs2(a0 a1:afl)(l:Mem):bh .u64 (a0::a1::.cells ow 1 (iN .u64 A)::l) (.slice 2 0 A.length none)=some A:=aR rfl (by simp) (B5 (by simp))
theorem hs3(a0 a1 H:afl)(l:Mem):bh .u64 (a0::a1::H::.cells ow 1 (iN .u64 A)::l) (.slice 3 0 A.length none)=some A:=aR rfl (by simp) (B5 (by simp))
theorem hs4(a0 a1 H I:afl)(l:Mem):bh .u64 (a0::a1::H::I::.cells ow 1 (iN .u64 A)::l) (.slice 4 0 A.length none)=some A:=aR rfl (by simp) (B5 (by simp))
theorem hs5(a0 a1 H I J:afl)(l:Mem):bh .u64 (a0::a1::H::I::J::.cells ow 1 (iN .u64 A)::l) (.slice 5 0 A.length none)=some A:=aR rfl (by simp) (B5 (by simp))
end
theorem PF(a b:Int)(ha:(ai a.natAbs).length<=100000)(hb:(ai b.natAbs).length<=100000)(mem:Mem):kO prog 204 [.str (bL a),.str (bL b)] mem (.str (bL (a+b))) mem:=by
 have F:aX prog 204=some f204:=by kernel_rfl
 refine aA pg ?_ mem;have la:=dn a;have lb:=dn b;have D:(bL a).length<=1000000000:=by omega
 have Z7:(bL b).length<=1000000000:=by omega
 by_cases H:(bL a).length<=18/\(bL b).length<=18
 .have V:((bL a).length:Int)<=18:=by omega
  have C:((bL b).length:Int)<=18:=by omega
  have s1:=kf H.1;have s2:=kf H.2;have w1:IntKind.i64.wrap (a+b)=a+b:=af;have hf:dV (a+b)=true:=by unfold dV;simp;omega
  simp[aa,F,f204,cH,y9.or,ag,aP,aD,D,Z7,V,C,w1,hf]
 .have da:=dm a.natAbs
  have db:=dm b.natAbs;have J:(ai a.natAbs).length<=1000000:=by omega
  have I:(ai b.natAbs).length<=1000000:=by omega
  have sum:=jP ha hb;have ds:=dm (a.natAbs+b.natAbs);have u:aq 1000000000 (dig 1000000000 a.natAbs)=a.natAbs:=bO (by omega) _;have o:aq 1000000000 (dig 1000000000 b.natAbs)=b.natAbs:=bO (by omega) _;have j:lok 1000000000 (dig 1000000000 a.natAbs)=true:=bX (by omega) _;have Y:lok 1000000000 (dig 1000000000 b.natAbs)=true:=bX (by omega) _;have ta:aW (dig 1000000000 a.natAbs)=dig 1000000000 a.natAbs:=cj (by omega) _;have tb:aW (dig 1000000000 b.natAbs)=dig 1000000000 b.natAbs:=cj (by omega) _;obtain⟨A,U⟩:=xE (dig 1000000000 a.natAbs);obtain⟨B,R⟩:=xE (dig 1000000000 b.natAbs);rw[<-U] at da u j ta;rw[<-R] at db o Y tb;have g1:A.length<=100000000:=by omega
  have g2:B.length<=100000000:=by omega
  have g3:A.length<=1000000000:=by omega
  have g4:B.length<=1000000000:=by omega
  by_cases O:(decide (a<0))=(decide (b<0))
  .obtain⟨S,hS⟩:=xE (dig 1000000000 (a.natAbs+b.natAbs))
   have N:aq 1000000000 S=a.natAbs+b.natAbs:=by rw[hS];exact bO (by omega) _
   have M:lok 1000000000 S=true:=by rw[hS];exact bX (by omega) _
   have L:aW S=S:=by rw[hS];exact cj (by omega) _
   have K:S.length<=1000000:=by rw[hS];omega
   have G:ei (decide (a<0)) (a.natAbs+b.natAbs)=bL (a+b):=by
    rw[<-iq (a+b)];have:(a+b).natAbs=a.natAbs+b.natAbs:=by by_cases Z:a<0<;>by_cases X:b<0<;>simp[Z,X] at O<;>omega
    rw[this];by_cases Z:a<0<;>by_cases X:b<0<;>simp[Z,X] at O
    .rw[decide_eq_true Z,decide_eq_true (by omega)]
    .rw[decide_eq_false Z,decide_eq_false (by omega)]
   have W :(decide (a<0)==decide (b<0))=true:=by rw[O];simp
   by_cases V:((bL a).length:Int)<=18
   .have C:¬((bL b).length:Int)<=18:=fun e=>H (by omega)
    simp[aa,F,f204,cH,y9.or,ag,aP,aQ,ak,aD,D,Z7,V,C,cD,J,I,<-U,<-R,bW,bS,ct,cC,cg,hs0,hs1,j,Y,g1,g2,u,o,<-hS,cv,aH,hs4,M,L,K,N,W,G,Nat.testBit]
   .simp[aa,F,f204,cH,y9.or,ag,aP,aQ,ak,aD,D,V,cD,J,I,<-U,<-R,bW,bS,ct,cC,cg,hs0,hs1,j,Y,g1,g2,u,o,<-hS,cv,aH,hs4,M,L,K,N,W,G,Nat.testBit]
  .have W :(decide (a<0)==decide (b<0))=false:=by cases Z:decide (a<0)<;>cases X:decide (b<0)<;>simp[Z,X] at O |-
   by_cases FS:a.natAbs<b.natAbs
   .have hc:kx a.natAbs b.natAbs= -1:=by unfold kx;rw[if_pos FS]
    obtain⟨S,hS⟩:=xE (dig 1000000000 (b.natAbs-a.natAbs));have N:aq 1000000000 S=b.natAbs-a.natAbs:=by rw[hS];exact bO (by omega) _
    have M:lok 1000000000 S=true:=by rw[hS];exact bX (by omega) _
    have L:aW S=S:=by rw[hS];exact cj (by omega) _
    have K:S.length<=1000000:=by rw[hS];have Z:=dm (b.natAbs-a.natAbs);have X:=bI (show b.natAbs-a.natAbs<=b.natAbs by omega);omega
    have g6:A.length<=B.length:=by
     rcases Nat.lt_or_ge B.length A.length with h | h
     .have:=dR (B:=1000000000) (m:=b.natAbs) (n:=a.natAbs) (by omega) (by rw[<-U,<-R];exact h)
      omega
     .exact h
    have g7:a.natAbs<=b.natAbs:=by omega
    have G:ei (decide (b<0)) (b.natAbs-a.natAbs)=bL (a+b):=by
     rw[<-iq (a+b)];have h0:(a+b).natAbs=b.natAbs-a.natAbs:=by by_cases Z:a<0<;>by_cases X:b<0<;>simp[Z,X] at O<;>omega
     rw[h0];by_cases Z:a<0<;>by_cases X:b<0<;>simp[Z,X] at O
     .rw[decide_eq_false X,decide_eq_false (by omega)]
     .rw[decide_eq_true X,decide_eq_true (by omega)]
    by_cases V:((bL a).length:Int)<=18
    .have C:¬((bL b).length:Int)<=18:=fun e=>H (by omega)
     simp[aa,F,f204,cH,y9.or,ag,aP,aQ,ak,aD,D,Z7,V,C,cD,J,I,<-U,<-R,bW,bS,ct,cC,cg,bR,hs0,hs1,j,Y,ta,tb,g2,g3,u,o,hc,g6,g7,<-hS,cv,aH,hs4,M,L,K,N,W,G,Nat.testBit]
    .simp[aa,F,f204,cH,y9.or,ag,aP,aQ,ak,aD,D,V,cD,J,I,<-U,<-R,bW,bS,ct,cC,cg,bR,hs0,hs1,j,Y,ta,tb,g2,g3,u,o,hc,g6,g7,<-hS,cv,aH,hs4,M,L,K,N,W,G,Nat.testBit]
   .have hc:¬kx a.natAbs b.natAbs<0:=by unfold kx;rw[if_neg FS];split<;>omega
    obtain⟨S,hS⟩:=xE (dig 1000000000 (a.natAbs-b.natAbs));have N:aq 1000000000 S=a.natAbs-b.natAbs:=by rw[hS];exact bO (by omega) _
    have M:lok 1000000000 S=true:=by rw[hS];exact bX (by omega) _
    have L:aW S=S:=by rw[hS];exact cj (by omega) _
    have K:S.length<=1000000:=by rw[hS];have Z:=dm (a.natAbs-b.natAbs);have X:=bI (show a.natAbs-b.natAbs<=a.natAbs by omega);omega
    have g6:B.length<=A.length:=by
     rcases Nat.lt_or_ge A.length B.length with h | h
     .have:=dR (B:=1000000000) (m:=a.natAbs) (n:=b.natAbs) (by omega) (by rw[<-U,<-R];exact h)
      omega
     .exact h
    have g7:b.natAbs<=a.natAbs:=by omega
    have G:ei (decide (a<0)) (a.natAbs-b.natAbs)=bL (a+b):=by
     rw[<-iq (a+b)];have h0:(a+b).natAbs=a.natAbs-b.natAbs:=by by_cases Z:a<0<;>by_cases X:b<0<;>simp[Z,X] at O<;>omega
     rw[h0];by_cases hz:a.natAbs-b.natAbs=0
     .unfold ei;rw[if_pos hz,if_pos hz]
     by_cases Z:a<0<;>by_cases X:b<0<;>simp[Z,X] at O
     .rw[decide_eq_true Z,decide_eq_true (by omega)]
     .rw[decide_eq_false Z,decide_eq_false (by omega)]
    by_cases V:((bL a).length:Int)<=18
    .have C:¬((bL b).length:Int)<=18:=fun e=>H (by omega)
     simp[aa,F,f204,cH,y9.or,ag,aP,aQ,ak,aD,D,Z7,V,C,cD,J,I,<-U,<-R,bW,bS,ct,cC,cg,bR,hs0,hs1,j,Y,ta,tb,g1,g3,u,o,hc,g6,g7,<-hS,cv,aH,hs4,M,L,K,N,W,G,Nat.testBit]
    .simp[aa,F,f204,cH,y9.or,ag,aP,aQ,ak,aD,D,V,cD,J,I,<-U,<-R,bW,bS,ct,cC,cg,bR,hs0,hs1,j,Y,ta,tb,g1,g3,u,o,hc,g6,g7,<-hS,cv,aH,hs4,M,L,K,N,W,G,Nat.testBit]
theorem Ev(a b:Int):ei (!(decide (a<0)==decide (b<0))) (a.natAbs*b.natAbs)=bL (a*b):=by
 rw[<-iq (a*b),QQg];by_cases V:a.natAbs*b.natAbs=0
 .unfold ei;rw[if_pos V,if_pos V]
 .have S:a≠0:=by rintro rfl;simp at V
  have R:b≠0:=by rintro rfl;simp at V
  congr 1;by_cases Z:a<0<;>by_cases X:b<0
  .have h3:=Int.mul_pos_of_neg_of_neg Z X
   have U:¬a*b<0:=by omega
   simp[Z,X,U]
  .have h3:=Int.mul_neg_of_neg_of_pos Z (show 0<b by omega)
   simp[Z,X,h3]
  .have h3:=Int.mul_neg_of_pos_of_neg (show 0<a by omega) X
   simp[Z,X,h3]
  .have h3:=Int.mul_nonneg (show 0<=a by omega) (show 0<=b by omega)
   have U:¬a*b<0:=by omega
   simp[Z,X,U]
theorem PZ(a b:Int)(H:(ai a.natAbs).length<=100000)(hb:(ai b.natAbs).length<=100000)(mem:Mem):kO prog 133 [.str (bL a),.str (bL b)] mem (.str (bL (a*b))) mem:=by
 have V:aX prog 133=some f133:=by kernel_rfl
 refine aA pg ?_ mem;have la:=dn a;have lb:=dn b;have U:(bL a).length<=1000000000:=by omega
 have D:(bL b).length<=1000000000:=by omega
 by_cases R:(bL a).length<=9/\(bL b).length<=9
 .have X:((bL a).length:Int)<=9:=by omega
  have O:((bL b).length:Int)<=9:=by omega
  have s1:=kf R.1;have s2:=kf R.2;have s3:(a*b).natAbs<10 ^ 9*10 ^ 9:=by rw[QQg];exact Nat.mul_lt_mul'' s1 s2
  have w1:IntKind.i64.wrap (a*b)=a*b:=af;have hf:dV (a*b)=true:=by unfold dV;simp;omega
  simp[aa,V,f133,cH,y9.or,ag,aP,aD,U,D,X,O,w1,hf]
 .have da:=dm a.natAbs
  have db:=dm b.natAbs;have C:(ai a.natAbs).length<=1000000:=by omega
  have u:(ai b.natAbs).length<=1000000:=by omega
  have sum:=dE H hb;have ds:=dm (a.natAbs*b.natAbs);have N:aq 1000000000 (dig 1000000000 a.natAbs)=a.natAbs:=bO (by omega) _;have M:aq 1000000000 (dig 1000000000 b.natAbs)=b.natAbs:=bO (by omega) _;have L:lok 1000000000 (dig 1000000000 a.natAbs)=true:=bX (by omega) _;have K:lok 1000000000 (dig 1000000000 b.natAbs)=true:=bX (by omega) _;obtain⟨A,G⟩:=xE (dig 1000000000 a.natAbs);obtain⟨B,F⟩:=xE (dig 1000000000 b.natAbs);rw[<-G] at da N L;rw[<-F] at db M K;have o:A.length<=100000000:=by omega
  have m:B.length<=100000000:=by omega
  obtain⟨S,hS⟩:=xE (dig 1000000000 (a.natAbs*b.natAbs));have j:aq 1000000000 S=a.natAbs*b.natAbs:=by rw[hS];exact bO (by omega) _
  have Y:lok 1000000000 S=true:=by rw[hS];exact bX (by omega) _
  have W:aW S=S:=by rw[hS];exact cj (by omega) _
  have J:S.length<=1000000:=by rw[hS];omega
  obtain⟨mn,Z⟩:=xE (!(decide (a<0)==decide (b<0)));have I:ei mn (a.natAbs*b.natAbs)=bL (a*b):=by rw[Z];exact Ev a b
  by_cases X:((bL a).length:Int)<=9
  .have O:¬((bL b).length:Int)<=9:=fun e=>R (by omega)
   simp[aa,V,f133,cH,y9.or,ag,aP,aQ,ak,aD,U,D,X,O,cD,C,u,<-G,<-F,bW,bS,ct,cC,cg,hs0,hs1,L,K,o,m,N,M,<-hS,cv,aH,hs4,Y,W,J,j,<-Z,I,Nat.testBit]
  .simp[aa,V,f133,cH,y9.or,ag,aP,aQ,ak,aD,U,X,cD,C,u,<-G,<-F,bW,bS,ct,cC,cg,hs0,hs1,L,K,o,m,N,M,<-hS,cv,aH,hs4,Y,W,J,j,<-Z,I,Nat.testBit]
theorem mK(n:Nat):ei false n=ai n:=by
 unfold ei;by_cases h:n=0
 .subst h;rfl
 .rw[if_neg h];rfl
theorem Eu{a:Int}(H:0<b)(h:0<=a\/a.natAbs%b=0):ei (decide (a<0)) (a.natAbs / b)=bL (a / b):=by
 rw[<-iq (a / b)];by_cases U:a<0
 .have S:a.natAbs%b=0:=by rcases h with h | h<;>omega
  have Z:a= -((a.natAbs / b*b:Nat):Int):=by have:=Nat.div_add_mod a.natAbs b;rw[S,Nat.add_zero,Zq] at this;omega
  obtain⟨q,X⟩:=xE (a.natAbs / b);rw[<-X] at Z;have h3:a / (b:Int)= -(q:Int):=by rw[Z,Int.natCast_mul,<-Int.neg_mul];exact Int.mul_ediv_cancel _ (by omega)
  rw[h3,<-X,Int.natAbs_neg,Int.natAbs_natCast];by_cases V:q=0
  .unfold ei;rw[if_pos V,if_pos V]
  .rw[decide_eq_true U,decide_eq_true (by omega)]
 .obtain⟨n,rfl⟩:∃n:Nat,a=n:=⟨a.toNat,by omega⟩
  rw[<-Int.natCast_ediv,Int.natAbs_natCast,Int.natAbs_natCast,decide_eq_false (by omega),decide_eq_false (Int.not_lt.2 (Int.natCast_nonneg _))]
theorem E8(a:Int)(b:Nat)(H:0<b)(I:0<=a\/a.natAbs%b=0)(ha:(ai a.natAbs).length<=100000)(hb:(ai b).length<=100000)(mem:Mem):
  kO prog 208 [.str (bL a),.str (ai b)] mem (.tuple [.str (bL (a / b)),.str (ai (a.natAbs%b)),.int .i64 0]) mem:=by
 have Y:aX prog 208=some f208:=by kernel_rfl
 refine aA pg ?_ mem;rw[<-Eu H I,<-mK (a.natAbs%b)];have Z:iH (ai b)=some (b:Int):=aD (b:Int);have X:(ai b==[48])=false:=by rw[beq_eq_false_iff_ne];intro e;have:=AI (e.trans (show [48]=ai 0 from rfl));omega
 have da:=dm a.natAbs;have db:=dm b;have K:(ai a.natAbs).length<=1000000:=by omega
 have W:(ai b).length<=1000000:=by omega
 have N:aq 1000000000 (dig 1000000000 a.natAbs)=a.natAbs:=bO (by omega) _;have G:aq 1000000000 (dig 1000000000 b)=b:=bO (by omega) _;have F:lok 1000000000 (dig 1000000000 a.natAbs)=true:=bX (by omega) _;have D:lok 1000000000 (dig 1000000000 b)=true:=bX (by omega) _;have C:aW (dig 1000000000 a.natAbs)=dig 1000000000 a.natAbs:=cj (by omega) _;have u:aW (dig 1000000000 b)=dig 1000000000 b:=cj (by omega) _;obtain⟨A,M⟩:=xE (dig 1000000000 a.natAbs);obtain⟨B,o⟩:=xE (dig 1000000000 b);rw[<-M] at da N F C;rw[<-o] at db G D u;have J:A.length<=1000000:=by omega
 have g2:B.length<=1000000:=by omega
 obtain⟨n,m⟩:=xE a.natAbs;rw[<-m] at N M I K |-;have Z4:¬(b:Int)<0:=by omega
 by_cases U:n<b
 .have S:¬a<0:=by
   rcases I with h | h
   .omega
   .rw[QQe U] at h;omega
  rw[Nat.div_eq_of_lt U,QQe U];simp[aa,Y,f208,cH,y9.or,ag,aP,aQ,ak,aD,Z,X,<-m,cD,K,W,<-M,<-o,bW,bS,ct,hs0,hs1,F,D,C,u,J,N,G,H,U,S,Z4,cv,aH]
 .obtain⟨q,j⟩:=xE (n / b)
  obtain⟨r,L⟩:=xE (n%b);rw[<-L] at I;rw[<-j,<-L];obtain⟨Q,hQ⟩:=xE (dig 1000000000 q);obtain⟨R,O⟩:=xE (dig 1000000000 r);have vq:aq 1000000000 Q=q:=by rw[hQ];exact bO (by omega) _
  have oq:lok 1000000000 Q=true:=by rw[hQ];exact bX (by omega) _
  have tq:aW Q=Q:=by rw[hQ];exact cj (by omega) _
  have gq:Q.length<=1000000:=by rw[hQ];have h1:=dm q;have h2:=bI (show q<=n by rw[j];exact Nat.div_le_self _ _);omega
  have vr:aq 1000000000 R=r:=by rw[O];exact bO (by omega) _
  have or:lok 1000000000 R=true:=by rw[O];exact bX (by omega) _
  have tr:aW R=R:=by rw[O];exact cj (by omega) _
  have gr:R.length<=1000000:=by rw[O];have h1:=dm r;have h2:=bI (show r<=n by rw[L];exact Nat.mod_le _ _);omega
  have cond:∀x:Nat,¬(a<0/\0<R.length):=by
   intro _ h;rcases I with h1 | h1
   .omega
   .rw[O,h1,dT] at h;simp at h
  by_cases hz:2<=B.length/\r=0
  .obtain⟨V,hz2⟩:=hz
   by_cases S:a<0
   .simp[aa,Y,f208,cH,y9.or,ag,aP,aQ,ak,aD,Z,X,<-m,cD,K,W,<-M,<-o,bW,bS,ct,hs0,hs1,F,D,C,u,J,N,G,H,U,Z4,<-j,<-L,<-hQ,V,hz2,S,hs4,vq,oq,tq,gq,cv,aH]
   .simp[aa,Y,f208,cH,y9.or,ag,aP,aQ,ak,aD,Z,X,<-m,cD,K,W,<-M,<-o,bW,bS,ct,hs0,hs1,F,D,C,u,J,N,G,H,U,Z4,<-j,<-L,<-hQ,V,hz2,S,hs4,vq,oq,tq,gq,cv,aH]
  .by_cases S:a<0
   .have hrl:¬0<R.length:=fun e=>cond 0 ⟨S,e⟩
    have abN :R=[]:=Mp (by omega);have hr0:r=0:=by rcases I with h | h<;>omega
    subst hr0;have V:¬2<=B.length:=fun e=>hz ⟨e,rfl⟩
    rw[abN] at O vr;have k1:lok 1000000000 []=true:=rfl;have k2:aW []=[]:=rfl;have h5e:∀a0 a1 a2 a3 a4 l,bh .u64 (a0::a1::a2::a3::a4::.cells true 1 []::l) (.slice 5 0 0 none)=some []:=fun a0 a1 a2 a3 a4 l=>hs5 (A:=[]) true a0 a1 a2 a3 a4 l
    simp[aa,Y,f208,cH,y9.or,ag,aP,aQ,ak,aD,Z,X,<-m,cD,K,W,<-M,<-o,bW,bS,ct,hs0,hs1,F,D,C,u,J,N,G,H,U,Z4,<-j,<-L,<-hQ,<-O,V,hs4,h5e,k1,k2,vr,vq,oq,tq,gq,S,cv,aH]
   .simp[aa,Y,f208,cH,y9.or,ag,aP,aQ,ak,aD,Z,X,<-m,cD,K,W,<-M,<-o,bW,bS,ct,hs0,hs1,F,D,C,u,J,N,G,H,U,Z4,<-j,<-L,<-hQ,<-O,hz,hs4,hs5,vq,oq,tq,gq,vr,or,tr,gr,S,cv,aH]
end Go.Proofs
namespace Go.Eng
open Classical in
theorem CX{β:Type}[Inhabited β]{p:Env->Bool->Prop}{q:Env->Bool->β->Prop}(h:∀e d,p e d->∃x,q e d x):∃F:Env->Bool->β,∀e d,p e d->q e d (F e d):=
 ⟨fun e d=>if Z:p e d then Classical.choose (h e d Z) else default,fun e d Z=>by simp only[dif_pos Z];exact Classical.choose_spec (h e d Z)⟩
theorem n8{α:Type}{f:XS->Option (Exit×XS)}{lv wr:List Nat}{I:Env}{J:Nat}(S:α->XS)(m:α->Nat)(Inv:α->Prop)(H:Exit) (d' :Bool)(Q:Env->Mem->Prop)(W:H≠ .normal)
  (h:∀a,Inv a->(∃V U,f (S a)=some (.normal,U)/\mg lv wr I J U =S V /\Inv V /\m V <m a)\/(∃X Z,f (S a)=some (H,⟨X,Z,d'⟩)/\Q X Z)):
  ∀k a,Inv a->m a<k->∃X Z,ga lv wr I J f k (S a)=some (H,⟨X,Z,d'⟩)/\Q X Z
 |0,a,_,hk=>by omega
 |k+1,a,ha,hk=>by
  unfold ga;rcases h a ha with⟨V,U,R,O,h3,N⟩ | ⟨X,Z,R,h3⟩
  .rw[R]
   simp only[O];exact n8 S m Inv H d' Q W h k V h3 (by omega)
  .rw[R]
   refine⟨X,Z,?_,h3⟩;cases H<;>first | rfl | exact absurd rfl W
theorem pK{β:Type}[Inhabited β]{T:TypeId->Option TyI}{lv:Code->List Nat}{O:y9}{K N m0:Nat}{tp:Bool}{b:Code}{L:List Nat}(J:lv b=L){mem:Mem}{e:Exit}(I:Env->Prop)(H:Env->Env->Mem->β->Prop)(h:∀Z d,I Z->∃V X,ga L (ad b) Z mem.length (aU T lv O K N m0 tp b) K ⟨aw L (ad b) Z Z,mem,d⟩=some (e,⟨V,X,d⟩)/\∃x,H Z V X x):
  ∃F:Env->Bool->Env×Mem×β,∀Z d,I Z->aU T lv O K N m0 tp (.loop b) ⟨Z,mem,d⟩=some (e,⟨(F Z d).1,(F Z d).2.1,d⟩)/\H Z (F Z d).1 (F Z d).2.1 (F Z d).2.2:=by
 refine CX (β:=Env×Mem×β) (p:=fun Z _=>I Z) (q:=fun Z d x=>aU T lv O K N m0 tp (.loop b) ⟨Z,mem,d⟩=some (e,⟨x.1,x.2.1,d⟩)/\H Z x.1 x.2.1 x.2.2) ?_;intro Z d U;obtain⟨V,X,S,x,R⟩:=h Z d U;exact⟨(V,X,x),by rw[ba,J];exact S,R⟩
end Go.Eng
namespace Go.Proofs
open Go.Eng
open Tryz
def gM(A B:List Nat)(a b:Nat):Nat->Mem
 |2 | 3=>[.cells true 1 (iN .u64 A),.cells true 1 (iN .u64 B),.cells true 1 (iN .u64 (dig 1000000000 b))]
 |6=>[.cells true 1 (iN .u64 A),.cells true 1 (iN .u64 B),.cells true 1 (iN .u64 (dig 1000000000 a)),.cells true 1 (iN .u64 (dig 1000000000 b))]
 |7=>[.cells true 1 (iN .u64 A),.cells true 1 (iN .u64 B),.cells true 1 (iN .u64 (dig 1000000000 a))]
 |_=>[.cells true 1 (iN .u64 A),.cells true 1 (iN .u64 B)]
def gX(a:Nat):Nat->Nat
 |0 | 2 | 4=>0
 |1 | 3 | 5=>1
 |_=>2
def gY(b:Nat):Nat->AV
 |0=>.slice 1 0 (dig 1000000000 b).length none
 |1=>.slice 0 0 (dig 1000000000 b).length none
 |2 | 3=>.slice 2 0 (dig 1000000000 b).length none
 |6=>.slice 3 0 (dig 1000000000 b).length none
 |_=>.qF
def gI(x y:Nat)(a b:Nat):Nat->Prop
 |0=>a=x/\b=y
 |1=>a=y/\b=x/\b<a
 |2=>a=x/\b<a
 |3=>a=y/\b<a
 |4=>a=x/\b=0
 |5=>a=y/\b=0
 |6=>b<a
 |7=>b=0
 |_=>False
theorem YS:List.idxOf? 2 [2,4]=some 0:=rfl
theorem YT:List.idxOf? 4 [2,4]=some 1:=rfl
theorem YX:List.idxOf? 3 [3,5]=some 0:=rfl
theorem YY:List.idxOf? 5 [3,5]=some 1:=rfl
theorem bU{α:Type}{p q:α->Prop}{r:Prop}(hr:r)(h:∃s,p s/\q s):∃s,p s/\q s/\r:=let ⟨s,a,b⟩:=h;⟨s,a,b,hr⟩
def jZ(c:Code):List Nat:=if (ad c).contains 9 then [9,10] else [5,7]
variable{K:Nat}
theorem DA(x y:Nat)(hx:(dig 1000000000 x).length<=1000000)(hy:(dig 1000000000 y).length<=1000000){b0 b:Code}(hb:ah f140=[b0,b])(J:Env)(d:Bool)(s:Nat)(a c:Nat)(H:gI x y a c s)(I:(dig 1000000000 a).length<=1000000)(hc:(dig 1000000000 c).length<=1000000):
  (∃W D C e',aU (bd prog) jZ cH K 56 0 true b ⟨aw [9,10] (ad b) J ((9,.slice (gX a s) 0 (dig 1000000000 a).length none)::(10,gY c s)::J),gM (dig 1000000000 x) (dig 1000000000 y) a c s,d⟩=some (.normal,e')/\
    mg [9,10] (ad b) J 2 e' =⟨aw [9,10] (ad b) J ((9,.slice (gX D W) 0 (dig 1000000000 D).length none)::(10,gY C W)::J),gM (dig 1000000000 x) (dig 1000000000 y) D C W,d⟩/\
    gI x y D C W /\D.gcd C =a.gcd c/\D <=max a c/\C <=max a c/\2*C +(if D <C then 1 else 0)<2*c+(if a<c then 1 else 0))\/
  (∃AC,aU (bd prog) jZ cH K 56 0 true b ⟨aw [9,10] (ad b) J ((9,.slice (gX a s) 0 (dig 1000000000 a).length none)::(10,gY c s)::J),gM (dig 1000000000 x) (dig 1000000000 y) a c s,d⟩=some (.exit 2,⟨AC,gM (dig 1000000000 x) (dig 1000000000 y) a c s,d⟩)/\ae AC 9=.slice (gX a s) 0 (dig 1000000000 a).length none/\c=0):=by
 simp[ah,aE,f140] at hb;obtain⟨rfl,rfl⟩:=hb;have S:lok 1000000000 (dig 1000000000 a)=true:=bX (by omega) _;have R:lok 1000000000 (dig 1000000000 c)=true:=bX (by omega) _;have O:aW (dig 1000000000 a)=dig 1000000000 a:=cj (by omega) _;have N:aW (dig 1000000000 c)=dig 1000000000 c:=cj (by omega) _;have M:aq 1000000000 (dig 1000000000 a)=a:=bO (by omega) _;have L:aq 1000000000 (dig 1000000000 c)=c:=bO (by omega) _;by_cases hc0:c=0
 .right
  subst hc0;have j:dig 1000000000 0=[]:=dT _
  match s,H with
  |0,H=>simp[gM,gX,gY,j]
  |1,H=>simp[gM,gX,gY,j]
  |2,H=>simp[gM,gX,gY,j]
  |3,H=>simp[gM,gX,gY,j]
  |4,H=>simp[gM,gX,gY]
  |5,H=>simp[gM,gX,gY]
  |6,H=>simp[gM,gX,gY,j]
  |7,H=>simp[gM,gX,gY]
  |s+8,H=>exact absurd H (by simp[gI])
 .left
  have X:0<c:=by omega
  have U:0<(dig 1000000000 c).length:=by
   rcases QQX (dig 1000000000 c).length with h | h
   .have:=(fC (B:=1000000000) (n:=c) (by omega)).1 (Mp h)
    omega
   .exact h
  have adh :dig 1000000000 c≠[]:=List.length_pos_iff.1 U;have G:c.gcd (a%c)=a.gcd c:=by rw[Nat.gcd_comm a c,Nat.gcd_rec c a,Nat.gcd_comm]
  have Zv:c.gcd a=a.gcd c:=Nat.gcd_comm _ _;have u:a%c<c:=Nat.mod_lt _ X;have aaU:a<=max a c:=Nat.le_max_left _ _;have F:c<=max a c:=Nat.le_max_right _ _;have V:2*(a%c)+(if c<a%c then 1 else 0)<2*c+(if a<c then 1 else 0):=by rw[if_neg (by omega)];split<;>omega
  by_cases Z:a<c
  .have hs:s=0:=by
    match s,H with
    |0,_=>rfl
    |1,H=>exact absurd H.2.2 (by omega)
    |2,H=>exact absurd H.2 (by omega)
    |3,H=>exact absurd H.2 (by omega)
    |4,H=>exact absurd H.2 (by omega)
    |5,H=>exact absurd H.2 (by omega)
    |6,H=>exact absurd (show c<a from H) (by omega)
    |7,H=>exact absurd (show c=0 from H) (by omega)
    |s+8,H=>exact absurd H (by simp[gI])
   subst hs;obtain⟨rfl,rfl⟩:=H;refine⟨1,c,a,?_⟩;refine bU (show gI a c c a 1/\_/\_/\_/\_ from⟨⟨rfl,rfl,Z⟩,Zv,F,aaU,by rw[if_neg (by omega),if_pos Z];omega⟩) ?_;simp[gM,gX,gY,cH,y9.or,ag,aP,aQ,ak,cD,bW,bS,ct,hs0,hs1,S,R,O,N,M,L,I,X,Z,U]
  .by_cases o:2<=(dig 1000000000 c).length/\a%c=0
   .obtain⟨Y,m⟩:=o
    rw[m] at G u V
    match s,H with
    |0,H=>
     obtain⟨rfl,rfl⟩:=H;refine⟨5,c,0,?_⟩;refine bU (show gI a c c 0 5/\_/\_/\_/\_ from⟨⟨rfl,rfl⟩,G,F,by omega,V⟩) ?_;simp[gM,gX,gY,cH,y9.or,ag,aP,aQ,ak,cD,bW,bS,ct,hs0,hs1,S,R,O,N,M,L,I,X,Z,U,Y,m]
    |1,H=>
     obtain⟨rfl,rfl,h⟩:=H;refine⟨4,c,0,?_⟩;refine bU (show gI c a c 0 4/\_/\_/\_/\_ from⟨⟨rfl,rfl⟩,G,F,by omega,V⟩) ?_;simp[gM,gX,gY,cH,y9.or,ag,aP,aQ,ak,cD,bW,bS,ct,hs0,hs1,S,R,O,N,M,L,I,X,Z,U,Y,m]
    |2,H=>
     obtain⟨rfl,h⟩:=H;refine⟨7,c,0,?_⟩;refine bU (show gI _ _ c 0 7/\_/\_/\_/\_ from⟨rfl,G,F,by omega,V⟩) ?_;simp[gM,gX,gY,cH,y9.or,ag,aP,aQ,ak,cD,bW,bS,ct,hs0,hs2,S,R,O,N,M,L,I,X,Z,U,Y,m]
    |3,H=>
     obtain⟨rfl,h⟩:=H;refine⟨7,c,0,?_⟩;refine bU (show gI _ _ c 0 7/\_/\_/\_/\_ from⟨rfl,G,F,by omega,V⟩) ?_;simp[gM,gX,gY,cH,y9.or,ag,aP,aQ,ak,cD,bW,bS,ct,hs1,hs2,S,R,O,N,M,L,I,X,Z,U,Y,m]
    |6,H=>
     refine⟨7,c,0,?_⟩;refine bU (show gI _ _ c 0 7/\_/\_/\_/\_ from⟨rfl,G,F,by omega,V⟩) ?_;simp[gM,gX,gY,cH,y9.or,ag,aP,aQ,ak,cD,bW,bS,ct,hs2,hs3,S,R,O,N,M,L,I,X,Z,U,Y,m]
    |4,H=>exact absurd H.2 (by omega)
    |5,H=>exact absurd H.2 (by omega)
    |7,H=>exact absurd (show c=0 from H) (by omega)
    |s+8,H=>exact absurd H (by simp[gI])
   .match s,H with
    |0,H=>
     obtain⟨rfl,rfl⟩:=H;refine⟨3,c,a%c,?_⟩;refine bU (show gI a c c (a%c) 3/\_/\_/\_/\_ from⟨⟨rfl,u⟩,G,F,by omega,V⟩) ?_;simp[gM,gX,gY,cH,y9.or,ag,aP,aQ,ak,cD,bW,bS,ct,hs0,hs1,S,R,O,N,M,L,I,X,Z,U,o]
    |1,H=>
     obtain⟨rfl,rfl,h⟩:=H;refine⟨2,c,a%c,?_⟩;refine bU (show gI c a c (a%c) 2/\_/\_/\_/\_ from⟨⟨rfl,u⟩,G,F,by omega,V⟩) ?_;simp[gM,gX,gY,cH,y9.or,ag,aP,aQ,ak,cD,bW,bS,ct,hs0,hs1,S,R,O,N,M,L,I,X,Z,U,o]
    |2,H=>
     obtain⟨rfl,h⟩:=H;refine⟨6,c,a%c,?_⟩;refine bU (show gI _ _ c (a%c) 6/\_/\_/\_/\_ from⟨u,G,F,by omega,V⟩) ?_;simp[gM,gX,gY,cH,y9.or,ag,aP,aQ,ak,cD,bW,bS,ct,hs0,hs2,S,R,O,N,M,L,I,X,YS,YT,Z,U,o]
    |3,H=>
     obtain⟨rfl,h⟩:=H;refine⟨6,c,a%c,?_⟩;refine bU (show gI _ _ c (a%c) 6/\_/\_/\_/\_ from⟨u,G,F,by omega,V⟩) ?_;simp[gM,gX,gY,cH,y9.or,ag,aP,aQ,ak,cD,bW,bS,ct,hs1,hs2,S,R,O,N,M,L,I,X,YS,YT,Z,U,o]
    |6,H=>
     refine⟨6,c,a%c,?_⟩;refine bU (show gI _ _ c (a%c) 6/\_/\_/\_/\_ from⟨u,G,F,by omega,V⟩) ?_;simp[gM,gX,gY,cH,y9.or,ag,aP,aQ,ak,cD,bW,bS,ct,hs2,hs3,S,R,O,N,M,L,I,X,YX,YY,Z,U,o]
    |4,H=>exact absurd H.2 (by omega)
    |5,H=>exact absurd H.2 (by omega)
    |7,H=>exact absurd (show c=0 from H) (by omega)
    |s+8,H=>exact absurd H (by simp[gI])
theorem l9{B a b:Nat}(H:2<=B)(h:a<=b):(dig B a).length<=(dig B b).length:=by
 rcases Nat.lt_or_ge (dig B b).length (dig B a).length with h1 | h1
 .have:=dR H h1;omega
 .exact h1
theorem F5(x y:Nat)(I:(ai x).length<=1000000)(J:(ai y).length<=1000000)(W:2*y+1<K){b0 b:Code}(H:ah f140=[b0,b]):
  ∃F:Env->Bool->Env×Mem×Nat,∀Z d,(ae Z 9=.slice 0 0 (dig 1000000000 x).length none/\ae Z 10=.slice 1 0 (dig 1000000000 y).length none)->
   aU (bd prog) jZ cH K 56 0 true (.loop b) ⟨Z,[.cells true 1 (iN .u64 (dig 1000000000 x)),.cells true 1 (iN .u64 (dig 1000000000 y))],d⟩=some (.exit 2,⟨(F Z d).1,(F Z d).2.1,d⟩)/\
   (ae (F Z d).1 9=.slice (F Z d).2.2 0 (dig 1000000000 (x.gcd y)).length none/\bh .u64 (F Z d).2.1 (.slice (F Z d).2.2 0 (dig 1000000000 (x.gcd y)).length none)=some (dig 1000000000 (x.gcd y))):=by
 have M:jZ b=[9,10]:=by simp[ah,aE,f140] at H;obtain⟨rfl,rfl⟩:=H;decide
 refine pK (β:=Nat) M (fun Z=>ae Z 9=.slice 0 0 (dig 1000000000 x).length none/\ae Z 10=.slice 1 0 (dig 1000000000 y).length none)
  (fun Z V X k=>ae V 9=.slice k 0 (dig 1000000000 (x.gcd y)).length none/\bh .u64 X (.slice k 0 (dig 1000000000 (x.gcd y)).length none)=some (dig 1000000000 (x.gcd y))) ?_
 rintro Z d ⟨h9,ZS⟩;have L:aw [9,10] (ad b) Z ((9,.slice (gX x 0) 0 (dig 1000000000 x).length none)::(10,gY y 0)::Z)=aw [9,10] (ad b) Z Z:=by simp[aw,h9,ZS,gX,gY]
 rw[<-L];have U:(dig 1000000000 x).length<=1000000:=by have:=dm x;omega
 have S:(dig 1000000000 y).length<=1000000:=by have:=dm y;omega
 have N:∀a,a<=max x y->(dig 1000000000 a).length<=1000000:=by
  intro a R;by_cases G:x<=y
  .have:=l9 (B:=1000000000) (a:=a) (b:=y) (by omega) (by omega);omega
  .have:=l9 (B:=1000000000) (a:=a) (b:=x) (by omega) (by omega);omega
 refine n8 (α:=Nat×Nat×Nat) (fun s=>⟨aw [9,10] (ad b) Z ((9,.slice (gX s.2.1 s.1) 0 (dig 1000000000 s.2.1).length none)::(10,gY s.2.2 s.1)::Z),gM (dig 1000000000 x) (dig 1000000000 y) s.2.1 s.2.2 s.1,d⟩)
  (fun s=>2*s.2.2+(if s.2.1<s.2.2 then 1 else 0)) (fun s=>gI x y s.2.1 s.2.2 s.1/\s.2.1.gcd s.2.2=x.gcd y/\s.2.1<=max x y/\s.2.2<=max x y) (.exit 2) d _ (by simp) ?_ K (0,x,y) ⟨⟨rfl,rfl⟩,rfl,Nat.le_max_left _ _,Nat.le_max_right _ _⟩ (by simp only;split<;>omega)
 rintro ⟨s,a,c⟩ ⟨hI,hg,R,hc⟩;simp only at hI hg R hc |-;rcases DA (K:=K) x y U S H Z d s a c hI (N a R) (N c hc) with⟨D,C,u,o,r1,r2,O,m,Y,r6,j⟩ | ⟨V,r1,r2,O⟩
 .left
  exact⟨(D,C,u),o,r1,r2,⟨O,by rw[m,hg],by simp only;omega,by simp only;omega⟩,j⟩
 .right
  refine⟨V,_,r1,gX a s,?_⟩;subst O;rw[Nat.gcd_zero_right] at hg;rw[<-hg];refine⟨r2,?_⟩
  match s,hI with
  |0,hI=>obtain⟨rfl,_⟩:=hI;exact hs0 true _
  |1,hI=>obtain⟨rfl,_⟩:=hI;exact hs1 true _ _
  |2,hI=>obtain⟨rfl,_⟩:=hI;exact hs0 true _
  |3,hI=>obtain⟨rfl,_⟩:=hI;exact hs1 true _ _
  |4,hI=>obtain⟨rfl,_⟩:=hI;exact hs0 true _
  |5,hI=>obtain⟨rfl,_⟩:=hI;exact hs1 true _ _
  |6,hI=>exact hs2 true _ _ _
  |7,hI=>exact hs2 true _ _ _
  |s+8,hI=>exact absurd hI (by simp[gI])
theorem Dz{O:y9}(n m:Int)(I:m.natAbs<K){b0 b:Code}(H:ah f140=[b0,b]):
  ∃F:Env->Bool->Env,∀Z d,(ae Z 5=.int .i64 n/\ae Z 7=.int .i64 m)->
   aU (bd prog) jZ O K 56 0 true (.loop b0) ⟨Z,[],d⟩=some (.exit 0,⟨F Z d,[],d⟩)/\(∃g:Int,ae (F Z d) 5=.int .i64 g/\g.natAbs=n.natAbs.gcd m.natAbs):=by
 have V:jZ b0=[5,7]:=by simp[ah,aE,f140] at H;obtain⟨rfl,rfl⟩:=H;decide
 refine bl V (fun Z=>ae Z 5=.int .i64 n/\ae Z 7=.int .i64 m) (fun _ U =>∃g:Int,ae U 5=.int .i64 g/\g.natAbs=n.natAbs.gcd m.natAbs) ?_;rintro Z d ⟨h5,h7⟩;have S:aw [5,7] (ad b0) Z ((5,.int .i64 n)::(7,.int .i64 m)::Z)=aw [5,7] (ad b0) Z Z:=by simp[aw,h5,h7]
 rw[<-S];refine bG (α:=Int×Int) (fun s=>⟨aw [5,7] (ad b0) Z ((5,.int .i64 s.1)::(7,.int .i64 s.2)::Z),[],d⟩) (fun s=>s.2.natAbs) (fun s=>s.1.natAbs.gcd s.2.natAbs=n.natAbs.gcd m.natAbs) (.exit 0) _ d _ (by simp) ?_ K (n,m) rfl I;rintro ⟨x,y⟩ hg;simp only at hg |-;simp[ah,aE,f140] at H;obtain⟨rfl,rfl⟩:=H;by_cases X:y=0
 .right
  subst X;simp only[Int.natAbs_zero,Nat.gcd_zero_right] at hg;simp[hg]
 .left
  have R:(x.tmod y).natAbs<y.natAbs:=by rw[Int.natAbs_tmod];exact Nat.mod_lt _ (by omega)
  refine⟨(y,x.tmod y),?_⟩;refine bC (show y.natAbs.gcd (x.tmod y).natAbs=n.natAbs.gcd m.natAbs/\_ from⟨by rw[Int.natAbs_tmod,<-hg,Nat.gcd_comm x.natAbs,Nat.gcd_rec y.natAbs x.natAbs,Nat.gcd_comm],R⟩) ?_;simp[X]
theorem PR(a b:Int)(ha:(ai a.natAbs).length<=100000)(hb:(ai b.natAbs).length<=100000)(mem:Mem):
  kO prog 140 [.str (bL a),.str (bL b)] mem (.str (ai (a.natAbs.gcd b.natAbs))) mem:=by
 have N:aX prog 140=some f140:=by kernel_rfl
 refine de pg (lv:=jZ) (K:=2*b.natAbs+2) rfl rfl ?_ mem;obtain⟨b0,b1,Z⟩:∃b0 b1,ah f140=[b0,b1]:=⟨_,_,rfl⟩
 have la:=dn a;have lb:=dn b;have M:(bL a).length<=1000000000:=by omega
 have Z7:(bL b).length<=1000000000:=by omega
 by_cases L:(bL a).length<=18/\(bL b).length<=18
 .have R:((bL a).length:Int)<=18:=by omega
  have C:((bL b).length:Int)<=18:=by omega
  have s1:=kf L.1;have s2:=kf L.2;obtain⟨F,X⟩:=Dz (O:=cH) (K:=2*b.natAbs+2) a b (by omega) Z;obtain⟨G,S⟩:=CX (β:=Int) (p:=fun V _=>ae V 5=.int .i64 a/\ae V 7=.int .i64 b) (q:=fun V d g=>ae (F V d) 5=.int .i64 g/\g.natAbs=a.natAbs.gcd b.natAbs) (fun V d h=>(X V d h).2);have u:a.natAbs.gcd b.natAbs<10 ^ 18:=by
   by_cases o:a.natAbs=0
   .rw[o,Nat.gcd_zero_left];exact s2
   .exact Nat.lt_of_le_of_lt (Nat.gcd_le_left _ (by omega)) s1
  obtain⟨g,U⟩:=xE (a.natAbs.gcd b.natAbs);rw[<-U] at u S |-;have w1:∀z:Int,z.natAbs=g->IntKind.i64.wrap (-z)= -z:=fun z hz=>af
  have w2:∀z:Int,z.natAbs=g->(if z< -z then -z else z)=(g:Int):=fun z hz=>by split<;>omega
  have hf:dV (g:Int)=true:=by unfold dV;simp;omega
  have m:bL (g:Int)=ai g:=rfl;simp[ah,aE,f140] at Z;obtain⟨rfl,rfl⟩:=Z;simp[aa,N,f140,cH,y9.or,ag,aP,aD,M,Z7,R,C,X,S,w1,w2,hf,m]
 .have da:=dm a.natAbs
  have db:=dm b.natAbs;have j:(ai a.natAbs).length<=1000000:=by omega
  have Y:(ai b.natAbs).length<=1000000:=by omega
  obtain⟨F,X⟩:=F5 (K:=2*b.natAbs+2) a.natAbs b.natAbs j Y (by omega) Z;obtain⟨g,U⟩:=xE (a.natAbs.gcd b.natAbs);have W:lok 1000000000 (dig 1000000000 g)=true:=bX (by omega) _;have J:aW (dig 1000000000 g)=dig 1000000000 g:=cj (by omega) _;have I:aq 1000000000 (dig 1000000000 g)=g:=bO (by omega) _;have H:(dig 1000000000 g).length<=1000000:=by
   have h1:=dm g;by_cases o:a.natAbs=0
   .rw[o,Nat.gcd_zero_left] at U
    rw[U] at h1 |-;omega
   .have h2:=bI (show g<=a.natAbs by rw[U];exact Nat.gcd_le_left _ (by omega))
    omega
  rw[<-U] at X |-;obtain⟨A,hA⟩:=xE (dig 1000000000 a.natAbs);obtain⟨B,hB⟩:=xE (dig 1000000000 b.natAbs);obtain⟨D,hD⟩:=xE (dig 1000000000 g);rw[<-hA,<-hB,<-hD] at X;rw[<-hD] at W J I H;simp[ah,aE,f140] at Z;obtain⟨rfl,rfl⟩:=Z;by_cases R:((bL a).length:Int)<=18
  .have C:¬((bL b).length:Int)<=18:=fun e=>L (by omega)
   simp[aa,N,f140,cH,y9.or,ag,aP,aQ,ak,aD,M,Z7,R,C,cD,j,Y,<-hA,<-hB,X,cv,aH,W,J,I,H,mK]
  .simp[aa,N,f140,cH,y9.or,ag,aP,aQ,ak,aD,M,R,cD,j,Y,<-hA,<-hB,X,cv,aH,W,J,I,H,mK]
end Go.Proofs
