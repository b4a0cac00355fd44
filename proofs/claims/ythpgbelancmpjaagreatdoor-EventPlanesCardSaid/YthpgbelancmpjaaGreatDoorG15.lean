/- See G38. -/
import Derived.Test.YthpgbelancmpjaaGreatDoorG14
set_option linter.all false
set_option maxRecDepth 100000
set_option maxHeartbeats 40000000
namespace Go.Proofs
open Go.Eng
open Tryz
def ek(mn:Bool)(v:Nat):List UInt8:=if v=0 then [48] else if mn then 45::ai v else ai v
theorem ij(z:Int):ek (decide (z<0)) z.natAbs=bF z:=by
 unfold ek;by_cases Z:z=0
 .subst Z;rfl
 .rw[if_neg (by omega)]
  by_cases h:z<0
  .rw[decide_eq_true h,if_pos rfl]
   have:=kQ (n:= -z) (by omega);rw[Int.neg_neg] at this;rw[this,gE (by omega),Int.natAbs_neg]
  .rw[decide_eq_false h,if_neg (by simp),gE (by omega)]
variable{Zx body:Code}{ps:Array Tmp}
section
variable (v:Nat)(mn:Bool)(hv:0<v)(hl:(dig 1000000000 v).length<=1000000)(hb:fc f212=[(ps,Zx,body)])
include v mn hv hl hb
theorem xB:
  ∃O:y9,qS prog O/\∀Z,(ad Z 1=.ptr 1 0/\ad Z 3=.ptr 2 0/\Z.flatMap (fun e=>e.2.refs 5)=[])->
   O (.fn 279) [.yield 4,.ptr 3 0] [.cells false 1 (iN .u64 (dig 1000000000 v)),.cells true 0 [.bool mn,.slice 0 0 (dig 1000000000 v).length none],.cells true aO [.afB,.qF],.cells true 0 [.slice 0 0 (dig 1000000000 v).length none],.loop ⟨.ready,none,Z,34,ps,Zx,body⟩]=some ⟨.tuple [],some [.cells false 1 (iN .u64 (dig 1000000000 v)),.cells true 0 [.bool mn,.slice 0 0 (dig 1000000000 v).length none],.cells true aO [.ptr 2 0,.slice 5 0 (ai v).length none],.cells true 0 [.slice 0 0 (dig 1000000000 v).length none],.loop ⟨.ready,none,Z,34,ps,Zx,body⟩],[.cells true 6001 (iB (ai v))]⟩:=by
 refine jQ (ι:=Env) (fun Z=>ad Z 1=.ptr 1 0/\ad Z 3=.ptr 2 0/\Z.flatMap (fun e=>e.2.refs 5)=[]) (fun _=>.fn 279) (fun _=>[.yield 4,.ptr 3 0]) (fun Z=>[.cells false 1 (iN .u64 (dig 1000000000 v)),.cells true 0 [.bool mn,.slice 0 0 (dig 1000000000 v).length none],.cells true aO [.afB,.qF],.cells true 0 [.slice 0 0 (dig 1000000000 v).length none],.loop ⟨.ready,none,Z,34,ps,Zx,body⟩]) (fun Z=>⟨.tuple [],some [.cells false 1 (iN .u64 (dig 1000000000 v)),.cells true 0 [.bool mn,.slice 0 0 (dig 1000000000 v).length none],.cells true aO [.ptr 2 0,.slice 5 0 (ai v).length none],.cells true 0 [.slice 0 0 (dig 1000000000 v).length none],.loop ⟨.ready,none,Z,34,ps,Zx,body⟩],[.cells true 6001 (iB (ai v))]⟩) ?_ ?_
 .rintro Z ⟨h1,h3,he⟩
  refine⟨?_,fun q X=>by cases X;rfl⟩;exact zZ v mn hv hl hb Z h1 h3 he
 .intro i j _ _ _ _ h
  simp only[List.cons.injEq,afq.loop.injEq,agv.mk.injEq,and_true,true_and] at h;rw[h]
theorem vT:
  ∃O:y9,qS prog O/\∀Z,(ad Z 1=.ptr 1 0/\ad Z 3=.ptr 2 0/\Z.flatMap (fun e=>e.2.refs 7)=[])->
   O (.fn 279) [.yield 6,.ptr 5 0] [.cells false 1 (iN .u64 (dig 1000000000 v)),.cells true 0 [.bool mn,.slice 0 0 (dig 1000000000 v).length none],.cells true aO [.ptr 2 0,.slice 4 0 1 none],.cells true 1 (iB [45]),.cells true 6001 (iB [45]),.cells true 0 [.slice 0 0 (dig 1000000000 v).length none],.loop ⟨.ready,none,Z,34,ps,Zx,body⟩]=some ⟨.tuple [],some [.cells false 1 (iN .u64 (dig 1000000000 v)),.cells true 0 [.bool mn,.slice 0 0 (dig 1000000000 v).length none],.cells true aO [.ptr 2 0,.slice 7 0 (45::ai v).length none],.cells true 1 (iB [45]),.qK,.cells true 0 [.slice 0 0 (dig 1000000000 v).length none],.loop ⟨.ready,none,Z,34,ps,Zx,body⟩],[.cells true 6001 (iB (45::ai v))]⟩:=by
 refine jQ (ι:=Env) (fun Z=>ad Z 1=.ptr 1 0/\ad Z 3=.ptr 2 0/\Z.flatMap (fun e=>e.2.refs 7)=[]) (fun _=>.fn 279) (fun _=>[.yield 6,.ptr 5 0]) (fun Z=>[.cells false 1 (iN .u64 (dig 1000000000 v)),.cells true 0 [.bool mn,.slice 0 0 (dig 1000000000 v).length none],.cells true aO [.ptr 2 0,.slice 4 0 1 none],.cells true 1 (iB [45]),.cells true 6001 (iB [45]),.cells true 0 [.slice 0 0 (dig 1000000000 v).length none],.loop ⟨.ready,none,Z,34,ps,Zx,body⟩]) (fun Z=>⟨.tuple [],some [.cells false 1 (iN .u64 (dig 1000000000 v)),.cells true 0 [.bool mn,.slice 0 0 (dig 1000000000 v).length none],.cells true aO [.ptr 2 0,.slice 7 0 (45::ai v).length none],.cells true 1 (iB [45]),.qK,.cells true 0 [.slice 0 0 (dig 1000000000 v).length none],.loop ⟨.ready,none,Z,34,ps,Zx,body⟩],[.cells true 6001 (iB (45::ai v))]⟩) ?_ ?_
 .rintro Z ⟨h1,h3,he⟩
  refine⟨?_,fun q X=>by cases X;rfl⟩;exact xC v mn hv hl hb Z h1 h3 he
 .intro i j _ _ _ _ h
  simp only[List.cons.injEq,afq.loop.injEq,agv.mk.injEq,and_true,true_and] at h;rw[h]
end
theorem agY:aZ prog 212=some f212:=by kernel_rfl
theorem DH(v:Nat)(mn:Bool)(H:0<v)(I:(dig 1000000000 v).length<=1000000):
  ∃O:y9,qS prog O/\ae (aX prog) (fun _=>[]) (aZ prog) ((bZ.or gH).or O) 1 212 [.agg [.bool mn,.slice 0 0 (dig 1000000000 v).length none]] [.cells false 1 (iN .u64 (dig 1000000000 v))]=
   some ⟨.str (if mn then 45::ai v else ai v),some [.cells false 1 (iN .u64 (dig 1000000000 v))],[]⟩:=by
 obtain⟨ps,Zx,body,S⟩:∃ps Zx body,fc f212=[(ps,Zx,body)]:=⟨_,_,_,rfl⟩
 have R:dig 1000000000 v≠[]:=by rw[ne_eq,fC (by omega)];omega
 have C:(ai v).length<=90000000:=by
  have M:=gW (ca (B:=1000000000) (by omega) v);rw[bL (by omega)] at M;have u:(1000000000:Nat) ^ (dig 1000000000 v).length=10 ^ (9*(dig 1000000000 v).length):=by rw[Nat.pow_mul]
  rw[u] at M;have h3:=List.length_pos_iff.2 R;have o:=aN (by omega) M;omega
 have N:=jN v;cases mn with
 |false=>
  obtain⟨O,L,Z⟩:=xB v false H I S;refine⟨O,L,?_⟩;obtain⟨A,V⟩:=xE (dig 1000000000 v);obtain⟨t,X⟩:=xE (ai v);rw[<-V] at R;rw[<-V,<-X] at Z;rw[<-V];rw[<-X] at C N;simp only[Bool.false_eq_true,if_false,<-X];have U:¬A.length=0:=fun e=>R (Mp e)
  have K:t.length<=100000000:=by omega
  simp[fc,gw,f212] at S;obtain⟨rfl,rfl,rfl⟩:=S;simp[ae,agY,f212,y9.or,bZ,cv,cC,cg,gH,ah,bS,ak,U,vd,Z,zm,kK,K,N]
 |true=>
  obtain⟨O,L,Z⟩:=vT v true H I S;refine⟨O,L,?_⟩;obtain⟨A,V⟩:=xE (dig 1000000000 v);obtain⟨t,X⟩:=xE (45::ai v);have G :t.length<=100000000:=by rw[X,List.length_cons];omega
  have F :t≠[]:=by rw[X];simp
  rw[<-V] at R;rw[<-V,<-X] at Z;rw[<-V];simp only[if_true,<-X];have U:¬A.length=0:=fun e=>R (Mp e)
  simp[fc,gw,f212] at S;obtain⟨rfl,rfl,rfl⟩:=S;simp[ae,agY,f212,y9.or,bZ,cv,cC,cg,gH,ah,bS,ak,U,vd,Z,zm,kK,G,F]
theorem Bn(mn:Bool):ae (aX prog) (fun _=>[]) (aZ prog) cO 1 212 [.agg [.bool mn,.slice 0 0 0 none]] [.cells false 1 []]=some ⟨.str [48],none,[]⟩:=by simp[ae,agY,f212]
theorem Dt(mn:Bool)(M:Mem):kO prog 212 [.agg [.bool mn,.qF]] M (.str [48]) M:=by refine aA (az _) ?_ M;simp[ae,agY,f212]
variable{A:List Nat}
theorem HB{M:Mem}{x:AV}(mn:Bool)(H:lok 1000000000 A=true)(tA:aW A=A)(I:A.length<=1000000)(J:afw .u64 M x A):
  kO prog 212 [.agg [.bool mn,x]] M (.str (ek mn (ao 1000000000 A))) M:=by
 obtain⟨b,o,N,rfl,X,U⟩:=J;have S:=gL X;have small:kO prog 212 [.agg [.bool mn,.slice 0 0 A.length none]] [.cells false 1 (iN .u64 A)] (.str (ek mn (ao 1000000000 A))) ([.cells false 1 (iN .u64 A)]++[]):=by
  by_cases V:ao 1000000000 A=0
  .have e:A=[]:=by have:=mJ (by omega) H tA;rw[V,dW] at this;exact this.symm
   subst e;have:=(aB aj (aI _) (az _) (aQ _) (Bn mn)).1;simpa [afl.mem,ek,ao] using this
  .have e:=mJ (by omega) H tA
   obtain⟨O,R,h⟩:=DH (ao 1000000000 A) mn (by omega) (by rw[e];exact I);rw[e] at h;have:=(aB aj (aI _) ((qR.or yM).or R) (aQ _) h).1;simpa [afl.mem,ek,V] using this
 have:=kO.frame (M:=M) [b] (m:=[.cells false 1 (iN .u64 A)]) rfl (by simpa using S) (by simp) (fun i s Z=>by
  cases i with
  |zero=>simp at Z;subst Z;exact .row X U
  |succ i=>simp at Z) rfl small
 simpa [AV.afI,AV.ren,fA] using this
noncomputable def cD:y9:=fun c Z M=>match c,Z with
 |.fn 212,[.agg [.bool mn,.qF]]=>some ⟨.str (ek mn 0),none,[]⟩
 |.fn 212,[.agg [.bool mn,x]]=>match bd .u64 M x with
  |some A=>if lok 1000000000 A=true/\aW A=A/\A.length<=1000000 then some ⟨.str (ek mn (ao 1000000000 A)),none,[]⟩ else none
  |none=>none
 |.fn 210,[.str s]=>match iE s with
  |some z=>if (ai z.natAbs).length<=1000000 then some ⟨.agg [.bool (decide (z<0)),.slice M.length 0 (dig 1000000000 z.natAbs).length none],none,[.cells true 1 (iN .u64 (dig 1000000000 z.natAbs))]⟩ else none
  |none=>none
 |c,Z=>bZ c Z M
theorem Iv:qS prog cD:=by
 refine cw fun c Z M r h=>?_
 unfold cD at h;split at h
 .cases h
  refine au ?_;rw[List.append_nil];exact Dt _ M
 .split at h
  .rename_i X
   split at h
   .rename_i V
    obtain⟨U,S,R⟩:=V;cases h;refine au ?_;rw[List.append_nil];exact HB _ U S R (bh X)
   .cases h
  .cases h
 .split at h
  .rename_i O
   split at h
   .rename_i N
    cases h;rw[bE O];exact au (MW _ N M)
   .cases h
  .cases h
 .exact ee qR h
theorem di(n:Nat):(dig 1000000000 n).length<=(ai n).length:=by
 obtain⟨X,Z,U⟩:=lQ _ (ai n) (L9 _) (dI _);rw[dM] at Z;have V:aW (iU (ai n))=dig 1000000000 n:=by rw[<-dV (by omega) X,Z]
 have:=dm (iU (ai n));rw[V] at this;omega
variable{a b k:Nat}
section
variable (ha:(ai a).length<=k)(hb:(ai b).length<=k)
include ha hb
theorem jL:(ai (a+b)).length<=k+1:=by have Z:=cq a;have X:=cq b;have h3:10 ^ (ai a).length<=10 ^ k:=P3 (by omega) ha;have V:10 ^ (ai b).length<=10 ^ k:=P3 (by omega) hb;refine aN (by omega) ?_;rw[Nat.pow_succ];omega
theorem dH:(ai (a*b)).length<=2*k:=by have Z:=cq a;have X:=cq b;have h3:10 ^ (ai a).length<=10 ^ k:=P3 (by omega) ha;have V:10 ^ (ai b).length<=10 ^ k:=P3 (by omega) hb;have:=pP a;exact aN (by omega) (RC (by omega) (by omega))
end
theorem bB(h:a<=b):(ai a).length<=(ai b).length:=by have:=cq b;exact aN (pP b) (by omega)
theorem L7(n:Int):(ai n.natAbs).length<=(bF n).length:=by
 cases n with
 |ofNat u=>exact L9 _
 |negSucc u=>simp[bF]
theorem kf{n:Int}(h:(bF n).length<=k):n.natAbs<10 ^ k:=by have Z:=cq n.natAbs;have X:=L7 n;have h3:10 ^ (ai n.natAbs).length<=10 ^ k:=P3 (by omega) (by omega);omega
noncomputable def aP(f:FuncId)(args:List AV):Option AV:=
 match f,args with
 |209,[.str s,.int .i64 m]=>match iE s with
  |some n=>if m<=18/\s.length<=1000000000 then some (if (s.length:Int)<=m then .tuple [.int .i64 n,.bool true] else .tuple [.int .i64 0,.bool false]) else none
  |none=>none
 |143,[.int .i64 n]=>if dY n then some (.str (bF n)) else none
 |205,[.str s]=>match iE s with
  |some n=>if s.length<=1000000000 then some (.str (bF (-n))) else none
  |none=>none
 |139,[.str s,.str t]=>match iE s,iE t with
  |some m,some n=>some (.int .i64 (MG m n))
  |_,_=>none
 |f,args=>aS f args
theorem yQ:qS prog (ah aP):=bM fun f V v h mem=>by
 unfold aP at h;split at h
 .split at h
  .rename_i n X
   split at h
   .rename_i Z
    cases h;rw[bE X] at Z |-;exact M1 n _ Z.1 Z.2 mem
   .cases h
  .cases h
 .split at h
  next Z=>cases h;exact UK _ Z mem
  .cases h
 .split at h
  .rename_i n X
   split at h
   .rename_i Z
    cases h;rw[bE X] at Z |-;exact R7 n Z mem
   .cases h
  .cases h
 .split at h
  .rename_i m n U X
   cases h;rw[bE U,bE X];exact Du m n mem
  .cases h
 .have:=rD.fn _ _ mem ⟨v,none,[]⟩ (by unfold ah;simp only;rw[h])
  simpa [afl.mem] using this
noncomputable def cJ:y9:=fun c Z M=>((ah aP).or cD) c Z M
theorem pg:qS prog cJ:=yQ.or Iv
section
variable (ow:Bool)
include ow
theorem hs0(l:Mem):bd .u64 (.cells ow 1 (iN .u64 A)::l) (.slice 0 0 A.length none)=some A:=aU rfl (by simp) (B5 (by simp))
theorem hs1(a0:afq)(l:Mem):bd .u64 (a0::.cells ow 1 (iN .u64 A)::l) (.slice 1 0 A.length none)=some A:=aU rfl (by simp) (B5 (by simp))
theorem hs2(a0 a1:afq)(l:Mem):bd .u64 (a0::a1::.cells ow 1 (iN .u64 A)::l) (.slice 2 0 A.length none)=some A:=aU rfl (by simp) (B5 (by simp))
theorem hs3(a0 a1 H:afq)(l:Mem):bd .u64 (a0::a1::H::.cells ow 1 (iN .u64 A)::l) (.slice 3 0 A.length none)=some A:=aU rfl (by simp) (B5 (by simp))
theorem hs4(a0 a1 H I:afq)(l:Mem):bd .u64 (a0::a1::H::I::.cells ow 1 (iN .u64 A)::l) (.slice 4 0 A.length none)=some A:=aU rfl (by simp) (B5 (by simp))
theorem hs5(a0 a1 H I J:afq)(l:Mem):bd .u64 (a0::a1::H::I::J::.cells ow 1 (iN .u64 A)::l) (.slice 5 0 A.length none)=some A:=aU rfl (by simp) (B5 (by simp))
end
theorem PR(a b:Int)(ha:(ai a.natAbs).length<=100000)(hb:(ai b.natAbs).length<=100000)(mem:Mem):kO prog 204 [.str (bF a),.str (bF b)] mem (.str (bF (a+b))) mem:=by
 have o:aZ prog 204=some f204:=by kernel_rfl
 refine aA pg ?_ mem;have la:=dj a;have lb:=dj b;have V:(bF a).length<=1000000000:=by omega
 have O:(bF b).length<=1000000000:=by omega
 by_cases hq:(bF a).length<=18/\(bF b).length<=18
 .have R:((bF a).length:Int)<=18:=by omega
  have j:((bF b).length:Int)<=18:=by omega
  have s1:=kf hq.1;have s2:=kf hq.2;have w1:IntKind.i64.wrap (a+b)=a+b:=af;have hf:dY (a+b)=true:=by unfold dY;simp;omega
  simp[ae,o,f204,cJ,y9.or,ah,aP,aD,V,O,R,j,w1,hf]
 .have da:=di a.natAbs
  have db:=di b.natAbs;have Z5:(ai a.natAbs).length<=1000000:=by omega
  have Z8:(ai b.natAbs).length<=1000000:=by omega
  have sum:=jL ha hb;have ds:=di (a.natAbs+b.natAbs);have Y:ao 1000000000 (dig 1000000000 a.natAbs)=a.natAbs:=bL (by omega) _;have J:ao 1000000000 (dig 1000000000 b.natAbs)=b.natAbs:=bL (by omega) _;have I:lok 1000000000 (dig 1000000000 a.natAbs)=true:=ca (by omega) _;have H:lok 1000000000 (dig 1000000000 b.natAbs)=true:=ca (by omega) _;have ta:aW (dig 1000000000 a.natAbs)=dig 1000000000 a.natAbs:=cm (by omega) _;have tb:aW (dig 1000000000 b.natAbs)=dig 1000000000 b.natAbs:=cm (by omega) _;obtain⟨A,N⟩:=xE (dig 1000000000 a.natAbs);obtain⟨B,M⟩:=xE (dig 1000000000 b.natAbs);rw[<-N] at da Y I ta;rw[<-M] at db J H tb;have g1:A.length<=100000000:=by omega
  have g2:B.length<=100000000:=by omega
  have g3:A.length<=1000000000:=by omega
  have g4:B.length<=1000000000:=by omega
  by_cases L:(decide (a<0))=(decide (b<0))
  .obtain⟨S,hS⟩:=xE (dig 1000000000 (a.natAbs+b.natAbs))
   have K:ao 1000000000 S=a.natAbs+b.natAbs:=by rw[hS];exact bL (by omega) _
   have G:lok 1000000000 S=true:=by rw[hS];exact ca (by omega) _
   have F:aW S=S:=by rw[hS];exact cm (by omega) _
   have C:S.length<=1000000:=by rw[hS];omega
   have u:ek (decide (a<0)) (a.natAbs+b.natAbs)=bF (a+b):=by
    rw[<-ij (a+b)];have:(a+b).natAbs=a.natAbs+b.natAbs:=by by_cases Z:a<0<;>by_cases X:b<0<;>simp[Z,X] at L<;>omega
    rw[this];by_cases Z:a<0<;>by_cases X:b<0<;>simp[Z,X] at L
    .rw[decide_eq_true Z,decide_eq_true (by omega)]
    .rw[decide_eq_false Z,decide_eq_false (by omega)]
   have U :(decide (a<0)==decide (b<0))=true:=by rw[L];simp
   by_cases R:((bF a).length:Int)<=18
   .have j:¬((bF b).length:Int)<=18:=fun e=>hq (by omega)
    simp[ae,o,f204,cJ,y9.or,ah,aP,aS,ak,aD,V,O,R,j,cD,Z5,Z8,<-N,<-M,bZ,bS,cv,cC,cg,hs0,hs1,I,H,g1,g2,Y,J,<-hS,cj,aH,hs4,G,F,C,K,U,u,Nat.testBit]
   .simp[ae,o,f204,cJ,y9.or,ah,aP,aS,ak,aD,V,R,cD,Z5,Z8,<-N,<-M,bZ,bS,cv,cC,cg,hs0,hs1,I,H,g1,g2,Y,J,<-hS,cj,aH,hs4,G,F,C,K,U,u,Nat.testBit]
  .have U :(decide (a<0)==decide (b<0))=false:=by cases Z:decide (a<0)<;>cases X:decide (b<0)<;>simp[Z,X] at L |-
   by_cases FS:a.natAbs<b.natAbs
   .have hc:kv a.natAbs b.natAbs= -1:=by unfold kv;rw[if_pos FS]
    obtain⟨S,hS⟩:=xE (dig 1000000000 (b.natAbs-a.natAbs));have K:ao 1000000000 S=b.natAbs-a.natAbs:=by rw[hS];exact bL (by omega) _
    have G:lok 1000000000 S=true:=by rw[hS];exact ca (by omega) _
    have F:aW S=S:=by rw[hS];exact cm (by omega) _
    have C:S.length<=1000000:=by rw[hS];have Z:=di (b.natAbs-a.natAbs);have X:=bB (show b.natAbs-a.natAbs<=b.natAbs by omega);omega
    have g6:A.length<=B.length:=by
     rcases Nat.lt_or_ge B.length A.length with h | h
     .have:=dU (B:=1000000000) (m:=b.natAbs) (n:=a.natAbs) (by omega) (by rw[<-N,<-M];exact h)
      omega
     .exact h
    have g7:a.natAbs<=b.natAbs:=by omega
    have u:ek (decide (b<0)) (b.natAbs-a.natAbs)=bF (a+b):=by
     rw[<-ij (a+b)];have h0:(a+b).natAbs=b.natAbs-a.natAbs:=by by_cases Z:a<0<;>by_cases X:b<0<;>simp[Z,X] at L<;>omega
     rw[h0];by_cases Z:a<0<;>by_cases X:b<0<;>simp[Z,X] at L
     .rw[decide_eq_false X,decide_eq_false (by omega)]
     .rw[decide_eq_true X,decide_eq_true (by omega)]
    by_cases R:((bF a).length:Int)<=18
    .have j:¬((bF b).length:Int)<=18:=fun e=>hq (by omega)
     simp[ae,o,f204,cJ,y9.or,ah,aP,aS,ak,aD,V,O,R,j,cD,Z5,Z8,<-N,<-M,bZ,bS,cv,cC,cg,bR,hs0,hs1,I,H,ta,tb,g2,g3,Y,J,hc,g6,g7,<-hS,cj,aH,hs4,G,F,C,K,U,u,Nat.testBit]
    .simp[ae,o,f204,cJ,y9.or,ah,aP,aS,ak,aD,V,R,cD,Z5,Z8,<-N,<-M,bZ,bS,cv,cC,cg,bR,hs0,hs1,I,H,ta,tb,g2,g3,Y,J,hc,g6,g7,<-hS,cj,aH,hs4,G,F,C,K,U,u,Nat.testBit]
   .have hc:¬kv a.natAbs b.natAbs<0:=by unfold kv;rw[if_neg FS];split<;>omega
    obtain⟨S,hS⟩:=xE (dig 1000000000 (a.natAbs-b.natAbs));have K:ao 1000000000 S=a.natAbs-b.natAbs:=by rw[hS];exact bL (by omega) _
    have G:lok 1000000000 S=true:=by rw[hS];exact ca (by omega) _
    have F:aW S=S:=by rw[hS];exact cm (by omega) _
    have C:S.length<=1000000:=by rw[hS];have Z:=di (a.natAbs-b.natAbs);have X:=bB (show a.natAbs-b.natAbs<=a.natAbs by omega);omega
    have g6:B.length<=A.length:=by
     rcases Nat.lt_or_ge A.length B.length with h | h
     .have:=dU (B:=1000000000) (m:=a.natAbs) (n:=b.natAbs) (by omega) (by rw[<-N,<-M];exact h)
      omega
     .exact h
    have g7:b.natAbs<=a.natAbs:=by omega
    have u:ek (decide (a<0)) (a.natAbs-b.natAbs)=bF (a+b):=by
     rw[<-ij (a+b)];have h0:(a+b).natAbs=a.natAbs-b.natAbs:=by by_cases Z:a<0<;>by_cases X:b<0<;>simp[Z,X] at L<;>omega
     rw[h0];by_cases hz:a.natAbs-b.natAbs=0
     .unfold ek;rw[if_pos hz,if_pos hz]
     by_cases Z:a<0<;>by_cases X:b<0<;>simp[Z,X] at L
     .rw[decide_eq_true Z,decide_eq_true (by omega)]
     .rw[decide_eq_false Z,decide_eq_false (by omega)]
    by_cases R:((bF a).length:Int)<=18
    .have j:¬((bF b).length:Int)<=18:=fun e=>hq (by omega)
     simp[ae,o,f204,cJ,y9.or,ah,aP,aS,ak,aD,V,O,R,j,cD,Z5,Z8,<-N,<-M,bZ,bS,cv,cC,cg,bR,hs0,hs1,I,H,ta,tb,g1,g3,Y,J,hc,g6,g7,<-hS,cj,aH,hs4,G,F,C,K,U,u,Nat.testBit]
    .simp[ae,o,f204,cJ,y9.or,ah,aP,aS,ak,aD,V,R,cD,Z5,Z8,<-N,<-M,bZ,bS,cv,cC,cg,bR,hs0,hs1,I,H,ta,tb,g1,g3,Y,J,hc,g6,g7,<-hS,cj,aH,hs4,G,F,C,K,U,u,Nat.testBit]
theorem EI(a b:Int):ek (!(decide (a<0)==decide (b<0))) (a.natAbs*b.natAbs)=bF (a*b):=by
 rw[<-ij (a*b),QQl];by_cases V:a.natAbs*b.natAbs=0
 .unfold ek;rw[if_pos V,if_pos V]
 .have S:a≠0:=by rintro rfl;simp at V
  have R:b≠0:=by rintro rfl;simp at V
  congr 1;by_cases Z:a<0<;>by_cases X:b<0
  .have h3:=Int.mul_pos_of_neg_of_neg Z X
   have U:¬a*b<0:=by omega
   simp[Z,X,U]
  .have h3:=Int.mul_neg_of_neg_of_pos Z (show 0<b by omega)
   simp[Z,X,h3]
  .have h3:=Int.mul_neg_of_pos_of_neg (show 0<a by omega) X
   simp[Z,X,h3]
  .have h3:=Int.mul_nonneg (show 0<=a by omega) (show 0<=b by omega)
   have U:¬a*b<0:=by omega
   simp[Z,X,U]
theorem Qd(a b:Int)(ha:(ai a.natAbs).length<=100000)(hb:(ai b.natAbs).length<=100000)(mem:Mem):kO prog 133 [.str (bF a),.str (bF b)] mem (.str (bF (a*b))) mem:=by
 have R:aZ prog 133=some f133:=by kernel_rfl
 refine aA pg ?_ mem;have la:=dj a;have lb:=dj b;have Z:(bF a).length<=1000000000:=by omega
 have V:(bF b).length<=1000000000:=by omega
 by_cases O:(bF a).length<=9/\(bF b).length<=9
 .have U:((bF a).length:Int)<=9:=by omega
  have N:((bF b).length:Int)<=9:=by omega
  have s1:=kf O.1;have s2:=kf O.2;have s3:(a*b).natAbs<10 ^ 9*10 ^ 9:=by rw[QQl];exact Nat.mul_lt_mul'' s1 s2
  have w1:IntKind.i64.wrap (a*b)=a*b:=af;have hf:dY (a*b)=true:=by unfold dY;simp;omega
  simp[ae,R,f133,cJ,y9.or,ah,aP,aD,Z,V,U,N,w1,hf]
 .have da:=di a.natAbs
  have db:=di b.natAbs;have u:(ai a.natAbs).length<=1000000:=by omega
  have o:(ai b.natAbs).length<=1000000:=by omega
  have sum:=dH ha hb;have ds:=di (a.natAbs*b.natAbs);have M:ao 1000000000 (dig 1000000000 a.natAbs)=a.natAbs:=bL (by omega) _;have L:ao 1000000000 (dig 1000000000 b.natAbs)=b.natAbs:=bL (by omega) _;have K:lok 1000000000 (dig 1000000000 a.natAbs)=true:=ca (by omega) _;have G:lok 1000000000 (dig 1000000000 b.natAbs)=true:=ca (by omega) _;obtain⟨A,F⟩:=xE (dig 1000000000 a.natAbs);obtain⟨B,C⟩:=xE (dig 1000000000 b.natAbs);rw[<-F] at da M K;rw[<-C] at db L G;have m:A.length<=100000000:=by omega
  have j:B.length<=100000000:=by omega
  obtain⟨S,hS⟩:=xE (dig 1000000000 (a.natAbs*b.natAbs));have Y:ao 1000000000 S=a.natAbs*b.natAbs:=by rw[hS];exact bL (by omega) _
  have J:lok 1000000000 S=true:=by rw[hS];exact ca (by omega) _
  have I:aW S=S:=by rw[hS];exact cm (by omega) _
  have H:S.length<=1000000:=by rw[hS];omega
  obtain⟨mn,X⟩:=xE (!(decide (a<0)==decide (b<0)));have ZK:ek mn (a.natAbs*b.natAbs)=bF (a*b):=by rw[X];exact EI a b
  by_cases U:((bF a).length:Int)<=9
  .have N:¬((bF b).length:Int)<=9:=fun e=>O (by omega)
   simp[ae,R,f133,cJ,y9.or,ah,aP,aS,ak,aD,Z,V,U,N,cD,u,o,<-F,<-C,bZ,bS,cv,cC,cg,hs0,hs1,K,G,m,j,M,L,<-hS,cj,aH,hs4,J,I,H,Y,<-X,ZK,Nat.testBit]
  .simp[ae,R,f133,cJ,y9.or,ah,aP,aS,ak,aD,Z,U,cD,u,o,<-F,<-C,bZ,bS,cv,cC,cg,hs0,hs1,K,G,m,j,M,L,<-hS,cj,aH,hs4,J,I,H,Y,<-X,ZK,Nat.testBit]
theorem mI(n:Nat):ek false n=ai n:=by
 unfold ek;by_cases h:n=0
 .subst h;rfl
 .rw[if_neg h];rfl
theorem EH{a:Int}(H:0<b)(h:0<=a\/a.natAbs%b=0):ek (decide (a<0)) (a.natAbs / b)=bF (a / b):=by
 rw[<-ij (a / b)];by_cases U:a<0
 .have S:a.natAbs%b=0:=by rcases h with h | h<;>omega
  have Z:a= -((a.natAbs / b*b:Nat):Int):=by have:=Nat.div_add_mod a.natAbs b;rw[S,Nat.add_zero,QQZ] at this;omega
  obtain⟨q,X⟩:=xE (a.natAbs / b);rw[<-X] at Z;have h3:a / (b:Int)= -(q:Int):=by rw[Z,Int.natCast_mul,<-Int.neg_mul];exact Int.mul_ediv_cancel _ (by omega)
  rw[h3,<-X,Int.natAbs_neg,Int.natAbs_natCast];by_cases V:q=0
  .unfold ek;rw[if_pos V,if_pos V]
  .rw[decide_eq_true U,decide_eq_true (by omega)]
 .obtain⟨n,rfl⟩:∃n:Nat,a=n:=⟨a.toNat,by omega⟩
  rw[<-Int.natCast_ediv,Int.natAbs_natCast,Int.natAbs_natCast,decide_eq_false (by omega),decide_eq_false (Int.not_lt.2 (Int.natCast_nonneg _))]
theorem Fm(a:Int)(b:Nat)(H:0<b)(I:0<=a\/a.natAbs%b=0)(ha:(ai a.natAbs).length<=100000)(hb:(ai b).length<=100000)(mem:Mem):
  kO prog 208 [.str (bF a),.str (ai b)] mem (.tuple [.str (bF (a / b)),.str (ai (a.natAbs%b)),.int .i64 0]) mem:=by
 have hG:aZ prog 208=some f208:=by kernel_rfl
 refine aA pg ?_ mem;rw[<-EH H I,<-mI (a.natAbs%b)];have Z:iE (ai b)=some (b:Int):=aD (b:Int);have X:(ai b==[48])=false:=by rw[beq_eq_false_iff_ne];intro e;have:=AW (e.trans (show [48]=ai 0 from rfl));omega
 have da:=di a.natAbs;have db:=di b;have G:(ai a.natAbs).length<=1000000:=by omega
 have Z8:(ai b).length<=1000000:=by omega
 have M:ao 1000000000 (dig 1000000000 a.natAbs)=a.natAbs:=bL (by omega) _;have F:ao 1000000000 (dig 1000000000 b)=b:=bL (by omega) _;have C:lok 1000000000 (dig 1000000000 a.natAbs)=true:=ca (by omega) _;have u:lok 1000000000 (dig 1000000000 b)=true:=ca (by omega) _;have o:aW (dig 1000000000 a.natAbs)=dig 1000000000 a.natAbs:=cm (by omega) _;have m:aW (dig 1000000000 b)=dig 1000000000 b:=cm (by omega) _;obtain⟨A,L⟩:=xE (dig 1000000000 a.natAbs);obtain⟨B,j⟩:=xE (dig 1000000000 b);rw[<-L] at da M C o;rw[<-j] at db F u m;have g1:A.length<=1000000:=by omega
 have g2:B.length<=1000000:=by omega
 obtain⟨n,Y⟩:=xE a.natAbs;rw[<-Y] at M L I G |-;have V:¬(b:Int)<0:=by omega
 by_cases S:n<b
 .have O:¬a<0:=by
   rcases I with h | h
   .omega
   .rw[QQj S] at h;omega
  rw[Nat.div_eq_of_lt S,QQj S];simp[ae,hG,f208,cJ,y9.or,ah,aP,aS,ak,aD,Z,X,<-Y,cD,G,Z8,<-L,<-j,bZ,bS,cv,hs0,hs1,C,u,o,m,g1,M,F,H,S,O,V,cj,aH]
 .obtain⟨q,J⟩:=xE (n / b)
  obtain⟨r,K⟩:=xE (n%b);rw[<-K] at I;rw[<-J,<-K];obtain⟨Q,hQ⟩:=xE (dig 1000000000 q);obtain⟨R,N⟩:=xE (dig 1000000000 r);have vq:ao 1000000000 Q=q:=by rw[hQ];exact bL (by omega) _
  have oq:lok 1000000000 Q=true:=by rw[hQ];exact ca (by omega) _
  have tq:aW Q=Q:=by rw[hQ];exact cm (by omega) _
  have gq:Q.length<=1000000:=by rw[hQ];have h1:=di q;have h2:=bB (show q<=n by rw[J];exact Nat.div_le_self _ _);omega
  have vr:ao 1000000000 R=r:=by rw[N];exact bL (by omega) _
  have or:lok 1000000000 R=true:=by rw[N];exact ca (by omega) _
  have tr:aW R=R:=by rw[N];exact cm (by omega) _
  have gr:R.length<=1000000:=by rw[N];have h1:=di r;have h2:=bB (show r<=n by rw[K];exact Nat.mod_le _ _);omega
  have cond:∀x:Nat,¬(a<0/\0<R.length):=by
   intro _ h;rcases I with h1 | h1
   .omega
   .rw[N,h1,dW] at h;simp at h
  by_cases hz:2<=B.length/\r=0
  .obtain⟨U,hz2⟩:=hz
   by_cases O:a<0
   .simp[ae,hG,f208,cJ,y9.or,ah,aP,aS,ak,aD,Z,X,<-Y,cD,G,Z8,<-L,<-j,bZ,bS,cv,hs0,hs1,C,u,o,m,g1,M,F,H,S,V,<-J,<-K,<-hQ,U,hz2,O,hs4,vq,oq,tq,gq,cj,aH]
   .simp[ae,hG,f208,cJ,y9.or,ah,aP,aS,ak,aD,Z,X,<-Y,cD,G,Z8,<-L,<-j,bZ,bS,cv,hs0,hs1,C,u,o,m,g1,M,F,H,S,V,<-J,<-K,<-hQ,U,hz2,O,hs4,vq,oq,tq,gq,cj,aH]
  .by_cases O:a<0
   .have hrl:¬0<R.length:=fun e=>cond 0 ⟨O,e⟩
    have abS :R=[]:=Mp (by omega);have hr0:r=0:=by rcases I with h | h<;>omega
    subst hr0;have U:¬2<=B.length:=fun e=>hz ⟨e,rfl⟩
    rw[abS] at N vr;have k1:lok 1000000000 []=true:=rfl;have k2:aW []=[]:=rfl;have h5e:∀a0 a1 a2 a3 a4 l,bd .u64 (a0::a1::a2::a3::a4::.cells true 1 []::l) (.slice 5 0 0 none)=some []:=fun a0 a1 a2 a3 a4 l=>hs5 (A:=[]) true a0 a1 a2 a3 a4 l
    simp[ae,hG,f208,cJ,y9.or,ah,aP,aS,ak,aD,Z,X,<-Y,cD,G,Z8,<-L,<-j,bZ,bS,cv,hs0,hs1,C,u,o,m,g1,M,F,H,S,V,<-J,<-K,<-hQ,<-N,U,hs4,h5e,k1,k2,vr,vq,oq,tq,gq,O,cj,aH]
   .simp[ae,hG,f208,cJ,y9.or,ah,aP,aS,ak,aD,Z,X,<-Y,cD,G,Z8,<-L,<-j,bZ,bS,cv,hs0,hs1,C,u,o,m,g1,M,F,H,S,V,<-J,<-K,<-hQ,<-N,hz,hs4,hs5,vq,oq,tq,gq,vr,or,tr,gr,O,cj,aH]
end Go.Proofs
namespace Go.Eng
open Classical in
theorem sG{β:Type}[Inhabited β]{p:Env->Bool->Prop}{q:Env->Bool->β->Prop}(h:∀e d,p e d->∃x,q e d x):∃F:Env->Bool->β,∀e d,p e d->q e d (F e d):=
 ⟨fun e d=>if Z:p e d then Classical.choose (h e d Z) else default,fun e d Z=>by simp only[dif_pos Z];exact Classical.choose_spec (h e d Z)⟩
theorem nY{α:Type}{f:XS->Option (Exit×XS)}{lv wr:List Nat}{I:Env}{J:Nat}(S:α->XS)(m:α->Nat)(Inv:α->Prop)(H:Exit) (d' :Bool)(Q:Env->Mem->Prop)(Y:H≠ .normal)
  (h:∀a,Inv a->(∃V U,f (S a)=some (.normal,U)/\jP lv wr I J U =S V /\Inv V /\m V <m a)\/(∃X Z,f (S a)=some (H,⟨X,Z,d'⟩)/\Q X Z)):
  ∀k a,Inv a->m a<k->∃X Z,fj lv wr I J f k (S a)=some (H,⟨X,Z,d'⟩)/\Q X Z
 |0,a,_,hk=>by omega
 |k+1,a,ha,hk=>by
  unfold fj;rcases h a ha with⟨V,U,R,O,h3,N⟩ | ⟨X,Z,R,h3⟩
  .rw[R]
   simp only[O];exact nY S m Inv H d' Q Y h k V h3 (by omega)
  .rw[R]
   refine⟨X,Z,?_,h3⟩;cases H<;>first | rfl | exact absurd rfl Y
theorem pL{β:Type}[Inhabited β]{T:TypeId->Option TyI}{lv:Code->List Nat}{O:y9}{K N m0:Nat}{tp:Bool}{b:Code}{L:List Nat}(J:lv b=L){mem:Mem}{e:Exit}(I:Env->Prop)(H:Env->Env->Mem->β->Prop)(h:∀Z d,I Z->∃V X,fj L (aa b) Z mem.length (aL T lv O K N m0 tp b) K ⟨an L (aa b) Z Z,mem,d⟩=some (e,⟨V,X,d⟩)/\∃x,H Z V X x):
  ∃F:Env->Bool->Env×Mem×β,∀Z d,I Z->aL T lv O K N m0 tp (.loop b) ⟨Z,mem,d⟩=some (e,⟨(F Z d).1,(F Z d).2.1,d⟩)/\H Z (F Z d).1 (F Z d).2.1 (F Z d).2.2:=by
 refine sG (β:=Env×Mem×β) (p:=fun Z _=>I Z) (q:=fun Z d x=>aL T lv O K N m0 tp (.loop b) ⟨Z,mem,d⟩=some (e,⟨x.1,x.2.1,d⟩)/\H Z x.1 x.2.1 x.2.2) ?_;intro Z d U;obtain⟨V,X,S,x,R⟩:=h Z d U;exact⟨(V,X,x),by rw[aM,J];exact S,R⟩
end Go.Eng
namespace Go.Proofs
open Go.Eng
open Tryz
def gM(A B:List Nat)(a b:Nat):Nat->Mem
 |2 | 3=>[.cells true 1 (iN .u64 A),.cells true 1 (iN .u64 B),.cells true 1 (iN .u64 (dig 1000000000 b))]
 |6=>[.cells true 1 (iN .u64 A),.cells true 1 (iN .u64 B),.cells true 1 (iN .u64 (dig 1000000000 a)),.cells true 1 (iN .u64 (dig 1000000000 b))]
 |7=>[.cells true 1 (iN .u64 A),.cells true 1 (iN .u64 B),.cells true 1 (iN .u64 (dig 1000000000 a))]
 |_=>[.cells true 1 (iN .u64 A),.cells true 1 (iN .u64 B)]
def gX(a:Nat):Nat->Nat
 |0 | 2 | 4=>0
 |1 | 3 | 5=>1
 |_=>2
def gY(b:Nat):Nat->AV
 |0=>.slice 1 0 (dig 1000000000 b).length none
 |1=>.slice 0 0 (dig 1000000000 b).length none
 |2 | 3=>.slice 2 0 (dig 1000000000 b).length none
 |6=>.slice 3 0 (dig 1000000000 b).length none
 |_=>.qF
def gI(x y:Nat)(a b:Nat):Nat->Prop
 |0=>a=x/\b=y
 |1=>a=y/\b=x/\b<a
 |2=>a=x/\b<a
 |3=>a=y/\b<a
 |4=>a=x/\b=0
 |5=>a=y/\b=0
 |6=>b<a
 |7=>b=0
 |_=>False
theorem Ze:List.idxOf? 2 [2,4]=some 0:=rfl
theorem Zf:List.idxOf? 4 [2,4]=some 1:=rfl
theorem Zl:List.idxOf? 3 [3,5]=some 0:=rfl
theorem Zm:List.idxOf? 5 [3,5]=some 1:=rfl
theorem bU{α:Type}{p q:α->Prop}{r:Prop}(hr:r)(h:∃s,p s/\q s):∃s,p s/\q s/\r:=let ⟨s,a,b⟩:=h;⟨s,a,b,hr⟩
def jZ(c:Code):List Nat:=if (aa c).contains 9 then [9,10] else [5,7]
variable{K:Nat}
theorem DN(x y:Nat)(hx:(dig 1000000000 x).length<=1000000)(hy:(dig 1000000000 y).length<=1000000){b0 b:Code}(hb:ag f140=[b0,b])(J:Env)(d:Bool)(s:Nat)(a c:Nat)(H:gI x y a c s)(I:(dig 1000000000 a).length<=1000000)(hc:(dig 1000000000 c).length<=1000000):
  (∃s' u o e',aL (aX prog) jZ cJ K 56 0 true b ⟨an [9,10] (aa b) J ((9,.slice (gX a s) 0 (dig 1000000000 a).length none)::(10,gY c s)::J),gM (dig 1000000000 x) (dig 1000000000 y) a c s,d⟩=some (.normal,e')/\
    jP [9,10] (aa b) J 2 e' =⟨an [9,10] (aa b) J ((9,.slice (gX u s') 0 (dig 1000000000 u).length none)::(10,gY o s')::J),gM (dig 1000000000 x) (dig 1000000000 y) u o s',d⟩/\
    gI x y u o s' /\u.gcd o =a.gcd c/\u <=max a c/\o <=max a c/\2*o +(if u <o then 1 else 0)<2*c+(if a<c then 1 else 0))\/
  (∃D',aL (aX prog) jZ cJ K 56 0 true b ⟨an [9,10] (aa b) J ((9,.slice (gX a s) 0 (dig 1000000000 a).length none)::(10,gY c s)::J),gM (dig 1000000000 x) (dig 1000000000 y) a c s,d⟩=some (.exit 2,⟨D',gM (dig 1000000000 x) (dig 1000000000 y) a c s,d⟩)/\ad D' 9=.slice (gX a s) 0 (dig 1000000000 a).length none/\c=0):=by
 simp[ag,aE,f140] at hb;obtain⟨rfl,rfl⟩:=hb;have R:lok 1000000000 (dig 1000000000 a)=true:=ca (by omega) _;have O:lok 1000000000 (dig 1000000000 c)=true:=ca (by omega) _;have N:aW (dig 1000000000 a)=dig 1000000000 a:=cm (by omega) _;have M:aW (dig 1000000000 c)=dig 1000000000 c:=cm (by omega) _;have L:ao 1000000000 (dig 1000000000 a)=a:=bL (by omega) _;have G:ao 1000000000 (dig 1000000000 c)=c:=bL (by omega) _;by_cases hc0:c=0
 .right
  subst hc0;have h0:dig 1000000000 0=[]:=dW _
  match s,H with
  |0,H=>simp[gM,gX,gY,h0]
  |1,H=>simp[gM,gX,gY,h0]
  |2,H=>simp[gM,gX,gY,h0]
  |3,H=>simp[gM,gX,gY,h0]
  |4,H=>simp[gM,gX,gY]
  |5,H=>simp[gM,gX,gY]
  |6,H=>simp[gM,gX,gY,h0]
  |7,H=>simp[gM,gX,gY]
  |s+8,H=>exact absurd H (by simp[gI])
 .left
  have X:0<c:=by omega
  have S:0<(dig 1000000000 c).length:=by
   rcases QQK (dig 1000000000 c).length with h | h
   .have:=(fC (B:=1000000000) (n:=c) (by omega)).1 (Mp h)
    omega
   .exact h
  have adn :dig 1000000000 c≠[]:=List.length_pos_iff.1 S;have F:c.gcd (a%c)=a.gcd c:=by rw[Nat.gcd_comm a c,Nat.gcd_rec c a,Nat.gcd_comm]
  have ZS:c.gcd a=a.gcd c:=Nat.gcd_comm _ _;have m:a%c<c:=Nat.mod_lt _ X;have abW:a<=max a c:=Nat.le_max_left _ _;have V:c<=max a c:=Nat.le_max_right _ _;have U:2*(a%c)+(if c<a%c then 1 else 0)<2*c+(if a<c then 1 else 0):=by rw[if_neg (by omega)];split<;>omega
  by_cases Z:a<c
  .have hs:s=0:=by
    match s,H with
    |0,_=>rfl
    |1,H=>exact absurd H.2.2 (by omega)
    |2,H=>exact absurd H.2 (by omega)
    |3,H=>exact absurd H.2 (by omega)
    |4,H=>exact absurd H.2 (by omega)
    |5,H=>exact absurd H.2 (by omega)
    |6,H=>exact absurd (show c<a from H) (by omega)
    |7,H=>exact absurd (show c=0 from H) (by omega)
    |s+8,H=>exact absurd H (by simp[gI])
   subst hs;obtain⟨rfl,rfl⟩:=H;refine⟨1,c,a,?_⟩;refine bU (show gI a c c a 1/\_/\_/\_/\_ from⟨⟨rfl,rfl,Z⟩,ZS,V,abW,by rw[if_neg (by omega),if_pos Z];omega⟩) ?_;simp[gM,gX,gY,cJ,y9.or,ah,aP,aS,ak,cD,bZ,bS,cv,hs0,hs1,R,O,N,M,L,G,I,X,Z,S]
  .by_cases j:2<=(dig 1000000000 c).length/\a%c=0
   .obtain⟨C,Y⟩:=j
    rw[Y] at F m U
    match s,H with
    |0,H=>
     obtain⟨rfl,rfl⟩:=H;refine⟨5,c,0,?_⟩;refine bU (show gI a c c 0 5/\_/\_/\_/\_ from⟨⟨rfl,rfl⟩,F,V,by omega,U⟩) ?_;simp[gM,gX,gY,cJ,y9.or,ah,aP,aS,ak,cD,bZ,bS,cv,hs0,hs1,R,O,N,M,L,G,I,X,Z,S,C,Y]
    |1,H=>
     obtain⟨rfl,rfl,h⟩:=H;refine⟨4,c,0,?_⟩;refine bU (show gI c a c 0 4/\_/\_/\_/\_ from⟨⟨rfl,rfl⟩,F,V,by omega,U⟩) ?_;simp[gM,gX,gY,cJ,y9.or,ah,aP,aS,ak,cD,bZ,bS,cv,hs0,hs1,R,O,N,M,L,G,I,X,Z,S,C,Y]
    |2,H=>
     obtain⟨rfl,h⟩:=H;refine⟨7,c,0,?_⟩;refine bU (show gI _ _ c 0 7/\_/\_/\_/\_ from⟨rfl,F,V,by omega,U⟩) ?_;simp[gM,gX,gY,cJ,y9.or,ah,aP,aS,ak,cD,bZ,bS,cv,hs0,hs2,R,O,N,M,L,G,I,X,Z,S,C,Y]
    |3,H=>
     obtain⟨rfl,h⟩:=H;refine⟨7,c,0,?_⟩;refine bU (show gI _ _ c 0 7/\_/\_/\_/\_ from⟨rfl,F,V,by omega,U⟩) ?_;simp[gM,gX,gY,cJ,y9.or,ah,aP,aS,ak,cD,bZ,bS,cv,hs1,hs2,R,O,N,M,L,G,I,X,Z,S,C,Y]
    |6,H=>
     refine⟨7,c,0,?_⟩;refine bU (show gI _ _ c 0 7/\_/\_/\_/\_ from⟨rfl,F,V,by omega,U⟩) ?_;simp[gM,gX,gY,cJ,y9.or,ah,aP,aS,ak,cD,bZ,bS,cv,hs2,hs3,R,O,N,M,L,G,I,X,Z,S,C,Y]
    |4,H=>exact absurd H.2 (by omega)
    |5,H=>exact absurd H.2 (by omega)
    |7,H=>exact absurd (show c=0 from H) (by omega)
    |s+8,H=>exact absurd H (by simp[gI])
   .match s,H with
    |0,H=>
     obtain⟨rfl,rfl⟩:=H;refine⟨3,c,a%c,?_⟩;refine bU (show gI a c c (a%c) 3/\_/\_/\_/\_ from⟨⟨rfl,m⟩,F,V,by omega,U⟩) ?_;simp[gM,gX,gY,cJ,y9.or,ah,aP,aS,ak,cD,bZ,bS,cv,hs0,hs1,R,O,N,M,L,G,I,X,Z,S,j]
    |1,H=>
     obtain⟨rfl,rfl,h⟩:=H;refine⟨2,c,a%c,?_⟩;refine bU (show gI c a c (a%c) 2/\_/\_/\_/\_ from⟨⟨rfl,m⟩,F,V,by omega,U⟩) ?_;simp[gM,gX,gY,cJ,y9.or,ah,aP,aS,ak,cD,bZ,bS,cv,hs0,hs1,R,O,N,M,L,G,I,X,Z,S,j]
    |2,H=>
     obtain⟨rfl,h⟩:=H;refine⟨6,c,a%c,?_⟩;refine bU (show gI _ _ c (a%c) 6/\_/\_/\_/\_ from⟨m,F,V,by omega,U⟩) ?_;simp[gM,gX,gY,cJ,y9.or,ah,aP,aS,ak,cD,bZ,bS,cv,hs0,hs2,R,O,N,M,L,G,I,X,Ze,Zf,Z,S,j]
    |3,H=>
     obtain⟨rfl,h⟩:=H;refine⟨6,c,a%c,?_⟩;refine bU (show gI _ _ c (a%c) 6/\_/\_/\_/\_ from⟨m,F,V,by omega,U⟩) ?_;simp[gM,gX,gY,cJ,y9.or,ah,aP,aS,ak,cD,bZ,bS,cv,hs1,hs2,R,O,N,M,L,G,I,X,Ze,Zf,Z,S,j]
    |6,H=>
     refine⟨6,c,a%c,?_⟩;refine bU (show gI _ _ c (a%c) 6/\_/\_/\_/\_ from⟨m,F,V,by omega,U⟩) ?_;simp[gM,gX,gY,cJ,y9.or,ah,aP,aS,ak,cD,bZ,bS,cv,hs2,hs3,R,O,N,M,L,G,I,X,Zl,Zm,Z,S,j]
    |4,H=>exact absurd H.2 (by omega)
    |5,H=>exact absurd H.2 (by omega)
    |7,H=>exact absurd (show c=0 from H) (by omega)
    |s+8,H=>exact absurd H (by simp[gI])
theorem lS{B a b:Nat}(H:2<=B)(h:a<=b):(dig B a).length<=(dig B b).length:=by
 rcases Nat.lt_or_ge (dig B b).length (dig B a).length with h1 | h1
 .have:=dU H h1;omega
 .exact h1
theorem Gh(x y:Nat)(I:(ai x).length<=1000000)(J:(ai y).length<=1000000)(hK:2*y+1<K){b0 b:Code}(H:ag f140=[b0,b]):
  ∃F:Env->Bool->Env×Mem×Nat,∀Z d,(ad Z 9=.slice 0 0 (dig 1000000000 x).length none/\ad Z 10=.slice 1 0 (dig 1000000000 y).length none)->
   aL (aX prog) jZ cJ K 56 0 true (.loop b) ⟨Z,[.cells true 1 (iN .u64 (dig 1000000000 x)),.cells true 1 (iN .u64 (dig 1000000000 y))],d⟩=some (.exit 2,⟨(F Z d).1,(F Z d).2.1,d⟩)/\
   (ad (F Z d).1 9=.slice (F Z d).2.2 0 (dig 1000000000 (x.gcd y)).length none/\bd .u64 (F Z d).2.1 (.slice (F Z d).2.2 0 (dig 1000000000 (x.gcd y)).length none)=some (dig 1000000000 (x.gcd y))):=by
 have M:jZ b=[9,10]:=by simp[ag,aE,f140] at H;obtain⟨rfl,rfl⟩:=H;decide
 refine pL (β:=Nat) M (fun Z=>ad Z 9=.slice 0 0 (dig 1000000000 x).length none/\ad Z 10=.slice 1 0 (dig 1000000000 y).length none)
  (fun Z V X k=>ad V 9=.slice k 0 (dig 1000000000 (x.gcd y)).length none/\bd .u64 X (.slice k 0 (dig 1000000000 (x.gcd y)).length none)=some (dig 1000000000 (x.gcd y))) ?_
 rintro Z d ⟨h9,h10⟩;have L:an [9,10] (aa b) Z ((9,.slice (gX x 0) 0 (dig 1000000000 x).length none)::(10,gY y 0)::Z)=an [9,10] (aa b) Z Z:=by simp[an,h9,h10,gX,gY]
 rw[<-L];have U:(dig 1000000000 x).length<=1000000:=by have:=di x;omega
 have S:(dig 1000000000 y).length<=1000000:=by have:=di y;omega
 have N:∀a,a<=max x y->(dig 1000000000 a).length<=1000000:=by
  intro a R;by_cases G:x<=y
  .have:=lS (B:=1000000000) (a:=a) (b:=y) (by omega) (by omega);omega
  .have:=lS (B:=1000000000) (a:=a) (b:=x) (by omega) (by omega);omega
 refine nY (α:=Nat×Nat×Nat) (fun s=>⟨an [9,10] (aa b) Z ((9,.slice (gX s.2.1 s.1) 0 (dig 1000000000 s.2.1).length none)::(10,gY s.2.2 s.1)::Z),gM (dig 1000000000 x) (dig 1000000000 y) s.2.1 s.2.2 s.1,d⟩)
  (fun s=>2*s.2.2+(if s.2.1<s.2.2 then 1 else 0)) (fun s=>gI x y s.2.1 s.2.2 s.1/\s.2.1.gcd s.2.2=x.gcd y/\s.2.1<=max x y/\s.2.2<=max x y) (.exit 2) d _ (by simp) ?_ K (0,x,y) ⟨⟨rfl,rfl⟩,rfl,Nat.le_max_left _ _,Nat.le_max_right _ _⟩ (by simp only;split<;>omega)
 rintro ⟨s,a,c⟩ ⟨hI,hg,R,hc⟩;simp only at hI hg R hc |-;rcases DN (K:=K) x y U S H Z d s a c hI (N a R) (N c hc) with⟨C,u,o,m,r1,r2,O,j,r5,r6,Y⟩ | ⟨V,r1,r2,O⟩
 .left
  exact⟨(C,u,o),m,r1,r2,⟨O,by rw[j,hg],by simp only;omega,by simp only;omega⟩,Y⟩
 .right
  refine⟨V,_,r1,gX a s,?_⟩;subst O;rw[Nat.gcd_zero_right] at hg;rw[<-hg];refine⟨r2,?_⟩
  match s,hI with
  |0,hI=>obtain⟨rfl,_⟩:=hI;exact hs0 true _
  |1,hI=>obtain⟨rfl,_⟩:=hI;exact hs1 true _ _
  |2,hI=>obtain⟨rfl,_⟩:=hI;exact hs0 true _
  |3,hI=>obtain⟨rfl,_⟩:=hI;exact hs1 true _ _
  |4,hI=>obtain⟨rfl,_⟩:=hI;exact hs0 true _
  |5,hI=>obtain⟨rfl,_⟩:=hI;exact hs1 true _ _
  |6,hI=>exact hs2 true _ _ _
  |7,hI=>exact hs2 true _ _ _
  |s+8,hI=>exact absurd hI (by simp[gI])
theorem DM{O:y9}(n m:Int)(I:m.natAbs<K){b0 b:Code}(H:ag f140=[b0,b]):
  ∃F:Env->Bool->Env,∀Z d,(ad Z 5=.int .i64 n/\ad Z 7=.int .i64 m)->
   aL (aX prog) jZ O K 56 0 true (.loop b0) ⟨Z,[],d⟩=some (.exit 0,⟨F Z d,[],d⟩)/\(∃g:Int,ad (F Z d) 5=.int .i64 g/\g.natAbs=n.natAbs.gcd m.natAbs):=by
 have V:jZ b0=[5,7]:=by simp[ag,aE,f140] at H;obtain⟨rfl,rfl⟩:=H;decide
 refine bj V (fun Z=>ad Z 5=.int .i64 n/\ad Z 7=.int .i64 m) (fun _ U =>∃g:Int,ad U 5=.int .i64 g/\g.natAbs=n.natAbs.gcd m.natAbs) ?_;rintro Z d ⟨h5,h7⟩;have S:an [5,7] (aa b0) Z ((5,.int .i64 n)::(7,.int .i64 m)::Z)=an [5,7] (aa b0) Z Z:=by simp[an,h5,h7]
 rw[<-S];refine bI (α:=Int×Int) (fun s=>⟨an [5,7] (aa b0) Z ((5,.int .i64 s.1)::(7,.int .i64 s.2)::Z),[],d⟩) (fun s=>s.2.natAbs) (fun s=>s.1.natAbs.gcd s.2.natAbs=n.natAbs.gcd m.natAbs) (.exit 0) _ d _ (by simp) ?_ K (n,m) rfl I;rintro ⟨x,y⟩ hg;simp only at hg |-;simp[ag,aE,f140] at H;obtain⟨rfl,rfl⟩:=H;by_cases X:y=0
 .right
  subst X;simp only[Int.natAbs_zero,Nat.gcd_zero_right] at hg;simp[hg]
 .left
  have R:(x.tmod y).natAbs<y.natAbs:=by rw[Int.natAbs_tmod];exact Nat.mod_lt _ (by omega)
  refine⟨(y,x.tmod y),?_⟩;refine bt (show y.natAbs.gcd (x.tmod y).natAbs=n.natAbs.gcd m.natAbs/\_ from⟨by rw[Int.natAbs_tmod,<-hg,Nat.gcd_comm x.natAbs,Nat.gcd_rec y.natAbs x.natAbs,Nat.gcd_comm],R⟩) ?_;simp[X]
theorem P5(a b:Int)(ha:(ai a.natAbs).length<=100000)(hb:(ai b.natAbs).length<=100000)(mem:Mem):
  kO prog 140 [.str (bF a),.str (bF b)] mem (.str (ai (a.natAbs.gcd b.natAbs))) mem:=by
 have L:aZ prog 140=some f140:=by kernel_rfl
 refine dc pg (lv:=jZ) (K:=2*b.natAbs+2) rfl rfl ?_ mem;obtain⟨b0,b1,Z⟩:∃b0 b1,ag f140=[b0,b1]:=⟨_,_,rfl⟩
 have la:=dj a;have lb:=dj b;have X:(bF a).length<=1000000000:=by omega
 have R:(bF b).length<=1000000000:=by omega
 by_cases C:(bF a).length<=18/\(bF b).length<=18
 .have M:((bF a).length:Int)<=18:=by omega
  have u:((bF b).length:Int)<=18:=by omega
  have s1:=kf C.1;have s2:=kf C.2;obtain⟨F,V⟩:=DM (O:=cJ) (K:=2*b.natAbs+2) a b (by omega) Z;obtain⟨G,N⟩:=sG (β:=Int) (p:=fun U _=>ad U 5=.int .i64 a/\ad U 7=.int .i64 b) (q:=fun U d g=>ad (F U d) 5=.int .i64 g/\g.natAbs=a.natAbs.gcd b.natAbs) (fun U d h=>(V U d h).2);have o:a.natAbs.gcd b.natAbs<10 ^ 18:=by
   by_cases m:a.natAbs=0
   .rw[m,Nat.gcd_zero_left];exact s2
   .exact Nat.lt_of_le_of_lt (Nat.gcd_le_left _ (by omega)) s1
  obtain⟨g,S⟩:=xE (a.natAbs.gcd b.natAbs);rw[<-S] at o N |-;have w1:∀z:Int,z.natAbs=g->IntKind.i64.wrap (-z)= -z:=fun z hz=>af
  have w2:∀z:Int,z.natAbs=g->(if z< -z then -z else z)=(g:Int):=fun z hz=>by split<;>omega
  have hf:dY (g:Int)=true:=by unfold dY;simp;omega
  have j:bF (g:Int)=ai g:=rfl;simp[ag,aE,f140] at Z;obtain⟨rfl,rfl⟩:=Z;simp[ae,L,f140,cJ,y9.or,ah,aP,aD,X,R,M,u,V,N,w1,w2,hf,j]
 .have da:=di a.natAbs
  have db:=di b.natAbs;have Y:(ai a.natAbs).length<=1000000:=by omega
  have J:(ai b.natAbs).length<=1000000:=by omega
  obtain⟨F,V⟩:=Gh (K:=2*b.natAbs+2) a.natAbs b.natAbs Y J (by omega) Z;obtain⟨g,S⟩:=xE (a.natAbs.gcd b.natAbs);have I:lok 1000000000 (dig 1000000000 g)=true:=ca (by omega) _;have H:aW (dig 1000000000 g)=dig 1000000000 g:=cm (by omega) _;have vg:ao 1000000000 (dig 1000000000 g)=g:=bL (by omega) _;have gg:(dig 1000000000 g).length<=1000000:=by
   have h1:=di g;by_cases m:a.natAbs=0
   .rw[m,Nat.gcd_zero_left] at S
    rw[S] at h1 |-;omega
   .have h2:=bB (show g<=a.natAbs by rw[S];exact Nat.gcd_le_left _ (by omega))
    omega
  rw[<-S] at V |-;obtain⟨A,hA⟩:=xE (dig 1000000000 a.natAbs);obtain⟨B,hB⟩:=xE (dig 1000000000 b.natAbs);obtain⟨D,hD⟩:=xE (dig 1000000000 g);rw[<-hA,<-hB,<-hD] at V;rw[<-hD] at I H vg gg;simp[ag,aE,f140] at Z;obtain⟨rfl,rfl⟩:=Z;by_cases M:((bF a).length:Int)<=18
  .have u:¬((bF b).length:Int)<=18:=fun e=>C (by omega)
   simp[ae,L,f140,cJ,y9.or,ah,aP,aS,ak,aD,X,R,M,u,cD,Y,J,<-hA,<-hB,V,cj,aH,I,H,vg,gg,mI]
  .simp[ae,L,f140,cJ,y9.or,ah,aP,aS,ak,aD,X,M,cD,Y,J,<-hA,<-hB,V,cj,aH,I,H,vg,gg,mI]
end Go.Proofs
