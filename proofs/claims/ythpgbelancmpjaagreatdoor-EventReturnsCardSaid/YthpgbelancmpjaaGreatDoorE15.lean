/- See E54. -/
import Derived.Test.YthpgbelancmpjaaGreatDoorE14
set_option linter.all false
set_option maxRecDepth 100000
set_option maxHeartbeats 40000000
namespace Go.Proofs
open Go.Eng
open Tryz
def iK(mn:Bool)(v:Nat):List UInt8:=if v=0 then [48] else if mn then 45::au v else au v
theorem kK(z:Int):iK (decide (z<0)) z.natAbs=bL z:=by
 unfold iK;by_cases Z:z=0
 ·subst Z;rfl
 ·rw[if_neg (by omega)]
  by_cases h:z<0
  ·rw[decide_eq_true h,if_pos rfl]
   have:=lQ (n:= -z) (by omega);rw[Int.neg_neg] at this;rw[this,jf (by omega),Int.natAbs_neg]
  ·rw[decide_eq_false h,if_neg (by simp),jf (by omega)]
variable{XO body:Code}{ps:Array Tmp}
section
variable (v:Nat)(mn:Bool)(hv:0<v)(hl:(dig 1000000000 v).length≤1000000)(hb:dZ f212=[(ps,XO,body)])
include v mn hv hl hb
theorem wU:
  ∃O:y9,qS prog O∧∀Z,(ad Z 1=.ptr 1 0∧ad Z 3=.ptr 2 0∧Z.flatMap (fun e=>e.2.refs 5)=[])→
   O (.fn 279) [.yield 4,.ptr 3 0] [.cells false 1 (iN .u64 (dig 1000000000 v)),.cells true 0 [.bool mn,.slice 0 0 (dig 1000000000 v).length none],.cells true aM [.aet,.qF],.cells true 0 [.slice 0 0 (dig 1000000000 v).length none],.loop ⟨.ready,none,Z,34,ps,XO,body⟩]=some ⟨.tuple [],some [.cells false 1 (iN .u64 (dig 1000000000 v)),.cells true 0 [.bool mn,.slice 0 0 (dig 1000000000 v).length none],.cells true aM [.ptr 2 0,.slice 5 0 (au v).length none],.cells true 0 [.slice 0 0 (dig 1000000000 v).length none],.loop ⟨.ready,none,Z,34,ps,XO,body⟩],[.cells true 6001 (iB (au v))]⟩:=by
 refine iV (ι:=Env) (fun Z=>ad Z 1=.ptr 1 0∧ad Z 3=.ptr 2 0∧Z.flatMap (fun e=>e.2.refs 5)=[]) (fun _=>.fn 279) (fun _=>[.yield 4,.ptr 3 0]) (fun Z=>[.cells false 1 (iN .u64 (dig 1000000000 v)),.cells true 0 [.bool mn,.slice 0 0 (dig 1000000000 v).length none],.cells true aM [.aet,.qF],.cells true 0 [.slice 0 0 (dig 1000000000 v).length none],.loop ⟨.ready,none,Z,34,ps,XO,body⟩]) (fun Z=>⟨.tuple [],some [.cells false 1 (iN .u64 (dig 1000000000 v)),.cells true 0 [.bool mn,.slice 0 0 (dig 1000000000 v).length none],.cells true aM [.ptr 2 0,.slice 5 0 (au v).length none],.cells true 0 [.slice 0 0 (dig 1000000000 v).length none],.loop ⟨.ready,none,Z,34,ps,XO,body⟩],[.cells true 6001 (iB (au v))]⟩) ?_ ?_
 ·rintro Z ⟨h1,h3,he⟩
  refine⟨?_,fun q X=>by cases X;rfl⟩;exact zi v mn hv hl hb Z h1 h3 he
 ·intro i j _ _ _ _ h
  simp only[List.cons.injEq,aek.loop.injEq,afk.mk.injEq,and_true,true_and] at h;rw[h]
theorem uU:
  ∃O:y9,qS prog O∧∀Z,(ad Z 1=.ptr 1 0∧ad Z 3=.ptr 2 0∧Z.flatMap (fun e=>e.2.refs 7)=[])→
   O (.fn 279) [.yield 6,.ptr 5 0] [.cells false 1 (iN .u64 (dig 1000000000 v)),.cells true 0 [.bool mn,.slice 0 0 (dig 1000000000 v).length none],.cells true aM [.ptr 2 0,.slice 4 0 1 none],.cells true 1 (iB [45]),.cells true 6001 (iB [45]),.cells true 0 [.slice 0 0 (dig 1000000000 v).length none],.loop ⟨.ready,none,Z,34,ps,XO,body⟩]=some ⟨.tuple [],some [.cells false 1 (iN .u64 (dig 1000000000 v)),.cells true 0 [.bool mn,.slice 0 0 (dig 1000000000 v).length none],.cells true aM [.ptr 2 0,.slice 7 0 (45::au v).length none],.cells true 1 (iB [45]),.qK,.cells true 0 [.slice 0 0 (dig 1000000000 v).length none],.loop ⟨.ready,none,Z,34,ps,XO,body⟩],[.cells true 6001 (iB (45::au v))]⟩:=by
 refine iV (ι:=Env) (fun Z=>ad Z 1=.ptr 1 0∧ad Z 3=.ptr 2 0∧Z.flatMap (fun e=>e.2.refs 7)=[]) (fun _=>.fn 279) (fun _=>[.yield 6,.ptr 5 0]) (fun Z=>[.cells false 1 (iN .u64 (dig 1000000000 v)),.cells true 0 [.bool mn,.slice 0 0 (dig 1000000000 v).length none],.cells true aM [.ptr 2 0,.slice 4 0 1 none],.cells true 1 (iB [45]),.cells true 6001 (iB [45]),.cells true 0 [.slice 0 0 (dig 1000000000 v).length none],.loop ⟨.ready,none,Z,34,ps,XO,body⟩]) (fun Z=>⟨.tuple [],some [.cells false 1 (iN .u64 (dig 1000000000 v)),.cells true 0 [.bool mn,.slice 0 0 (dig 1000000000 v).length none],.cells true aM [.ptr 2 0,.slice 7 0 (45::au v).length none],.cells true 1 (iB [45]),.qK,.cells true 0 [.slice 0 0 (dig 1000000000 v).length none],.loop ⟨.ready,none,Z,34,ps,XO,body⟩],[.cells true 6001 (iB (45::au v))]⟩) ?_ ?_
 ·rintro Z ⟨h1,h3,he⟩
  refine⟨?_,fun q X=>by cases X;rfl⟩;exact wV v mn hv hl hb Z h1 h3 he
 ·intro i j _ _ _ _ h
  simp only[List.cons.injEq,aek.loop.injEq,afk.mk.injEq,and_true,true_and] at h;rw[h]
end
theorem afS:aT prog 212=some f212:=by kernel_rfl
theorem CI(v:Nat)(mn:Bool)(H:0<v)(I:(dig 1000000000 v).length≤1000000):
  ∃O:y9,qS prog O∧aa (aV prog) (fun _=>[]) (aT prog) ((bF.or fP).or O) 1 212 [.agg [.bool mn,.slice 0 0 (dig 1000000000 v).length none]] [.cells false 1 (iN .u64 (dig 1000000000 v))]=
   some ⟨.str (if mn then 45::au v else au v),some [.cells false 1 (iN .u64 (dig 1000000000 v))],[]⟩:=by
 obtain⟨ps,XO,body,S⟩:∃ps XO body,dZ f212=[(ps,XO,body)]:=⟨_,_,_,rfl⟩
 have R:dig 1000000000 v≠[]:=by rw[ne_eq,sk (by omega)];omega
 have D:(au v).length≤90000000:=by
  have M:=iy (cR (B:=1000000000) (by omega) v);rw[ct (by omega)] at M;have C:(1000000000:Nat) ^ (dig 1000000000 v).length=10 ^ (9*(dig 1000000000 v).length):=by rw[Nat.pow_mul]
  rw[C] at M;have h3:=List.length_pos_iff.2 R;have u:=aI (by omega) M;omega
 have N:=iS v;cases mn with
 |false=>
  obtain⟨O,L,Z⟩:=wU v false H I S;refine⟨O,L,?_⟩;obtain⟨A,V⟩:=xE (dig 1000000000 v);obtain⟨t,X⟩:=xE (au v);rw[←V] at R;rw[←V,←X] at Z;rw[←V];rw[←X] at D N;simp only[Bool.false_eq_true,if_false,←X];have U:¬A.length=0:=fun e=>R (List.eq_nil_of_length_eq_zero e)
  have K:t.length≤100000000:=by omega
  simp[dZ,fH,f212] at S;obtain⟨rfl,rfl,rfl⟩:=S;simp[aa,afS,f212,y9.or,bF,bQ,bS,bN,fP,ag,bC,an,U,uv,Z,yD,jE,K,N]
 |true=>
  obtain⟨O,L,Z⟩:=uU v true H I S;refine⟨O,L,?_⟩;obtain⟨A,V⟩:=xE (dig 1000000000 v);obtain⟨t,X⟩:=xE (45::au v);have G :t.length≤100000000:=by rw[X,List.length_cons];omega
  have F :t≠[]:=by rw[X];simp
  rw[←V] at R;rw[←V,←X] at Z;rw[←V];simp only[if_true,←X];have U:¬A.length=0:=fun e=>R (List.eq_nil_of_length_eq_zero e)
  simp[dZ,fH,f212] at S;obtain⟨rfl,rfl,rfl⟩:=S;simp[aa,afS,f212,y9.or,bF,bQ,bS,bN,fP,ag,bC,an,U,uv,Z,yD,jE,G,F]
theorem Ay(mn:Bool):aa (aV prog) (fun _=>[]) (aT prog) cu 1 212 [.agg [.bool mn,.slice 0 0 0 none]] [.cells false 1 []]=some ⟨.str [48],none,[]⟩:=by simp[aa,afS,f212]
theorem Cu(mn:Bool)(M:Mem):kO prog 212 [.agg [.bool mn,.qF]] M (.str [48]) M:=by refine ak (az _) ?_ M;simp[aa,afS,f212]
variable{A:List Nat}
theorem Gz{M:Mem}{x:AV}(mn:Bool)(H:lok 1000000000 A=true)(tA:bD A=A)(I:A.length≤1000000)(J:aev .u64 M x A):
  kO prog 212 [.agg [.bool mn,x]] M (.str (iK mn (aF 1000000000 A))) M:=by
 obtain⟨b,o,N,rfl,X,U⟩:=J;have S:=gL X;have small:kO prog 212 [.agg [.bool mn,.slice 0 0 A.length none]] [.cells false 1 (iN .u64 A)] (.str (iK mn (aF 1000000000 A))) ([.cells false 1 (iN .u64 A)]++[]):=by
  by_cases V:aF 1000000000 A=0
  ·have e:A=[]:=by have:=zW (by omega) H tA;rw[V,eF] at this;exact this.symm
   subst e;have:=(aq ai (aO _) (az _) (aR _) (Ay mn)).1;simpa [aee.mem,iK,aF] using this
  ·have e:=zW (by omega) H tA
   obtain⟨O,R,h⟩:=CI (aF 1000000000 A) mn (by omega) (by rw[e];exact I);rw[e] at h;have:=(aq ai (aO _) ((qg.or yh).or R) (aR _) h).1;simpa [aee.mem,iK,V] using this
 have:=kO.frame (M:=M) [b] (m:=[.cells false 1 (iN .u64 A)]) rfl (by simpa using S) (by simp) (fun i s Z=>by
  cases i with
  |zero=>simp at Z;subst Z;exact .row X U
  |succ i=>simp at Z) rfl small
 simpa [AV.aez,AV.ren,fq] using this
noncomputable def bT:y9:=fun c Z M=>match c,Z with
 |.fn 212,[.agg [.bool mn,.qF]]=>some ⟨.str (iK mn 0),none,[]⟩
 |.fn 212,[.agg [.bool mn,x]]=>match bP .u64 M x with
  |some A=>if lok 1000000000 A=true∧bD A=A∧A.length≤1000000 then some ⟨.str (iK mn (aF 1000000000 A)),none,[]⟩ else none
  |none=>none
 |.fn 210,[.str s]=>match lh s with
  |some z=>if (au z.natAbs).length≤1000000 then some ⟨.agg [.bool (decide (z<0)),.slice M.length 0 (dig 1000000000 z.natAbs).length none],none,[.cells true 1 (iN .u64 (dig 1000000000 z.natAbs))]⟩ else none
  |none=>none
 |c,Z=>bF c Z M
theorem Hf:qS prog bT:=by
 refine cq fun c Z M r h=>?_
 unfold bT at h;split at h
 ·cases h
  refine aC ?_;rw[List.append_nil];exact Cu _ M
 ·split at h
  ·rename_i X
   split at h
   ·rename_i V
    obtain⟨U,S,R⟩:=V;cases h;refine aC ?_;rw[List.append_nil];exact Gz _ U S R (bU X)
   ·cases h
  ·cases h
 ·split at h
  ·rename_i O
   split at h
   ·rename_i N
    cases h;rw[cL O];exact aC (Lz _ N M)
   ·cases h
  ·cases h
 ·exact eW qg h
theorem cG(n:Nat):(dig 1000000000 n).length≤(au n).length:=by
 obtain⟨X,Z,U⟩:=kJ _ (au n) (Nat.le_refl _) (dC _);rw[dJ] at Z;have V:bD (ia (au n))=dig 1000000000 n:=by rw[←fM (by omega) X,Z]
 have:=dw (ia (au n));rw[V] at this;omega
variable{a b k:Nat}
section
variable (ha:(au a).length≤k)(hb:(au b).length≤k)
include ha hb
theorem rA:(au (a+b)).length≤k+1:=by have Z:=cm a;have X:=cm b;have h3:10 ^ (au a).length≤10 ^ k:=Nat.pow_le_pow_right (by omega) ha;have V:10 ^ (au b).length≤10 ^ k:=Nat.pow_le_pow_right (by omega) hb;refine aI (by omega) ?_;rw[Nat.pow_succ];omega
theorem iQ:(au (a*b)).length≤2*k:=by have Z:=cm a;have X:=cm b;have h3:10 ^ (au a).length≤10 ^ k:=Nat.pow_le_pow_right (by omega) ha;have V:10 ^ (au b).length≤10 ^ k:=Nat.pow_le_pow_right (by omega) hb;have:=oY a;exact aI (by omega) (kv (by omega) (by omega))
end
theorem cV(h:a≤b):(au a).length≤(au b).length:=by have:=cm b;exact aI (oY b) (by omega)
theorem Kt(n:Int):(au n.natAbs).length≤(bL n).length:=by
 cases n with
 |ofNat u=>exact Nat.le_refl _
 |negSucc u=>simp[bL]
theorem iD{n:Int}(h:(bL n).length≤k):n.natAbs<10 ^ k:=by have Z:=cm n.natAbs;have X:=Kt n;have h3:10 ^ (au n.natAbs).length≤10 ^ k:=Nat.pow_le_pow_right (by omega) (by omega);omega
noncomputable def aN(f:FuncId)(args:List AV):Option AV:=
 match f,args with
 |209,[.str s,.int .i64 m]=>match lh s with
  |some n=>if m≤18∧s.length≤1000000000 then some (if (s.length:Int)≤m then .tuple [.int .i64 n,.bool true] else .tuple [.int .i64 0,.bool false]) else none
  |none=>none
 |143,[.int .i64 n]=>if dG n then some (.str (bL n)) else none
 |205,[.str s]=>match lh s with
  |some n=>if s.length≤1000000000 then some (.str (bL (-n))) else none
  |none=>none
 |139,[.str s,.str t]=>match lh s,lh t with
  |some m,some n=>some (.int .i64 (JZ m n))
  |_,_=>none
 |f,args=>aP f args
theorem yk:qS prog (ag aN):=bM fun f V v h mem=>by
 unfold aN at h;split at h
 ·split at h
  ·rename_i n X
   split at h
   ·rename_i Z
    cases h;rw[cL X] at Z ⊢;exact LC n _ Z.1 Z.2 mem
   ·cases h
  ·cases h
 ·split at h
  next Z=>cases h;exact Tl _ Z mem
  ·cases h
 ·split at h
  ·rename_i n X
   split at h
   ·rename_i Z
    cases h;rw[cL X] at Z ⊢;exact QJ n Z mem
   ·cases h
  ·cases h
 ·split at h
  ·rename_i m n U X
   cases h;rw[cL U,cL X];exact Cv m n mem
  ·cases h
 ·have:=qL.fn _ _ mem ⟨v,none,[]⟩ (by unfold ag;simp only;rw[h])
  simpa [aee.mem] using this
noncomputable def bV:y9:=fun c Z M=>((ag aN).or bT) c Z M
theorem oB:qS prog bV:=yk.or Hf
section
variable (ow:Bool)
include ow
theorem hs0(l:Mem):bP .u64 (.cells ow 1 (iN .u64 A)::l) (.slice 0 0 A.length none)=some A:=bz rfl (by simp) (List.take_of_length_le (by simp))
theorem hs1(H:aek)(l:Mem):bP .u64 (H::.cells ow 1 (iN .u64 A)::l) (.slice 1 0 A.length none)=some A:=bz rfl (by simp) (List.take_of_length_le (by simp))
theorem hs2(H I:aek)(l:Mem):bP .u64 (H::I::.cells ow 1 (iN .u64 A)::l) (.slice 2 0 A.length none)=some A:=bz rfl (by simp) (List.take_of_length_le (by simp))
theorem hs3(H I J:aek)(l:Mem):bP .u64 (H::I::J::.cells ow 1 (iN .u64 A)::l) (.slice 3 0 A.length none)=some A:=bz rfl (by simp) (List.take_of_length_le (by simp))
theorem hs4(H I J W:aek)(l:Mem):bP .u64 (H::I::J::W::.cells ow 1 (iN .u64 A)::l) (.slice 4 0 A.length none)=some A:=bz rfl (by simp) (List.take_of_length_le (by simp))
theorem hs5(H I J W Y:aek)(l:Mem):bP .u64 (H::I::J::W::Y::.cells ow 1 (iN .u64 A)::l) (.slice 5 0 A.length none)=some A:=bz rfl (by simp) (List.take_of_length_le (by simp))
end
theorem OB(a b:Int)(ha:(au a.natAbs).length≤100000)(hb:(au b.natAbs).length≤100000)(mem:Mem):kO prog 204 [.str (bL a),.str (bL b)] mem (.str (bL (a+b))) mem:=by
 have C:aT prog 204=some f204:=by kernel_rfl
 refine ak oB ?_ mem;have la:=cj a;have lb:=cj b;have V:(bL a).length≤1000000000:=by omega
 have R:(bL b).length≤1000000000:=by omega
 by_cases hq:(bL a).length≤18∧(bL b).length≤18
 ·have U:((bL a).length:Int)≤18:=by omega
  have u:((bL b).length:Int)≤18:=by omega
  have s1:=iD hq.1;have s2:=iD hq.2;have w1:IntKind.i64.wrap (a+b)=a+b:=af;have hf:dG (a+b)=true:=by unfold dG;simp;omega
  simp[aa,C,f204,bV,y9.or,ag,aN,aU,V,R,U,u,w1,hf]
 ·have da:=cG a.natAbs
  have db:=cG b.natAbs;have I:(au a.natAbs).length≤1000000:=by omega
  have H:(au b.natAbs).length≤1000000:=by omega
  have sum:=rA ha hb;have ds:=cG (a.natAbs+b.natAbs);have o:aF 1000000000 (dig 1000000000 a.natAbs)=a.natAbs:=ct (by omega) _;have j:aF 1000000000 (dig 1000000000 b.natAbs)=b.natAbs:=ct (by omega) _;have Y:lok 1000000000 (dig 1000000000 a.natAbs)=true:=cR (by omega) _;have W:lok 1000000000 (dig 1000000000 b.natAbs)=true:=cR (by omega) _;have ta:bD (dig 1000000000 a.natAbs)=dig 1000000000 a.natAbs:=dv (by omega) _;have tb:bD (dig 1000000000 b.natAbs)=dig 1000000000 b.natAbs:=dv (by omega) _;obtain⟨A,O⟩:=xE (dig 1000000000 a.natAbs);obtain⟨B,N⟩:=xE (dig 1000000000 b.natAbs);rw[←O] at da o Y ta;rw[←N] at db j W tb;have g1:A.length≤100000000:=by omega
  have g2:B.length≤100000000:=by omega
  have g3:A.length≤1000000000:=by omega
  have g4:B.length≤1000000000:=by omega
  by_cases M:(decide (a<0))=(decide (b<0))
  ·obtain⟨S,hS⟩:=xE (dig 1000000000 (a.natAbs+b.natAbs))
   have L:aF 1000000000 S=a.natAbs+b.natAbs:=by rw[hS];exact ct (by omega) _
   have K:lok 1000000000 S=true:=by rw[hS];exact cR (by omega) _
   have G:bD S=S:=by rw[hS];exact dv (by omega) _
   have F:S.length≤1000000:=by rw[hS];omega
   have D:iK (decide (a<0)) (a.natAbs+b.natAbs)=bL (a+b):=by
    rw[←kK (a+b)];have:(a+b).natAbs=a.natAbs+b.natAbs:=by by_cases Z:a<0<;>by_cases X:b<0<;>simp[Z,X] at M<;>omega
    rw[this];by_cases Z:a<0<;>by_cases X:b<0<;>simp[Z,X] at M
    ·rw[decide_eq_true Z,decide_eq_true (by omega)]
    ·rw[decide_eq_false Z,decide_eq_false (by omega)]
   have J :(decide (a<0)==decide (b<0))=true:=by rw[M];simp
   by_cases U:((bL a).length:Int)≤18
   ·have u:¬((bL b).length:Int)≤18:=fun e=>hq (by omega)
    simp[aa,C,f204,bV,y9.or,ag,aN,aP,an,aU,V,R,U,u,bT,I,H,←O,←N,bF,bC,bQ,bS,bN,hs0,hs1,Y,W,g1,g2,o,j,←hS,bJ,aD,hs4,K,G,F,L,J,D,Nat.testBit]
   ·simp[aa,C,f204,bV,y9.or,ag,aN,aP,an,aU,V,U,bT,I,H,←O,←N,bF,bC,bQ,bS,bN,hs0,hs1,Y,W,g1,g2,o,j,←hS,bJ,aD,hs4,K,G,F,L,J,D,Nat.testBit]
  ·have J :(decide (a<0)==decide (b<0))=false:=by cases Z:decide (a<0)<;>cases X:decide (b<0)<;>simp[Z,X] at M ⊢
   by_cases FS:a.natAbs<b.natAbs
   ·have hc:jG a.natAbs b.natAbs= -1:=by unfold jG;rw[if_pos FS]
    obtain⟨S,hS⟩:=xE (dig 1000000000 (b.natAbs-a.natAbs));have L:aF 1000000000 S=b.natAbs-a.natAbs:=by rw[hS];exact ct (by omega) _
    have K:lok 1000000000 S=true:=by rw[hS];exact cR (by omega) _
    have G:bD S=S:=by rw[hS];exact dv (by omega) _
    have F:S.length≤1000000:=by rw[hS];have Z:=cG (b.natAbs-a.natAbs);have X:=cV (show b.natAbs-a.natAbs≤b.natAbs by omega);omega
    have g6:A.length≤B.length:=by
     rcases Nat.lt_or_ge B.length A.length with h | h
     ·have:=ez (B:=1000000000) (m:=b.natAbs) (n:=a.natAbs) (by omega) (by rw[←O,←N];exact h)
      omega
     ·exact h
    have g7:a.natAbs≤b.natAbs:=by omega
    have D:iK (decide (b<0)) (b.natAbs-a.natAbs)=bL (a+b):=by
     rw[←kK (a+b)];have h0:(a+b).natAbs=b.natAbs-a.natAbs:=by by_cases Z:a<0<;>by_cases X:b<0<;>simp[Z,X] at M<;>omega
     rw[h0];by_cases Z:a<0<;>by_cases X:b<0<;>simp[Z,X] at M
     ·rw[decide_eq_false X,decide_eq_false (by omega)]
     ·rw[decide_eq_true X,decide_eq_true (by omega)]
    by_cases U:((bL a).length:Int)≤18
    ·have u:¬((bL b).length:Int)≤18:=fun e=>hq (by omega)
     simp[aa,C,f204,bV,y9.or,ag,aN,aP,an,aU,V,R,U,u,bT,I,H,←O,←N,bF,bC,bQ,bS,bN,bB,hs0,hs1,Y,W,ta,tb,g2,g3,o,j,hc,g6,g7,←hS,bJ,aD,hs4,K,G,F,L,J,D,Nat.testBit]
    ·simp[aa,C,f204,bV,y9.or,ag,aN,aP,an,aU,V,U,bT,I,H,←O,←N,bF,bC,bQ,bS,bN,bB,hs0,hs1,Y,W,ta,tb,g2,g3,o,j,hc,g6,g7,←hS,bJ,aD,hs4,K,G,F,L,J,D,Nat.testBit]
   ·have hc:¬jG a.natAbs b.natAbs<0:=by unfold jG;rw[if_neg FS];split<;>omega
    obtain⟨S,hS⟩:=xE (dig 1000000000 (a.natAbs-b.natAbs));have L:aF 1000000000 S=a.natAbs-b.natAbs:=by rw[hS];exact ct (by omega) _
    have K:lok 1000000000 S=true:=by rw[hS];exact cR (by omega) _
    have G:bD S=S:=by rw[hS];exact dv (by omega) _
    have F:S.length≤1000000:=by rw[hS];have Z:=cG (a.natAbs-b.natAbs);have X:=cV (show a.natAbs-b.natAbs≤a.natAbs by omega);omega
    have g6:B.length≤A.length:=by
     rcases Nat.lt_or_ge A.length B.length with h | h
     ·have:=ez (B:=1000000000) (m:=a.natAbs) (n:=b.natAbs) (by omega) (by rw[←O,←N];exact h)
      omega
     ·exact h
    have g7:b.natAbs≤a.natAbs:=by omega
    have D:iK (decide (a<0)) (a.natAbs-b.natAbs)=bL (a+b):=by
     rw[←kK (a+b)];have h0:(a+b).natAbs=a.natAbs-b.natAbs:=by by_cases Z:a<0<;>by_cases X:b<0<;>simp[Z,X] at M<;>omega
     rw[h0];by_cases hz:a.natAbs-b.natAbs=0
     ·unfold iK;rw[if_pos hz,if_pos hz]
     by_cases Z:a<0<;>by_cases X:b<0<;>simp[Z,X] at M
     ·rw[decide_eq_true Z,decide_eq_true (by omega)]
     ·rw[decide_eq_false Z,decide_eq_false (by omega)]
    by_cases U:((bL a).length:Int)≤18
    ·have u:¬((bL b).length:Int)≤18:=fun e=>hq (by omega)
     simp[aa,C,f204,bV,y9.or,ag,aN,aP,an,aU,V,R,U,u,bT,I,H,←O,←N,bF,bC,bQ,bS,bN,bB,hs0,hs1,Y,W,ta,tb,g1,g3,o,j,hc,g6,g7,←hS,bJ,aD,hs4,K,G,F,L,J,D,Nat.testBit]
    ·simp[aa,C,f204,bV,y9.or,ag,aN,aP,an,aU,V,U,bT,I,H,←O,←N,bF,bC,bQ,bS,bN,bB,hs0,hs1,Y,W,ta,tb,g1,g3,o,j,hc,g6,g7,←hS,bJ,aD,hs4,K,G,F,L,J,D,Nat.testBit]
theorem PM(a b:Int):iK (!(decide (a<0)==decide (b<0))) (a.natAbs*b.natAbs)=bL (a*b):=by
 rw[←kK (a*b),Int.natAbs_mul];by_cases V:a.natAbs*b.natAbs=0
 ·unfold iK;rw[if_pos V,if_pos V]
 ·have S:a≠0:=by rintro rfl;simp at V
  have R:b≠0:=by rintro rfl;simp at V
  congr 1;by_cases Z:a<0<;>by_cases X:b<0
  ·have h3:=Int.mul_pos_of_neg_of_neg Z X
   have U:¬a*b<0:=by omega
   simp[Z,X,U]
  ·have h3:=Int.mul_neg_of_neg_of_pos Z (show 0<b by omega)
   simp[Z,X,h3]
  ·have h3:=Int.mul_neg_of_pos_of_neg (show 0<a by omega) X
   simp[Z,X,h3]
  ·have h3:=Int.mul_nonneg (show 0≤a by omega) (show 0≤b by omega)
   have U:¬a*b<0:=by omega
   simp[Z,X,U]
theorem OP(a b:Int)(H:(au a.natAbs).length≤100000)(hb:(au b.natAbs).length≤100000)(mem:Mem):kO prog 133 [.str (bL a),.str (bL b)] mem (.str (bL (a*b))) mem:=by
 have R:aT prog 133=some f133:=by kernel_rfl
 refine ak oB ?_ mem;have la:=cj a;have lb:=cj b;have Z:(bL a).length≤1000000000:=by omega
 have V:(bL b).length≤1000000000:=by omega
 by_cases O:(bL a).length≤9∧(bL b).length≤9
 ·have U:((bL a).length:Int)≤9:=by omega
  have N:((bL b).length:Int)≤9:=by omega
  have s1:=iD O.1;have s2:=iD O.2;have s3:(a*b).natAbs<10 ^ 9*10 ^ 9:=by rw[Int.natAbs_mul];exact Nat.mul_lt_mul'' s1 s2
  have w1:IntKind.i64.wrap (a*b)=a*b:=af;have hf:dG (a*b)=true:=by unfold dG;simp;omega
  simp[aa,R,f133,bV,y9.or,ag,aN,aU,Z,V,U,N,w1,hf]
 ·have da:=cG a.natAbs
  have db:=cG b.natAbs;have C:(au a.natAbs).length≤1000000:=by omega
  have u:(au b.natAbs).length≤1000000:=by omega
  have sum:=iQ H hb;have ds:=cG (a.natAbs*b.natAbs);have M:aF 1000000000 (dig 1000000000 a.natAbs)=a.natAbs:=ct (by omega) _;have L:aF 1000000000 (dig 1000000000 b.natAbs)=b.natAbs:=ct (by omega) _;have K:lok 1000000000 (dig 1000000000 a.natAbs)=true:=cR (by omega) _;have G:lok 1000000000 (dig 1000000000 b.natAbs)=true:=cR (by omega) _;obtain⟨A,F⟩:=xE (dig 1000000000 a.natAbs);obtain⟨B,D⟩:=xE (dig 1000000000 b.natAbs);rw[←F] at da M K;rw[←D] at db L G;have o:A.length≤100000000:=by omega
  have m:B.length≤100000000:=by omega
  obtain⟨S,hS⟩:=xE (dig 1000000000 (a.natAbs*b.natAbs));have j:aF 1000000000 S=a.natAbs*b.natAbs:=by rw[hS];exact ct (by omega) _
  have Y:lok 1000000000 S=true:=by rw[hS];exact cR (by omega) _
  have W:bD S=S:=by rw[hS];exact dv (by omega) _
  have J:S.length≤1000000:=by rw[hS];omega
  obtain⟨mn,X⟩:=xE (!(decide (a<0)==decide (b<0)));have I:iK mn (a.natAbs*b.natAbs)=bL (a*b):=by rw[X];exact PM a b
  by_cases U:((bL a).length:Int)≤9
  ·have N:¬((bL b).length:Int)≤9:=fun e=>O (by omega)
   simp[aa,R,f133,bV,y9.or,ag,aN,aP,an,aU,Z,V,U,N,bT,C,u,←F,←D,bF,bC,bQ,bS,bN,hs0,hs1,K,G,o,m,M,L,←hS,bJ,aD,hs4,Y,W,J,j,←X,I,Nat.testBit]
  ·simp[aa,R,f133,bV,y9.or,ag,aN,aP,an,aU,Z,U,bT,C,u,←F,←D,bF,bC,bQ,bS,bN,hs0,hs1,K,G,o,m,M,L,←hS,bJ,aD,hs4,Y,W,J,j,←X,I,Nat.testBit]
theorem qX(n:Nat):iK false n=au n:=by
 unfold iK;by_cases h:n=0
 ·subst h;rfl
 ·rw[if_neg h];rfl
theorem PL{a:Int}(H:0<b)(h:0≤a∨a.natAbs%b=0):iK (decide (a<0)) (a.natAbs / b)=bL (a / b):=by
 rw[←kK (a / b)];by_cases U:a<0
 ·have S:a.natAbs%b=0:=by rcases h with h | h<;>omega
  have Z:a= -((a.natAbs / b*b:Nat):Int):=by have:=Nat.div_add_mod a.natAbs b;rw[S,Nat.add_zero,Nat.mul_comm] at this;omega
  obtain⟨q,X⟩:=xE (a.natAbs / b);rw[←X] at Z;have h3:a / (b:Int)= -(q:Int):=by rw[Z,Int.natCast_mul,←Int.neg_mul];exact Int.mul_ediv_cancel _ (by omega)
  rw[h3,←X,Int.natAbs_neg,Int.natAbs_natCast];by_cases V:q=0
  ·unfold iK;rw[if_pos V,if_pos V]
  ·rw[decide_eq_true U,decide_eq_true (by omega)]
 ·obtain⟨n,rfl⟩:∃n:Nat,a=n:=⟨a.toNat,by omega⟩
  rw[←Int.natCast_ediv,Int.natAbs_natCast,Int.natAbs_natCast,decide_eq_false (by omega),decide_eq_false (Int.not_lt.2 (Int.natCast_nonneg _))]
theorem Ek(a:Int)(b:Nat)(H:0<b)(I:0≤a∨a.natAbs%b=0)(ha:(au a.natAbs).length≤100000)(hb:(au b).length≤100000)(mem:Mem):
  kO prog 208 [.str (bL a),.str (au b)] mem (.tuple [.str (bL (a / b)),.str (au (a.natAbs%b)),.int .i64 0]) mem:=by
 have Y:aT prog 208=some f208:=by kernel_rfl
 refine ak oB ?_ mem;rw[←PL H I,←qX (a.natAbs%b)];have Z:lh (au b)=some (b:Int):=aU (b:Int);have X:(au b==[48])=false:=by rw[beq_eq_false_iff_ne];intro e;have:=F1 (e.trans (show [48]=au 0 from rfl));omega
 have da:=cG a.natAbs;have db:=cG b;have K:(au a.natAbs).length≤1000000:=by omega
 have W:(au b).length≤1000000:=by omega
 have N:aF 1000000000 (dig 1000000000 a.natAbs)=a.natAbs:=ct (by omega) _;have G:aF 1000000000 (dig 1000000000 b)=b:=ct (by omega) _;have F:lok 1000000000 (dig 1000000000 a.natAbs)=true:=cR (by omega) _;have D:lok 1000000000 (dig 1000000000 b)=true:=cR (by omega) _;have C:bD (dig 1000000000 a.natAbs)=dig 1000000000 a.natAbs:=dv (by omega) _;have u:bD (dig 1000000000 b)=dig 1000000000 b:=dv (by omega) _;obtain⟨A,M⟩:=xE (dig 1000000000 a.natAbs);obtain⟨B,o⟩:=xE (dig 1000000000 b);rw[←M] at da N F C;rw[←o] at db G D u;have J:A.length≤1000000:=by omega
 have g2:B.length≤1000000:=by omega
 obtain⟨n,m⟩:=xE a.natAbs;rw[←m] at N M I K ⊢;have YJ:¬(b:Int)<0:=by omega
 by_cases U:n<b
 ·have S:¬a<0:=by
   rcases I with h | h
   ·omega
   ·rw[Nat.mod_eq_of_lt U] at h;omega
  rw[Nat.div_eq_of_lt U,Nat.mod_eq_of_lt U];simp[aa,Y,f208,bV,y9.or,ag,aN,aP,an,aU,Z,X,←m,bT,K,W,←M,←o,bF,bC,bQ,hs0,hs1,F,D,C,u,J,N,G,H,U,S,YJ,bJ,aD]
 ·obtain⟨q,j⟩:=xE (n / b)
  obtain⟨r,L⟩:=xE (n%b);rw[←L] at I;rw[←j,←L];obtain⟨Q,hQ⟩:=xE (dig 1000000000 q);obtain⟨R,O⟩:=xE (dig 1000000000 r);have vq:aF 1000000000 Q=q:=by rw[hQ];exact ct (by omega) _
  have oq:lok 1000000000 Q=true:=by rw[hQ];exact cR (by omega) _
  have tq:bD Q=Q:=by rw[hQ];exact dv (by omega) _
  have gq:Q.length≤1000000:=by rw[hQ];have h1:=cG q;have h2:=cV (show q≤n by rw[j];exact Nat.div_le_self _ _);omega
  have vr:aF 1000000000 R=r:=by rw[O];exact ct (by omega) _
  have or:lok 1000000000 R=true:=by rw[O];exact cR (by omega) _
  have tr:bD R=R:=by rw[O];exact dv (by omega) _
  have gr:R.length≤1000000:=by rw[O];have h1:=cG r;have h2:=cV (show r≤n by rw[L];exact Nat.mod_le _ _);omega
  have cond:∀x:Nat,¬(a<0∧0<R.length):=by
   intro _ h;rcases I with h1 | h1
   ·omega
   ·rw[O,h1,eF] at h;simp at h
  by_cases hz:2≤B.length∧r=0
  ·obtain⟨V,hz2⟩:=hz
   by_cases S:a<0
   ·simp[aa,Y,f208,bV,y9.or,ag,aN,aP,an,aU,Z,X,←m,bT,K,W,←M,←o,bF,bC,bQ,hs0,hs1,F,D,C,u,J,N,G,H,U,YJ,←j,←L,←hQ,V,hz2,S,hs4,vq,oq,tq,gq,bJ,aD]
   ·simp[aa,Y,f208,bV,y9.or,ag,aN,aP,an,aU,Z,X,←m,bT,K,W,←M,←o,bF,bC,bQ,hs0,hs1,F,D,C,u,J,N,G,H,U,YJ,←j,←L,←hQ,V,hz2,S,hs4,vq,oq,tq,gq,bJ,aD]
  ·by_cases S:a<0
   ·have hrl:¬0<R.length:=fun e=>cond 0 ⟨S,e⟩
    have abi :R=[]:=List.eq_nil_of_length_eq_zero (by omega);have hr0:r=0:=by rcases I with h | h<;>omega
    subst hr0;have V:¬2≤B.length:=fun e=>hz ⟨e,rfl⟩
    rw[abi] at O vr;have k1:lok 1000000000 []=true:=rfl;have k2:bD []=[]:=rfl;have h5e:∀a0 a1 a2 a3 a4 l,bP .u64 (a0::a1::a2::a3::a4::.cells true 1 []::l) (.slice 5 0 0 none)=some []:=fun a0 a1 a2 a3 a4 l=>hs5 (A:=[]) true a0 a1 a2 a3 a4 l
    simp[aa,Y,f208,bV,y9.or,ag,aN,aP,an,aU,Z,X,←m,bT,K,W,←M,←o,bF,bC,bQ,hs0,hs1,F,D,C,u,J,N,G,H,U,YJ,←j,←L,←hQ,←O,V,hs4,h5e,k1,k2,vr,vq,oq,tq,gq,S,bJ,aD]
   ·simp[aa,Y,f208,bV,y9.or,ag,aN,aP,an,aU,Z,X,←m,bT,K,W,←M,←o,bF,bC,bQ,hs0,hs1,F,D,C,u,J,N,G,H,U,YJ,←j,←L,←hQ,←O,hz,hs4,hs5,vq,oq,tq,gq,vr,or,tr,gr,S,bJ,aD]
end Go.Proofs
