/- See E54. -/
import Derived.Test.YthpgbelancmpjaaGreatDoorE24
set_option linter.all false
namespace Go.Proofs
open Go.Eng
def Vz(a b c:P2):Prop:=((dc a.1∧dc a.2)∧(dc b.1∧dc b.2)∧dc c.1∧dc c.2)∧(dc (b.1-a.1)∧dc (c.2-a.2)∧dc (b.2-a.2)∧dc (c.1-a.1))∧dc ((b.1-a.1)*(c.2-a.2))∧dc ((b.2-a.2)*(c.1-a.1))
def Ta(A B C q:P2):Prop:=Vz B C q∧Vz C A q∧Vz A B q
structure agO (P:List P2)(T:List Tr)(q:P2):Prop where
 tri:∀(i:Nat) t,T[i]? =some t→∃A B C,P[t.1]? =some A∧P[t.2.1]? =some B∧P[t.2.2]? =some C∧Ta A B C q
 hl:P.length≤1000∧T.length≤1000
section
variable {P:List P2}{T:List Tr}{v:V3}
end
def slX(A B C:P2)(f g h:Rat):P2:=(1 / cN A B C*((g-f)*(C.2-A.2)-(B.2-A.2)*(h-f)),1 / cN A B C*((B.1-A.1)*(h-f)-(g-f)*(C.1-A.1)))
def UJ(A B C:P2)(f g h:Rat):V3:=(-(slX A B C f g h).1,-(slX A B C f g h).2,1)
theorem VR{A B C q:P2}{f g h z:Rat}(hS:cN A B C≠0):dj (UJ A B C f g h) (q.1,q.2,z)-dj (UJ A B C f g h) (A.1,A.2,f)=z-RL (Cp A B C q) f g h:=by
 have X:=NH A B C q;unfold UJ slX dj RL Cp;simp only;rw[X];obtain⟨S,Z⟩:=xE (cN A B C);have e:S=(B.1-A.1)*(C.2-A.2)-(B.2-A.2)*(C.1-A.1):=Z;rw[←Z] at hS ⊢;have U:=Rat.div_mul_cancel (a:=1) hS;obtain⟨w,V⟩:=xE (1 / S);rw[←V] at U ⊢;have R:∀x:Rat,x / S=x*w:=fun x=>by rw[V,Rat.div_def,Rat.div_def,Rat.one_mul]
 rw[R];unfold cN
 grind
def F8(A B C:P2)(t:Tr)(Q:List Rat):V3×Rat:=(UJ A B C (Q.getD t.1 0) (Q.getD t.2.1 0) (Q.getD t.2.2 0),dj (UJ A B C (Q.getD t.1 0) (Q.getD t.2.1 0) (Q.getD t.2.2 0)) (A.1,A.2,Q.getD t.1 0))
def Tg(p:V3):List (V3×Rat)→Nat
 | []=>0
 |w::l=>(if w.2≤dj w.1 p then 1 else 0)+Tg p l
theorem Va{A B C:P2}{t:Tr}{p:V3}(hS:cN A B C≠0):∀L:List (List Rat),Tg p (L.map (F8 A B C t))=VI p.2.2 (L.map fun Q=>RL (Cp A B C (p.1,p.2.1)) (Q.getD t.1 0) (Q.getD t.2.1 0) (Q.getD t.2.2 0))
 | []=>rfl
 |Q::L=>by
  rw[List.map_cons,List.map_cons,Tg,VI,Va hS L];have:=VR (f:=Q.getD t.1 0) (g:=Q.getD t.2.1 0) (h:=Q.getD t.2.2 0) (q:=(p.1,p.2.1)) (z:=p.2.2) hS;have e:(F8 A B C t Q).2≤dj (F8 A B C t Q).1 p↔RL (Cp A B C (p.1,p.2.1)) (Q.getD t.1 0) (Q.getD t.2.1 0) (Q.getD t.2.2 0)≤p.2.2:=by unfold F8;simp only at this ⊢;constructor<;>intro h<;>grind
  by_cases c:(F8 A B C t Q).2≤dj (F8 A B C t Q).1 p
  ·rw[if_pos c,if_pos (e.1 c)]
  ·rw[if_neg c,if_neg fun h=>c (e.2 h)]
theorem R9{x S V:Rat}(hS:0<S)(h:x*S≤V*S):x≤V:=by
 rcases (Rat.le_total:x≤V∨V≤x) with h1 | h1
 ·exact h1
 ·by_cases Z:x=V
  ·rw[Z];exact Rat.le_refl
  ·have:=Rat.mul_pos (show 0<x-V by grind) hS
   grind
theorem RM{w:V3}{a b c H I J :Rat}(h1:0≤w.1)(h2:0≤w.2.1)(h3:0≤w.2.2)(W:0<w.1+w.2.1+w.2.2)(Y:a≤H)(hb:b≤I)(hc:c≤J):RL w a b c≤RL w H I J :=by
 unfold RL;obtain⟨S,hS⟩:=xE (w.1+w.2.1+w.2.2);rw[←hS] at W ⊢;have Z:S≠0:=by grind
 have X:=Rat.mul_nonneg h1 (show 0≤H -a by grind);have V:=Rat.mul_nonneg h2 (show 0≤I -b by grind);have U:=Rat.mul_nonneg h3 (show 0≤J -c by grind);refine R9 W ?_;rw[Rat.div_mul_cancel Z,Rat.div_mul_cancel Z]
 grind
theorem VU{Y H :List Int}(h:∀(i:Nat) z y,Y[i]? =some z→H[i]? =some y→z≤y)(I:Y.length=H.length)(i:Nat):(qH Y).getD i 0≤(qH H).getD i 0:=by
 unfold qH;by_cases U:i<Y.length
 ·obtain⟨z,Z⟩:∃z,Y[i]? =some z:=⟨_,List.getElem?_eq_getElem U⟩
  obtain⟨y,X⟩:∃z,H[i]? =some z:=⟨_,List.getElem?_eq_getElem (by omega)⟩
  have:=h i z y Z X;simp only[List.getD,List.getElem?_map,Z,X,Option.map_some,Option.getD_some];unfold hQ;have V:∀n:Int,mkRat n 2=(n:Rat)*mkRat 1 2:=fun n=>by rw[Rat.mkRat_eq_div,Rat.mkRat_eq_div,Rat.div_def,Rat.div_def];show _=_*(1*_);rw[Rat.one_mul]
  rw[V z,V y];have e:=Rat.intCast_le_intCast.2 this;have k:(0:Rat)≤mkRat 1 2:=by decide
  have:=Rat.mul_nonneg (show 0≤(y:Rat)-(z:Rat) by grind) k
  grind
 ·simp only[List.getD,List.getElem?_map,List.getElem?_eq_none (show Y.length≤i by omega),List.getElem?_eq_none (show H.length≤i by omega),Option.map_none,Option.getD_none]
  exact Rat.le_refl
end Go.Proofs
