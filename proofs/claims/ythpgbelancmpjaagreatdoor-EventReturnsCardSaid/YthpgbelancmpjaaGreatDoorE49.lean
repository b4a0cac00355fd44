/- See E54. -/
import Derived.Test.YthpgbelancmpjaaGreatDoorE48
import Derived.Test.YthpgbelancmpjaaGreatDoorE47
import Derived.Test.YthpgbelancmpjaaGreatDoorE46
set_option linter.all false
namespace Go.Proofs
open Go.Eng
section
variable {x y:AV}{M:Mem}
end
theorem ckz{P:Program}{f:FuncId}{a:List AV}{M:Mem}{v:AV}(h:∀Z,kO P f a (M++Z) v (M++Z))(Z:Mem):∀X,kO P f a ((M++Z)++X) v ((M++Z)++X):=fun X =>by rw[List.append_assoc];exact h _
variable{k:Nat}
section
variable {x:aed}{s:aeo}{M:Mem}{p t:Nat}{o o' :Bool}{ev:List AV}{v:V3}
theorem VJ{n m:Nat}{a b:V3}(H:vDg n a)(I:vDg m b)(hk:5*(n+m)+10≤k):dg k k (dj a b):=(xV H I).mono hk hk
theorem Ec(H:Bool):dg 1 1 (sgB H):=by cases H<;>exact⟨by decide,by decide⟩
theorem Gm{n m:Nat}{e a:V3}{q:Rat}(H:vDg k e)(I:vDg n a)(hq:dg m m q):vDg (k+n+m+5) (pT e (Dp a q)):=by
 have f:∀{p r:Rat},dg k k p→dg n n r→dg (k+n+m+5) (k+n+m+5) (p+r*q):=fun Z h=>(pq Z (dE h hq) (m:=k+n+m) (by omega) (by omega)).mono (by omega) (by omega)
 exact⟨f H.1 I.1,f H.2.1 I.2.1,f H.2.2 I.2.2⟩
theorem DV{p v:V3}{k:Rat}{n m l:Nat}(H:vDg n p)(I:vDg m v)(hk:dg l l k)(h0:0<n)(h1:0<m)(h2:0<l)(h3:n+m+l≤40000):KD p v k:=by
 obtain⟨Z,X,V⟩:=I;have f:∀{q:Rat},dg m m q→dc (k*q):=fun h=>cO (dE hk h) (by omega) (by omega) (by omega) (by omega)
 exact⟨⟨La H h0 (by omega),La ⟨Z,X,V⟩ h1 (by omega),fe hk h2 (by omega)⟩,f Z,f X,f V⟩
theorem Lb{Q:List (Rat×Rat)}{u:Rat}(h:U8 2 Q)(H:dg 40 40 u):dg 123 123 (rU Q u):=by obtain⟨Z,X⟩:=UD h (xM Q u);have m:=dE X H;exact(pq Z m (m:=122) (by omega) (by omega)).mono (by omega) (by omega)
end
end Go.Proofs
namespace Go.Proofs
open Go.Eng
open Tryz
theorem KU(s:aeo){i:Nat}{t:Tr}(h:s.T[i]? =some t):∃A B C,s.P[t.1]? =some A∧s.P[t.2.1]? =some B∧s.P[t.2.2]? =some C∧0<cN A B C:=by
 have Z:=Ol s;unfold ig at Z;simp only[Bool.and_eq_true] at Z;have:=List.all_eq_true.1 Z.1.1.2 t (List.mem_of_getElem? h);split at this
 ·rename_i A B C X V h3
  exact⟨A,B,C,X,V,h3,UX (by simpa using this)⟩
 ·cases this
theorem SQ(s:aeo):s.T.length≤1000:=by
 have:∀k<8,(bI k).length≤1000:=by decide
 exact this _ (Nat.mod_lt _ (by decide))
theorem xg{lv:Code→List Nat}{O:y9}(H:qS prog O){K:Nat}{f:FuncId}{args:List AV}{mem:Mem}{v:AV}(h:aa (aV prog) lv (aT prog) O K f args mem=some ⟨v,none,[]⟩):kO prog f args mem v mem:=by have:=(aq ai (aO _) H (aR _) h).1;simpa [aee.mem] using this
def XH(a b c d:Rat):Prop:=(jZ a∧jZ b∧jZ c∧jZ d)∧jZ (a*b)∧jZ (c*d)
def arG(a b c:P2):Prop:=((jZ a.1∧jZ a.2)∧(jZ b.1∧jZ b.2)∧jZ c.1∧jZ c.2)∧XH (b.1-a.1) (c.2-a.2) (b.2-a.2) (c.1-a.1)
theorem ur{n m:Nat}{a b:Rat}(H:dg n n a)(I:dg m m b):dg (n+m+1) (n+m+1) (a-b):=(DD H I (m:=n+m) (by omega) (by omega)).mono (by omega) (by omega)
theorem FE{n:Nat}{a b c:P2}(H:pDg n a)(I:pDg n b)(hc:pDg n c):dg (8*n+5) (8*n+5) (cN a b c):=
 (ur (dE (ur I.1 H.1) (ur hc.2 H.2)) (dE (ur I.2 H.2) (ur hc.1 H.1))).mono (by omega) (by omega)
def XI(A B C q:P2):Prop:=arG A B q∧arG B C q∧arG C A q
section
variable {P:List P2}{T:List Tr}{t:Tr}{A B C:P2}{i:Nat}
end
section
variable {P:List P2}{T:List Tr}{t:Tr}{A B C q:P2}{i:Nat}
end
end Go.Proofs
namespace Go.Proofs
open Go.Eng
structure OnG (A B C q:P2)(f g h:Rat):Prop where
 s0:arG q B C
 s1:arG q C A
 s2:arG q A B
 s:arG A B C
 pos:0<cN A B C
 n:jZ f∧jZ g∧jZ h
 w:jZ (cN q B C)∧jZ (cN q C A)∧jZ (cN q A B)
 m:jZ (cN q B C*f)∧jZ (cN q C A*g)∧jZ (cN q A B*h)
 a:jZ (cN q B C*f+cN q C A*g)∧jZ (cN q B C*f+cN q C A*g+cN q A B*h)
 d:jZ (cN A B C)
section
variable {P:List P2}{T:List Tr}{L:List Rat}{t:Tr}{A B C q:P2}{f g h:Rat}{i:Nat}
end
structure AtG (P:List P2)(T:List Tr)(L:List Rat)(q:P2):Prop where
 tri:∀(i:Nat) t,T[i]? =some t→∃A B C f g h,P[t.1]? =some A∧P[t.2.1]? =some B∧P[t.2.2]? =some C∧L[t.1]? =some f∧L[t.2.1]? =some g∧L[t.2.2]? =some h∧XI A B C q∧OnG A B C q f g h
 hl:T.length≤1000
def Wl(T:List Tr)(L:List Rat)(j:Nat)(w:Rat×Rat×Rat):Rat:=RL w (L.getD (T.getD j (0,0,0)).1 0) (L.getD (T.getD j (0,0,0)).2.1 0) (L.getD (T.getD j (0,0,0)).2.2 0)
section
variable {P:List P2}{T:List Tr}{L:List Rat}{q:P2}
variable {O:y9}
end
section
variable {u v:V3}
end
end Go.Proofs
