/- See B54. -/
import Derived.Test.YtffdedmakncfmaaGreatDoorB32
import Derived.Test.YtffdedmakncfmaaGreatDoorB36
set_option linter.all false
namespace Go.Proofs
open Go.Eng
open Tryz
def sqP:List AV:=[.str [48],.str [48],.str [52],.str [48],.str [52],.str [52],.str [48],.str [52]]
def sqT:List AV:=[.int .i64 0,.int .i64 1,.int .i64 2,.int .i64 0,.int .i64 2,.int .i64 3]
theorem xi:DZ (ba prog) ad (aT prog) Oz 60 10 (.fn 131) [.agg [.slice 0 0 4 none,.slice 1 0 2 none]] [.cells false 2 sqP,.cells false 3 sqT]=some ⟨.int .i64 0,some [.cells false 2 sqP,.cells false 3 sqT],[]⟩:=by kernel_rfl
theorem Di:kO prog 131 [.agg [.slice 0 0 4 none,.slice 1 0 2 none]] [.cells false 2 sqP,.cells false 3 sqT] (.int .i64 0) [.cells false 2 sqP,.cells false 3 sqT]:=by have:=(pc aj (aI _) (aP _) Nb 10).fn _ _ _ _ xi;simpa [y9.mem] using this
def Q9:List AV→List AV→Bool
 | [],[]=>true
 |.str a::l,.str b::r=>(a==b)&&Q9 l r
 |.int .i64 a::l,.int .i64 b::r=>decide (a=b)&&Q9 l r
 |_,_=>false
theorem GZ:∀{l r:List AV},Q9 l r=true→l=r
 | [],r,h=>by cases r<;>first | rfl | (unfold Q9 at h;cases h)
 |v::l,r,h=>by
  unfold Q9 at h;split at h
  next Z=>cases Z
  ·rename_i Z
   cases Z;simp only[Bool.and_eq_true,beq_iff_eq] at h;rw[h.1,GZ h.2]
  ·rename_i Z
   cases Z;simp only[Bool.and_eq_true,decide_eq_true_eq] at h;rw[h.1,GZ h.2]
  ·cases h
def Q7(M:Mem)(b e:Nat)(cs:List AV):Bool:=match M[b]? with
 |some (.cells _ es l)=>decide (es=e)&&Q9 (l.take cs.length) cs
 |_=>false
theorem LM{M:Mem}{b e:Nat}{cs:List AV}{ks:List Nat}(h:Q7 M b e cs=true)(y:AV.ae8 cs=true):b<M.length∧afM ks M b (.cells false e cs):=by
 unfold Q7 at h;split at h
 ·rename_i o es l V
  simp only[Bool.and_eq_true,decide_eq_true_eq] at h;obtain⟨rfl,Z⟩:=h;have Z:=GZ Z;refine⟨(gL V),aX y,o,l,V,fun j v X=>?_⟩;have R:=gL X;have:l[j]? =cs[j]? :=by rw[←List.getElem?_take_of_lt R,Z]
  have U:=aM (ρ:=eL ks M.length) y;rw[gE] at U;have S:(cs.map (AV.ren (eL ks M.length)))[j]? =cs[j]? :=by rw[U]
  rw[List.getElem?_map,X] at S;rw[this,X];exact S.symm
 ·cases h
theorem Dh(M:Mem)(b c:Nat)(h1:Q7 M b 2 sqP=true)(h2:Q7 M c 3 sqT=true):kO prog 131 [.agg [.slice b 0 4 none,.slice c 0 2 none]] M (.int .i64 0) M:=by
 have X:=LM (ks:=[b,c]) h1 (by rfl);have V:=LM (ks:=[b,c]) h2 (by rfl);have:=kO.frame (M:=M) (new:=[]) [b,c] (m:=[.cells false 2 sqP,.cells false 3 sqT]) rfl (by
  intro k U;simp only[lM] at U;rcases U with h | h
  ·rw[h];exact X.1
  ·rw[h];exact V.1) (by rfl) (fun i s Z=>by
  match i with
  |0=>simp at Z;subst Z;exact X.2
  |1=>simp at Z;subst Z;exact V.2
  |i+2=>simp at Z) rfl Di
 simpa [AV.afp,AV.ren,eL] using this
def Gd(c:Go.Eng.Callee)(args:List AV)(M:Mem):Option y9:=match c,args with
 |.fn 131,[.agg [.slice b 0 4 none,.slice c 0 2 none]]=>if Q7 M b 2 sqP&&Q7 M c 3 sqT then some ⟨.int .i64 0,none,[]⟩ else none
 |_,_=>none
theorem NA:qS prog Gd:=by
 refine bZ fun c X M r h=>?_
 unfold Gd at h;split at h
 ·split at h
  ·rename_i Z
   simp only[Bool.and_eq_true] at Z;cases h;refine aw ?_;rw[List.append_nil];exact Dh M _ _ Z.1 Z.2
  ·cases h
 ·cases h
def Tl(r:y9):Bool:=(match r.v with
 |.bool b=>b
 |_=>false)&&r.new.isEmpty&&(match r.pre with
 |some p=>p.isEmpty
 |none=>true)
theorem N5{r:y9}(h:Tl r=true):r.v=.bool true∧r.mem []=[]:=by
 obtain⟨v,Z,V⟩:=r;simp only[Tl,Bool.and_eq_true,List.isEmpty_iff] at h;obtain⟨⟨X,rfl⟩,h3⟩:=h;constructor
 ·cases v<;>first | (cases X;done) | skip
  simp only at X;rw[X]
 ·cases Z with
  |none=>rfl
  |some p=>simp only[List.isEmpty_iff] at h3;subst h3;rfl
noncomputable def J0:ae3:=ae3.or Gd (ae3.or (af be) (af eg))
theorem J3:qS prog J0:=qS.or NA (qS.or cO gw)
theorem DI:(DZ (ba prog) ad (aT prog) J0 60 20 (.fn 6) [] []).map Tl=some true:=by kernel_rfl
theorem kL(M:Mem):kO prog 6 [] M (.bool true) M:=by have h:=DI;rw[Option.map_eq_some_iff] at h;obtain⟨r,Z,X⟩:=h;have:=(pc aj (aI _) (aP _) J3 20).fn _ _ _ _ Z;obtain⟨V,U⟩:=N5 X;rw[V,U] at this;exact kO.lift rfl rfl this M
end Go.Proofs
