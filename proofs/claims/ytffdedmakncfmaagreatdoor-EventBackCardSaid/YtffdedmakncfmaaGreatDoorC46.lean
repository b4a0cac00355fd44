/- See C54. -/
import Derived.Test.YtffdedmakncfmaaGreatDoorC30
import Derived.Test.YtffdedmakncfmaaGreatDoorC34
set_option linter.all false
namespace Go.Proofs
open Go.Eng
open Tryz
def sqP:List AV:=[.str [48],.str [48],.str [52],.str [48],.str [52],.str [52],.str [48],.str [52]]
def sqT:List AV:=[.int .i64 0,.int .i64 1,.int .i64 2,.int .i64 0,.int .i64 2,.int .i64 3]
theorem yi:EO (bh prog) ae (aS prog) PM 60 10 (.fn 131) [.agg [.slice 0 0 4 none,.slice 1 0 2 none]] [.cells false 2 sqP,.cells false 3 sqT]=some ⟨.int .i64 0,some [.cells false 2 sqP,.cells false 3 sqT],[]⟩:=by kernel_rfl
theorem D8:kO prog 131 [.agg [.slice 0 0 4 none,.slice 1 0 2 none]] [.cells false 2 sqP,.cells false 3 sqT] (.int .i64 0) [.cells false 2 sqP,.cells false 3 sqT]:=by have:=(qj aj (aK _) (aR _) On 10).fn _ _ _ _ yi;simpa [y9.mem] using this
def SH:List AV→List AV→Bool
 | [],[]=>true
 |.str a::l,.str b::r=>(a==b)&&SH l r
 |.int .i64 a::l,.int .i64 b::r=>decide (a=b)&&SH l r
 |_,_=>false
theorem HN:∀{l r:List AV},SH l r=true→l=r
 | [],r,h=>by cases r<;>first | rfl | (unfold SH at h;cases h)
 |v::l,r,h=>by
  unfold SH at h;split at h
  next Z=>cases Z
  ·rename_i Z
   cases Z;simp only[Bool.and_eq_true,beq_iff_eq] at h;rw[h.1,HN h.2]
  ·rename_i Z
   cases Z;simp only[Bool.and_eq_true,decide_eq_true_eq] at h;rw[h.1,HN h.2]
  ·cases h
def SF(M:Mem)(b e:Nat)(cs:List AV):Bool:=match M[b]? with
 |some (.cells _ es l)=>decide (es=e)&&SH (l.take cs.length) cs
 |_=>false
theorem ML{M:Mem}{b e:Nat}{cs:List AV}{ks:List Nat}(h:SF M b e cs=true)(y:AV.afT cs=true):b<M.length∧agx ks M b (.cells false e cs):=by
 unfold SF at h;split at h
 ·rename_i o es l U
  simp only[Bool.and_eq_true,decide_eq_true_eq] at h;obtain⟨rfl,X⟩:=h;have X:=HN X;refine⟨(gL U),bl y,o,l,U,fun j v V=>?_⟩;have R:=gL V;have:l[j]? =cs[j]? :=by rw[←List.getElem?_take_of_lt R,X]
  have S:=aO (ρ:=fj ks M.length) y;rw[jf] at S;have Z:(cs.map (AV.ren (fj ks M.length)))[j]? =cs[j]? :=by rw[S]
  rw[List.getElem?_map,V] at Z;rw[this,V];exact Z.symm
 ·cases h
theorem DZ(M:Mem)(b c:Nat)(h1:SF M b 2 sqP=true)(h2:SF M c 3 sqT=true):kO prog 131 [.agg [.slice b 0 4 none,.slice c 0 2 none]] M (.int .i64 0) M:=by
 have X:=ML (ks:=[b,c]) h1 (by rfl);have V:=ML (ks:=[b,c]) h2 (by rfl);have:=kO.frame (M:=M) (new:=[]) [b,c] (m:=[.cells false 2 sqP,.cells false 3 sqT]) rfl (by
  intro k U;simp only[lM] at U;rcases U with h | h
  ·rw[h];exact X.1
  ·rw[h];exact V.1) (by rfl) (fun i s Z=>by
  match i with
  |0=>simp at Z;subst Z;exact X.2
  |1=>simp at Z;subst Z;exact V.2
  |i+2=>simp at Z) rfl D8
 simpa [AV.af9,AV.ren,fj] using this
def G3(c:Go.Eng.Callee)(args:List AV)(M:Mem):Option y9:=match c,args with
 |.fn 131,[.agg [.slice b 0 4 none,.slice c 0 2 none]]=>if SF M b 2 sqP&&SF M c 3 sqT then some ⟨.int .i64 0,none,[]⟩ else none
 |_,_=>none
theorem OK:qS prog G3:=by
 refine cf fun c X M r h=>?_
 unfold G3 at h;split at h
 ·split at h
  ·rename_i Z
   simp only[Bool.and_eq_true] at Z;cases h;refine aC ?_;rw[List.append_nil];exact DZ M _ _ Z.1 Z.2
  ·cases h
 ·cases h
def UM(r:y9):Bool:=(match r.v with
 |.bool b=>b
 |_=>false)&&r.new.isEmpty&&(match r.pre with
 |some p=>p.isEmpty
 |none=>true)
theorem Pk{r:y9}(h:UM r=true):r.v=.bool true∧r.mem []=[]:=by
 obtain⟨v,Z,V⟩:=r;simp only[UM,Bool.and_eq_true,List.isEmpty_iff] at h;obtain⟨⟨X,rfl⟩,h3⟩:=h;constructor
 ·cases v<;>first | (cases X;done) | skip
  simp only at X;rw[X]
 ·cases Z with
  |none=>rfl
  |some p=>simp only[List.isEmpty_iff] at h3;subst h3;rfl
noncomputable def Ld:afF:=afF.or G3 (afF.or (ag bn) (ag ek))
theorem Le:qS prog Ld:=qS.or OK (qS.or cP gR)
theorem Ex:(EO (bh prog) ae (aS prog) Ld 60 20 (.fn 6) [] []).map UM=some true:=by kernel_rfl
theorem Nl(M:Mem):kO prog 6 [] M (.bool true) M:=by have h:=Ex;rw[Option.map_eq_some_iff] at h;obtain⟨r,Z,X⟩:=h;have:=(qj aj (aK _) (aR _) Le 20).fn _ _ _ _ Z;obtain⟨V,U⟩:=Pk X;rw[V,U] at this;exact kO.lift rfl rfl this M
end Go.Proofs
