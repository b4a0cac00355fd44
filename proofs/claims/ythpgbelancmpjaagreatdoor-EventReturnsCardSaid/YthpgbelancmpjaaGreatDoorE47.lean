/- See E54. -/
import Derived.Test.YthpgbelancmpjaaGreatDoorE43
set_option linter.all false
namespace Go.Proofs
open Go.Eng
open Tryz
def sqP:List AV:=[.str [48],.str [48],.str [52],.str [48],.str [52],.str [52],.str [48],.str [52]]
def sqT:List AV:=[.int .i64 0,.int .i64 1,.int .i64 2,.int .i64 0,.int .i64 2,.int .i64 3]
theorem wR:Dc (aV prog) ae (aT prog) NB 60 10 (.fn 46) [.agg [.slice 0 0 4 none,.slice 1 0 2 none]] [.cells false 2 sqP,.cells false 3 sqT]=some ⟨.int .i64 0,some [.cells false 2 sqP,.cells false 3 sqT],[]⟩:=by kernel_rfl
theorem Ct:kO prog 46 [.agg [.slice 0 0 4 none,.slice 1 0 2 none]] [.cells false 2 sqP,.cells false 3 sqT] (.int .i64 0) [.cells false 2 sqP,.cells false 3 sqT]:=by have:=(oK ai (aO _) (aR _) Mh 10).fn _ _ _ _ wR;simpa [aee.mem] using this
def Qj:List AV→List AV→Bool
 | [],[]=>true
 |.str a::l,.str b::r=>(a==b)&&Qj l r
 |.int .i64 a::l,.int .i64 b::r=>decide (a=b)&&Qj l r
 |_,_=>false
theorem Gh:∀{l r:List AV},Qj l r=true→l=r
 | [],r,h=>by cases r<;>first | rfl | (unfold Qj at h;cases h)
 |v::l,r,h=>by
  unfold Qj at h;split at h
  next Z=>cases Z
  ·rename_i Z
   cases Z;simp only[Bool.and_eq_true,beq_iff_eq] at h;rw[h.1,Gh h.2]
  ·rename_i Z
   cases Z;simp only[Bool.and_eq_true,decide_eq_true_eq] at h;rw[h.1,Gh h.2]
  ·cases h
def Qh(M:Mem)(b e:Nat)(cs:List AV):Bool:=match M[b]? with
 |some (.cells _ es l)=>decide (es=e)&&Qj (l.take cs.length) cs
 |_=>false
theorem KM{M:Mem}{b e:Nat}{cs:List AV}{ks:List Nat}(h:Qh M b e cs=true)(H:AV.aej cs=true):b<M.length∧ae2 ks M b (.cells false e cs):=by
 unfold Qh at h;split at h
 ·rename_i o es l V
  simp only[Bool.and_eq_true,decide_eq_true_eq] at h;obtain⟨rfl,Z⟩:=h;have Z:=Gh Z;refine⟨(gL V),aX H,o,l,V,fun j v X=>?_⟩;have R:=gL X;have:l[j]? =cs[j]? :=by rw[←List.getElem?_take_of_lt R,Z]
  have U:=aL (ρ:=fq ks M.length) H;rw[gw] at U;have S:(cs.map (AV.ren (fq ks M.length)))[j]? =cs[j]? :=by rw[U]
  rw[List.getElem?_map,X] at S;rw[this,X];exact S.symm
 ·cases h
theorem Cr(M:Mem)(b c:Nat)(h1:Qh M b 2 sqP=true)(h2:Qh M c 3 sqT=true):kO prog 46 [.agg [.slice b 0 4 none,.slice c 0 2 none]] M (.int .i64 0) M:=by
 have X:=KM (ks:=[b,c]) h1 (by rfl);have V:=KM (ks:=[b,c]) h2 (by rfl);have:=kO.frame (M:=M) (new:=[]) [b,c] (m:=[.cells false 2 sqP,.cells false 3 sqT]) rfl (by
  intro k U;simp only[lM] at U;rcases U with h | h
  ·rw[h];exact X.1
  ·rw[h];exact V.1) (by rfl) (fun i s Z=>by
  match i with
  |0=>simp at Z;subst Z;exact X.2
  |1=>simp at Z;subst Z;exact V.2
  |i+2=>simp at Z) rfl Ct
 simpa [AV.aez,AV.ren,fq] using this
def Fq(c:Go.Eng.Callee)(args:List AV)(M:Mem):Option aee:=match c,args with
 |.fn 46,[.agg [.slice b 0 4 none,.slice c 0 2 none]]=>if Qh M b 2 sqP&&Qh M c 3 sqT then some ⟨.int .i64 0,none,[]⟩ else none
 |_,_=>none
theorem ME:qS prog Fq:=by
 refine cq fun c X M r h=>?_
 unfold Fq at h;split at h
 ·split at h
  ·rename_i Z
   simp only[Bool.and_eq_true] at Z;cases h;refine aC ?_;rw[List.append_nil];exact Cr M _ _ Z.1 Z.2
  ·cases h
 ·cases h
def Sp(r:aee):Bool:=(match r.v with
 |.bool b=>b
 |_=>false)&&r.new.isEmpty&&(match r.pre with
 |some p=>p.isEmpty
 |none=>true)
theorem M9{r:aee}(h:Sp r=true):r.v=.bool true∧r.mem []=[]:=by
 obtain⟨v,Z,V⟩:=r;simp only[Sp,Bool.and_eq_true,List.isEmpty_iff] at h;obtain⟨⟨X,rfl⟩,h3⟩:=h;constructor
 ·cases v<;>first | (cases X;done) | skip
  simp only at X;rw[X]
 ·cases Z with
  |none=>rfl
  |some p=>simp only[List.isEmpty_iff] at h3;subst h3;rfl
noncomputable def Je:y9:=y9.or Fq (y9.or (ag aE) (ag fa))
theorem Jf:qS prog Je:=qS.or ME (qS.or bK im)
theorem CR:(Dc (aV prog) ae (aT prog) Je 60 20 (.fn 7) [] []).map Sp=some true:=by kernel_rfl
theorem Ls(M:Mem):kO prog 7 [] M (.bool true) M:=by have h:=CR;rw[Option.map_eq_some_iff] at h;obtain⟨r,Z,X⟩:=h;have:=(oK ai (aO _) (aR _) Jf 20).fn _ _ _ _ Z;obtain⟨V,U⟩:=M9 X;rw[V,U] at this;exact kO.lift rfl rfl this M
end Go.Proofs
namespace Go.Proofs
open Go.Eng
end Go.Proofs
