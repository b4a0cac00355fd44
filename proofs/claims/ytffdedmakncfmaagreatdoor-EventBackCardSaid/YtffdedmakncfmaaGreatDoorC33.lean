/- See C54. -/
import Derived.Test.YtffdedmakncfmaaGreatDoorC32
set_option linter.all false
namespace Go.Proofs
open Go.Eng
open Tryz
def GU:afF:=ag fun f Z=>match f,Z with
 |110,[]=>some (.agg yu)
 |_,_=>none
theorem Om:qS prog GU:=bF fun f Z v h mem=>by
 split at h
 ·cases h;exact Ib mem
 ·cases h
open Classical in
noncomputable def cc:List (FuncId×List AV×AV)→FuncId→List AV→Option AV
 | [],_,_=>none
 |x::L,f,args=>if f=x.1∧args=x.2.1 then some x.2.2 else cc L f args
variable{P:Program}
theorem cD{L:List (FuncId×List AV×AV)}(h:∀x∈L,∀M,kO P x.1 x.2.1 M x.2.2 M):qS P (ag (cc L)):=bF fun f X v Z mem=>by
 induction L with
 |nil=>simp[cc] at Z
 |cons x L ih=>
  rw[cc] at Z;split at Z
  ·rename_i V
   cases Z;rw[V.1,V.2];exact h x (by simp) mem
  ·exact ih (fun y U=>h y (by simp[U])) Z
theorem YR{w:Int}(h:0<w):0<hQ w:=by
 rw[nf];have:(0:Rat)<(w:Rat):=by exact_mod_cast h
 grind
theorem wN(s:af1)(M:Mem)(b c:Nat)(o o' :Bool)(y:M[b]? =some (.cells o 2 (pC s.P)))(hc:M[c]? =some (.cells o' 3 (tC s.T))):
  kO prog 131 [.agg [.slice b 0 s.P.length none,.slice c 0 s.T.length none]] M (.int .i64 0) M:=by
 have X:=gL y;have V :=gL hc;have:=kO.frame (M:=M) (new:=[]) [b,c] rfl (by simp[X,V]) (by rfl) (fun i t Z=>by
  match i with
  |0=>simp at Z;subst Z;exact cW (ez _) y List.take_length
  |1=>simp at Z;subst Z;exact cW (ig _) hc List.take_length
  |i+2=>simp at Z) rfl (F9 s)
 simpa [AV.af9,AV.ren,fj] using this
open Classical in
noncomputable def jt:List (FuncId×List AV×Mem×y9)→afF
 | [],_,_,_=>none
 |x::L,c,args,M=>if c=.fn x.1∧args=x.2.1∧M=x.2.2.1 then some x.2.2.2 else jt L c args M
theorem iO{L:List (FuncId×List AV×Mem×y9)}(h:∀x∈L,kO P x.1 x.2.1 x.2.2.1 x.2.2.2.v (x.2.2.2.mem x.2.2.1)∧∀p,x.2.2.2.pre=some p→p.length=x.2.2.1.length):qS P (jt L):=by
 have k:∀c Z M r,jt L c Z M=some r→∃x∈L,c=.fn x.1∧Z=x.2.1∧M=x.2.2.1∧r=x.2.2.2:=by
  clear h;intro c Z M r X;induction L with
  |nil=>simp[jt] at X
  |cons x L ih=>
   rw[jt] at X;split at X
   ·rename_i S
    cases X;exact⟨x,by simp,S.1,S.2.1,S.2.2,rfl⟩
   ·obtain⟨y,R,V⟩:=ih X
    exact⟨y,by simp[R],V⟩
 refine⟨fun f Z M r X=>?_,fun b Z M r X=>?_,fun c Z M r p X Q=>?_⟩
 ·obtain⟨x,U,V,rfl,rfl,rfl⟩:=k _ _ _ _ X
  cases V;exact(h x U).1
 ·obtain⟨x,U,V,_⟩:=k _ _ _ _ X
  cases V
 ·obtain⟨x,U,V,rfl,rfl,rfl⟩:=k _ _ _ _ X
  exact(h x U).2 p Q
def shA(s:af1):AV:=.agg [.slice 0 0 s.P.length none,.slice 1 0 s.T.length none]
theorem qS.or'{O y :afF}(h:qS P O)(h' :qS P y):qS P (afF.or O y):=by
 have k:∀c Z mem r,afF.or O y c Z mem=some r→O c Z mem=some r∨y c Z mem=some r:=fun c Z mem r X=>by
  unfold afF.or at X;split at X
  ·rename_i q U
   cases X;exact .inl U
  ·exact .inr X
 refine⟨fun f Z mem r X=>?_,fun f Z mem r X=>?_,fun c Z mem r p X V=>?_⟩
 ·rcases k _ _ _ _ X with h1 | h1
  ·exact h.fn _ _ _ _ h1
  ·exact h'.fn _ _ _ _ h1
 ·rcases k _ _ _ _ X with h1 | h1
  ·exact h.yld _ _ _ _ h1
  ·exact h'.yld _ _ _ _ h1
 ·rcases k _ _ _ _ X with h1 | h1
  ·exact h.pre _ _ _ _ _ h1 V
  ·exact h'.pre _ _ _ _ _ h1 V
theorem KY(a b c d e:AV):mV (bh prog) 147 (.agg [a,b,c,d,e]) 0=some a:=by kernel_rfl
theorem KZ(a b c d e:AV):mV (bh prog) 147 (.agg [a,b,c,d,e]) 1=some b:=by kernel_rfl
end Go.Proofs
