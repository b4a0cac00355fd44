/- See E54. -/
import Derived.Test.YthpgbelancmpjaaGreatDoorE32
set_option linter.all false
namespace Go.Proofs
open Go.Eng
open Tryz
def Fe:y9:=ag fun f Z=>match f,Z with
 |96,[]=>some (.agg w9)
 |_,_=>none
theorem Mg:qS prog Fe:=bM fun f Z v h mem=>by
 split at h
 ·cases h;exact GA mem
 ·cases h
open Classical in
noncomputable def dx:List (FuncId×List AV×AV)→FuncId→List AV→Option AV
 | [],_,_=>none
 |x::L,f,args=>if f=x.1∧args=x.2.1 then some x.2.2 else dx L f args
variable{P:Program}
theorem eG{L:List (FuncId×List AV×AV)}(h:∀x∈L,∀M,kO P x.1 x.2.1 M x.2.2 M):qS P (ag (dx L)):=bM fun f X v Z mem=>by
 induction L with
 |nil=>simp[dx] at Z
 |cons x L ih=>
  rw[dx] at Z;split at Z
  ·rename_i V
   cases Z;rw[V.1,V.2];exact h x (by simp) mem
  ·exact ih (fun y U=>h y (by simp[U])) Z
theorem WB{w:Int}(h:0<w):0<hQ w:=by
 rw[lP];have:(0:Rat)<(w:Rat):=by exact_mod_cast h
 grind
theorem nK(s:aeo)(M:Mem)(b c:Nat)(o o' :Bool)(H:M[b]? =some (.cells o 2 (pC s.P)))(hc:M[c]? =some (.cells o' 3 (tC s.T))):
  kO prog 46 [.agg [.slice b 0 s.P.length none,.slice c 0 s.T.length none]] M (.int .i64 0) M:=by
 have X:=gL H;have V :=gL hc;have:=kO.frame (M:=M) (new:=[]) [b,c] rfl (by simp[X,V]) (by rfl) (fun i t Z=>by
  match i with
  |0=>simp at Z;subst Z;exact cP (ei _) H List.take_length
  |1=>simp at Z;subst Z;exact cP (fR _) hc List.take_length
  |i+2=>simp at Z) rfl (Eu s)
 simpa [AV.aez,AV.ren,fq] using this
open Classical in
noncomputable def jI:List (FuncId×List AV×Mem×aee)→y9
 | [],_,_,_=>none
 |x::L,c,args,M=>if c=.fn x.1∧args=x.2.1∧M=x.2.2.1 then some x.2.2.2 else jI L c args M
theorem jr{L:List (FuncId×List AV×Mem×aee)}(h:∀x∈L,kO P x.1 x.2.1 x.2.2.1 x.2.2.2.v (x.2.2.2.mem x.2.2.1)∧∀p,x.2.2.2.pre=some p→p.length=x.2.2.1.length):qS P (jI L):=by
 have k:∀c Z M r,jI L c Z M=some r→∃x∈L,c=.fn x.1∧Z=x.2.1∧M=x.2.2.1∧r=x.2.2.2:=by
  clear h;intro c Z M r X;induction L with
  |nil=>simp[jI] at X
  |cons x L ih=>
   rw[jI] at X;split at X
   ·rename_i S
    cases X;exact⟨x,by simp,S.1,S.2.1,S.2.2,rfl⟩
   ·obtain⟨y,R,V⟩:=ih X
    exact⟨y,by simp[R],V⟩
 refine⟨fun f Z M r X=>?_,fun b Z M r X=>?_,fun c Z M r p X O=>?_⟩
 ·obtain⟨x,U,V,rfl,rfl,rfl⟩:=k _ _ _ _ X
  cases V;exact(h x U).1
 ·obtain⟨x,U,V,_⟩:=k _ _ _ _ X
  cases V
 ·obtain⟨x,U,V,rfl,rfl,rfl⟩:=k _ _ _ _ X
  exact(h x U).2 p O
def shA(s:aeo):AV:=.agg [.slice 0 0 s.P.length none,.slice 1 0 s.T.length none]
theorem qS.or'{O H :y9}(h:qS P O)(h' :qS P H):qS P (y9.or O H):=by
 have k:∀c Z mem r,y9.or O H c Z mem=some r→O c Z mem=some r∨H c Z mem=some r:=fun c Z mem r X=>by
  unfold y9.or at X;split at X
  ·rename_i q U
   cases X;exact .inl U
  ·exact .inr X
 refine⟨fun f Z mem r X=>?_,fun f Z mem r X=>?_,fun c Z mem r p X V=>?_⟩
 ·rcases k _ _ _ _ X with h1 | h1
  ·exact h.fn _ _ _ _ h1
  ·exact h'.fn _ _ _ _ h1
 ·rcases k _ _ _ _ X with h1 | h1
  ·exact h.yld _ _ _ _ h1
  ·exact h'.yld _ _ _ _ h1
 ·rcases k _ _ _ _ X with h1 | h1
  ·exact h.pre _ _ _ _ _ h1 V
  ·exact h'.pre _ _ _ _ _ h1 V
theorem I8(a b c d e:AV):vw (aV prog) 125 (.agg [a,b,c,d,e]) 0=some a:=by kernel_rfl
theorem I9(a b c d e:AV):vw (aV prog) 125 (.agg [a,b,c,d,e]) 1=some b:=by kernel_rfl
end Go.Proofs
