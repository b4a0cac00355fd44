/- See Q54. -/
import Derived.Test.YtgafjliihahjgaaGreatDoorQ02
import Derived.RangeFuncLeaves
import Derived.OrdersIn
import Derived.TacticsIn
import Derived.Lib.ItoaNum
import Derived.Lib.LaidTab
set_option linter.all false
namespace Go.Eng
section
variable {P:Program}{T:TypeId→Option TyI}{μ:Nat→Place}{mem:Mem}{base:Nat}{w:World}
def TV(μ:Nat→Place) (n:Nat) (N:Next) (v:AV):Prop:=(∃V,N=.value V∧VRel μ n v V)∨(N=.skip∧v=.undef)
def NextOk(P:Program) (x:Sem Next) (base:Nat) (μ:Nat→Place) (mem:Mem) (w:World) (v:AV) (mem' :Mem):Prop:=
 ∃N w' μ',x.run P w=.ok N w' ∧TV μ' mem'.length N v∧HRel base μ' mem' w' ∧Step mem.length μ mem w μ' mem' w'
theorem NextOk.of_op{x:Sem Value}{v:AV}{mem' :Mem}(h:OpOk P x base μ mem w v mem'):NextOk P (do pure (.value (←x))) base μ mem w v mem' :=by obtain⟨V,w',μ',h1,h2,h3,h4⟩:=h;exact⟨.value V,w',μ',by simp[h1],.inl ⟨V,rfl,h2⟩,h3,h4⟩
theorem NextOk.of_val{x:Sem Value}{v:AV}(hH:HRel base μ mem w) (h:Val P x w μ mem.length v):NextOk P (do pure (.value (←x))) base μ mem w v mem:=
 .of_op (.of_val hH h)
theorem NextOk.pure{V:Value}{v:AV}(hH:HRel base μ mem w) (h:VRel μ mem.length v V):NextOk P (Pure.pure (.value V)) base μ mem w v mem:=
 ⟨.value V,w,μ,rfl,.inl ⟨V,rfl,h⟩,hH,.refl (Nat.le_refl _)⟩
theorem HX{env:Env}{a:Act}{n:Nat}(hR:TRel μ n env a.tmps) (ps:Array (Nat×Operand)):
  (ps.toList.map fun p=>(p.1,a.eval p.2)).map (·.1)=(ps.toList.map fun p=>(p.1,get env p.2)).map (·.1)∧
  VRels μ n ((ps.toList.map fun p=>(p.1,get env p.2)).map (·.2)) ((ps.toList.map fun p=>(p.1,a.eval p.2)).map (·.2)):=by
 constructor
 ·simp[Function.comp_def]
 ·have:=xg hR (ps.toList.map (·.2))
  simpa [Function.comp_def] using this
theorem oJ{env:Env}{a:Act}{n:Nat}(hR:TRel μ n env a.tmps) (x:Option Operand):
  (x.map (get env)=none∧x.map a.eval=none)∨∃l L,x.map (get env)=some l∧x.map a.eval=some L∧VRel μ n l L:=by
 cases x with
 |none=>exact .inl ⟨rfl,rfl⟩
 |some x=>exact .inr ⟨_,_,rfl,rfl,aP hR x⟩
theorem Rq{n:Nat}{ts:Array TypeId}{ty:TypeId}{s u:List UInt8}{X Y:Value}(e1:VRel μ n (.str s) X) (e2:VRel μ n (.str u) Y):Val P (Builtin.min_ ts ty #[X,Y]) w μ n (.str (if Op.bytesLess s u||s==u then s else u)):=by rw[e1.str,e2.str];refine .str ?_;simp[Builtin.min_,Builtin.min2,Op.stringOp,asBool];split<;>rfl
theorem Rn{n:Nat}{ts:Array TypeId}{ty:TypeId}{s u:List UInt8}{X Y:Value}(e1:VRel μ n (.str s) X) (e2:VRel μ n (.str u) Y):Val P (Builtin.max_ ts ty #[X,Y]) w μ n (.str (if Op.bytesLess s u then u else s)):=by rw[e1.str,e2.str];refine .str ?_;simp[Builtin.max_,Builtin.max2,Op.stringOp,asBool];cases Op.bytesLess s u<;>simp
theorem OP(hT:cA P T) (hH:HRel base μ mem w) {env:Env}{a:Act}{o:Oper}{v:AV}{mem' :Mem}
  (hR:TRel μ mem.length env a.tmps) (h:aOp T env mem o.op=some (v,mem')):NextOk P (execOp a.eval o) base μ mem w v mem' :=by
 unfold aOp at h;split at h
 ·rename_i x heq
  cases h;simp only[execOp,heq];exact .pure hH (aP hR x)
 ·rename_i x heq
  cases h;simp only[execOp,heq];exact .pure hH (aP hR x)
 ·rename_i c x y heq
  split at h
  ·rename_i t hc
   cases h;have:=aP hR c;rw[hc] at this;simp only[execOp,heq,this.bool,asBool,pure_bind];cases t
   ·exact .pure hH (aP hR y)
   ·exact .pure hH (aP hR x)
  ·cases h
 ·rename_i e heq
  simp only[execOp,heq];exact .of_op (G3 hT hH h)
 ·rename_i e x heq
  simp only[execOp,heq];exact .of_op (MA hH (aP hR x) h)
 ·rename_i t ps heq
  split at h
  ·rename_i v' hb
   cases h;obtain⟨p1,p2⟩:=HX hR ps;simp only[execOp,heq];refine .of_val hH ?_;have:=G4 (P:=P) hT hb p1 p2 w;have e:(⟨ps.toList.map fun p=>(p.1,a.eval p.2)⟩:Array (Nat×Value))=ps.map fun(i,x)=>(i,a.eval x):=by apply Array.ext';simp
   rw[e] at this;exact this
  ·cases h
 ·rename_i t n ps heq
  obtain⟨p1,p2⟩:=HX hR ps;simp only[execOp,heq];refine .of_op ?_;have:=uf (P:=P) hT hH p1 p2 h;have e:(⟨ps.toList.map fun p=>(p.1,a.eval p.2)⟩:Array (Nat×Value))=ps.map fun(i,x)=>(i,a.eval x):=by apply Array.ext';simp
  rw[e] at this;exact this
 ·rename_i t x heq
  split at h
  ·rename_i v' hb
   cases h;simp only[execOp,heq];exact .of_val hH (yz hT hH (aP hR x) hb)
  ·cases h
 ·rename_i t x y heq
  split at h
  ·rename_i m hb
   cases h;obtain⟨w',h1,h2,h3⟩:=Hd (P:=P) hT hH (aP hR x) (aP hR y) hb;simp only[execOp,heq];exact⟨.skip,w',μ,by simp[h1],.inr ⟨rfl,rfl⟩,h2,h3⟩
  ·cases h
 ·rename_i x heq
  split at h
  ·rename_i b o hx
   cases h;have:=aP hR x;rw[hx] at this;simp only[execOp,heq,this.ptr.2];refine .pure hH ?_;rw[this.ptr.2] at this;exact this
  ·rename_i f cs hx
   cases h;have:=aP hR x;rw[hx] at this;have h2:=this;simp only[VRel] at h2;obtain⟨Us,hU,_⟩:=h2;simp only[execOp,heq,hU];refine .pure hH ?_;rw[hU] at this;exact this
  ·cases h
 ·rename_i op t x y yt heq
  split at h
  ·rename_i v' hb
   cases h;simp only[execOp,heq];exact .of_val hH (My hT (aP hR x) (aP hR y) x y hb w)
  ·cases h
 ·rename_i op t x heq
  split at h
  ·rename_i v' hb
   cases h;simp only[execOp,heq];refine .of_val hH ?_;have hx:=aP hR x;unfold aUn at hb;split at hb
   ·rename_i hx';cases hb;rw[hx'] at hx;rw[hx.bool];exact .bool rfl
   ·rename_i hx';cases hb;rw[hx'] at hx;rw[hx.int];exact .int rfl
   ·cases hb
  ·cases h
 ·rename_i s d x heq
  split at h
  ·rename_i v' hb
   cases h;simp only[execOp,heq];exact .of_val hH (At hT (aP hR x) hb w)
  ·simp only[execOp,heq];exact .of_op (wI hT hH (aP hR x) h)
 ·rename_i f first capt heq
  split at h
  ·rename_i hf
   cases h;simp only[execOp,heq];refine .of_val hH ⟨.func (.func f) (first.map a.eval) (capt.map a.eval),rfl,?_⟩;simp only[VRel];have:first= #[]:=Array.eq_empty_of_size_eq_zero hf
   subst this;refine⟨capt.toList.map a.eval,?_,xg hR capt.toList⟩;simp only[Array.map_empty];congr 1;apply Array.ext';simp
  ·cases h
 ·rename_i t l c heq
  simp only[execOp,heq];exact .of_op (wM hT hH (aP hR l) (aP hR c) h)
 ·rename_i t x lo hi heq
  split at h
  ·rename_i v' hb
   cases h;simp only[execOp,heq];refine .of_val hH ?_;simp only[Option.map_none];exact Hb hT hH (aP hR x) (oJ hR lo) (oJ hR hi) hb
  ·simp only[execOp,heq]
   simp only[Option.map_none];split at h
   ·rename_i r hb
    cases h;exact .of_op (CQ hT hH (aP hR x) (oJ hR lo) (oJ hR hi) hb)
   ·split at h
    ·rename_i v' hb
     cases h;exact .of_val hH (ss hT (aP hR x) (oJ hR lo) (oJ hR hi) (.inl ⟨rfl,rfl⟩) hb)
    ·cases h
 ·rename_i t x lo hi mx heq
  split at h
  ·rename_i v' hb
   cases h;simp only[execOp,heq];refine .of_val hH ?_;simp only[Option.map_some];exact ss hT (aP hR x) (oJ hR lo) (oJ hR hi) (.inr ⟨_,_,rfl,rfl,aP hR mx⟩) hb
  ·cases h
 ·rename_i t x f heq
  split at h
  ·rename_i v' hb
   cases h;simp only[execOp,heq];exact .of_val hH (wJ hT (aP hR x) hb w)
  ·cases h
 ·rename_i t x f heq
  split at h
  ·rename_i v' hb
   cases h;simp only[execOp,heq];exact .of_val hH (G8 hT (aP hR x) hb w)
  ·cases h
 ·rename_i t x i heq
  split at h
  ·rename_i v' hb
   cases h;simp only[execOp,heq];exact .of_val hH (wK hT (aP hR x) (aP hR i) hb w)
  ·cases h
 ·rename_i t x i heq
  split at h
  ·rename_i v' hb
   cases h;simp only[execOp,heq];exact .of_val hH (G9 hT (aP hR x) (aP hR i) hb w)
  ·cases h
 ·rename_i t heq
  cases h;simp only[execOp,heq,Option.map_none];exact .of_op (Di hH)
 ·rename_i t m k ok heq
  split at h
  ·rename_i v' hb
   cases h;simp only[execOp,heq];exact .of_val hH (CN hT hH (aP hR m) (aP hR k) hb)
  ·cases h
 ·rename_i t m k x heq
  split at h
  ·rename_i m' hb
   cases h;obtain⟨w',h1,h2,h3⟩:=wP (P:=P) hT hH (aP hR m) (aP hR k) (aP hR x) hb;simp only[execOp,heq];exact⟨.skip,w',μ,by simp[h1],.inr ⟨rfl,rfl⟩,h2,h3⟩
  ·cases h
 ·rename_i t m k heq
  simp only[execOp,heq];exact .of_op (yB hT hH (aP hR m) (aP hR k) h)
 ·rename_i t m s x heq
  split at h
  ·rename_i m' hb
   cases h;obtain⟨w',h1,h2,h3⟩:=uh (P:=P) (t:=t) hH (aP hR m) (aP hR s) (aP hR x) hb;simp only[execOp,heq];exact⟨.skip,w',μ,by simp[h1],.inr ⟨rfl,rfl⟩,h2,h3⟩
  ·cases h
 ·rename_i t i heq
  split at h
  ·rename_i cs hx
   split at h
   ·rename_i v' hi
    cases h;have:=aP hR t;rw[hx] at this;simp only[VRel] at this;obtain⟨Us,hU,hr⟩:=this;obtain⟨V,hV,hv⟩:=hr.get i _ hi;simp only[execOp,heq,hU];exact .of_val hH ⟨V,by simp[Instr.extract,hV],hv⟩
   ·cases h
  ·cases h
 ·rename_i x t heq
  split at h
  ·rename_i v' hb
   cases h;simp only[execOp,heq,resolve,invoke,builtin,pure_bind];rw[show Array.map a.eval ⟨[x]⟩= #[a.eval x] by simp];exact .of_val hH (MD hT hH (aP hR x) hb)
  ·cases h
 ·rename_i s x t t2 heq
  simp only[execOp,heq,resolve,invoke,builtin,pure_bind];rw[show Array.map a.eval ⟨[s,x]⟩= #[a.eval s,a.eval x] by simp];split at h
  ·rename_i hi
   exact .of_op (As hT hH (aP hR s) (aP hR x) hi h)
  ·split at h
   ·rename_i r hb
    cases h;exact .of_op (CM hT hH (aP hR s) (aP hR x) hb)
   ·exact .of_op (Aq hT hH (aP hR s) (aP hR x) h)
 ·rename_i x t heq
  split at h
  ·rename_i v' hb
   cases h;simp only[execOp,heq,resolve,invoke,builtin,pure_bind];rw[show Array.map a.eval ⟨[x]⟩= #[a.eval x] by simp];exact .of_val hH (MB hT (aP hR x) hb)
  ·cases h
 ·rename_i x t heq
  split at h
  ·rename_i m' hb
   cases h;simp only[execOp,heq,resolve,invoke,builtin,pure_bind];rw[show Array.map a.eval ⟨[x]⟩= #[a.eval x] by simp];exact .of_op (G7 hT hH (aP hR x) hb)
  ·cases h
 ·rename_i x ts heq
  split at h
  ·rename_i v' hb
   cases h;simp only[execOp,heq,resolve,invoke,builtin,pure_bind];rw[show Array.map a.eval ⟨[x]⟩= #[a.eval x] by simp];exact .of_val hH (wQ hH _ _ (aP hR x) hb)
  ·cases h
 ·rename_i x y pt it heq
  simp only[execOp,heq,resolve,invoke,builtin,pure_bind];rw[show Array.map a.eval ⟨[x,y]⟩= #[a.eval x,a.eval y] by simp];exact .of_op (CS hT hH (aP hR x) (aP hR y) h)
 ·rename_i x y ts heq
  split at h
  ·rename_i k i k' j hx hy
   split at h
   ·rename_i hk
    cases h;subst hk;have e1:=aP hR x;have e2:=aP hR y;rw[hx] at e1;rw[hy] at e2;simp only[execOp,heq,resolve,invoke,builtin,pure_bind];refine .of_val hH (.int ?_);simp[Builtin.min_,Builtin.min2,e1.int,e2.int]
   ·cases h
  ·rename_i s u hx hy
   cases h;have e1:=aP hR x;have e2:=aP hR y;rw[hx] at e1;rw[hy] at e2;simp only[execOp,heq,resolve,invoke,builtin,pure_bind];rw[show Array.map a.eval ⟨[x,y]⟩= #[a.eval x,a.eval y] by simp];exact .of_val hH (Rq e1 e2)
  ·cases h
 ·rename_i x y ts heq
  split at h
  ·rename_i k i k' j hx hy
   split at h
   ·rename_i hk
    cases h;subst hk;have e1:=aP hR x;have e2:=aP hR y;rw[hx] at e1;rw[hy] at e2;simp only[execOp,heq,resolve,invoke,builtin,pure_bind];refine .of_val hH (.int ?_);simp[Builtin.max_,Builtin.max2,e1.int,e2.int]
   ·cases h
  ·rename_i s u hx hy
   cases h;have e1:=aP hR x;have e2:=aP hR y;rw[hx] at e1;rw[hy] at e2;simp only[execOp,heq,resolve,invoke,builtin,pure_bind];rw[show Array.map a.eval ⟨[x,y]⟩= #[a.eval x,a.eval y] by simp];exact .of_val hH (Rn e1 e2)
  ·cases h
 ·cases h
end
end Go.Eng
namespace Go.Eng
def Qg(P:Program) (f:FuncId):Prop:=∃fn,P.funcs[f]? =some fn∧fn.body.isSome=true∧(fn.name == "runtime.NumGoroutine")=false
abbrev Fr(ro:Option Nat):Fence:={ Fence.wide with round:=ro }
theorem xc{ro:Option Nat}{n:Nat}{P:Program}{f:FuncId}{args:Array Value}{w:World}{R:Ending→World→Prop}:CallsIn (Fr ro) n P f args w R↔Calls P f args w R:=
 callsIn_wide (n:=n)
def uy:String:=String.ofList ([105,110,116,101,114,110,97,108,47,115,116,114,99,111,110,118,46,117,105,110,116,54,52,112,111,119,49,48].map Char.ofNat)
structure GOk (P:Program) (base:Nat) (w:World):Prop where
 below:P.globals.size≤base
 tab:Lib.TabIs P w uy .u64 Lib.pow10Tab
theorem GOk.tabOf{P:Program}{base:Nat}{w:World}(h:GOk P base w) {s:String}(hs:uy=s):Lib.TabIs P w s .u64 Lib.pow10Tab:=hs▸h.tab
theorem KY{base:Nat}{μ:Nat→Place}{mem:Mem}{w:World}(hH:HRel base μ mem w) {b:Nat}(hb:dF mem b):base≤(μ b).blk:=by
 obtain⟨s,hs,ho⟩:=hb;have:=hH.slot b s hs;cases s with
 |absent=>cases ho
 |cells own es cs=>simp only[Slot.own] at ho;subst ho;simp only[SRel] at this;obtain⟨_,_,_,_,_,_,_,h⟩:=this;exact(h trivial).2.2.2
 |map es=>simp only[SRel] at this;obtain⟨_,_,_,h,_⟩:=this;exact h.1
 |fmap es=>cases ho
 |loop r=>simp only[SRel] at this;obtain⟨_,_,h,_⟩:=this;exact h
theorem Az{P:Program}{name:String}{g:Nat}(h:P.globalNamed name=some g):g<P.globals.size:=by
 unfold Program.globalNamed at h;split at h
 ·rename_i g' hg
  cases h;have:g∈(List.range P.globals.size).filter fun g=>(P.globals[g]?).any (·.name==name):=by rw[hg];simp
  simpa using (List.mem_filter.1 this).1
 ·cases h
theorem Ld{P:Program}{w w' :World}{name:String}(h:∀k,k<P.globals.size→w'.heap[k]? =w.heap[k]?):w'.var? P name=w.var? P name:=by
 unfold World.var?;cases hg:P.globalNamed name with
 |none=>rfl
 |some g=>simp only[Option.bind_some];rw[h g (Az hg)]
theorem GOk.step{P:Program}{base m0:Nat}{μ μ' :Nat→Place}{mem mem' :Mem}{w w' :World}(h:GOk P base w) (hH:HRel base μ mem w) (hS:Step m0 μ mem w μ' mem' w'):GOk P base w' :=by
 refine⟨h.below,?_⟩;have:=h.tab;unfold Lib.TabIs at this ⊢;rw[←this];refine Ld fun k hk=>hS.frame k ?_ fun b hb=>?_
 ·have:=h.below;have:=hH.base_le;omega
 ·have:=KY hH hb;have:=h.below;omega
structure MOk (P:Program) (base h0:Nat) (w:World) (ds:List Deferred):Prop where
 glob:GOk P base w
 base_le:base≤h0
 le:h0≤w.heap.size
 each:∀d∈ds,∃r,d={ target:=.collected r,args:= #[] }∧h0≤r∧w.heap[r]? =some (.deferred (some []))
 nodup:(ds.map (·.target)).Nodup
theorem MOk.nil{P:Program}{base:Nat}(w:World) (hg:GOk P base w) {h0:Nat}(hb:base≤h0) (h:h0≤w.heap.size):MOk P base h0 w []:=⟨hg,hb,h,fun _ h=>by(cases h),by simp⟩
theorem ng{base:Nat}{μ:Nat→Place}{mem:Mem}{w:World}(hH:HRel base μ mem w) {r:Nat}{x} (hr:w.heap[r]? =some (.deferred x)) {b:Nat}{s:Slot}(hb:mem[b]? =some s) (hs:s≠ .absent):(μ b).blk≠r:=by
 intro e;have:=hH.slot b s hb;cases s with
 |absent=>exact hs rfl
 |cells own es cs=>simp only[SRel] at this;obtain⟨_,_,_,h1,_⟩:=this;rw[e,hr] at h1;cases h1
 |map es=>simp only[SRel] at this;obtain⟨_,_,h1,_⟩:=this;rw[e,hr] at h1;cases h1
 |fmap es=>simp only[SRel] at this;obtain⟨_,_,h1,_⟩:=this;rw[e,hr] at h1;cases h1
 |loop r=>simp only[SRel] at this;obtain⟨_,h1,_⟩:=this;rw[e,hr] at h1;cases h1
theorem MOk.step{P:Program}{h0 base m0:Nat}{μ μ' :Nat→Place}{mem mem' :Mem}{w w' :World}{ds:List Deferred}(h:MOk P base h0 w ds) (hH:HRel base μ mem w) (hS:Step m0 μ mem w μ' mem' w'):MOk P base h0 w' ds:=by refine⟨h.glob.step hH hS,h.base_le,Nat.le_trans h.le hS.size,fun d hd=>?_,h.nodup⟩;obtain⟨r,e,h1,h2⟩:=h.each d hd;refine⟨r,e,h1,?_⟩;rw[hS.frame r (Array.getElem?_eq_some_iff.1 h2).1 fun b hb=>?_,h2];obtain⟨s,hb,ho⟩:=hb;exact ng hH h2 hb (Slot.own_ne ho)
def ACalls(P:Program) (f:FuncId) (args:List AV) (mem:Mem) (R:AV→Mem→Prop):Prop:=
 Qg P f∧∀base μ w Vs,GOk P base w→HRel base μ mem w→VRels μ mem.length args Vs→
  Calls P f ⟨Vs⟩ w fun e w' =>∃V v mem' μ',e=.returned V∧VRel μ' mem'.length v V∧HRel base μ' mem' w' ∧Step mem.length μ mem w μ' mem' w' ∧R v mem'
def ACallsTo(P:Program) (f:FuncId) (args:List AV) (mem:Mem) (v:AV) (mem' :Mem):Prop:=ACalls P f args mem fun v1 m1=>v1=v∧m1=mem'
theorem ACalls.mono{P f args mem} {R R' :AV→Mem→Prop}(h:ACalls P f args mem R) (hr:∀v m,R v m→R' v m):ACalls P f args mem R' :=
 ⟨h.1,fun base μ w Vs h0 h1 h2=>(h.2 base μ w Vs h0 h1 h2).mono fun _ _ ⟨V,v,m,μ',a,b,c,d,r⟩=>⟨V,v,m,μ',a,b,c,d,hr _ _ r⟩⟩
def AYields(P:Program) (b:Nat) (args:List AV) (mem:Mem) (R:AV→Mem→Prop):Prop:=
 ∀base μ w Vs,GOk P base w→HRel base μ mem w→VRels μ mem.length args Vs→b<mem.length→∃f tmps assign body,
  (Instr.yield (μ b).blk ⟨Vs⟩).run P w=.ok (.round (μ b).blk f tmps assign body) w∧
  RoundIn Fence.wide 0 P (μ b).blk f tmps assign body w fun e w' =>∃V v mem' μ',e=.returned V∧VRel μ' mem'.length v V∧HRel base μ' mem' w' ∧Step mem.length μ mem w μ' mem' w' ∧R v mem'
def rH(P:Program) (b:Nat) (args:List AV) (mem:Mem) (v:AV) (mem' :Mem):Prop:=AYields P b args mem fun v1 m1=>v1=v∧m1=mem'
theorem AYields.mono{P b args mem} {R R' :AV→Mem→Prop}(h:AYields P b args mem R) (hr:∀v m,R v m→R' v m):AYields P b args mem R' :=
 fun base μ w Vs h0 h1 h2 h3=>let ⟨f,tmps,a,c,hy,hR⟩:=h base μ w Vs h0 h1 h2 h3
  ⟨f,tmps,a,c,hy,hR.mono fun _ _ ⟨V,v,m,μ',a,b,c,d,r⟩=>⟨V,v,m,μ',a,b,c,d,hr _ _ r⟩⟩
def xp(env:Env):Op→Option (Nat×List AV)
 |.call { callee:=.value x,args,argTypes:=_ }=>match get env x with
  |.yield b=>some (b,SJ env args)
  |_=>none
 |_=>none
def C4(env:Env):Op→Option (FuncId×List AV)
 |.call { callee:=.value x,args,argTypes:=_ }=>match get env x with
  |.func f caps=>some (f,SJ env args++caps)
  |_=>none
 |_=>none
def oU(ops:Array Oper) (env:Env) (o:Oper):Option Bool:=
 match o.guard with
 |none=>some true
 |some (j,want)=>match (ops[j]?).bind (·.dst) with
  |some d=>match ab env d with
   |.bool b=>some (b==want)
   |.tuple []=>some false
   |_=>none
  |none=>none
def putE(env:Env) (dst:Option Tmp) (v:AV):Env:=
 match dst with
 |some d=>(d,v)::env
 |none=>env
structure St where
 env:Env
 mem:Mem
def Ay(N:Nat) (o:Oper):Bool:=match o.dst with
 |some d=>decide (d<N)
 |none=>true
def tt(P:Program) (T:TypeId→Option TyI) (env:Env) (mem:Mem) (o:Oper) (v:AV) (mem' :Mem):Prop:=
 aOp T env mem o.op=some (v,mem')∨(∃f args,C4 env o.op=some (f,args)∧ACallsTo P f args mem v mem')∨
  ∃b args,xp env o.op=some (b,args)∧rH P b args mem v mem'
def kL(P:Program) (T:TypeId→Option TyI) (N:Nat) (ops:Array Oper):List Oper→St→St→Prop
 | [],st,st' =>st' =st
 |o::os,st,st' =>∃b,oU ops st.env o=some b∧Ay N o=true∧
   (b=false→kL P T N ops os ⟨putE st.env o.dst (.tuple []),st.mem⟩ st')∧
   (b=true→∃v mem',tt P T st.env st.mem o v mem' ∧kL P T N ops os ⟨putE st.env o.dst v,mem'⟩ st')
section
variable {P:Program}{T:TypeId→Option TyI}{μ:Nat→Place}{mem:Mem}{base:Nat}{w:World}
theorem TRel.putE{n N:Nat}{env:Env}{a:Act}{o:Oper}{v:AV}{V:Value}(h:TRel μ n env a.tmps) (hN:a.tmps.size=N) (hd:Ay N o=true) (hv:VRel μ n v V):
  TRel μ n (putE env o.dst v) (a.put o.dst V).tmps:=by
 unfold Ay at hd;cases ho:o.dst with
 |none=>simpa [Go.Eng.putE,Act.put] using h
 |some d=>
  rw[ho] at hd;simp only[decide_eq_true_eq] at hd;exact h.put (by rw[hN];exact hd) hv
theorem dY(a:Act) (d:Option Tmp) (V:Value):(a.put d V).tmps.size=a.tmps.size:=by cases d<;>simp[Act.put]
theorem eI(a:Act) (d:Option Tmp) (V:Value):(a.put d V).defers=a.defers:=by cases d<;>rfl
theorem mP{env:Env}{n:Nat}{ops:Array Oper}{a:Act}{o:Oper}{b:Bool}(hR:TRel μ n env a.tmps) (h:oU ops env o=some b):
  Region.wanted o (yielded ops a.tmps)=b:=by
 unfold oU at h;unfold Region.wanted;split at h
 ·rename_i hg;cases h;simp[hg]
 ·rename_i j want hg
  simp only[hg];split at h
  ·rename_i d hd
   split at h
   ·rename_i b' hb
    cases h;have:=hR d;rw[hb] at this;have hv:=this.bool;simp only[yielded,hd,Option.bind_some];have hsome:a.tmps[d]? =some (.bool b'):=by
     rw[Array.getD_eq_getD_getElem?] at hv;cases hx:a.tmps[d]? with
     |none=>rw[hx] at hv;simp[undef] at hv
     |some y=>rw[hx] at hv;simp at hv;rw[hv]
    rw[hsome];cases b' <;>cases want<;>rfl
   ·rename_i hb
    cases h;have:=hR d;rw[hb] at this;simp only[VRel,VRels] at this;obtain⟨Us,hv,rfl⟩:=this;simp only[yielded,hd,Option.bind_some];rw[Array.getD_eq_getD_getElem?] at hv;cases hx:a.tmps[d]? with
    |none=>rfl
    |some y=>rw[hx] at hv;simp only[Option.getD_some] at hv;rw[hv];cases want<;>rfl
   ·cases h
  ·cases h
theorem uZ{f:FuncId}(h:Qg P f) (args:Array Value) (w:World):(callFunc f args).run P w=.ok (.enter f args) w:=by
 obtain⟨fn,h1,h2,h3⟩:=h;have hb:¬fn.body=none:=by intro e;rw[e] at h2;cases h2
 have hn:¬fn.name = "runtime.NumGoroutine" := by simpa using h3
 simp[callFunc,h1,hn,hb]
theorem CO{T:TypeId→Option TyI}{env:Env}{mem:Mem}{op:Op}{r} (h:aOp T env mem op=some r):∀c,op≠ .defer c:=by intro c e;subst e;simp[aOp] at h
theorem oI(hT:cA P T) (hG:GOk P base w) (hH:HRel base μ mem w) {N:Nat}{env:Env}{a:Act}{o:Oper}{v:AV}{mem' :Mem}
  (hR:TRel μ mem.length env a.tmps) (hN:a.tmps.size=N) (hd:Ay N o=true) (h:tt P T env mem o v mem')
  {K:Act→World→Prop}{Q:Exit→Act→World→Prop}{ro:Option Nat}
  (hK:∀V w' μ',VRel μ' mem'.length v V→HRel base μ' mem' w' →TRel μ' mem'.length (putE env o.dst v) (a.put o.dst V).tmps→Step mem.length μ mem w μ' mem' w' →K (a.put o.dst V) w'):
  o.wpIn (Fr ro) 0 P a w K Q:=by
 refine⟨fun _ _=>trivial,?_⟩;rcases h with h | ⟨f,args,hc,hcall⟩ | ⟨b,args,hc,hy⟩
 ·rw[Oper.semAt_eq _ _ _ (CO h)]
  obtain⟨N',w',μ',h1,h2,h3,h4⟩:=OP hT hH hR h;rw[h1];have hR' :TRel μ' mem'.length env a.tmps:=hR.mono h4.len h4.agree;rcases h2 with⟨V,rfl,hv⟩ | ⟨rfl,rfl⟩
  ·exact hK V w' μ' hv h3 (hR'.putE hN hd hv) h4
  ·have hv:VRel μ' mem'.length .undef undef:=by simp[VRel]
   exact hK undef w' μ' hv h3 (hR'.putE hN hd hv) h4
 ·unfold C4 at hc
  split at hc
  ·rename_i x xs ts heq
   split at hc
   ·rename_i f' caps hx
    cases hc;have hf:=aP hR x;rw[hx] at hf;simp only[VRel] at hf;obtain⟨Us,hU,hus⟩:=hf;have hrun:(execOp a.eval o).run P w=.ok (.enter f ⟨xs.toList.map a.eval++Us⟩) w:=by simp only[execOp,heq,resolve,hU,Deferred.ofValue,pure_bind,invoke];rw[uZ hcall.1];congr 2;apply Array.ext';simp
    rw[Oper.semAt_eq _ _ _ (by rw[heq];intro c e;cases e),hrun];refine⟨fun h=>by simp[Fence.wide] at h,xc.2 ((hcall.2 base μ w _ hG hH ((xg hR xs.toList).append hus)).mono ?_)⟩;rintro e w' ⟨V,v',m',μ',rfl,q1,q2,q3,rfl,rfl⟩;exact hK V w' μ' q1 q2 ((hR.mono q3.len q3.agree).putE hN hd q1) q3
   ·cases hc
  ·cases hc
 ·unfold xp at hc
  split at hc
  ·rename_i x xs ts heq
   split at hc
   ·rename_i b' hx
    cases hc;have hf:=aP hR x;rw[hx] at hf;simp only[VRel] at hf;obtain⟨hb,hU⟩:=hf;obtain⟨f,tmps,asg,body,h1,h2⟩:=hy base μ w _ hG hH (xg hR xs.toList) hb;have hrun:(execOp a.eval o).run P w=.ok (.round (μ b).blk f tmps asg body) w:=by
     rw[←h1];simp only[execOp,heq,resolve,hU,Deferred.ofValue,pure_bind,invoke];have e: #[]++xs.map a.eval=(⟨xs.toList.map a.eval⟩:Array Value):=by apply Array.ext';simp
     rw[e]
    rw[Oper.semAt_eq _ _ _ (by rw[heq];intro c e;cases e),hrun];refine⟨fun h=>by simp[Fence.wide] at h,RoundIn.mono (F:=Fr ro) h2 ?_⟩;rintro e w' ⟨V,v',m',μ',rfl,q1,q2,q3,rfl,rfl⟩;exact hK V w' μ' q1 q2 ((hR.mono q3.len q3.agree).putE hN hd q1) q3
   ·cases hc
  ·cases hc
theorem sR(hT:cA P T) {N:Nat}{ops:Array Oper}{Q:Exit→Act→World→Prop}:∀{l:List Oper}{st st' :St}{μ:Nat→Place}{w:World}{a:Act}{m0:Nat}{μ0:Nat→Place}{mem0:Mem}{w0:World}{h0:Nat}{ro:Option Nat},
  kL P T N ops l st st' →HRel base μ st.mem w→TRel μ st.mem.length st.env a.tmps→a.tmps.size=N→MOk P base h0 w a.defers→m0≤st.mem.length→Step m0 μ0 mem0 w0 μ st.mem w→
  (∀a' w' μ',HRel base μ' st'.mem w' →TRel μ' st'.mem.length st'.env a'.tmps→a'.tmps.size=N→MOk P base h0 w' a'.defers→m0≤st'.mem.length→Step m0 μ0 mem0 w0 μ' st'.mem w' →Q .normal a' w')→
  wpListIn (Fr ro) 0 P ops Q l a w
 | [],st,st',μ,w,a,m0,μ0,mem0,w0,h0,ro,h,hH,hR,hN,hdf,hm,hS,hQ=>by simp only[kL] at h;subst h;exact wpListIn_nil (hQ a w μ hH hR hN hdf hm hS)
 |o::os,st,st',μ,w,a,m0,μ0,mem0,w0,h0,ro,h,hH,hR,hN,hdf,hm,hS,hQ=>by
  obtain⟨b,hb,hd,hf,ht⟩:=h;refine wpListIn_step fun K hK=>?_
  rw[mP hR hb];cases b with
  |false=>
   simp only[Bool.false_eq_true,if_false];refine⟨fun _ _=>trivial,?_⟩;refine hK _ _ (sR hT (hf rfl) hH (hR.putE hN hd (by simp[VRel,VRels,undef])) (by rw[dY];exact hN) (by rw[eI];exact hdf) hm hS hQ)
  |true=>
   simp only[if_true];obtain⟨v,mem',hstep,hrun⟩:=ht rfl;refine oI hT hdf.glob hH hR hN hd hstep fun V w' μ' q1 q2 q3 q4=>hK _ _ ?_
   exact sR hT hrun q2 q3 (by rw[dY];exact hN) (by rw[eI];exact hdf.step hH q4) (Nat.le_trans hm q4.len) (hS.trans (q4.mono hm)) hQ
end
end Go.Eng
namespace Go.Eng
def AWP(P:Program) (tp:Bool) (N m0:Nat) (c:Code) (st:St) (Q:Exit→St→Prop):Prop:=
 ∀(ro:Option Nat) (h0:Nat) base μ w a,(tp=true→ro=none)→HRel base μ st.mem w→TRel μ st.mem.length st.env a.tmps→a.tmps.size=N→MOk P base h0 w a.defers→m0≤st.mem.length→
  c.wpIn (Fr ro) 0 P (fun e a' w' =>∃st' μ',HRel base μ' st'.mem w' ∧TRel μ' st'.mem.length st'.env a'.tmps∧a'.tmps.size=N∧MOk P base h0 w' a'.defers∧m0≤st'.mem.length∧
   Step m0 μ st.mem w μ' st'.mem w' ∧Q e st') a w
section
variable {P:Program}{T:TypeId→Option TyI}{tp:Bool}{N m0:Nat}{Q:Exit→St→Prop}{st:St}
theorem AWP.mono{c:Code}{Q' :Exit→St→Prop}(h:AWP P tp N m0 c st Q) (hq:∀e s,Q e s→Q' e s):AWP P tp N m0 c st Q' :=
 fun ro h0 base μ w a hro h1 h2 h3 h4 h5=>wpIn_mono (h ro h0 base μ w a hro h1 h2 h3 h4 h5) fun _ _ _ ⟨s,μ',a1,a2,a3,a4,a5,a6,a7⟩=>⟨s,μ',a1,a2,a3,a4,a5,a6,hq _ _ a7⟩
theorem Q3(h:Q .normal st):AWP P tp N m0 .skip st Q:=
 fun _ _ _ μ _ _ _ h1 h2 h3 h4 h5=>wpIn_skip ⟨st,μ,h1,h2,h3,h4,h5,.refl h5,h⟩
theorem Q1{id:Nat}(h:Q (.exit id) st):AWP P tp N m0 (.exit id) st Q:=
 fun _ _ _ μ _ _ _ h1 h2 h3 h4 h5=>wpIn_exit ⟨st,μ,h1,h2,h3,h4,h5,.refl h5,h⟩
theorem R1(h:Q .ret st):AWP P tp N m0 .ret st Q:=
 fun _ _ _ μ _ _ _ h1 h2 h3 h4 h5=>wpIn_ret ⟨st,μ,h1,h2,h3,h4,h5,.refl h5,h⟩
def Tj(R:St→Prop) (Q:Exit→St→Prop):Exit→St→Prop
 |.normal,s=>R s
 |e,s=>Q e s
theorem uk{x y:Code}(h:AWP P tp N m0 x st (Tj (fun s=>AWP P tp N m0 y s Q) Q)):AWP P tp N m0 (.seq x y) st Q:=by
 intro ro h0 base μ w a hro h1 h2 h3 h4 h5;refine wpIn_seq (wpIn_mono (h ro h0 base μ w a hro h1 h2 h3 h4 h5) ?_);rintro e a' w' ⟨s,μ',b1,b2,b3,b4,b5,b6,b7⟩;cases e with
 |normal=>
  refine wpIn_mono (b7 ro h0 base μ' w' a' hro b1 b2 b3 b4 b5) ?_;rintro e a2 w2 ⟨s2,μ2,c1,c2,c3,c4,c5,c6,c7⟩;exact⟨s2,μ2,c1,c2,c3,c4,c5,b6.trans c6,c7⟩
 |_=>exact⟨s,μ',b1,b2,b3,b4,b5,b6,b7⟩
theorem KG{c:Operand}{x y:Code}{b:Bool}(hc:get st.env c=.bool b) (ht:b=true→AWP P tp N m0 x st Q) (hf:b=false→AWP P tp N m0 y st Q):
  AWP P tp N m0 (.cond c x y) st Q:=by
 intro ro h0 base μ w a hro h1 h2 h3 h4 h5;have hv:=aP h2 c;rw[hc] at hv;exact wpIn_cond_split hv.bool (fun e=>ht e ro h0 base μ w a hro h1 h2 h3 h4 h5) (fun e=>hf e ro h0 base μ w a hro h1 h2 h3 h4 h5)
def KI(id:Nat) (Q:Exit→St→Prop):Exit→St→Prop
 |.exit i,s=>if i=id then Q .normal s else Q (.exit i) s
 |e,s=>Q e s
theorem yE{id:Nat}{c:Code}(h:AWP P tp N m0 c st (KI id Q)):AWP P tp N m0 (.block id c) st Q:=by
 intro ro h0 base μ w a hro h1 h2 h3 h4 h5;refine wpIn_block (wpIn_mono (h ro h0 base μ w a hro h1 h2 h3 h4 h5) ?_);rintro e a' w' ⟨s,μ',b1,b2,b3,b4,b5,b6,b7⟩;cases e with
 |exit i=>
  simp only[Exit.inBlock,KI] at b7 ⊢;split at b7
  ·rename_i hi;rw[if_pos hi];exact⟨s,μ',b1,b2,b3,b4,b5,b6,b7⟩
  ·rename_i hi;rw[if_neg hi];exact⟨s,μ',b1,b2,b3,b4,b5,b6,b7⟩
 |_=>exact⟨s,μ',b1,b2,b3,b4,b5,b6,b7⟩
theorem MI(hT:cA P T) {id:Nat}{ops:Array Oper}{st' :St}(h:kL P T N ops ops.toList st st') (hq:Q .normal st'):
  AWP P tp N m0 (.region id ops false) st Q:=by
 intro ro h0 base μ w a hro h1 h2 h3 h4 h5;exact wpIn_region_list (sR hT h h1 h2 h3 h4 h5 (.refl h5) fun a' w' μ' c1 c2 c3 c4 c5 c6=>⟨st',μ',c1,c2,c3,c4,c5,c6,hq⟩)
theorem vB{F:Fence}{r:Nat}{σ:Type}{c:Code}{Q:Exit→Act→World→Prop}(I:σ→Act→World→Prop) (m:σ→Nat)
  (round:∀s a w,I s a w→c.wpIn F r P (Exit.then (fun a' w' =>∃s',I s' a' w' ∧m s' <m s) Q) a w):
  ∀{s a w},I s a w→(Code.loop c).wpIn F r P Q a w:=by
 intro s a w h₀ b k cs hro hb hr;have key:∀n s a w,m s=n→I s a w→
   ∃e a' w',Q e a' w' ∧ArrivesIn (Machine.fenced P F) P (lone (b.atR a (.code c::.inLoop c::k)) cs w) b k cs e a' w' :=by
  intro n;induction n using Nat.strongRecOn with
  |_ n ih=>
   intro s a w hn hI;obtain⟨e,a₁,w₁,hq,harr⟩:=round s a w hI b (.inLoop c::k) cs hro hb hr;cases e with
   |normal=>
    obtain⟨s',hI₁,hlt⟩:=hq;obtain⟨e₂,a₂,w₂,hq₂,harr₂⟩:=ih (m s') (hn▸hlt) s' a₁ w₁ rfl hI₁;exact⟨e₂,a₂,w₂,hq₂,.of_steps (StepsIn.trans harr (.one (fenced_calm hb hr rfl) stepR_inLoop)) harr₂⟩
   |exit id=>exact⟨_,a₁,w₁,hq,.pass (x:=.inLoop c) rfl (fun _ _=>.inl (by simp)) harr⟩
   |goto l=>exact⟨_,a₁,w₁,hq,.pass (x:=.inLoop c) rfl (fun _ _=>.inl (by simp)) harr⟩
   |ret=>exact⟨_,a₁,w₁,hq,.pass (x:=.inLoop c) rfl (fun _ _=>.inl (by simp)) harr⟩
   |panic ch=>exact⟨_,a₁,w₁,hq,.pass (x:=.inLoop c) rfl (fun _ _=>.inl (by simp)) harr⟩
   |outgrown=>exact⟨_,a₁,w₁,hq,.pass (x:=.inLoop c) rfl (fun _ _=>.inl (by simp)) harr⟩
 obtain⟨e,a',w',hq,harr⟩:=key _ s a w rfl h₀;exact⟨e,a',w',hq,.of_steps (.one (fenced_calm hb hr rfl) stepR_loop) harr⟩
theorem Q2{σ:Type}{c:Code}(I:σ→St→Prop) (m:σ→Nat) {s:σ}(hI0:I s st)
  (round:∀s st,I s st→AWP P tp N m0 c st (Tj (fun st' =>∃s',I s' st' ∧m s' <m s) Q)):AWP P tp N m0 (.loop c) st Q:=by
 intro ro h0 base μ w a hro h1 h2 h3 h4 h5;refine vB (σ:=σ) (fun s a' w' =>∃st' μ',HRel base μ' st'.mem w' ∧TRel μ' st'.mem.length st'.env a'.tmps∧a'.tmps.size=N∧MOk P base h0 w' a'.defers∧m0≤st'.mem.length∧
   Step m0 μ st.mem w μ' st'.mem w' ∧I s st') m ?_ (s:=s) ⟨st,μ,h1,h2,h3,h4,h5,.refl h5,hI0⟩
 rintro s a' w' ⟨st',μ',b1,b2,b3,b4,b5,b6,b7⟩;refine wpIn_mono (round s st' b7 ro h0 base μ' w' a' hro b1 b2 b3 b4 b5) ?_;rintro e a2 w2 ⟨s2,μ2,c1,c2,c3,c4,c5,c6,c7⟩;cases e with
 |normal=>
  obtain⟨s',d1,d2⟩:=c7;exact⟨s',⟨s2,μ2,c1,c2,c3,c4,c5,b6.trans c6,d1⟩,d2⟩
 |_=>exact⟨s2,μ2,c1,c2,c3,c4,c5,b6.trans c6,c7⟩
def Weak(m0:Nat) (st st1:St):Prop:=∀base μ w tmps,HRel base μ st.mem w→TRel μ st.mem.length st.env tmps→m0≤st.mem.length→
 ∃μ1,HRel base μ1 st1.mem w∧TRel μ1 st1.mem.length st1.env tmps∧m0≤st1.mem.length∧Step m0 μ st.mem w μ1 st1.mem w
theorem Q4{c:Code}{st1:St}(hw:Weak m0 st st1) (h:AWP P tp N m0 c st1 Q):AWP P tp N m0 c st Q:=by intro ro h0 base μ w a hro h1 h2 h3 h4 h5;obtain⟨μ1,b1,b2,b3,b4⟩:=hw base μ w a.tmps h1 h2 h5;refine wpIn_mono (h ro h0 base μ1 w a hro b1 b2 h3 h4 b3) ?_;rintro e a2 w2 ⟨s2,μ2,c1,c2,c3,c4,c5,c6,c7⟩;exact⟨s2,μ2,c1,c2,c3,c4,c5,b4.trans c6,c7⟩
theorem Weak.trans{s1 s2 s3:St}(h:Weak m0 s1 s2) (h' :Weak m0 s2 s3):Weak m0 s1 s3:=by intro base μ w tmps h1 h2 h3;obtain⟨μ1,b1,b2,b3,b4⟩:=h base μ w tmps h1 h2 h3;obtain⟨μ2,c1,c2,c3,c4⟩:=h' base μ1 w tmps b1 b2 b3;exact⟨μ2,c1,c2,c3,b4.trans c4⟩
theorem Weak.env{env env1:Env}{mem:Mem}(h:∀t,ab env1 t=ab env t∨ab env1 t=.undef):Weak m0 ⟨env,mem⟩ ⟨env1,mem⟩:=by
 intro base μ w tmps h1 h2 h3;refine⟨μ,h1,fun t=>?_,h3,.refl h3⟩;rcases h t with e | e
 ·rw[e];exact h2 t
 ·rw[e];simp[VRel]
theorem AWP.weakQ{c:Code}{Q' :Exit→St→Prop}(h:AWP P tp N m0 c st Q') (hq:∀e s,Q' e s→∃s1,Weak m0 s s1∧Q e s1):AWP P tp N m0 c st Q:=by intro ro h0 base μ w a hro h1 h2 h3 h4 h5;refine wpIn_mono (h ro h0 base μ w a hro h1 h2 h3 h4 h5) ?_;rintro e a2 w2 ⟨s2,μ2,c1,c2,c3,c4,c5,c6,c7⟩;obtain⟨s1,hw,hQ⟩:=hq e s2 c7;obtain⟨μ1,b1,b2,b3,b4⟩:=hw base μ2 w2 a2.tmps c1 c2 c5;exact⟨s1,μ1,b1,b2,c3,c4,b3,c6.trans b4,hQ⟩
end
end Go.Eng
namespace Go.Eng
def rho(m0:Nat) (ks:List Nat) (b:Nat):Option Nat:=if b<m0 then some b else (ks.idxOf? b).map (m0+·)
def vv(ρ:Nat→Option Nat) (env:Env):Env:=env.map fun e=>(e.1,e.2.ren ρ)
def Slot.ren(ρ:Nat→Option Nat):Slot→Slot
 |.absent=>.absent
 |.cells own es cs=>.cells own es (AV.rens ρ cs)
 |.map es=>.map (es.map fun e=>(e.1.ren ρ,e.2.ren ρ))
 |.fmap es=>.fmap (es.map fun e=>(e.1.ren ρ,e.2.ren ρ))
 |.loop r=>.loop { r with env:=vv ρ r.env }
def keep(m0:Nat) (ks:List Nat) (mem:Mem):Mem:=ks.map fun k=>(mem.getD k .absent).ren (rho m0 ks)
def compact(m0:Nat) (ks:List Nat) (mem:Mem):Mem:=(mem.take m0).map (Slot.ren (rho m0 ks))++keep m0 ks mem
def HH(m0 n:Nat) (ks:List Nat):Bool:=decide ks.Nodup&&ks.all fun k=>decide (m0≤k∧k<n)
theorem gw(ρ:Nat→Option Nat):∀(env:Env) (t:Nat),ab (vv ρ env) t=(ab env t).ren ρ
 | [],t=>by simp[vv,ab,AV.ren]
 |(k,v)::r,t=>by
  simp only[vv,List.map_cons,ab];by_cases h:k=t
  ·simp[h]
  ·simp only[h,if_false];exact gw ρ r t
section
variable {μ:Nat→Place}{mem:Mem}{base:Nat}{w:World}
theorem SRel.ren{μ μ' :Nat→Place}{n n' base:Nat}{w:World}{p:Place}{s:Slot}{ρ:Nat→Option Nat}
  (hρ:∀b b',b<n→ρ b=some b' →b' <n' ∧μ' b' =μ b) (h:SRel μ n base w p s):SRel μ' n' base w p (s.ren ρ):=by
 cases s with
 |absent=>trivial
 |cells own es cs=>
  simp only[SRel,Slot.ren] at h ⊢;obtain⟨cur,e,fr,h1,h2,h3,h4,h5⟩:=h;refine⟨cur,e,fr,h1,h2,by rw[fb,List.length_map];exact h3,fun j v hv=>?_,h5⟩;rw[fb,List.getElem?_map] at hv;simp only[Option.map_eq_some_iff] at hv;obtain⟨v0,hv0,rfl⟩:=hv;obtain⟨V,hV,hr⟩:=h4 j v0 hv0;exact⟨V,hV,hr.ren hρ⟩
 |map es=>
  simp only[SRel,Slot.ren] at h ⊢;obtain⟨ents,clock,h1,h2,h3,h4⟩:=h;refine⟨ents,clock,h1,h2,by rw[List.length_map];exact h3,fun j e he=>?_⟩;rw[List.getElem?_map] at he;simp only[Option.map_eq_some_iff] at he;obtain⟨e0,he0,rfl⟩:=he;obtain⟨E,hE,hr1,hr2⟩:=h4 j e0 he0;exact⟨E,hE,hr1.ren hρ,hr2.ren hρ⟩
 |fmap es=>
  simp only[SRel,Slot.ren] at h ⊢;obtain⟨ents,clock,h1,h2,h3,h4⟩:=h;refine⟨ents,clock,h1,h2,by rw[List.length_map];exact h3,fun j e he=>?_⟩;rw[List.getElem?_map] at he;simp only[Option.map_eq_some_iff] at he;obtain⟨e0,he0,rfl⟩:=he;obtain⟨E,hE,hr1,hr2⟩:=h4 j e0 he0;exact⟨E,hE,hr1.ren hρ,hr2.ren hρ⟩
 |loop r=>
  simp only[SRel,Slot.ren] at h ⊢;obtain⟨L,h1,h2,h3⟩:=h;exact⟨L,h1,h2,{ h3 with tmps:=fun t=>by rw[gw];exact(h3.tmps t).ren hρ }⟩
theorem Slot.own_ren(ρ:Nat→Option Nat) (s:Slot):(s.ren ρ).own=s.own:=by cases s<;>rfl
theorem zb{m0 n:Nat}{ks:List Nat}(h:HH m0 n ks=true):ks.Nodup∧∀k∈ks,m0≤k∧k<n:=by simp only[HH,Bool.and_eq_true,decide_eq_true_eq,List.all_eq_true] at h;exact h
theorem ed{m0:Nat}{ks:List Nat}(hm:m0≤mem.length):(compact m0 ks mem).length=m0+ks.length:=by simp[compact,keep];omega
def fZ(m0:Nat) (ks:List Nat) (b:Nat):Nat:=if b<m0 then b else ks.getD (b-m0) 0
theorem q9{m0:Nat}{ks:List Nat}(hm:m0≤mem.length) (hk:HH m0 mem.length ks=true) {b:Nat}{s:Slot}(h:(compact m0 ks mem)[b]? =some s):
  ∃s0,mem[fZ m0 ks b]? =some s0∧s=s0.ren (rho m0 ks):=by
 obtain⟨_,hks⟩:=zb hk;have e1:((mem.take m0).map (Slot.ren (rho m0 ks))).length=m0:=by simp;omega
 unfold compact at h;by_cases hb:b<m0
 ·rw[List.getElem?_append_left (by omega),List.getElem?_map,List.getElem?_take_of_lt hb] at h
  simp only[Option.map_eq_some_iff] at h;obtain⟨s0,h1,h2⟩:=h;exact⟨s0,by simpa [fZ,hb] using h1,h2.symm⟩
 ·rw[List.getElem?_append_right (by omega),e1] at h
  unfold keep at h;rw[List.getElem?_map] at h;simp only[Option.map_eq_some_iff] at h;obtain⟨k,h1,h2⟩:=h;have hmem:=List.mem_of_getElem? h1;obtain⟨_,hlt⟩:=hks k hmem;have hget:mem[k]? =some mem[k]:=by simp[hlt]
  refine⟨mem[k],?_,?_⟩
  ·simp[fZ,hb,h1,hlt]
  ·rw[←h2];simp[List.getD,hget]
theorem MJ{m0:Nat}{ks:List Nat}(hk:HH m0 mem.length ks=true) {x y:Nat}(hx:x<m0+ks.length) (hy:y<m0+ks.length) (h:fZ m0 ks x=fZ m0 ks y):x=y:=by
 obtain⟨hnd,hks⟩:=zb hk;have hmem:∀z,¬z<m0→z<m0+ks.length→m0≤ks.getD (z-m0) 0:=by
  intro z h1 h2;have hlt:z-m0<ks.length:=by omega
  have:ks.getD (z-m0) 0=ks[z-m0]:=by simp[hlt]
  rw[this];exact(hks _ (by simp)).1
 unfold fZ at h;by_cases h1:x<m0<;>by_cases h2:y<m0<;>simp only[h1,h2,if_true,if_false] at h
 ·exact h
 ·have:=hmem y h2 hy;omega
 ·have:=hmem x h1 hx;omega
 ·have hx' :x-m0<ks.length:=by omega
  have hy' :y-m0<ks.length:=by omega
  have ex:ks.getD (x-m0) 0=ks[x-m0]:=by simp[hx']
  have ey:ks.getD (y-m0) 0=ks[y-m0]:=by simp[hy']
  rw[ex,ey] at h;have:=(List.getElem_inj hnd).1 h;omega
theorem HRel.compact{m0:Nat}{ks:List Nat}(hH:HRel base μ mem w) (hm:m0≤mem.length) (hk:HH m0 mem.length ks=true):
  HRel base (fun b=>μ (fZ m0 ks b)) (compact m0 ks mem) w∧
  (∀b b',b<mem.length→rho m0 ks b=some b' →b' <(Eng.compact m0 ks mem).length∧(fun b=>μ (fZ m0 ks b)) b' =μ b)∧
  Step m0 μ mem w (fun b=>μ (fZ m0 ks b)) (Eng.compact m0 ks mem) w:=by
 obtain⟨hnd,hks⟩:=zb hk;have hρ:∀b b',b<mem.length→rho m0 ks b=some b' →b' <(Eng.compact m0 ks mem).length∧(fun b=>μ (fZ m0 ks b)) b' =μ b:=by
  intro b b' hb hr;rw[ed hm];unfold rho at hr;by_cases h1:b<m0
  ·rw[if_pos h1] at hr
   cases hr;exact⟨by omega,by simp[fZ,h1]⟩
  ·rw[if_neg h1] at hr
   simp only[Option.map_eq_some_iff] at hr;obtain⟨i,hi,rfl⟩:=hr;have hi' :=List.idxOf?_eq_some_iff.1 hi;obtain⟨hlt,hget,_⟩:=hi';refine⟨by omega,?_⟩;simp only[fZ];rw[if_neg (by omega)];have:ks.getD (m0+i-m0) 0=b:=by rw[Nat.add_sub_cancel_left];simp[hlt,hget]
   rw[this]
 have pre:∀x,dF (Eng.compact m0 ks mem) x→dF mem (fZ m0 ks x)∧x<m0+ks.length:=by intro x hx;obtain⟨s,hc,ho⟩:=hx;have hlt:=(List.getElem?_eq_some_iff.1 hc).1;rw[ed hm] at hlt;obtain⟨s0,h1,rfl⟩:=q9 hm hk hc;exact⟨⟨s0,h1,by rw[←Slot.own_ren];exact ho⟩,hlt⟩
 refine⟨⟨hH.base_le,fun b s hs=>?_,fun x y s hx hy hne hxy=>?_⟩,hρ,?_⟩
 ·obtain⟨s0,h1,rfl⟩:=q9 hm hk hs
  exact(hH.slot _ s0 h1).ren hρ
 ·obtain⟨hxo,hxl⟩:=pre x hx
  have hyl:=(List.getElem?_eq_some_iff.1 hy).1;rw[ed hm] at hyl;obtain⟨s0,h1,rfl⟩:=q9 hm hk hy;refine hH.sep _ _ s0 hxo h1 ?_ fun e=>hxy (MJ hk hxl hyl e)
  rintro rfl;exact hne rfl
 ·refine⟨by rw[ed hm];omega,fun b hb=>by simp[fZ,hb],rfl,rfl,rfl,Nat.le_refl _,fun _ _ _=>rfl,fun b hb _=>?_,Nat.le_refl _⟩
  exact⟨_,(pre b hb).1,rfl⟩
theorem Weak.compact{m0:Nat}{env:Env}{mem:Mem}(ks:List Nat) (hk:HH m0 mem.length ks=true):
  Weak m0 ⟨env,mem⟩ ⟨vv (rho m0 ks) env,compact m0 ks mem⟩:=by
 intro base μ w tmps h1 h2 h3;obtain⟨c1,c2,c3⟩:=h1.compact h3 hk;refine⟨_,c1,fun t=>?_,by rw[ed h3];omega,c3⟩;rw[gw];exact(h2 t).ren c2
end
mutual
theorem VRel.lower{μ μ' :Nat→Place}{n n' :Nat}(hμ:∀b,b<n→μ' b=μ b):∀{v V V'},VRel μ n v V→VRel μ' n' v V' →VRel μ n v V'
 |.undef,_,_,_,_=>by simp[VRel]
 |.bool _,_,_,_,h=>by simpa [VRel] using h
 |.int _ _,_,_,_,h=>by simpa [VRel] using h
 |.str _,_,_,_,h=>by simpa [VRel] using h
 |.ptr b o,_,_,h,h' =>by simp only[VRel] at h h' ⊢;exact⟨h.1,by rw[←hμ b h.1];exact h'.2⟩
 |.nilptr,_,_,_,h=>by simpa [VRel] using h
 |.slice b o l c,_,_,h,h' =>by simp only[VRel] at h h' ⊢;exact⟨h.1,by rw[←hμ b h.1];exact h'.2⟩
 |.nilslice,_,_,_,h=>by simpa [VRel] using h
 |.map b,_,_,h,h' =>by simp only[VRel] at h h' ⊢;exact⟨h.1,by rw[←hμ b h.1];exact h'.2⟩
 |.yield b,_,_,h,h' =>by simp only[VRel] at h h' ⊢;exact⟨h.1,by rw[←hμ b h.1];exact h'.2⟩
 |.nilmap,_,_,_,h=>by simpa [VRel] using h
 |.func f cs,_,_,h,h' =>by simp only[VRel] at h h' ⊢;obtain⟨Us,e,h⟩:=h;obtain⟨Us',e',h'⟩:=h';exact⟨Us',e',VRels.lower hμ h h'⟩
 |.nilFunc,_,_,_,h=>by simpa [VRel] using h
 |.iface t v,_,_,h,h' =>by simp only[VRel] at h h' ⊢;obtain⟨U,e,h⟩:=h;obtain⟨U',e',h'⟩:=h';exact⟨U',e',VRel.lower hμ h h'⟩
 |.nilIface,_,_,_,h=>by simpa [VRel] using h
 |.agg cs,_,_,h,h' =>by simp only[VRel] at h h' ⊢;obtain⟨Us,e,h⟩:=h;obtain⟨Us',e',h'⟩:=h';exact⟨Us',e',VRels.lower hμ h h'⟩
 |.tuple cs,_,_,h,h' =>by simp only[VRel] at h h' ⊢;obtain⟨Us,e,h⟩:=h;obtain⟨Us',e',h'⟩:=h';exact⟨Us',e',VRels.lower hμ h h'⟩
theorem VRels.lower{μ μ' :Nat→Place}{n n' :Nat}(hμ:∀b,b<n→μ' b=μ b):∀{vs Us Us'},VRels μ n vs Us→VRels μ' n' vs Us' →VRels μ n vs Us'
 | [],_,_,_,h=>by simpa [VRels] using h
 |v::vs,_,_,h,h' =>by simp only[VRels] at h h' ⊢;obtain⟨U,Ws,e,h1,h2⟩:=h;obtain⟨U',Ws',e',h1',h2'⟩:=h';exact⟨U',Ws',e',VRel.lower hμ h1 h1',VRels.lower hμ h2 h2'⟩
end
theorem SRel.lower{μ μ' :Nat→Place}{n n' base:Nat}{w w' :World}{p:Place}{s:Slot}(hμ:∀b,b<n→μ' b=μ b)
  (h:SRel μ n base w p s) (h' :SRel μ' n' base w' p s):SRel μ n base w' p s:=by
 cases s with
 |absent=>trivial
 |cells own es cs=>
  simp only[SRel] at h h' ⊢;obtain⟨_,_,_,_,_,_,h4,_⟩:=h;obtain⟨cur,e,fr,g1,g2,g3,g4,g5⟩:=h';refine⟨cur,e,fr,g1,g2,g3,fun j v hv=>?_,g5⟩;obtain⟨V,_,hr⟩:=h4 j v hv;obtain⟨V',hV',hr'⟩:=g4 j v hv;exact⟨V',hV',hr.lower hμ hr'⟩
 |map es=>
  simp only[SRel] at h h' ⊢;obtain⟨_,_,_,_,_,h4⟩:=h;obtain⟨ents,clock,g1,g2,g3,g4⟩:=h';refine⟨ents,clock,g1,g2,g3,fun j e he=>?_⟩;obtain⟨E,_,hr1,hr2⟩:=h4 j e he;obtain⟨E',hE',hr1',hr2'⟩:=g4 j e he;exact⟨E',hE',hr1.lower hμ hr1',hr2.lower hμ hr2'⟩
 |fmap es=>
  simp only[SRel] at h h' ⊢;obtain⟨_,_,_,_,_,h4⟩:=h;obtain⟨ents,clock,g1,g2,g3,g4⟩:=h';refine⟨ents,clock,g1,g2,g3,fun j e he=>?_⟩;obtain⟨E,_,hr1,hr2⟩:=h4 j e he;obtain⟨E',hE',hr1',hr2'⟩:=g4 j e he;exact⟨E',hE',hr1.lower hμ hr1',hr2.lower hμ hr2'⟩
 |loop r=>
  simp only[SRel] at h h' ⊢;obtain⟨L,_,_,h3⟩:=h;obtain⟨L',g1,g2,g3⟩:=h';exact⟨L',g1,g2,{ g3 with tmps:=fun t=>(h3.tmps t).lower hμ (g3.tmps t) }⟩
theorem HRel.swap{base:Nat}{μ:Nat→Place}{mem1 mem2:Mem}{w:World}(h:HRel base μ mem1 w) (hl:mem2.length=mem1.length)
  (hs:∀b s2,mem2[b]? =some s2→∃s1,mem1[b]? =some s1∧s1.own=s2.own∧(s1=.absent→s2=.absent)∧SRel μ mem1.length base w (μ b) s2):HRel base μ mem2 w:=by
 refine⟨h.base_le,fun b s hb=>?_,fun b b' s' hb hb' hne hbb=>?_⟩
 ·obtain⟨s1,_,_,_,h4⟩:=hs b s hb;rw[hl];exact h4
 ·obtain⟨s,g1,g2⟩:=hb
  obtain⟨s1,k1,k2,_,_⟩:=hs b s g1;obtain⟨s3,k3,_,k5,_⟩:=hs b' s' hb';exact h.sep b b' s3 ⟨s1,k1,by rw[k2];exact g2⟩ k3 (fun e=>hne (k5 e)) hbb
end Go.Eng
namespace Go.Eng
def dm:Nat→List AV→Env
 |_,[]=>[]
 |i,v::vs=>(i,v)::dm (i+1) vs
def Tw(T:TypeId→Option TyI) (env:Env) (mem:Mem):ResultVar→Option AV
 |.tmp t=>some (ab env t)
 |.cell a t=>ME T mem t (ab env a)
def uI(T:TypeId→Option TyI) (env:Env) (mem:Mem):List ResultVar→Option (List AV)
 | []=>some []
 |r::rs=>match Tw T env mem r,uI T env mem rs with
  |some v,some vs=>some (v::vs)
  |_,_=>none
def jd(T:TypeId→Option TyI) (rs:List ResultVar) (env:Env) (mem:Mem):Option AV:=
 match uI T env mem rs with
 |some [v]=>some v
 |some vs=>some (.tuple vs)
 |none=>none
def Fin(mem:Mem) (v:AV) (m' :Mem) (R:AV→Mem→Prop):Prop:=
 ∃ks,HH mem.length m'.length ks=true∧
  ((m'.take mem.length=mem∧R (v.ren (rho mem.length ks)) (mem++keep mem.length ks m'))∨R (v.ren (rho mem.length ks)) (compact mem.length ks m'))
section
variable {P:Program}{T:TypeId→Option TyI}{μ:Nat→Place}{mem:Mem}{base:Nat}{w:World}
theorem uB{n:Nat}{μ:Nat→Place}:∀{vs:List AV}{Vs:List Value}(i:Nat),VRels μ n vs Vs→∀t,VRel μ n (ab (dm i vs) t) (if t<i then undef else Vs.getD (t-i) undef)
 | [],Vs,i,h,t=>by simp[dm,ab,VRel]
 |v::vs,Vs,i,h,t=>by
  simp only[VRels] at h;obtain⟨U,Us,rfl,h1,h2⟩:=h;simp only[dm,ab];by_cases ht:i=t
  ·subst ht;simpa using h1
  ·simp only[ht,if_false]
   have:=uB (i+1) h2 t;by_cases hlt:t<i
   ·rw[if_pos (by omega)] at this;rw[if_pos hlt];exact this
   ·rw[if_neg (by omega)] at this
    rw[if_neg hlt];have e:t-i=(t-(i+1))+1:=by omega
    rw[e];simpa using this
def rvS(tmps:Array Value):ResultVar→Sem Value
 |.tmp t=>pure (tmps.getD t undef)
 |.cell a t=>do loadVar t (←asAddr (tmps.getD a undef))
theorem mL(hT:cA P T) (hH:HRel base μ mem w) {env:Env}{tmps:Array Value}(hR:TRel μ mem.length env tmps):
  ∀{rs:List ResultVar}{vs:List AV},uI T env mem rs=some vs→∃Vs,VRels μ mem.length vs Vs∧
   (rs.mapM (rvS tmps)).run P w=.ok Vs w
 | [],vs,h=>by simp only[uI,Option.some.injEq] at h;subst h;exact⟨[],by simp[VRels],by simp⟩
 |r::rs,vs,h=>by
  simp only[uI] at h;split at h
  ·rename_i v vs' h1 h2
   cases h;obtain⟨Vs,g1,g2⟩:=mL hT hH hR h2;cases r with
   |tmp t=>
    simp only[Tw,Option.some.injEq] at h1;subst h1;exact⟨_::Vs,aY.2 ⟨hR t,g1⟩,by rw[List.mapM_cons,rvS,pure_bind,Sem.run_bind,g2];rfl⟩
   |cell a t=>
    simp only[Tw] at h1;obtain⟨V,k1,k2⟩:=yz (P:=P) hT hH (hR a) h1;refine⟨V::Vs,aY.2 ⟨k2,g1⟩,?_⟩;have hptr:∃b o,ab env a=.ptr b o:=by
     unfold ME at h1;split at h1
     ·rename_i b o _ hl;exact⟨b,o,hl⟩
     ·cases h1
    obtain⟨b,o,hl⟩:=hptr;have hp:=hR a;rw[hl] at hp;have hp2:=hp.ptr.2;rw[hp2] at k1;simp only[Instr.loadAt,Instr.sureAddr,Sem.run_bind,Sem.run_pure,Result.andThen_ok] at k1;rw[List.mapM_cons,rvS,hp2,Sem.run_bind];simp only[asAddr,pure_bind,k1,Result.andThen_ok];rw[Sem.run_bind,g2];rfl
  ·cases h
theorem qe(hT:cA P T) (hH:HRel base μ mem w) {env:Env}{tmps:Array Value}(hR:TRel μ mem.length env tmps) {fn:Func}{v:AV}
  (h:jd T fn.results.toList env mem=some v):∃V,(results fn tmps).run P w=.ok V w∧VRel μ mem.length v V:=by
 unfold jd at h;have run:∀Vs,(fn.results.toList.mapM (rvS tmps)).run P w=.ok Vs w→
   (results fn tmps).run P w=.ok (if h:Vs.toArray.size=1 then Vs.toArray[0] else .tuple Vs.toArray) w:=by
  intro Vs hVs;unfold results;rw[Array.mapM_eq_mapM_toList,Sem.run_bind,Sem.run_map];erw [hVs];rfl
 split at h
 ·rename_i v' h1
  cases h;obtain⟨Vs,g1,g2⟩:=mL hT hH hR h1;simp only[VRels] at g1;obtain⟨U,Us,rfl,g3,rfl⟩:=g1;exact⟨U,by rw[run _ g2];simp,g3⟩
 ·rename_i vs hne h1
  cases h;obtain⟨Vs,g1,g2⟩:=mL hT hH hR h1;refine⟨.tuple Vs.toArray,?_,by simp only[VRel];exact⟨Vs,rfl,g1⟩⟩;rw[run _ g2];have:¬Vs.toArray.size=1:=by
   have:=g1.length;intro e;simp at e;rw[e] at this
   match vs,this with
   | [x],_=>exact hne x rfl
  rw[dif_neg this]
 ·cases h
theorem wY{P:Program}{w:World}{r:Nat}(h:w.heap[r]? =some (.deferred (some []))):
  (Instr.takeDeferred r).run P w=.ok [] { w with heap:=w.heap.setIfInBounds r (.deferred none) }:=by
 have hg:(getObj r).run P w=.ok (.deferred (some [])) w:=by simp[getObj,Sem.run,h]
 have hs:(setObj r (.deferred none)).run P w=.ok () { w with heap:=w.heap.setIfInBounds r (.deferred none) }:=pF h (by intro c e f;simp);simp only[Instr.takeDeferred,Sem.run_bind,hg,Result.andThen_ok];rw[hs];rfl
theorem HRel.shut{base:Nat}{μ:Nat→Place}{mem:Mem}{w:World}{r:Nat}{x y} (hH:HRel base μ mem w) (h:w.heap[r]? =some (.deferred x)):
  HRel base μ mem { w with heap:=w.heap.setIfInBounds r (.deferred y) }:=by
 refine⟨by simpa using hH.base_le,fun b s hs=>?_,hH.sep⟩;by_cases h0:s=.absent
 ·subst h0;trivial
 ·refine(hH.slot b s hs).mono (Nat.le_refl _) (fun _ _=>rfl) fun _=>?_
  exact Array.getElem?_setIfInBounds_ne (Ne.symm (ng hH h hs h0))
theorem Step.shut{m0:Nat}{μ μ' :Nat→Place}{mem mem' :Mem}{w w' :World}{r:Nat}{o:Obj}(h:Step m0 μ mem w μ' mem' w') (hr:w.heap.size≤r):
  Step m0 μ mem w μ' mem' { w' with heap:=w'.heap.setIfInBounds r o }:=by
 refine⟨h.len,h.agree,h.os,h.tape,h.output,by simpa using h.size,fun k hk hf=>?_,h.owner,h.drawn⟩;rw[←h.frame k hk hf];exact Array.getElem?_setIfInBounds_ne (by omega)
theorem MOk.shut{P:Program}{base h0 r:Nat}{w:World}{ds:List Deferred}{o:Obj}(h:MOk P base h0 w ({ target:=.collected r,args:= #[] }::ds)):
  MOk P base h0 { w with heap:=w.heap.setIfInBounds r o } ds:=by
 have hrl:h0≤r:=by obtain⟨q,e,h1,_⟩:=h.each _ (List.mem_cons_self ..);cases e;exact h1
 refine⟨⟨h.glob.below,?_⟩,h.base_le,by simpa using h.le,fun d hd=>?_,?_⟩
 ·have:=h.glob.tab
  unfold Lib.TabIs at this ⊢;rw[←this];refine Ld fun k hk=>Array.getElem?_setIfInBounds_ne ?_
  have:=h.glob.below;have:=h.base_le;omega
 ·obtain⟨q,e,h1,h2⟩:=h.each d (by simp[hd])
  refine⟨q,e,h1,?_⟩;have hne:r≠q:=by intro hrq;have:=h.nodup;simp only[List.map_cons,List.nodup_cons,List.mem_map,not_exists] at this;exact this.1 d ⟨hd,by rw[e,hrq]⟩
  show(w.heap.setIfInBounds r o)[q]? =_
  rw[Array.getElem?_setIfInBounds_ne hne,h2]
 ·have:=h.nodup
  simp only[List.map_cons,List.nodup_cons] at this;exact this.2
theorem oA{P:Program}{fn:Func}{tmps:Array Value}{R:Ending→World→Prop}{base m0:Nat}{μ μ0:Nat→Place}{mem mem0:Mem}{w0:World}:
  ∀(ds:List Deferred) (w:World),MOk P base w0.heap.size w ds→HRel base μ mem w→Step m0 μ0 mem0 w0 μ mem w→
   (∀w',HRel base μ mem w' →Step m0 μ0 mem0 w0 μ mem w' →∃v,(results fn tmps).run P w' =.ok v w' ∧R (.returned v) w')→
   LeavesInM (Fr none) 0 P fn tmps R ds .returning w
 | [],w,_,hH,hS,hq=>hq w hH hS
 |d::ds,w,hM,hH,hS,hq=>by obtain⟨r,rfl,h1,h2⟩:=hM.each d (by simp);refine⟨by simp,.inl ⟨r,_,rfl,wY h2,?_⟩⟩;exact oA ds _ hM.shut (hH.shut h2) (hS.shut h1) hq
theorem ACalls.intro(hT:cA P T) {f:FuncId}{fn:Func}{c:Code}{args:List AV}{mem:Mem}{R:AV→Mem→Prop}(hf:P.funcs[f]? =some fn) (hb:fn.body=some c)
  (hn:(fn.name == "runtime.NumGoroutine")=false) (hl:args.length≤fn.ntmps)
  (h:AWP P true fn.ntmps mem.length c ⟨dm 0 args,mem⟩ fun e st' =>(e=.normal∨e=.ret)∧∃v,jd T fn.results.toList st'.env st'.mem=some v∧Fin mem v st'.mem R):
  ACalls P f args mem R:=by
 refine⟨⟨fn,hf,by simp[hb],hn⟩,fun base μ w Vs hG hH hV=>?_⟩;refine xc.1 (callsIn_of_wp_marks (F:=Fr none) (n:=0) hf hb trivial (wpIn_mono (h none w.heap.size base μ w _ (fun _=>rfl) hH ?_ ?_ (MOk.nil w hG hH.base_le (Nat.le_refl _)) (Nat.le_refl _)) ?_) rfl)
 ·intro t
  have:=uB 0 hV t;simp only[Nat.not_lt_zero,if_false,Nat.sub_zero] at this;by_cases ht:t<Vs.length
  ·have e:(⟨Vs⟩++Array.replicate (fn.ntmps-(⟨Vs⟩:Array Value).size) undef:Array Value).getD t undef=Vs.getD t undef:=by simp only[Array.getD_eq_getD_getElem?];rw[Array.getElem?_append_left (by simpa using ht)];simp[List.getD]
   show VRel μ mem.length (ab (dm 0 args) t) ((⟨Vs⟩++Array.replicate (fn.ntmps-(⟨Vs⟩:Array Value).size) undef:Array Value).getD t undef)
   rw[e];exact this
  ·have:ab (dm 0 args) t=.undef:=by
    have hlen:=hV.length;have:∀(vs:List AV) (i:Nat),i+vs.length≤t→ab (dm i vs) t=.undef:=by
     intro vs;induction vs with
     |nil=>intro i _;rfl
     |cons v vs ih=>
      intro i hi;simp only[List.length_cons] at hi;simp only[dm,ab];rw[if_neg (by omega)];exact ih (i+1) (by omega)
    exact this args 0 (by omega)
   show VRel μ mem.length (ab (dm 0 args) t) _
   rw[this];simp[VRel]
 ·simp only[Array.size_append,List.size_toArray,Array.size_replicate,hV.length];omega
 ·rintro e a' w' ⟨st',μ',b1,b2,b3,b4,b5,b6,he,v,hv,ks,hks,hR⟩
  have post:LeavesInM (Fr none) 0 P fn a'.tmps (fun e w' =>∃V v mem' μ',e=.returned V∧VRel μ' mem'.length v V∧HRel base μ' mem' w' ∧Step mem.length μ mem w μ' mem' w' ∧R v mem') a'.defers .returning w' :=by
   refine oA a'.defers w' b4 b1 b6 fun w2 e1 e2=>?_
   obtain⟨V,k1,k2⟩:=qe (P:=P) (fn:=fn) hT e1 b2 hv;obtain⟨c1,c2,c3⟩:=e1.compact b5 hks;refine⟨V,k1,?_⟩;rcases hR with⟨hpre,hr⟩ | hr
   ·have hlen:(mem++keep mem.length ks st'.mem).length=(compact mem.length ks st'.mem).length:=by rw[ed b5];simp[keep]
    have key:∀b s2,(mem++keep mem.length ks st'.mem)[b]? =some s2→∃s1,(compact mem.length ks st'.mem)[b]? =some s1∧s1.own=s2.own∧(s1=.absent→s2=.absent)∧
      SRel (fun b=>μ' (fZ mem.length ks b)) (compact mem.length ks st'.mem).length base w2 (μ' (fZ mem.length ks b)) s2:=by
     intro b s2 hb;unfold compact;rw[hpre];by_cases hlt:b<mem.length
     ·rw[List.getElem?_append_left hlt] at hb
      refine⟨s2.ren (rho mem.length ks),by rw[List.getElem?_append_left (by simpa using hlt),List.getElem?_map,hb];rfl,Slot.own_ren _ _,?_,?_⟩
      ·intro h;cases s2<;>simp[Slot.ren] at h ⊢
      ·have hback:fZ mem.length ks b=b:=by simp[fZ,hlt]
       rw[hback];have g1:=hH.slot b s2 hb;have g2:=e1.slot b s2 (by rw[←hb,←hpre,List.getElem?_take_of_lt hlt]);rw[e2.agree b hlt] at g2 ⊢;have g3:=SRel.lower (w' :=w2) (fun b hb=>e2.agree b hb) g1 g2;refine g3.mono ?_ (fun b hb=>?_) fun _=>rfl
       ·simp[keep]
       ·show μ' (fZ mem.length ks b)=μ b
        rw[show fZ mem.length ks b=b by simp[fZ,hb],e2.agree b hb]
     ·have hb' :(compact mem.length ks st'.mem)[b]? =some s2:=by unfold compact;rw[hpre,List.getElem?_append_right (by simp;omega)];rw[List.getElem?_append_right (by omega)] at hb;simpa using hb
      have:=c1.slot b s2 hb';unfold compact at hb' this;rw[hpre] at hb' this;exact⟨s2,hb',rfl,id,this⟩
    have hsw:=c1.swap hlen key;refine⟨V,_,_,_,rfl,k2.ren fun b b' g1 g2=>?_,hsw,?_,hr⟩
    ·obtain⟨g3,g4⟩:=c2 b b' g1 g2
     exact⟨by rw[hlen];exact g3,g4⟩
    ·have c4:=e2.trans c3
     refine⟨by rw[hlen];exact c4.len,c4.agree,c4.os,c4.tape,c4.output,c4.size,c4.frame,fun b hb hlt=>?_,c4.drawn⟩;obtain⟨s,g1,g2⟩:=hb;obtain⟨s1,k1,k2,_,_⟩:=key b s g1;exact c4.owner b ⟨s1,k1,by rw[k2];exact g2⟩ hlt
   ·exact⟨V,_,_,_,rfl,k2.ren c2,c1,e2.trans c3,hr⟩
  rcases he with rfl | rfl
  ·exact post
  ·exact post
end
end Go.Eng
