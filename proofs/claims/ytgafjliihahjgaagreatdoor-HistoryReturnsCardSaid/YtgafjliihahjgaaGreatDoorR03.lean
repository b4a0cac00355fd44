/- See R54. -/
import Derived.Test.YtgafjliihahjgaaGreatDoorR02
import Derived.RangeFuncLeaves
import Derived.OrdersIn
import Derived.TacticsIn
import Derived.Lib.ItoaNum
import Derived.Lib.LaidTab
set_option linter.all false
namespace Go.Eng
variable{X Y:Value}{a:Act}{mem' :Mem}{n:Nat}{s u:List UInt8}{ts:Array TypeId}{v:AV}{x:Sem Value}
section
variable {P:Program}{T:TypeId→Option TyI}{μ:Nat→Place}{mem:Mem}{base:Nat}{w:World}
def XK(μ:Nat→Place) (n:Nat) (N:Next) (v:AV):Prop:=(∃V,N=.value V∧aeA μ n v V)∨(N=.skip∧v=.undef)
def afs(P:Program) (x:Sem Next) (base:Nat) (μ:Nat→Place) (mem:Mem) (w:World) (v:AV) (mem' :Mem):Prop:=
 ∃N w' μ',x.run P w=.ok N w' ∧XK μ' mem'.length N v∧aeL base μ' mem' w' ∧Step mem.length μ mem w μ' mem' w'
theorem afs.afo(h:afA P x base μ mem w v mem'):afs P (do pure (.value (←x))) base μ mem w v mem' :=by obtain⟨V,w',μ',h1,h2,h3,h4⟩:=h;exact⟨.value V,w',μ',by simp[h1],.inl ⟨V,rfl,h2⟩,h3,h4⟩
theorem afs.aeU(hH:aeL base μ mem w)(h:Val P x w μ mem.length v):afs P (do pure (.value (←x))) base μ mem w v mem:=
 .afo (.aeU hH h)
theorem afs.pure{V:Value}(hH:aeL base μ mem w)(h:aeA μ mem.length v V):afs P (Pure.pure (.value V)) base μ mem w v mem:=
 ⟨.value V,w,μ,rfl,.inl ⟨V,rfl,h⟩,hH,.refl (Nat.le_refl _)⟩
theorem Kt{env:Env}(hR:ae6 μ n env a.tmps)(ps:Array (Nat×Operand)):
  (ps.toList.map fun p=>(p.1,a.eval p.2)).map (·.1)=(ps.toList.map fun p=>(p.1,get env p.2)).map (·.1)∧
  aeC μ n ((ps.toList.map fun p=>(p.1,get env p.2)).map (·.2)) ((ps.toList.map fun p=>(p.1,a.eval p.2)).map (·.2)):=by
 constructor
 ·simp[Function.comp_def]
 ·have:=yX hR (ps.toList.map (·.2))
  simpa [Function.comp_def] using this
theorem qE{env:Env}(hR:ae6 μ n env a.tmps)(x:Option Operand):
  (x.map (get env)=none∧x.map a.eval=none)∨∃l L,x.map (get env)=some l∧x.map a.eval=some L∧aeA μ n l L:=by
 cases x with
 |none=>exact .inl ⟨rfl,rfl⟩
 |some x=>exact .inr ⟨_,_,rfl,rfl,aW hR x⟩
section
variable{ty:TypeId}(e1:aeA μ n (.str s) X)(e2:aeA μ n (.str u) Y)
include ty e1 e2
theorem UN:Val P (Builtin.min_ ts ty #[X,Y]) w μ n (.str (if Op.bytesLess s u||s==u then s else u)):=by rw[e1.str,e2.str];refine .str ?_;simp[Builtin.min_,Builtin.min2,Op.stringOp,asBool];split<;>rfl
theorem UK:Val P (Builtin.max_ ts ty #[X,Y]) w μ n (.str (if Op.bytesLess s u then u else s)):=by rw[e1.str,e2.str];refine .str ?_;simp[Builtin.max_,Builtin.max2,Op.stringOp,asBool];cases Op.bytesLess s u<;>simp
end
theorem RE(hT:cJ P T)(hH:aeL base μ mem w){env:Env}{o:Oper}(hR:ae6 μ mem.length env a.tmps)(h:aOp T env mem o.op=some (v,mem')):afs P (execOp a.eval o) base μ mem w v mem' :=by
 unfold aOp at h;split at h
 ·rename_i x S'
  cases h;simp only[execOp,S'];exact .pure hH (aW hR x)
 ·rename_i x S'
  cases h;simp only[execOp,S'];exact .pure hH (aW hR x)
 ·rename_i c x y S'
  split at h
  ·rename_i t hc
   cases h;have:=aW hR c;rw[hc] at this;simp only[execOp,S',this.bool,asBool,pure_bind];cases t
   ·exact .pure hH (aW hR y)
   ·exact .pure hH (aW hR x)
  ·cases h
 ·rename_i e S'
  simp only[execOp,S'];exact .afo (Jp hT hH h)
 ·rename_i e x S'
  simp only[execOp,S'];exact .afo (Pc hH (aW hR x) h)
 ·rename_i t ps S'
  split at h
  ·rename_i v' hb
   cases h;obtain⟨p1,p2⟩:=Kt hR ps;simp only[execOp,S'];refine .aeU hH ?_;have:=Jq (P:=P) hT hb p1 p2 w;have e:(⟨ps.toList.map fun p=>(p.1,a.eval p.2)⟩:Array (Nat×Value))=ps.map fun(i,x)=>(i,a.eval x):=by apply Array.ext';simp
   rw[e] at this;exact this
  ·cases h
 ·rename_i t n ps S'
  obtain⟨p1,p2⟩:=Kt hR ps;simp only[execOp,S'];refine .afo ?_;have:=wm (P:=P) hT hH p1 p2 h;have e:(⟨ps.toList.map fun p=>(p.1,a.eval p.2)⟩:Array (Nat×Value))=ps.map fun(i,x)=>(i,a.eval x):=by apply Array.ext';simp
  rw[e] at this;exact this
 ·rename_i t x S'
  split at h
  ·rename_i v' hb
   cases h;simp only[execOp,S'];exact .aeU hH (Au hT hH (aW hR x) hb)
  ·cases h
 ·rename_i t x y S'
  split at h
  ·rename_i m hb
   cases h;obtain⟨w',h1,h2,h3⟩:=Jz (P:=P) hT hH (aW hR x) (aW hR y) hb;simp only[execOp,S'];exact⟨.skip,w',μ,by simp[h1],.inr ⟨rfl,rfl⟩,h2,h3⟩
  ·cases h
 ·rename_i x S'
  split at h
  ·rename_i b o hx
   cases h;have:=aW hR x;rw[hx] at this;simp only[execOp,S',this.ptr.2];refine .pure hH ?_;rw[this.ptr.2] at this;exact this
  ·rename_i f cs hx
   cases h;have:=aW hR x;rw[hx] at this;have h2:=this;simp only[aeA] at h2;obtain⟨Us,hU,_⟩:=h2;simp only[execOp,S',hU];refine .pure hH ?_;rw[hU] at this;exact this
  ·cases h
 ·rename_i op t x y yt S'
  split at h
  ·rename_i v' hb
   cases h;simp only[execOp,S'];exact .aeU hH (Pa hT (aW hR x) (aW hR y) x y hb w)
  ·cases h
 ·rename_i op t x S'
  split at h
  ·rename_i v' hb
   cases h;simp only[execOp,S'];refine .aeU hH ?_;have hx:=aW hR x;unfold aUn at hb;split at hb
   ·rename_i hx';cases hb;rw[hx'] at hx;rw[hx.bool];exact .bool rfl
   ·rename_i hx';cases hb;rw[hx'] at hx;rw[hx.int];exact .int rfl
   ·cases hb
  ·cases h
 ·rename_i s d x S'
  split at h
  ·rename_i v' hb
   cases h;simp only[execOp,S'];exact .aeU hH (Co hT (aW hR x) hb w)
  ·simp only[execOp,S'];exact .afo (yx hT hH (aW hR x) h)
 ·rename_i f first aaZ S'
  split at h
  ·rename_i hf
   cases h;simp only[execOp,S'];refine .aeU hH ⟨.func (.func f) (first.map a.eval) (aaZ.map a.eval),rfl,?_⟩;simp only[aeA];have:first= #[]:=Array.eq_empty_of_size_eq_zero hf
   subst this;refine⟨aaZ.toList.map a.eval,?_,yX hR aaZ.toList⟩;simp only[Array.map_empty];congr 1;apply Array.ext';simp
  ·cases h
 ·rename_i t l c S'
  simp only[execOp,S'];exact .afo (yB hT hH (aW hR l) (aW hR c) h)
 ·rename_i t x lo hi S'
  split at h
  ·rename_i v' hb
   cases h;simp only[execOp,S'];refine .aeU hH ?_;simp only[Option.map_none];exact Jx hT hH (aW hR x) (qE hR lo) (qE hR hi) hb
  ·simp only[execOp,S']
   simp only[Option.map_none];split at h
   ·rename_i r hb
    cases h;exact .afo (ES hT hH (aW hR x) (qE hR lo) (qE hR hi) hb)
   ·split at h
    ·rename_i v' hb
     cases h;exact .aeU hH (uM hT (aW hR x) (qE hR lo) (qE hR hi) (.inl ⟨rfl,rfl⟩) hb)
    ·cases h
 ·rename_i t x lo hi mx S'
  split at h
  ·rename_i v' hb
   cases h;simp only[execOp,S'];refine .aeU hH ?_;simp only[Option.map_some];exact uM hT (aW hR x) (qE hR lo) (qE hR hi) (.inr ⟨_,_,rfl,rfl,aW hR mx⟩) hb
  ·cases h
 ·rename_i t x f S'
  split at h
  ·rename_i v' hb
   cases h;simp only[execOp,S'];exact .aeU hH (yy hT (aW hR x) hb w)
  ·cases h
 ·rename_i t x f S'
  split at h
  ·rename_i v' hb
   cases h;simp only[execOp,S'];exact .aeU hH (Ju hT (aW hR x) hb w)
  ·cases h
 ·rename_i t x i S'
  split at h
  ·rename_i v' hb
   cases h;simp only[execOp,S'];exact .aeU hH (yz hT (aW hR x) (aW hR i) hb w)
  ·cases h
 ·rename_i t x i S'
  split at h
  ·rename_i v' hb
   cases h;simp only[execOp,S'];exact .aeU hH (Jv hT (aW hR x) (aW hR i) hb w)
  ·cases h
 ·rename_i t S'
  cases h;simp only[execOp,S',Option.map_none];exact .afo (Fo hH)
 ·rename_i t m k ok S'
  split at h
  ·rename_i v' hb
   cases h;simp only[execOp,S'];exact .aeU hH (EP hT hH (aW hR m) (aW hR k) hb)
  ·cases h
 ·rename_i t m k x S'
  split at h
  ·rename_i m' hb
   cases h;obtain⟨w',h1,h2,h3⟩:=yD (P:=P) hT hH (aW hR m) (aW hR k) (aW hR x) hb;simp only[execOp,S'];exact⟨.skip,w',μ,by simp[h1],.inr ⟨rfl,rfl⟩,h2,h3⟩
  ·cases h
 ·rename_i t m k S'
  simp only[execOp,S'];exact .afo (Aw hT hH (aW hR m) (aW hR k) h)
 ·rename_i t m s x S'
  split at h
  ·rename_i m' hb
   cases h;obtain⟨w',h1,h2,h3⟩:=wq (P:=P) (t:=t) hH (aW hR m) (aW hR s) (aW hR x) hb;simp only[execOp,S'];exact⟨.skip,w',μ,by simp[h1],.inr ⟨rfl,rfl⟩,h2,h3⟩
  ·cases h
 ·rename_i t i S'
  split at h
  ·rename_i cs hx
   split at h
   ·rename_i v' hi
    cases h;have:=aW hR t;rw[hx] at this;simp only[aeA] at this;obtain⟨Us,hU,hr⟩:=this;obtain⟨V,hV,hv⟩:=hr.get i _ hi;simp only[execOp,S',hU];exact .aeU hH ⟨V,by simp[Instr.extract,hV],hv⟩
   ·cases h
  ·cases h
 ·rename_i x t S'
  split at h
  ·rename_i v' hb
   cases h;simp only[execOp,S',resolve,invoke,builtin,pure_bind];rw[show Array.map a.eval ⟨[x]⟩= #[a.eval x] by simp];exact .aeU hH (Pf hT hH (aW hR x) hb)
  ·cases h
 ·rename_i s x t t2 S'
  simp only[execOp,S',resolve,invoke,builtin,pure_bind];rw[show Array.map a.eval ⟨[s,x]⟩= #[a.eval s,a.eval x] by simp];split at h
  ·rename_i hi
   exact .afo (Cn hT hH (aW hR s) (aW hR x) hi h)
  ·split at h
   ·rename_i r hb
    cases h;exact .afo (EO hT hH (aW hR s) (aW hR x) hb)
   ·exact .afo (Cl hT hH (aW hR s) (aW hR x) h)
 ·rename_i x t S'
  split at h
  ·rename_i v' hb
   cases h;simp only[execOp,S',resolve,invoke,builtin,pure_bind];rw[show Array.map a.eval ⟨[x]⟩= #[a.eval x] by simp];exact .aeU hH (Pd hT (aW hR x) hb)
  ·cases h
 ·rename_i x t S'
  split at h
  ·rename_i m' hb
   cases h;simp only[execOp,S',resolve,invoke,builtin,pure_bind];rw[show Array.map a.eval ⟨[x]⟩= #[a.eval x] by simp];exact .afo (Jt hT hH (aW hR x) hb)
  ·cases h
 ·rename_i x ts S'
  split at h
  ·rename_i v' hb
   cases h;simp only[execOp,S',resolve,invoke,builtin,pure_bind];rw[show Array.map a.eval ⟨[x]⟩= #[a.eval x] by simp];exact .aeU hH (yE hH _ _ (aW hR x) hb)
  ·cases h
 ·rename_i x y pt it S'
  simp only[execOp,S',resolve,invoke,builtin,pure_bind];rw[show Array.map a.eval ⟨[x,y]⟩= #[a.eval x,a.eval y] by simp];exact .afo (EU hT hH (aW hR x) (aW hR y) h)
 ·rename_i x y ts S'
  split at h
  ·rename_i k i k' j hx hy
   split at h
   ·rename_i hk
    cases h;subst hk;have e1:=aW hR x;have e2:=aW hR y;rw[hx] at e1;rw[hy] at e2;simp only[execOp,S',resolve,invoke,builtin,pure_bind];refine .aeU hH (.int ?_);simp[Builtin.min_,Builtin.min2,e1.int,e2.int]
   ·cases h
  ·rename_i s u hx hy
   cases h;have e1:=aW hR x;have e2:=aW hR y;rw[hx] at e1;rw[hy] at e2;simp only[execOp,S',resolve,invoke,builtin,pure_bind];rw[show Array.map a.eval ⟨[x,y]⟩= #[a.eval x,a.eval y] by simp];exact .aeU hH (UN e1 e2)
  ·cases h
 ·rename_i x y ts S'
  split at h
  ·rename_i k i k' j hx hy
   split at h
   ·rename_i hk
    cases h;subst hk;have e1:=aW hR x;have e2:=aW hR y;rw[hx] at e1;rw[hy] at e2;simp only[execOp,S',resolve,invoke,builtin,pure_bind];refine .aeU hH (.int ?_);simp[Builtin.max_,Builtin.max2,e1.int,e2.int]
   ·cases h
  ·rename_i s u hx hy
   cases h;have e1:=aW hR x;have e2:=aW hR y;rw[hx] at e1;rw[hy] at e2;simp only[execOp,S',resolve,invoke,builtin,pure_bind];rw[show Array.map a.eval ⟨[x,y]⟩= #[a.eval x,a.eval y] by simp];exact .aeU hH (UK e1 e2)
  ·cases h
 ·cases h
end
end Go.Eng
namespace Go.Eng
def Tp(P:Program) (f:FuncId):Prop:=∃fn,P.funcs[f]? =some fn∧fn.body.isSome=true∧(fn.name == "runtime.NumGoroutine")=false
abbrev Fr(ro:Option Nat):Fence:={ Fence.wide with round:=ro }
variable{f:FuncId}{ro:Option Nat}
theorem yT{n:Nat}{P:Program}{args:Array Value}{w:World}{R:Ending→World→Prop}:CallsIn (Fr ro) n P f args w R↔Calls P f args w R:=
 callsIn_wide (n:=n)
def wH:String:=String.ofList ([105,110,116,101,114,110,97,108,47,115,116,114,99,111,110,118,46,117,105,110,116,54,52,112,111,119,49,48].map Char.ofNat)
structure GOk (P:Program) (base:Nat) (w:World):Prop where
 below:P.globals.size≤base
 tab:Lib.TabIs P w wH .u64 Lib.pow10Tab
theorem GOk.agP{P:Program}{base:Nat}{w:World}(h:GOk P base w){s:String}(hs:wH=s):Lib.TabIs P w s .u64 Lib.pow10Tab:=hs▸h.tab
theorem ND{base:Nat}{μ:Nat→Place}{mem:Mem}{w:World}(hH:aeL base μ mem w){b:Nat}(hb:ei mem b):base≤(μ b).blk:=by
 obtain⟨s,hs,ho⟩:=hb;have:=hH.slot b s hs;cases s with
 |kO=>cases ho
 |cells own es cs=>simp only[aeD.own] at ho;subst ho;simp only[aeO] at this;obtain⟨_,_,_,_,_,_,_,h⟩:=this;exact(h trivial).2.2.2
 |map es=>simp only[aeO] at this;obtain⟨_,_,_,h,_⟩:=this;exact h.1
 |ae8 es=>cases ho
 |loop r=>simp only[aeO] at this;obtain⟨_,_,h,_⟩:=this;exact h
variable{name:String}
theorem Cu{P:Program}{g:Nat}(h:P.globalNamed name=some g):g<P.globals.size:=by
 unfold Program.globalNamed at h;split at h
 ·rename_i g' hg
  cases h;have:g∈(List.range P.globals.size).filter fun g=>(P.globals[g]?).any (·.name==name):=by rw[hg];simp
  simpa using (List.mem_filter.1 this).1
 ·cases h
variable{w' :World}
theorem NR{P:Program}{w:World}(h:∀k,k<P.globals.size→w'.heap[k]? =w.heap[k]?):w'.var? P name=w.var? P name:=by
 unfold World.var?;cases hg:P.globalNamed name with
 |none=>rfl
 |some g=>simp only[Option.bind_some];rw[h g (Cu hg)]
variable{m0:Nat}{μ' :Nat→Place}
theorem GOk.step{P:Program}{base:Nat}{μ:Nat→Place}{mem mem' :Mem}{w:World}(h:GOk P base w)(hH:aeL base μ mem w)(hS:Step m0 μ mem w μ' mem' w'):GOk P base w' :=by
 refine⟨h.below,?_⟩;have:=h.tab;unfold Lib.TabIs at this ⊢;rw[←this];refine NR fun k hk=>hS.frame k ?_ fun b hb=>?_
 ·have:=h.below;have:=hH.aeI;omega
 ·have:=ND hH hb;have:=h.below;omega
structure MOk (P:Program) (base h0:Nat) (w:World) (ds:List Deferred):Prop where
 afH:GOk P base w
 aeI:base≤h0
 le:h0≤w.heap.size
 each:∀d∈ds,∃r,d={ target:=.collected r,args:= #[] }∧h0≤r∧w.heap[r]? =some (.deferred (some []))
 nodup:(ds.map (·.target)).Nodup
variable{h0:Nat}
theorem MOk.nil{P:Program}{base:Nat}(w:World)(hg:GOk P base w)(hb:base≤h0)(h:h0≤w.heap.size):MOk P base h0 w []:=⟨hg,hb,h,fun _ h=>by(cases h),by simp⟩
theorem oK{base:Nat}{μ:Nat→Place}{mem:Mem}{w:World}(hH:aeL base μ mem w){r:Nat}{x}(hr:w.heap[r]? =some (.deferred x)){b:Nat}{s:aeD}(hb:mem[b]? =some s)(hs:s≠ .kO):(μ b).blk≠r:=by
 intro e;have:=hH.slot b s hb;cases s with
 |kO=>exact hs rfl
 |cells own es cs=>simp only[aeO] at this;obtain⟨_,_,_,h1,_⟩:=this;rw[e,hr] at h1;cases h1
 |map es=>simp only[aeO] at this;obtain⟨_,_,h1,_⟩:=this;rw[e,hr] at h1;cases h1
 |ae8 es=>simp only[aeO] at this;obtain⟨_,_,h1,_⟩:=this;rw[e,hr] at h1;cases h1
 |loop r=>simp only[aeO] at this;obtain⟨_,h1,_⟩:=this;rw[e,hr] at h1;cases h1
theorem MOk.step{P:Program}{base:Nat}{μ:Nat→Place}{mem mem' :Mem}{w:World}{ds:List Deferred}(h:MOk P base h0 w ds)(hH:aeL base μ mem w)(hS:Step m0 μ mem w μ' mem' w'):MOk P base h0 w' ds:=by refine⟨h.afH.step hH hS,h.aeI,Nat.le_trans h.le hS.size,fun d hd=>?_,h.nodup⟩;obtain⟨r,e,h1,h2⟩:=h.each d hd;refine⟨r,e,h1,?_⟩;rw[hS.frame r (Array.getElem?_eq_some_iff.1 h2).1 fun b hb=>?_,h2];obtain⟨s,hb,ho⟩:=hb;exact oK hH h2 hb (aeD.afa ho)
def afb(P:Program) (f:FuncId) (args:List AV) (mem:Mem) (R:AV→Mem→Prop):Prop:=
 Tp P f∧∀base μ w Vs,GOk P base w→aeL base μ mem w→aeC μ mem.length args Vs→
  Calls P f ⟨Vs⟩ w fun e w' =>∃V v mem' μ',e=.returned V∧aeA μ' mem'.length v V∧aeL base μ' mem' w' ∧Step mem.length μ mem w μ' mem' w' ∧R v mem'
def kF(P:Program) (f:FuncId) (args:List AV) (mem:Mem) (v:AV) (mem' :Mem):Prop:=afb P f args mem fun v1 m1=>v1=v∧m1=mem'
theorem afb.mono{P f args mem}{R R' :AV→Mem→Prop}(h:afb P f args mem R)(hr:∀v m,R v m→R' v m):afb P f args mem R' :=
 ⟨h.1,fun base μ w Vs h0 h1 h2=>(h.2 base μ w Vs h0 h1 h2).mono fun _ _ ⟨V,v,m,μ',a,b,c,d,r⟩=>⟨V,v,m,μ',a,b,c,d,hr _ _ r⟩⟩
def afm(P:Program) (b:Nat) (args:List AV) (mem:Mem) (R:AV→Mem→Prop):Prop:=
 ∀base μ w Vs,GOk P base w→aeL base μ mem w→aeC μ mem.length args Vs→b<mem.length→∃f tmps assign body,
  (Instr.yield (μ b).blk ⟨Vs⟩).run P w=.ok (.round (μ b).blk f tmps assign body) w∧
  RoundIn Fence.wide 0 P (μ b).blk f tmps assign body w fun e w' =>∃V v mem' μ',e=.returned V∧aeA μ' mem'.length v V∧aeL base μ' mem' w' ∧Step mem.length μ mem w μ' mem' w' ∧R v mem'
def oZ(P:Program) (b:Nat) (args:List AV) (mem:Mem) (v:AV) (mem' :Mem):Prop:=afm P b args mem fun v1 m1=>v1=v∧m1=mem'
def ze(env:Env):Op→Option (Nat×List AV)
 |.call { callee:=.value x,args,argTypes:=_ }=>match get env x with
  |.yield b=>some (b,Ww env args)
  |_=>none
 |_=>none
def E4(env:Env):Op→Option (FuncId×List AV)
 |.call { callee:=.value x,args,argTypes:=_ }=>match get env x with
  |.func f caps=>some (f,Ww env args++caps)
  |_=>none
 |_=>none
def qP(ops:Array Oper) (env:Env) (o:Oper):Option Bool:=
 match o.guard with
 |none=>some true
 |some (j,abv)=>match (ops[j]?).bind (·.dst) with
  |some d=>match ab env d with
   |.bool b=>some (b==abv)
   |.tuple []=>some false
   |_=>none
  |none=>none
def afp(env:Env) (dst:Option Tmp) (v:AV):Env:=
 match dst with
 |some d=>(d,v)::env
 |none=>env
structure St where
 env:Env
 mem:Mem
def Ct(N:Nat) (o:Oper):Bool:=match o.dst with
 |some d=>decide (d<N)
 |none=>true
def vx(P:Program) (T:TypeId→Option TyI) (env:Env) (mem:Mem) (o:Oper) (v:AV) (mem' :Mem):Prop:=
 aOp T env mem o.op=some (v,mem')∨(∃f args,E4 env o.op=some (f,args)∧kF P f args mem v mem')∨
  ∃b args,ze env o.op=some (b,args)∧oZ P b args mem v mem'
def mB(P:Program) (T:TypeId→Option TyI) (N:Nat) (ops:Array Oper):List Oper→St→St→Prop
 | [],st,J' =>J' =st
 |o::os,st,J' =>∃b,qP ops st.env o=some b∧Ct N o=true∧
   (b=false→mB P T N ops os ⟨afp st.env o.dst (.tuple []),st.mem⟩ J')∧
   (b=true→∃v mem',vx P T st.env st.mem o v mem' ∧mB P T N ops os ⟨afp st.env o.dst v,mem'⟩ J')
variable{o:Oper}
section
variable {P:Program}{T:TypeId→Option TyI}{μ:Nat→Place}{mem:Mem}{base:Nat}{w:World}
theorem ae6.afp{n N:Nat}{env:Env}{a:Act}{v:AV}{V:Value}(h:ae6 μ n env a.tmps)(hN:a.tmps.size=N)(hd:Ct N o=true)(hv:aeA μ n v V):
  ae6 μ n (afp env o.dst v) (a.put o.dst V).tmps:=by
 unfold Ct at hd;cases ho:o.dst with
 |none=>simpa [Go.Eng.afp,Act.put] using h
 |some d=>
  rw[ho] at hd;simp only[decide_eq_true_eq] at hd;exact h.put (by rw[hN];exact hd) hv
theorem ff(a:Act)(d:Option Tmp)(V:Value):(a.put d V).tmps.size=a.tmps.size:=by cases d<;>simp[Act.put]
theorem fH(a:Act)(d:Option Tmp)(V:Value):(a.put d V).defers=a.defers:=by cases d<;>rfl
theorem oA{env:Env}{n:Nat}{ops:Array Oper}{a:Act}{b:Bool}(hR:ae6 μ n env a.tmps)(h:qP ops env o=some b):
  Region.wanted o (yielded ops a.tmps)=b:=by
 unfold qP at h;unfold Region.wanted;split at h
 ·rename_i hg;cases h;simp[hg]
 ·rename_i j abv hg
  simp only[hg];split at h
  ·rename_i d hd
   split at h
   ·rename_i b' hb
    cases h;have:=hR d;rw[hb] at this;have hv:=this.bool;simp only[yielded,hd,Option.bind_some];have acb:a.tmps[d]? =some (.bool b'):=by
     rw[Array.getD_eq_getD_getElem?] at hv;cases hx:a.tmps[d]? with
     |none=>rw[hx] at hv;simp[undef] at hv
     |some y=>rw[hx] at hv;simp at hv;rw[hv]
    rw[acb];cases b' <;>cases abv<;>rfl
   ·rename_i hb
    cases h;have:=hR d;rw[hb] at this;simp only[aeA,aeC] at this;obtain⟨Us,hv,rfl⟩:=this;simp only[yielded,hd,Option.bind_some];rw[Array.getD_eq_getD_getElem?] at hv;cases hx:a.tmps[d]? with
    |none=>rfl
    |some y=>rw[hx] at hv;simp only[Option.getD_some] at hv;rw[hv];cases abv<;>rfl
   ·cases h
  ·cases h
theorem xj(h:Tp P f)(args:Array Value)(w:World):(callFunc f args).run P w=.ok (.enter f args) w:=by
 obtain⟨fn,h1,h2,h3⟩:=h;have hb:¬fn.body=none:=by intro e;rw[e] at h2;cases h2
 have hn:¬fn.name = "runtime.NumGoroutine" := by simpa using h3
 simp[callFunc,h1,hn,hb]
theorem ER{T:TypeId→Option TyI}{env:Env}{mem:Mem}{op:Op}{r}(h:aOp T env mem op=some r):∀c,op≠ .defer c:=by intro c e;subst e;simp[aOp] at h
theorem qD(hT:cJ P T)(hG:GOk P base w)(hH:aeL base μ mem w){N:Nat}{env:Env}{a:Act}{v:AV}{mem' :Mem}(hR:ae6 μ mem.length env a.tmps)(hN:a.tmps.size=N)(hd:Ct N o=true)(h:vx P T env mem o v mem'){K:Act→World→Prop}{Q:Exit→Act→World→Prop}(hK:∀V w' μ',aeA μ' mem'.length v V→aeL base μ' mem' w' →ae6 μ' mem'.length (afp env o.dst v) (a.put o.dst V).tmps→Step mem.length μ mem w μ' mem' w' →K (a.put o.dst V) w'):
  o.wpIn (Fr ro) 0 P a w K Q:=by
 refine⟨fun _ _=>trivial,?_⟩;rcases h with h | ⟨f,args,hc,aap⟩ | ⟨b,args,hc,hy⟩
 ·rw[Oper.semAt_eq _ _ _ (ER h)]
  obtain⟨N',w',μ',h1,h2,h3,h4⟩:=RE hT hH hR h;rw[h1];have hR' :ae6 μ' mem'.length env a.tmps:=hR.mono h4.len h4.agree;rcases h2 with⟨V,rfl,hv⟩ | ⟨rfl,rfl⟩
  ·exact hK V w' μ' hv h3 (hR'.afp hN hd hv) h4
  ·have hv:aeA μ' mem'.length .undef undef:=by simp[aeA]
   exact hK undef w' μ' hv h3 (hR'.afp hN hd hv) h4
 ·unfold E4 at hc
  split at hc
  ·rename_i x xs ts S'
   split at hc
   ·rename_i f' caps hx
    cases hc;have hf:=aW hR x;rw[hx] at hf;simp only[aeA] at hf;obtain⟨Us,hU,hus⟩:=hf;have Yi:(execOp a.eval o).run P w=.ok (.enter f ⟨xs.toList.map a.eval++Us⟩) w:=by simp only[execOp,S',resolve,hU,Deferred.ofValue,pure_bind,invoke];rw[xj aap.1];congr 2;apply Array.ext';simp
    rw[Oper.semAt_eq _ _ _ (by rw[S'];intro c e;cases e),Yi];refine⟨fun h=>by simp[Fence.wide] at h,yT.2 ((aap.2 base μ w _ hG hH ((yX hR xs.toList).append hus)).mono ?_)⟩;rintro e w' ⟨V,v',m',μ',rfl,q1,q2,q3,rfl,rfl⟩;exact hK V w' μ' q1 q2 ((hR.mono q3.len q3.agree).afp hN hd q1) q3
   ·cases hc
  ·cases hc
 ·unfold ze at hc
  split at hc
  ·rename_i x xs ts S'
   split at hc
   ·rename_i b' hx
    cases hc;have hf:=aW hR x;rw[hx] at hf;simp only[aeA] at hf;obtain⟨hb,hU⟩:=hf;obtain⟨f,tmps,Yd,body,h1,h2⟩:=hy base μ w _ hG hH (yX hR xs.toList) hb;have Yi:(execOp a.eval o).run P w=.ok (.round (μ b).blk f tmps Yd body) w:=by
     rw[←h1];simp only[execOp,S',resolve,hU,Deferred.ofValue,pure_bind,invoke];have e: #[]++xs.map a.eval=(⟨xs.toList.map a.eval⟩:Array Value):=by apply Array.ext';simp
     rw[e]
    rw[Oper.semAt_eq _ _ _ (by rw[S'];intro c e;cases e),Yi];refine⟨fun h=>by simp[Fence.wide] at h,RoundIn.mono (F:=Fr ro) h2 ?_⟩;rintro e w' ⟨V,v',m',μ',rfl,q1,q2,q3,rfl,rfl⟩;exact hK V w' μ' q1 q2 ((hR.mono q3.len q3.agree).afp hN hd q1) q3
   ·cases hc
  ·cases hc
theorem vl(hT:cJ P T) {N:Nat}{ops:Array Oper}{Q:Exit→Act→World→Prop}:∀{l:List Oper}{st J' :St}{μ:Nat→Place}{w:World}{a:Act}{m0:Nat}{μ0:Nat→Place}{mem0:Mem}{w0:World}{h0:Nat}{ro:Option Nat},
  mB P T N ops l st J' →aeL base μ st.mem w→ae6 μ st.mem.length st.env a.tmps→a.tmps.size=N→MOk P base h0 w a.defers→m0≤st.mem.length→Step m0 μ0 mem0 w0 μ st.mem w→
  (∀a' w' μ',aeL base μ' J'.mem w' →ae6 μ' J'.mem.length J'.env a'.tmps→a'.tmps.size=N→MOk P base h0 w' a'.defers→m0≤J'.mem.length→Step m0 μ0 mem0 w0 μ' J'.mem w' →Q .normal a' w')→
  wpListIn (Fr ro) 0 P ops Q l a w
 | [],st,J',μ,w,a,m0,μ0,mem0,w0,h0,ro,h,hH,hR,hN,hdf,hm,hS,hQ=>by simp only[mB] at h;subst h;exact wpListIn_nil (hQ a w μ hH hR hN hdf hm hS)
 |o::os,st,J',μ,w,a,m0,μ0,mem0,w0,h0,ro,h,hH,hR,hN,hdf,hm,hS,hQ=>by
  obtain⟨b,hb,hd,hf,ht⟩:=h;refine wpListIn_step fun K hK=>?_
  rw[oA hR hb];cases b with
  |false=>
   simp only[Bool.false_eq_true,if_false];refine⟨fun _ _=>trivial,?_⟩;refine hK _ _ (vl hT (hf rfl) hH (hR.afp hN hd (by simp[aeA,aeC,undef])) (by rw[ff];exact hN) (by rw[fH];exact hdf) hm hS hQ)
  |true=>
   simp only[if_true];obtain⟨v,mem',aaI,Yi⟩:=ht rfl;refine qD hT hdf.afH hH hR hN hd aaI fun V w' μ' q1 q2 q3 q4=>hK _ _ ?_
   exact vl hT Yi q2 q3 (by rw[ff];exact hN) (by rw[fH];exact hdf.step hH q4) (Nat.le_trans hm q4.len) (hS.trans (q4.mono hm)) hQ
end
end Go.Eng
namespace Go.Eng
def AWP(P:Program) (tp:Bool) (N m0:Nat) (c:Code) (st:St) (Q:Exit→St→Prop):Prop:=
 ∀(ro:Option Nat) (h0:Nat) base μ w a,(tp=true→ro=none)→aeL base μ st.mem w→ae6 μ st.mem.length st.env a.tmps→a.tmps.size=N→MOk P base h0 w a.defers→m0≤st.mem.length→
  c.wpIn (Fr ro) 0 P (fun e a' w' =>∃J' μ',aeL base μ' J'.mem w' ∧ae6 μ' J'.mem.length J'.env a'.tmps∧a'.tmps.size=N∧MOk P base h0 w' a'.defers∧m0≤J'.mem.length∧
   Step m0 μ st.mem w μ' J'.mem w' ∧Q e J') a w
variable{Q' :Exit→St→Prop}{c:Code}{id:Nat}
section
variable {P:Program}{T:TypeId→Option TyI}{tp:Bool}{N m0:Nat}{Q:Exit→St→Prop}{st:St}
theorem AWP.mono(h:AWP P tp N m0 c st Q)(hq:∀e s,Q e s→Q' e s):AWP P tp N m0 c st Q' :=
 fun ro h0 base μ w a hro h1 h2 h3 h4 h5=>wpIn_mono (h ro h0 base μ w a hro h1 h2 h3 h4 h5) fun _ _ _ ⟨s,μ',a1,a2,a3,a4,a5,a6,a7⟩=>⟨s,μ',a1,a2,a3,a4,a5,a6,hq _ _ a7⟩
theorem Ul(h:Q .normal st):AWP P tp N m0 .skip st Q:=
 fun _ _ _ μ _ _ _ h1 h2 h3 h4 h5=>wpIn_skip ⟨st,μ,h1,h2,h3,h4,h5,.refl h5,h⟩
theorem Uj(h:Q (.exit id) st):AWP P tp N m0 (.exit id) st Q:=
 fun _ _ _ μ _ _ _ h1 h2 h3 h4 h5=>wpIn_exit ⟨st,μ,h1,h2,h3,h4,h5,.refl h5,h⟩
theorem VJ(h:Q .ret st):AWP P tp N m0 .ret st Q:=
 fun _ _ _ μ _ _ _ h1 h2 h3 h4 h5=>wpIn_ret ⟨st,μ,h1,h2,h3,h4,h5,.refl h5,h⟩
def Xd(R:St→Prop) (Q:Exit→St→Prop):Exit→St→Prop
 |.normal,s=>R s
 |e,s=>Q e s
theorem wC{x y:Code}(h:AWP P tp N m0 x st (Xd (fun s=>AWP P tp N m0 y s Q) Q)):AWP P tp N m0 (.seq x y) st Q:=by
 intro ro h0 base μ w a hro h1 h2 h3 h4 h5;refine wpIn_seq (wpIn_mono (h ro h0 base μ w a hro h1 h2 h3 h4 h5) ?_);rintro e a' w' ⟨s,μ',b1,b2,b3,b4,b5,b6,b7⟩;cases e with
 |normal=>
  refine wpIn_mono (b7 ro h0 base μ' w' a' hro b1 b2 b3 b4 b5) ?_;rintro e a2 w2 ⟨s2,μ2,c1,c2,c3,c4,c5,c6,c7⟩;exact⟨s2,μ2,c1,c2,c3,c4,c5,b6.trans c6,c7⟩
 |_=>exact⟨s,μ',b1,b2,b3,b4,b5,b6,b7⟩
theorem Nc{c:Operand}{x y:Code}{b:Bool}(hc:get st.env c=.bool b)(ht:b=true→AWP P tp N m0 x st Q)(hf:b=false→AWP P tp N m0 y st Q):
  AWP P tp N m0 (.cond c x y) st Q:=by
 intro ro h0 base μ w a hro h1 h2 h3 h4 h5;have hv:=aW h2 c;rw[hc] at hv;exact wpIn_cond_split hv.bool (fun e=>ht e ro h0 base μ w a hro h1 h2 h3 h4 h5) (fun e=>hf e ro h0 base μ w a hro h1 h2 h3 h4 h5)
def Nf(id:Nat) (Q:Exit→St→Prop):Exit→St→Prop
 |.exit i,s=>if i=id then Q .normal s else Q (.exit i) s
 |e,s=>Q e s
theorem AA(h:AWP P tp N m0 c st (Nf id Q)):AWP P tp N m0 (.block id c) st Q:=by
 intro ro h0 base μ w a hro h1 h2 h3 h4 h5;refine wpIn_block (wpIn_mono (h ro h0 base μ w a hro h1 h2 h3 h4 h5) ?_);rintro e a' w' ⟨s,μ',b1,b2,b3,b4,b5,b6,b7⟩;cases e with
 |exit i=>
  simp only[Exit.inBlock,Nf] at b7 ⊢;split at b7
  ·rename_i hi;rw[if_pos hi];exact⟨s,μ',b1,b2,b3,b4,b5,b6,b7⟩
  ·rename_i hi;rw[if_neg hi];exact⟨s,μ',b1,b2,b3,b4,b5,b6,b7⟩
 |_=>exact⟨s,μ',b1,b2,b3,b4,b5,b6,b7⟩
theorem Pn(hT:cJ P T){ops:Array Oper}{J' :St}(h:mB P T N ops ops.toList st J')(hq:Q .normal J'):
  AWP P tp N m0 (.region id ops false) st Q:=by
 intro ro h0 base μ w a hro h1 h2 h3 h4 h5;exact wpIn_region_list (vl hT h h1 h2 h3 h4 h5 (.refl h5) fun a' w' μ' c1 c2 c3 c4 c5 c6=>⟨J',μ',c1,c2,c3,c4,c5,c6,hq⟩)
theorem xN{F:Fence}{r:Nat}{σ:Type}{Q:Exit→Act→World→Prop}(I:σ→Act→World→Prop)(m:σ→Nat)(round:∀s a w,I s a w→c.wpIn F r P (Exit.then (fun a' w' =>∃s',I s' a' w' ∧m s' <m s) Q) a w):
  ∀{s a w},I s a w→(Code.loop c).wpIn F r P Q a w:=by
 intro s a w h₀ b k cs hro hb hr;have key:∀n s a w,m s=n→I s a w→
   ∃e a' w',Q e a' w' ∧ArrivesIn (Machine.fenced P F) P (lone (b.atR a (.code c::.inLoop c::k)) cs w) b k cs e a' w' :=by
  intro n;induction n using Nat.strongRecOn with
  |_ n ih=>
   intro s a w hn hI;obtain⟨e,a₁,w₁,hq,aau⟩:=round s a w hI b (.inLoop c::k) cs hro hb hr;cases e with
   |normal=>
    obtain⟨s',hI₁,A'⟩:=hq;obtain⟨e₂,a₂,w₂,hq₂,harr₂⟩:=ih (m s') (hn▸A') s' a₁ w₁ rfl hI₁;exact⟨e₂,a₂,w₂,hq₂,.of_steps (StepsIn.trans aau (.one (fenced_calm hb hr rfl) stepR_inLoop)) harr₂⟩
   |exit id=>exact⟨_,a₁,w₁,hq,.pass (x:=.inLoop c) rfl (fun _ _=>.inl (by simp)) aau⟩
   |goto l=>exact⟨_,a₁,w₁,hq,.pass (x:=.inLoop c) rfl (fun _ _=>.inl (by simp)) aau⟩
   |ret=>exact⟨_,a₁,w₁,hq,.pass (x:=.inLoop c) rfl (fun _ _=>.inl (by simp)) aau⟩
   |panic ch=>exact⟨_,a₁,w₁,hq,.pass (x:=.inLoop c) rfl (fun _ _=>.inl (by simp)) aau⟩
   |outgrown=>exact⟨_,a₁,w₁,hq,.pass (x:=.inLoop c) rfl (fun _ _=>.inl (by simp)) aau⟩
 obtain⟨e,a',w',hq,aau⟩:=key _ s a w rfl h₀;exact⟨e,a',w',hq,.of_steps (.one (fenced_calm hb hr rfl) stepR_loop) aau⟩
theorem Uk{σ:Type}(I:σ→St→Prop)(m:σ→Nat){s:σ}(hI0:I s st)(round:∀s st,I s st→AWP P tp N m0 c st (Xd (fun J' =>∃s',I s' J' ∧m s' <m s) Q)):AWP P tp N m0 (.loop c) st Q:=by
 intro ro h0 base μ w a hro h1 h2 h3 h4 h5;refine xN (σ:=σ) (fun s a' w' =>∃J' μ',aeL base μ' J'.mem w' ∧ae6 μ' J'.mem.length J'.env a'.tmps∧a'.tmps.size=N∧MOk P base h0 w' a'.defers∧m0≤J'.mem.length∧
   Step m0 μ st.mem w μ' J'.mem w' ∧I s J') m ?_ (s:=s) ⟨st,μ,h1,h2,h3,h4,h5,.refl h5,hI0⟩
 rintro s a' w' ⟨J',μ',b1,b2,b3,b4,b5,b6,b7⟩;refine wpIn_mono (round s J' b7 ro h0 base μ' w' a' hro b1 b2 b3 b4 b5) ?_;rintro e a2 w2 ⟨s2,μ2,c1,c2,c3,c4,c5,c6,c7⟩;cases e with
 |normal=>
  obtain⟨s',d1,d2⟩:=c7;exact⟨s',⟨s2,μ2,c1,c2,c3,c4,c5,b6.trans c6,d1⟩,d2⟩
 |_=>exact⟨s2,μ2,c1,c2,c3,c4,c5,b6.trans c6,c7⟩
def afr(m0:Nat) (st st1:St):Prop:=∀base μ w tmps,aeL base μ st.mem w→ae6 μ st.mem.length st.env tmps→m0≤st.mem.length→
 ∃μ1,aeL base μ1 st1.mem w∧ae6 μ1 st1.mem.length st1.env tmps∧m0≤st1.mem.length∧Step m0 μ st.mem w μ1 st1.mem w
theorem Um{st1:St}(hw:afr m0 st st1)(h:AWP P tp N m0 c st1 Q):AWP P tp N m0 c st Q:=by intro ro h0 base μ w a hro h1 h2 h3 h4 h5;obtain⟨μ1,b1,b2,b3,b4⟩:=hw base μ w a.tmps h1 h2 h5;refine wpIn_mono (h ro h0 base μ1 w a hro b1 b2 h3 h4 b3) ?_;rintro e a2 w2 ⟨s2,μ2,c1,c2,c3,c4,c5,c6,c7⟩;exact⟨s2,μ2,c1,c2,c3,c4,c5,b4.trans c6,c7⟩
theorem afr.trans{s1 s2 s3:St}(h:afr m0 s1 s2)(h' :afr m0 s2 s3):afr m0 s1 s3:=by intro base μ w tmps h1 h2 h3;obtain⟨μ1,b1,b2,b3,b4⟩:=h base μ w tmps h1 h2 h3;obtain⟨μ2,c1,c2,c3,c4⟩:=h' base μ1 w tmps b1 b2 b3;exact⟨μ2,c1,c2,c3,b4.trans c4⟩
theorem afr.env{env abL:Env}{mem:Mem}(h:∀t,ab abL t=ab env t∨ab abL t=.undef):afr m0 ⟨env,mem⟩ ⟨abL,mem⟩:=by
 intro base μ w tmps h1 h2 h3;refine⟨μ,h1,fun t=>?_,h3,.refl h3⟩;rcases h t with e | e
 ·rw[e];exact h2 t
 ·rw[e];simp[aeA]
theorem AWP.ag6(h:AWP P tp N m0 c st Q')(hq:∀e s,Q' e s→∃s1,afr m0 s s1∧Q e s1):AWP P tp N m0 c st Q:=by intro ro h0 base μ w a hro h1 h2 h3 h4 h5;refine wpIn_mono (h ro h0 base μ w a hro h1 h2 h3 h4 h5) ?_;rintro e a2 w2 ⟨s2,μ2,c1,c2,c3,c4,c5,c6,c7⟩;obtain⟨s1,hw,hQ⟩:=hq e s2 c7;obtain⟨μ1,b1,b2,b3,b4⟩:=hw base μ2 w2 a2.tmps c1 c2 c5;exact⟨s1,μ1,b1,b2,c3,c4,b3,c6.trans b4,hQ⟩
end
end Go.Eng
namespace Go.Eng
def rho(m0:Nat) (ks:List Nat) (b:Nat):Option Nat:=if b<m0 then some b else (ks.idxOf? b).map (m0+·)
def xH(ρ:Nat→Option Nat) (env:Env):Env:=env.map fun e=>(e.1,e.2.ren ρ)
def aeD.ren(ρ:Nat→Option Nat):aeD→aeD
 |.kO=>.kO
 |.cells own es cs=>.cells own es (AV.aeM ρ cs)
 |.map es=>.map (es.map fun e=>(e.1.ren ρ,e.2.ren ρ))
 |.ae8 es=>.ae8 (es.map fun e=>(e.1.ren ρ,e.2.ren ρ))
 |.loop r=>.loop { r with env:=xH ρ r.env }
def afq(m0:Nat) (ks:List Nat) (mem:Mem):Mem:=ks.map fun k=>(mem.getD k .kO).ren (rho m0 ks)
def aeK(m0:Nat) (ks:List Nat) (mem:Mem):Mem:=(mem.take m0).map (aeD.ren (rho m0 ks))++afq m0 ks mem
def Ka(m0 n:Nat) (ks:List Nat):Bool:=decide ks.Nodup&&ks.all fun k=>decide (m0≤k∧k<n)
theorem iy(ρ:Nat→Option Nat):∀(env:Env) (t:Nat),ab (xH ρ env) t=(ab env t).ren ρ
 | [],t=>by simp[xH,ab,AV.ren]
 |(k,v)::r,t=>by
  simp only[xH,List.map_cons,ab];by_cases h:k=t
  ·simp[h]
  ·simp only[h,if_false];exact iy ρ r t
variable{ks:List Nat}{p:Place}
section
variable {μ:Nat→Place}{mem:Mem}{base:Nat}{w:World}
theorem aeO.ren{μ μ' :Nat→Place}{n n' base:Nat}{w:World}{s:aeD}{ρ:Nat→Option Nat}(hρ:∀b b',b<n→ρ b=some b' →b' <n' ∧μ' b' =μ b)(h:aeO μ n base w p s):aeO μ' n' base w p (s.ren ρ):=by
 cases s with
 |kO=>trivial
 |cells own es cs=>
  simp only[aeO,aeD.ren] at h ⊢;obtain⟨cur,e,fr,h1,h2,h3,h4,h5⟩:=h;refine⟨cur,e,fr,h1,h2,by rw[fV,List.length_map];exact h3,fun j v hv=>?_,h5⟩;rw[fV,List.getElem?_map] at hv;simp only[Option.map_eq_some_iff] at hv;obtain⟨v0,ZJ,rfl⟩:=hv;obtain⟨V,hV,hr⟩:=h4 j v0 ZJ;exact⟨V,hV,hr.ren hρ⟩
 |map es=>
  simp only[aeO,aeD.ren] at h ⊢;obtain⟨Do,G',h1,h2,h3,h4⟩:=h;refine⟨Do,G',h1,h2,by rw[List.length_map];exact h3,fun j e he=>?_⟩;rw[List.getElem?_map] at he;simp only[Option.map_eq_some_iff] at he;obtain⟨e0,he0,rfl⟩:=he;obtain⟨E,hE,Ya,Yc⟩:=h4 j e0 he0;exact⟨E,hE,Ya.ren hρ,Yc.ren hρ⟩
 |ae8 es=>
  simp only[aeO,aeD.ren] at h ⊢;obtain⟨Do,G',h1,h2,h3,h4⟩:=h;refine⟨Do,G',h1,h2,by rw[List.length_map];exact h3,fun j e he=>?_⟩;rw[List.getElem?_map] at he;simp only[Option.map_eq_some_iff] at he;obtain⟨e0,he0,rfl⟩:=he;obtain⟨E,hE,Ya,Yc⟩:=h4 j e0 he0;exact⟨E,hE,Ya.ren hρ,Yc.ren hρ⟩
 |loop r=>
  simp only[aeO,aeD.ren] at h ⊢;obtain⟨L,h1,h2,h3⟩:=h;exact⟨L,h1,h2,{ h3 with tmps:=fun t=>by rw[iy];exact(h3.tmps t).ren hρ }⟩
theorem aeD.afY(ρ:Nat→Option Nat)(s:aeD):(s.ren ρ).own=s.own:=by cases s<;>rfl
theorem A5{m0 n:Nat}(h:Ka m0 n ks=true):ks.Nodup∧∀k∈ks,m0≤k∧k<n:=by simp only[Ka,Bool.and_eq_true,decide_eq_true_eq,List.all_eq_true] at h;exact h
theorem fj{m0:Nat}(hm:m0≤mem.length):(aeK m0 ks mem).length=m0+ks.length:=by simp[aeK,afq];omega
def gV(m0:Nat) (ks:List Nat) (b:Nat):Nat:=if b<m0 then b else ks.getD (b-m0) 0
theorem tI{m0:Nat}(hm:m0≤mem.length)(hk:Ka m0 mem.length ks=true){b:Nat}{s:aeD}(h:(aeK m0 ks mem)[b]? =some s):
  ∃s0,mem[gV m0 ks b]? =some s0∧s=s0.ren (rho m0 ks):=by
 obtain⟨_,ZK⟩:=A5 hk;have e1:((mem.take m0).map (aeD.ren (rho m0 ks))).length=m0:=by simp;omega
 unfold aeK at h;by_cases hb:b<m0
 ·rw[List.getElem?_append_left (by omega),List.getElem?_map,List.getElem?_take_of_lt hb] at h
  simp only[Option.map_eq_some_iff] at h;obtain⟨s0,h1,h2⟩:=h;exact⟨s0,by simpa [gV,hb] using h1,h2.symm⟩
 ·rw[List.getElem?_append_right (by omega),e1] at h
  unfold afq at h;rw[List.getElem?_map] at h;simp only[Option.map_eq_some_iff] at h;obtain⟨k,h1,h2⟩:=h;have Yo:=List.mem_of_getElem? h1;obtain⟨_,A'⟩:=ZK k Yo;have Yk:mem[k]? =some mem[k]:=by simp[A']
  refine⟨mem[k],?_,?_⟩
  ·simp[gV,hb,h1,A']
  ·rw[←h2];simp[List.getD,Yk]
theorem Po{m0:Nat}(hk:Ka m0 mem.length ks=true){x y:Nat}(hx:x<m0+ks.length)(hy:y<m0+ks.length)(h:gV m0 ks x=gV m0 ks y):x=y:=by
 obtain⟨Z0,ZK⟩:=A5 hk;have Yo:∀z,¬z<m0→z<m0+ks.length→m0≤ks.getD (z-m0) 0:=by
  intro z h1 h2;have A':z-m0<ks.length:=by omega
  have:ks.getD (z-m0) 0=ks[z-m0]:=by simp[A']
  rw[this];exact(ZK _ (by simp)).1
 unfold gV at h;by_cases h1:x<m0<;>by_cases h2:y<m0<;>simp only[h1,h2,if_true,if_false] at h
 ·exact h
 ·have:=Yo y h2 hy;omega
 ·have:=Yo x h1 hx;omega
 ·have hx' :x-m0<ks.length:=by omega
  have hy' :y-m0<ks.length:=by omega
  have ex:ks.getD (x-m0) 0=ks[x-m0]:=by simp[hx']
  have ey:ks.getD (y-m0) 0=ks[y-m0]:=by simp[hy']
  rw[ex,ey] at h;have:=(List.getElem_inj Z0).1 h;omega
theorem aeL.aeK{m0:Nat}(hH:aeL base μ mem w)(hm:m0≤mem.length)(hk:Ka m0 mem.length ks=true):
  aeL base (fun b=>μ (gV m0 ks b)) (aeK m0 ks mem) w∧
  (∀b b',b<mem.length→rho m0 ks b=some b' →b' <(Eng.aeK m0 ks mem).length∧(fun b=>μ (gV m0 ks b)) b' =μ b)∧
  Step m0 μ mem w (fun b=>μ (gV m0 ks b)) (Eng.aeK m0 ks mem) w:=by
 obtain⟨Z0,ZK⟩:=A5 hk;have hρ:∀b b',b<mem.length→rho m0 ks b=some b' →b' <(Eng.aeK m0 ks mem).length∧(fun b=>μ (gV m0 ks b)) b' =μ b:=by
  intro b b' hb hr;rw[fj hm];unfold rho at hr;by_cases h1:b<m0
  ·rw[if_pos h1] at hr
   cases hr;exact⟨by omega,by simp[gV,h1]⟩
  ·rw[if_neg h1] at hr
   simp only[Option.map_eq_some_iff] at hr;obtain⟨i,hi,rfl⟩:=hr;have hi' :=List.idxOf?_eq_some_iff.1 hi;obtain⟨A',Yk,_⟩:=hi';refine⟨by omega,?_⟩;simp only[gV];rw[if_neg (by omega)];have:ks.getD (m0+i-m0) 0=b:=by rw[Nat.add_sub_cancel_left];simp[A',Yk]
   rw[this]
 have pre:∀x,ei (Eng.aeK m0 ks mem) x→ei mem (gV m0 ks x)∧x<m0+ks.length:=by intro x hx;obtain⟨s,hc,ho⟩:=hx;have A':=(gL hc);rw[fj hm] at A';obtain⟨s0,h1,rfl⟩:=tI hm hk hc;exact⟨⟨s0,h1,by rw[←aeD.afY];exact ho⟩,A'⟩
 refine⟨⟨hH.aeI,fun b s hs=>?_,fun x y s hx hy PP hxy=>?_⟩,hρ,?_⟩
 ·obtain⟨s0,h1,rfl⟩:=tI hm hk hs
  exact(hH.slot _ s0 h1).ren hρ
 ·obtain⟨hxo,hxl⟩:=pre x hx
  have hyl:=(gL hy);rw[fj hm] at hyl;obtain⟨s0,h1,rfl⟩:=tI hm hk hy;refine hH.sep _ _ s0 hxo h1 ?_ fun e=>hxy (Po hk hxl hyl e)
  rintro rfl;exact PP rfl
 ·refine⟨by rw[fj hm];omega,fun b hb=>by simp[gV,hb],rfl,rfl,rfl,Nat.le_refl _,fun _ _ _=>rfl,fun b hb _=>?_,Nat.le_refl _⟩
  exact⟨_,(pre b hb).1,rfl⟩
theorem afr.aeK{m0:Nat}{env:Env}{mem:Mem}(ks:List Nat)(hk:Ka m0 mem.length ks=true):
  afr m0 ⟨env,mem⟩ ⟨xH (rho m0 ks) env,aeK m0 ks mem⟩:=by
 intro base μ w tmps h1 h2 h3;obtain⟨c1,c2,c3⟩:=h1.aeK h3 hk;refine⟨_,c1,fun t=>?_,by rw[fj h3];omega,c3⟩;rw[iy];exact(h2 t).ren c2
end
mutual
theorem aeA.lower{μ μ' :Nat→Place}{n n' :Nat}(hμ:∀b,b<n→μ' b=μ b):∀{v V V'},aeA μ n v V→aeA μ' n' v V' →aeA μ n v V'
 |.undef,_,_,_,_=>by simp[aeA]
 |.bool _,_,_,_,h=>by simpa [aeA] using h
 |.int _ _,_,_,_,h=>by simpa [aeA] using h
 |.str _,_,_,_,h=>by simpa [aeA] using h
 |.ptr b o,_,_,h,h' =>by simp only[aeA] at h h' ⊢;exact⟨h.1,by rw[←hμ b h.1];exact h'.2⟩
 |.aeT,_,_,_,h=>by simpa [aeA] using h
 |.slice b o l c,_,_,h,h' =>by simp only[aeA] at h h' ⊢;exact⟨h.1,by rw[←hμ b h.1];exact h'.2⟩
 |.kK,_,_,_,h=>by simpa [aeA] using h
 |.map b,_,_,h,h' =>by simp only[aeA] at h h' ⊢;exact⟨h.1,by rw[←hμ b h.1];exact h'.2⟩
 |.yield b,_,_,h,h' =>by simp only[aeA] at h h' ⊢;exact⟨h.1,by rw[←hμ b h.1];exact h'.2⟩
 |.ae0,_,_,_,h=>by simpa [aeA] using h
 |.func f cs,_,_,h,h' =>by simp only[aeA] at h h' ⊢;obtain⟨Us,e,h⟩:=h;obtain⟨Z4,e',h'⟩:=h';exact⟨Z4,e',aeC.lower hμ h h'⟩
 |.nilFunc,_,_,_,h=>by simpa [aeA] using h
 |.iface t v,_,_,h,h' =>by simp only[aeA] at h h' ⊢;obtain⟨U,e,h⟩:=h;obtain⟨U',e',h'⟩:=h';exact⟨U',e',aeA.lower hμ h h'⟩
 |.nilIface,_,_,_,h=>by simpa [aeA] using h
 |.agg cs,_,_,h,h' =>by simp only[aeA] at h h' ⊢;obtain⟨Us,e,h⟩:=h;obtain⟨Z4,e',h'⟩:=h';exact⟨Z4,e',aeC.lower hμ h h'⟩
 |.tuple cs,_,_,h,h' =>by simp only[aeA] at h h' ⊢;obtain⟨Us,e,h⟩:=h;obtain⟨Z4,e',h'⟩:=h';exact⟨Z4,e',aeC.lower hμ h h'⟩
theorem aeC.lower{μ μ' :Nat→Place}{n n' :Nat}(hμ:∀b,b<n→μ' b=μ b):∀{vs Us Z4},aeC μ n vs Us→aeC μ' n' vs Z4 →aeC μ n vs Z4
 | [],_,_,_,h=>by simpa [aeC] using h
 |v::vs,_,_,h,h' =>by simp only[aeC] at h h' ⊢;obtain⟨U,Ws,e,h1,h2⟩:=h;obtain⟨U',Ws',e',YS,ZZ⟩:=h';exact⟨U',Ws',e',aeA.lower hμ h1 YS,aeC.lower hμ h2 ZZ⟩
end
theorem aeO.lower{μ μ' :Nat→Place}{n n' base:Nat}{w w' :World}{s:aeD}(hμ:∀b,b<n→μ' b=μ b)(h:aeO μ n base w p s)(h' :aeO μ' n' base w' p s):aeO μ n base w' p s:=by
 cases s with
 |kO=>trivial
 |cells own es cs=>
  simp only[aeO] at h h' ⊢;obtain⟨_,_,_,_,_,_,h4,_⟩:=h;obtain⟨cur,e,fr,g1,g2,g3,g4,g5⟩:=h';refine⟨cur,e,fr,g1,g2,g3,fun j v hv=>?_,g5⟩;obtain⟨V,_,hr⟩:=h4 j v hv;obtain⟨V',hV',hr'⟩:=g4 j v hv;exact⟨V',hV',hr.lower hμ hr'⟩
 |map es=>
  simp only[aeO] at h h' ⊢;obtain⟨_,_,_,_,_,h4⟩:=h;obtain⟨Do,G',g1,g2,g3,g4⟩:=h';refine⟨Do,G',g1,g2,g3,fun j e he=>?_⟩;obtain⟨E,_,Ya,Yc⟩:=h4 j e he;obtain⟨E',Yb,abM,abN⟩:=g4 j e he;exact⟨E',Yb,Ya.lower hμ abM,Yc.lower hμ abN⟩
 |ae8 es=>
  simp only[aeO] at h h' ⊢;obtain⟨_,_,_,_,_,h4⟩:=h;obtain⟨Do,G',g1,g2,g3,g4⟩:=h';refine⟨Do,G',g1,g2,g3,fun j e he=>?_⟩;obtain⟨E,_,Ya,Yc⟩:=h4 j e he;obtain⟨E',Yb,abM,abN⟩:=g4 j e he;exact⟨E',Yb,Ya.lower hμ abM,Yc.lower hμ abN⟩
 |loop r=>
  simp only[aeO] at h h' ⊢;obtain⟨L,_,_,h3⟩:=h;obtain⟨L',g1,g2,g3⟩:=h';exact⟨L',g1,g2,{ g3 with tmps:=fun t=>(h3.tmps t).lower hμ (g3.tmps t) }⟩
theorem aeL.swap{base:Nat}{μ:Nat→Place}{abw Y8:Mem}{w:World}(h:aeL base μ abw w)(hl:Y8.length=abw.length)(hs:∀b s2,Y8[b]? =some s2→∃s1,abw[b]? =some s1∧s1.own=s2.own∧(s1=.kO→s2=.kO)∧aeO μ abw.length base w (μ b) s2):aeL base μ Y8 w:=by
 refine⟨h.aeI,fun b s hb=>?_,fun b b' s' hb UV PP YN=>?_⟩
 ·obtain⟨s1,_,_,_,h4⟩:=hs b s hb;rw[hl];exact h4
 ·obtain⟨s,g1,g2⟩:=hb
  obtain⟨s1,k1,k2,_,_⟩:=hs b s g1;obtain⟨s3,k3,_,k5,_⟩:=hs b' s' UV;exact h.sep b b' s3 ⟨s1,k1,by rw[k2];exact g2⟩ k3 (fun e=>PP (k5 e)) YN
end Go.Eng
namespace Go.Eng
def dL:Nat→List AV→Env
 |_,[]=>[]
 |i,v::vs=>(i,v)::dL (i+1) vs
def Xq(T:TypeId→Option TyI) (env:Env) (mem:Mem):ResultVar→Option AV
 |.tmp t=>some (ab env t)
 |.cell a t=>Pg T mem t (ab env a)
def wT(T:TypeId→Option TyI) (env:Env) (mem:Mem):List ResultVar→Option (List AV)
 | []=>some []
 |r::rs=>match Xq T env mem r,wT T env mem rs with
  |some v,some vs=>some (v::vs)
  |_,_=>none
def jZ(T:TypeId→Option TyI) (rs:List ResultVar) (env:Env) (mem:Mem):Option AV:=
 match wT T env mem rs with
 |some [v]=>some v
 |some vs=>some (.tuple vs)
 |none=>none
def Fin(mem:Mem) (v:AV) (m' :Mem) (R:AV→Mem→Prop):Prop:=
 ∃ks,Ka mem.length m'.length ks=true∧
  ((m'.take mem.length=mem∧R (v.ren (rho mem.length ks)) (mem++afq mem.length ks m'))∨R (v.ren (rho mem.length ks)) (aeK mem.length ks m'))
variable{fn:Func}{r:Nat}
section
variable {P:Program}{T:TypeId→Option TyI}{μ:Nat→Place}{mem:Mem}{base:Nat}{w:World}
theorem wJ{n:Nat}{μ:Nat→Place}:∀{vs:List AV}{Vs:List Value}(i:Nat),aeC μ n vs Vs→∀t,aeA μ n (ab (dL i vs) t) (if t<i then undef else Vs.getD (t-i) undef)
 | [],Vs,i,h,t=>by simp[dL,ab,aeA]
 |v::vs,Vs,i,h,t=>by
  simp only[aeC] at h;obtain⟨U,Us,rfl,h1,h2⟩:=h;simp only[dL,ab];by_cases ht:i=t
  ·subst ht;simpa using h1
  ·simp only[ht,if_false]
   have:=wJ (i+1) h2 t;by_cases A':t<i
   ·rw[if_pos (by omega)] at this;rw[if_pos A'];exact this
   ·rw[if_neg (by omega)] at this
    rw[if_neg A'];have e:t-i=(t-(i+1))+1:=by omega
    rw[e];simpa using this
def rvS(tmps:Array Value):ResultVar→Sem Value
 |.tmp t=>pure (tmps.getD t undef)
 |.cell a t=>do loadVar t (←asAddr (tmps.getD a undef))
theorem oh(hT:cJ P T) (hH:aeL base μ mem w) {env:Env}{tmps:Array Value}(hR:ae6 μ mem.length env tmps):
  ∀{rs:List ResultVar}{vs:List AV},wT T env mem rs=some vs→∃Vs,aeC μ mem.length vs Vs∧
   (rs.mapM (rvS tmps)).run P w=.ok Vs w
 | [],vs,h=>by simp only[wT,Option.some.injEq] at h;subst h;exact⟨[],by simp[aeC],by simp⟩
 |r::rs,vs,h=>by
  simp only[wT] at h;split at h
  ·rename_i v vs' h1 h2
   cases h;obtain⟨Vs,g1,g2⟩:=oh hT hH hR h2;cases r with
   |tmp t=>
    simp only[Xq,Option.some.injEq] at h1;subst h1;exact⟨_::Vs,bo.2 ⟨hR t,g1⟩,by rw[List.mapM_cons,rvS,pure_bind,Sem.run_bind,g2];rfl⟩
   |cell a t=>
    simp only[Xq] at h1;obtain⟨V,k1,k2⟩:=Au (P:=P) hT hH (hR a) h1;refine⟨V::Vs,bo.2 ⟨k2,g1⟩,?_⟩;have ac8:∃b o,ab env a=.ptr b o:=by
     unfold Pg at h1;split at h1
     ·rename_i b o _ hl;exact⟨b,o,hl⟩
     ·cases h1
    obtain⟨b,o,hl⟩:=ac8;have hp:=hR a;rw[hl] at hp;have hp2:=hp.ptr.2;rw[hp2] at k1;simp only[Instr.loadAt,Instr.sureAddr,Sem.run_bind,Sem.run_pure,Result.andThen_ok] at k1;rw[List.mapM_cons,rvS,hp2,Sem.run_bind];simp only[asAddr,pure_bind,k1,Result.andThen_ok];rw[Sem.run_bind,g2];rfl
  ·cases h
theorem sf(hT:cJ P T)(hH:aeL base μ mem w){env:Env}{tmps:Array Value}(hR:ae6 μ mem.length env tmps){v:AV}(h:jZ T fn.results.toList env mem=some v):∃V,(results fn tmps).run P w=.ok V w∧aeA μ mem.length v V:=by
 unfold jZ at h;have run:∀Vs,(fn.results.toList.mapM (rvS tmps)).run P w=.ok Vs w→
   (results fn tmps).run P w=.ok (if h:Vs.toArray.size=1 then Vs.toArray[0] else .tuple Vs.toArray) w:=by
  intro Vs hVs;unfold results;rw[Array.mapM_eq_mapM_toList,Sem.run_bind,Sem.run_map];erw [hVs];rfl
 split at h
 ·rename_i v' h1
  cases h;obtain⟨Vs,g1,g2⟩:=oh hT hH hR h1;simp only[aeC] at g1;obtain⟨U,Us,rfl,g3,rfl⟩:=g1;exact⟨U,by rw[run _ g2];simp,g3⟩
 ·rename_i vs PP h1
  cases h;obtain⟨Vs,g1,g2⟩:=oh hT hH hR h1;refine⟨.tuple Vs.toArray,?_,by simp only[aeA];exact⟨Vs,rfl,g1⟩⟩;rw[run _ g2];have:¬Vs.toArray.size=1:=by
   have:=g1.length;intro e;simp at e;rw[e] at this
   match vs,this with
   | [x],_=>exact PP x rfl
  rw[dif_neg this]
 ·cases h
theorem yM{P:Program}{w:World}(h:w.heap[r]? =some (.deferred (some []))):
  (Instr.takeDeferred r).run P w=.ok [] { w with heap:=w.heap.setIfInBounds r (.deferred none) }:=by
 have hg:(getObj r).run P w=.ok (.deferred (some [])) w:=by simp[getObj,Sem.run,h]
 have hs:(setObj r (.deferred none)).run P w=.ok () { w with heap:=w.heap.setIfInBounds r (.deferred none) }:=rC h (by intro c e f;simp);simp only[Instr.takeDeferred,Sem.run_bind,hg,Result.andThen_ok];rw[hs];rfl
theorem aeL.shut{base:Nat}{μ:Nat→Place}{mem:Mem}{w:World}{r:Nat}{x y}(hH:aeL base μ mem w)(h:w.heap[r]? =some (.deferred x)):
  aeL base μ mem { w with heap:=w.heap.setIfInBounds r (.deferred y) }:=by
 refine⟨by simpa using hH.aeI,fun b s hs=>?_,hH.sep⟩;by_cases h0:s=.kO
 ·subst h0;trivial
 ·refine(hH.slot b s hs).mono (Nat.le_refl _) (fun _ _=>rfl) fun _=>?_
  exact Array.getElem?_setIfInBounds_ne (Ne.symm (oK hH h hs h0))
theorem Step.shut{m0:Nat}{μ μ' :Nat→Place}{mem mem' :Mem}{w w' :World}{o:Obj}(h:Step m0 μ mem w μ' mem' w')(hr:w.heap.size≤r):
  Step m0 μ mem w μ' mem' { w' with heap:=w'.heap.setIfInBounds r o }:=by
 refine⟨h.len,h.agree,h.os,h.tape,h.output,by simpa using h.size,fun k hk hf=>?_,h.owner,h.drawn⟩;rw[←h.frame k hk hf];exact Array.getElem?_setIfInBounds_ne (by omega)
theorem MOk.shut{P:Program}{base h0 r:Nat}{w:World}{ds:List Deferred}{o:Obj}(h:MOk P base h0 w ({ target:=.collected r,args:= #[] }::ds)):
  MOk P base h0 { w with heap:=w.heap.setIfInBounds r o } ds:=by
 have hrl:h0≤r:=by obtain⟨q,e,h1,_⟩:=h.each _ (List.mem_cons_self ..);cases e;exact h1
 refine⟨⟨h.afH.below,?_⟩,h.aeI,by simpa using h.le,fun d hd=>?_,?_⟩
 ·have:=h.afH.tab
  unfold Lib.TabIs at this ⊢;rw[←this];refine NR fun k hk=>Array.getElem?_setIfInBounds_ne ?_
  have:=h.afH.below;have:=h.aeI;omega
 ·obtain⟨q,e,h1,h2⟩:=h.each d (by simp[hd])
  refine⟨q,e,h1,?_⟩;have PP:r≠q:=by intro hrq;have:=h.nodup;simp only[List.map_cons,List.nodup_cons,List.mem_map,not_exists] at this;exact this.1 d ⟨hd,by rw[e,hrq]⟩
  show(w.heap.setIfInBounds r o)[q]? =_
  rw[Array.getElem?_setIfInBounds_ne PP,h2]
 ·have:=h.nodup
  simp only[List.map_cons,List.nodup_cons] at this;exact this.2
theorem qt{P:Program}{fn:Func}{tmps:Array Value}{R:Ending→World→Prop}{base m0:Nat}{μ μ0:Nat→Place}{mem mem0:Mem}{w0:World}:
  ∀(ds:List Deferred) (w:World),MOk P base w0.heap.size w ds→aeL base μ mem w→Step m0 μ0 mem0 w0 μ mem w→
   (∀w',aeL base μ mem w' →Step m0 μ0 mem0 w0 μ mem w' →∃v,(results fn tmps).run P w' =.ok v w' ∧R (.returned v) w')→
   LeavesInM (Fr none) 0 P fn tmps R ds .returning w
 | [],w,_,hH,hS,hq=>hq w hH hS
 |d::ds,w,hM,hH,hS,hq=>by obtain⟨r,rfl,h1,h2⟩:=hM.each d (by simp);refine⟨by simp,.inl ⟨r,_,rfl,yM h2,?_⟩⟩;exact qt ds _ hM.shut (hH.shut h2) (hS.shut h1) hq
theorem afb.intro(hT:cJ P T){f:FuncId}{c:Code}{args:List AV}{mem:Mem}{R:AV→Mem→Prop}(hf:P.funcs[f]? =some fn)(hb:fn.body=some c)(hn:(fn.name == "runtime.NumGoroutine")=false)(hl:args.length≤fn.ntmps)(h:AWP P true fn.ntmps mem.length c ⟨dL 0 args,mem⟩ fun e J' =>(e=.normal∨e=.ret)∧∃v,jZ T fn.results.toList J'.env J'.mem=some v∧Fin mem v J'.mem R):
  afb P f args mem R:=by
 refine⟨⟨fn,hf,by simp[hb],hn⟩,fun base μ w Vs hG hH hV=>?_⟩;refine yT.1 (callsIn_of_wp_marks (F:=Fr none) (n:=0) hf hb trivial (wpIn_mono (h none w.heap.size base μ w _ (fun _=>rfl) hH ?_ ?_ (MOk.nil w hG hH.aeI (Nat.le_refl _)) (Nat.le_refl _)) ?_) rfl)
 ·intro t
  have:=wJ 0 hV t;simp only[Nat.not_lt_zero,if_false,Nat.sub_zero] at this;by_cases ht:t<Vs.length
  ·have e:(⟨Vs⟩++Array.replicate (fn.ntmps-(⟨Vs⟩:Array Value).size) undef:Array Value).getD t undef=Vs.getD t undef:=by simp only[Array.getD_eq_getD_getElem?];rw[Array.getElem?_append_left (by simpa using ht)];simp[List.getD]
   show aeA μ mem.length (ab (dL 0 args) t) ((⟨Vs⟩++Array.replicate (fn.ntmps-(⟨Vs⟩:Array Value).size) undef:Array Value).getD t undef)
   rw[e];exact this
  ·have:ab (dL 0 args) t=.undef:=by
    have F':=hV.length;have:∀(vs:List AV) (i:Nat),i+vs.length≤t→ab (dL i vs) t=.undef:=by
     intro vs;induction vs with
     |nil=>intro i _;rfl
     |cons v vs ih=>
      intro i hi;simp only[List.length_cons] at hi;simp only[dL,ab];rw[if_neg (by omega)];exact ih (i+1) (by omega)
    exact this args 0 (by omega)
   show aeA μ mem.length (ab (dL 0 args) t) _
   rw[this];simp[aeA]
 ·simp only[Array.size_append,List.size_toArray,Array.size_replicate,hV.length];omega
 ·rintro e a' w' ⟨J',μ',b1,b2,b3,b4,b5,b6,he,v,hv,ks,ZK,hR⟩
  have post:LeavesInM (Fr none) 0 P fn a'.tmps (fun e w' =>∃V v mem' μ',e=.returned V∧aeA μ' mem'.length v V∧aeL base μ' mem' w' ∧Step mem.length μ mem w μ' mem' w' ∧R v mem') a'.defers .returning w' :=by
   refine qt a'.defers w' b4 b1 b6 fun w2 e1 e2=>?_
   obtain⟨V,k1,k2⟩:=sf (P:=P) (fn:=fn) hT e1 b2 hv;obtain⟨c1,c2,c3⟩:=e1.aeK b5 ZK;refine⟨V,k1,?_⟩;rcases hR with⟨Yu,hr⟩ | hr
   ·have F':(mem++afq mem.length ks J'.mem).length=(aeK mem.length ks J'.mem).length:=by rw[fj b5];simp[afq]
    have key:∀b s2,(mem++afq mem.length ks J'.mem)[b]? =some s2→∃s1,(aeK mem.length ks J'.mem)[b]? =some s1∧s1.own=s2.own∧(s1=.kO→s2=.kO)∧
      aeO (fun b=>μ' (gV mem.length ks b)) (aeK mem.length ks J'.mem).length base w2 (μ' (gV mem.length ks b)) s2:=by
     intro b s2 hb;unfold aeK;rw[Yu];by_cases A':b<mem.length
     ·rw[List.getElem?_append_left A'] at hb
      refine⟨s2.ren (rho mem.length ks),by rw[List.getElem?_append_left (by simpa using A'),List.getElem?_map,hb];rfl,aeD.afY _ _,?_,?_⟩
      ·intro h;cases s2<;>simp[aeD.ren] at h ⊢
      ·have acd:gV mem.length ks b=b:=by simp[gV,A']
       rw[acd];have g1:=hH.slot b s2 hb;have g2:=e1.slot b s2 (by rw[←hb,←Yu,List.getElem?_take_of_lt A']);rw[e2.agree b A'] at g2 ⊢;have g3:=aeO.lower (w' :=w2) (fun b hb=>e2.agree b hb) g1 g2;refine g3.mono ?_ (fun b hb=>?_) fun _=>rfl
       ·simp[afq]
       ·show μ' (gV mem.length ks b)=μ b
        rw[show gV mem.length ks b=b by simp[gV,hb],e2.agree b hb]
     ·have UV :(aeK mem.length ks J'.mem)[b]? =some s2:=by unfold aeK;rw[Yu,List.getElem?_append_right (by simp;omega)];rw[List.getElem?_append_right (by omega)] at hb;simpa using hb
      have:=c1.slot b s2 UV;unfold aeK at UV this;rw[Yu] at UV this;exact⟨s2,UV,rfl,id,this⟩
    have hsw:=c1.swap F' key;refine⟨V,_,_,_,rfl,k2.ren fun b b' g1 g2=>?_,hsw,?_,hr⟩
    ·obtain⟨g3,g4⟩:=c2 b b' g1 g2
     exact⟨by rw[F'];exact g3,g4⟩
    ·have c4:=e2.trans c3
     refine⟨by rw[F'];exact c4.len,c4.agree,c4.os,c4.tape,c4.output,c4.size,c4.frame,fun b hb A'=>?_,c4.drawn⟩;obtain⟨s,g1,g2⟩:=hb;obtain⟨s1,k1,k2,_,_⟩:=key b s g1;exact c4.owner b ⟨s1,k1,by rw[k2];exact g2⟩ A'
   ·exact⟨V,_,_,_,rfl,k2.ren c2,c1,e2.trans c3,hr⟩
  rcases he with rfl | rfl
  ·exact post
  ·exact post
end
end Go.Eng
