/- See P53. -/
import Derived.Test.YtmhkeaphiadacaaGreatDoorP02
import Derived.RangeFuncLeaves
import Derived.OrdersIn
import Derived.TacticsIn
import Derived.Lib.ItoaNum
import Derived.Lib.LaidTab
set_option linter.all false
namespace Go.Eng
variable{X Y:Value}{a:Act}{mem' :Mem}{n:Nat}{s u:List UInt8}{ts:Array TypeId}{v:AV}{x:Sem Value}
section
variable {P:Program}{T:TypeId→Option TyI}{μ:Nat→Place}{mem:Mem}{base:Nat}{w:World}
def Wx(μ:Nat→Place) (n:Nat) (N:Next) (v:AV):Prop:=(∃V,N=.value V∧aab μ n v V)∨(N=.skip∧v=.undef)
def aa8(P:Program) (x:Sem Next) (base:Nat) (μ:Nat→Place) (mem:Mem) (w:World) (v:AV) (mem' :Mem):Prop:=
 ∃N w' μ',x.run P w=.ok N w' ∧Wx μ' mem'.length N v∧aam base μ' mem' w' ∧Step mem.length μ mem w μ' mem' w'
theorem aa8.aa2(h:abi P x base μ mem w v mem'):aa8 P (do pure (.value (←x))) base μ mem w v mem' :=by obtain⟨V,w',μ',h1,h2,h3,h4⟩:=h;exact⟨.value V,w',μ',by simp[h1],.inl ⟨V,rfl,h2⟩,h3,h4⟩
theorem aa8.aav(hH:aam base μ mem w)(h:Val P x w μ mem.length v):aa8 P (do pure (.value (←x))) base μ mem w v mem:=
 .aa2 (.aav hH h)
theorem aa8.pure{V:Value}(hH:aam base μ mem w)(h:aab μ mem.length v V):aa8 P (Pure.pure (.value V)) base μ mem w v mem:=
 ⟨.value V,w,μ,rfl,.inl ⟨V,rfl,h⟩,hH,.refl (Nat.le_refl _)⟩
theorem KI{env:Env}(hR:aaJ μ n env a.tmps)(ps:Array (Nat×Operand)):
  (ps.toList.map fun p=>(p.1,a.eval p.2)).map (·.1)=(ps.toList.map fun p=>(p.1,get env p.2)).map (·.1)∧
  aad μ n ((ps.toList.map fun p=>(p.1,get env p.2)).map (·.2)) ((ps.toList.map fun p=>(p.1,a.eval p.2)).map (·.2)):=by
 constructor
 ·simp[Function.comp_def]
 ·have:=zp hR (ps.toList.map (·.2))
  simpa [Function.comp_def] using this
theorem qY{env:Env}(hR:aaJ μ n env a.tmps)(x:Option Operand):
  (x.map (get env)=none∧x.map a.eval=none)∨∃l L,x.map (get env)=some l∧x.map a.eval=some L∧aab μ n l L:=by
 cases x with
 |none=>exact .inl ⟨rfl,rfl⟩
 |some x=>exact .inr ⟨_,_,rfl,rfl,aW hR x⟩
section
variable{ty:TypeId}(e1:aab μ n (.str s) X)(e2:aab μ n (.str u) Y)
include ty e1 e2
theorem TW:Val P (Builtin.min_ ts ty #[X,Y]) w μ n (.str (if Op.bytesLess s u||s==u then s else u)):=by rw[e1.str,e2.str];refine .str ?_;simp[Builtin.min_,Builtin.min2,Op.stringOp,asBool];split<;>rfl
theorem TT:Val P (Builtin.max_ ts ty #[X,Y]) w μ n (.str (if Op.bytesLess s u then u else s)):=by rw[e1.str,e2.str];refine .str ?_;simp[Builtin.max_,Builtin.max2,Op.stringOp,asBool];cases Op.bytesLess s u<;>simp
end
theorem Rg(hT:cH P T)(hH:aam base μ mem w){env:Env}{o:Oper}(hR:aaJ μ mem.length env a.tmps)(h:aOp T env mem o.op=some (v,mem')):aa8 P (execOp a.eval o) base μ mem w v mem' :=by
 unfold aOp at h;split at h
 ·rename_i x S'
  cases h;simp only[execOp,S'];exact .pure hH (aW hR x)
 ·rename_i x S'
  cases h;simp only[execOp,S'];exact .pure hH (aW hR x)
 ·rename_i c x y S'
  split at h
  ·rename_i t hc
   cases h;have:=aW hR c;rw[hc] at this;simp only[execOp,S',this.bool,asBool,pure_bind];cases t
   ·exact .pure hH (aW hR y)
   ·exact .pure hH (aW hR x)
  ·cases h
 ·rename_i e S'
  simp only[execOp,S'];exact .aa2 (JS hT hH h)
 ·rename_i e x S'
  simp only[execOp,S'];exact .aa2 (Pw hH (aW hR x) h)
 ·rename_i t ps S'
  split at h
  ·rename_i v' hb
   cases h;obtain⟨p1,p2⟩:=KI hR ps;simp only[execOp,S'];refine .aav hH ?_;have:=JT (P:=P) hT hb p1 p2 w;have e:(⟨ps.toList.map fun p=>(p.1,a.eval p.2)⟩:Array (Nat×Value))=ps.map fun(i,x)=>(i,a.eval x):=by apply Array.ext';simp
   rw[e] at this;exact this
  ·cases h
 ·rename_i t n ps S'
  obtain⟨p1,p2⟩:=KI hR ps;simp only[execOp,S'];refine .aa2 ?_;have:=wq (P:=P) hT hH p1 p2 h;have e:(⟨ps.toList.map fun p=>(p.1,a.eval p.2)⟩:Array (Nat×Value))=ps.map fun(i,x)=>(i,a.eval x):=by apply Array.ext';simp
  rw[e] at this;exact this
 ·rename_i t x S'
  split at h
  ·rename_i v' hb
   cases h;simp only[execOp,S'];exact .aav hH (AH hT hH (aW hR x) hb)
  ·cases h
 ·rename_i t x y S'
  split at h
  ·rename_i m hb
   cases h;obtain⟨w',h1,h2,h3⟩:=J2 (P:=P) hT hH (aW hR x) (aW hR y) hb;simp only[execOp,S'];exact⟨.skip,w',μ,by simp[h1],.inr ⟨rfl,rfl⟩,h2,h3⟩
  ·cases h
 ·rename_i x S'
  split at h
  ·rename_i b o hx
   cases h;have:=aW hR x;rw[hx] at this;simp only[execOp,S',this.ptr.2];refine .pure hH ?_;rw[this.ptr.2] at this;exact this
  ·rename_i f cs hx
   cases h;have:=aW hR x;rw[hx] at this;have h2:=this;simp only[aab] at h2;obtain⟨Us,hU,_⟩:=h2;simp only[execOp,S',hU];refine .pure hH ?_;rw[hU] at this;exact this
  ·cases h
 ·rename_i op t x y yt S'
  split at h
  ·rename_i v' hb
   cases h;simp only[execOp,S'];exact .aav hH (Pt hT (aW hR x) (aW hR y) x y hb w)
  ·cases h
 ·rename_i op t x S'
  split at h
  ·rename_i v' hb
   cases h;simp only[execOp,S'];refine .aav hH ?_;have hx:=aW hR x;unfold aUn at hb;split at hb
   ·rename_i YN;cases hb;rw[YN] at hx;rw[hx.bool];exact .bool rfl
   ·rename_i YN;cases hb;rw[YN] at hx;rw[hx.int];exact .int rfl
   ·cases hb
  ·cases h
 ·rename_i s d x S'
  split at h
  ·rename_i v' hb
   cases h;simp only[execOp,S'];exact .aav hH (Cu hT (aW hR x) hb w)
  ·simp only[execOp,S'];exact .aa2 (yN hT hH (aW hR x) h)
 ·rename_i f first capt S'
  split at h
  ·rename_i hf
   cases h;simp only[execOp,S'];refine .aav hH ⟨.func (.func f) (first.map a.eval) (capt.map a.eval),rfl,?_⟩;simp only[aab];have:first= #[]:=Array.eq_empty_of_size_eq_zero hf
   subst this;refine⟨capt.toList.map a.eval,?_,zp hR capt.toList⟩;simp only[Array.map_empty];congr 1;apply Array.ext';simp
  ·cases h
 ·rename_i t l c S'
  simp only[execOp,S'];exact .aa2 (yR hT hH (aW hR l) (aW hR c) h)
 ·rename_i t x lo hi S'
  split at h
  ·rename_i v' hb
   cases h;simp only[execOp,S'];refine .aav hH ?_;simp only[Option.map_none];exact J0 hT hH (aW hR x) (qY hR lo) (qY hR hi) hb
  ·simp only[execOp,S']
   simp only[Option.map_none];split at h
   ·rename_i r hb
    cases h;exact .aa2 (Fb hT hH (aW hR x) (qY hR lo) (qY hR hi) hb)
   ·split at h
    ·rename_i v' hb
     cases h;exact .aav hH (u9 hT (aW hR x) (qY hR lo) (qY hR hi) (.inl ⟨rfl,rfl⟩) hb)
    ·cases h
 ·rename_i t x lo hi mx S'
  split at h
  ·rename_i v' hb
   cases h;simp only[execOp,S'];refine .aav hH ?_;simp only[Option.map_some];exact u9 hT (aW hR x) (qY hR lo) (qY hR hi) (.inr ⟨_,_,rfl,rfl,aW hR mx⟩) hb
  ·cases h
 ·rename_i t x f S'
  split at h
  ·rename_i v' hb
   cases h;simp only[execOp,S'];exact .aav hH (yO hT (aW hR x) hb w)
  ·cases h
 ·rename_i t x f S'
  split at h
  ·rename_i v' hb
   cases h;simp only[execOp,S'];exact .aav hH (JX hT (aW hR x) hb w)
  ·cases h
 ·rename_i t x i S'
  split at h
  ·rename_i v' hb
   cases h;simp only[execOp,S'];exact .aav hH (yP hT (aW hR x) (aW hR i) hb w)
  ·cases h
 ·rename_i t x i S'
  split at h
  ·rename_i v' hb
   cases h;simp only[execOp,S'];exact .aav hH (JY hT (aW hR x) (aW hR i) hb w)
  ·cases h
 ·rename_i t S'
  cases h;simp only[execOp,S',Option.map_none];exact .aa2 (FD hH)
 ·rename_i t m k ok S'
  split at h
  ·rename_i v' hb
   cases h;simp only[execOp,S'];exact .aav hH (E9 hT hH (aW hR m) (aW hR k) hb)
  ·cases h
 ·rename_i t m k x S'
  split at h
  ·rename_i m' hb
   cases h;obtain⟨w',h1,h2,h3⟩:=yT (P:=P) hT hH (aW hR m) (aW hR k) (aW hR x) hb;simp only[execOp,S'];exact⟨.skip,w',μ,by simp[h1],.inr ⟨rfl,rfl⟩,h2,h3⟩
  ·cases h
 ·rename_i t m k S'
  simp only[execOp,S'];exact .aa2 (AJ hT hH (aW hR m) (aW hR k) h)
 ·rename_i t m s x S'
  split at h
  ·rename_i m' hb
   cases h;obtain⟨w',h1,h2,h3⟩:=wA (P:=P) (t:=t) hH (aW hR m) (aW hR s) (aW hR x) hb;simp only[execOp,S'];exact⟨.skip,w',μ,by simp[h1],.inr ⟨rfl,rfl⟩,h2,h3⟩
  ·cases h
 ·rename_i t i S'
  split at h
  ·rename_i cs hx
   split at h
   ·rename_i v' hi
    cases h;have:=aW hR t;rw[hx] at this;simp only[aab] at this;obtain⟨Us,hU,hr⟩:=this;obtain⟨V,hV,hv⟩:=hr.get i _ hi;simp only[execOp,S',hU];exact .aav hH ⟨V,by simp[Instr.extract,hV],hv⟩
   ·cases h
  ·cases h
 ·rename_i x t S'
  split at h
  ·rename_i v' hb
   cases h;simp only[execOp,S',resolve,invoke,builtin,pure_bind];rw[show Array.map a.eval ⟨[x]⟩= #[a.eval x] by simp];exact .aav hH (Pz hT hH (aW hR x) hb)
  ·cases h
 ·rename_i s x t t2 S'
  simp only[execOp,S',resolve,invoke,builtin,pure_bind];rw[show Array.map a.eval ⟨[s,x]⟩= #[a.eval s,a.eval x] by simp];split at h
  ·rename_i hi
   exact .aa2 (Ct hT hH (aW hR s) (aW hR x) hi h)
  ·split at h
   ·rename_i r hb
    cases h;exact .aa2 (E8 hT hH (aW hR s) (aW hR x) hb)
   ·exact .aa2 (Cq hT hH (aW hR s) (aW hR x) h)
 ·rename_i x t S'
  split at h
  ·rename_i v' hb
   cases h;simp only[execOp,S',resolve,invoke,builtin,pure_bind];rw[show Array.map a.eval ⟨[x]⟩= #[a.eval x] by simp];exact .aav hH (Px hT (aW hR x) hb)
  ·cases h
 ·rename_i x t S'
  split at h
  ·rename_i m' hb
   cases h;simp only[execOp,S',resolve,invoke,builtin,pure_bind];rw[show Array.map a.eval ⟨[x]⟩= #[a.eval x] by simp];exact .aa2 (JW hT hH (aW hR x) hb)
  ·cases h
 ·rename_i x ts S'
  split at h
  ·rename_i v' hb
   cases h;simp only[execOp,S',resolve,invoke,builtin,pure_bind];rw[show Array.map a.eval ⟨[x]⟩= #[a.eval x] by simp];exact .aav hH (yU hH _ _ (aW hR x) hb)
  ·cases h
 ·rename_i x y pt it S'
  simp only[execOp,S',resolve,invoke,builtin,pure_bind];rw[show Array.map a.eval ⟨[x,y]⟩= #[a.eval x,a.eval y] by simp];exact .aa2 (Fe hT hH (aW hR x) (aW hR y) h)
 ·rename_i x y ts S'
  split at h
  ·rename_i k i k' j hx hy
   split at h
   ·rename_i hk
    cases h;subst hk;have e1:=aW hR x;have e2:=aW hR y;rw[hx] at e1;rw[hy] at e2;simp only[execOp,S',resolve,invoke,builtin,pure_bind];refine .aav hH (.int ?_);simp[Builtin.min_,Builtin.min2,e1.int,e2.int]
   ·cases h
  ·rename_i s u hx hy
   cases h;have e1:=aW hR x;have e2:=aW hR y;rw[hx] at e1;rw[hy] at e2;simp only[execOp,S',resolve,invoke,builtin,pure_bind];rw[show Array.map a.eval ⟨[x,y]⟩= #[a.eval x,a.eval y] by simp];exact .aav hH (TW e1 e2)
  ·cases h
 ·rename_i x y ts S'
  split at h
  ·rename_i k i k' j hx hy
   split at h
   ·rename_i hk
    cases h;subst hk;have e1:=aW hR x;have e2:=aW hR y;rw[hx] at e1;rw[hy] at e2;simp only[execOp,S',resolve,invoke,builtin,pure_bind];refine .aav hH (.int ?_);simp[Builtin.max_,Builtin.max2,e1.int,e2.int]
   ·cases h
  ·rename_i s u hx hy
   cases h;have e1:=aW hR x;have e2:=aW hR y;rw[hx] at e1;rw[hy] at e2;simp only[execOp,S',resolve,invoke,builtin,pure_bind];rw[show Array.map a.eval ⟨[x,y]⟩= #[a.eval x,a.eval y] by simp];exact .aav hH (TT e1 e2)
  ·cases h
 ·cases h
end
end Go.Eng
namespace Go.Eng
def Sv(P:Program) (f:FuncId):Prop:=∃fn,P.funcs[f]? =some fn∧fn.body.isSome=true∧(fn.name == "runtime.NumGoroutine")=false
abbrev Fr(ro:Option Nat):Fence:={ Fence.wide with round:=ro }
variable{f:FuncId}{ro:Option Nat}
theorem zl{n:Nat}{P:Program}{args:Array Value}{w:World}{R:Ending→World→Prop}:CallsIn (Fr ro) n P f args w R↔Calls P f args w R:=
 callsIn_wide (n:=n)
def wK:String:=String.ofList ([105,110,116,101,114,110,97,108,47,115,116,114,99,111,110,118,46,117,105,110,116,54,52,112,111,119,49,48].map Char.ofNat)
structure GOk (P:Program) (base:Nat) (w:World):Prop where
 below:P.globals.size≤base
 tab:Lib.TabIs P w wK .u64 Lib.pow10Tab
theorem GOk.acw{P:Program}{base:Nat}{w:World}(h:GOk P base w){s:String}(hs:wK=s):Lib.TabIs P w s .u64 Lib.pow10Tab:=hs▸h.tab
theorem NZ{base:Nat}{μ:Nat→Place}{mem:Mem}{w:World}(hH:aam base μ mem w){b:Nat}(hb:dL mem b):base≤(μ b).blk:=by
 obtain⟨s,hs,ho⟩:=hb;have:=hH.slot b s hs;cases s with
 |qF=>cases ho
 |cells own es cs=>simp only[aae.own] at ho;subst ho;simp only[aap] at this;obtain⟨_,_,_,_,_,_,_,h⟩:=this;exact(h trivial).2.2.2
 |map es=>simp only[aap] at this;obtain⟨_,_,_,h,_⟩:=this;exact h.1
 |aaF es=>cases ho
 |loop r=>simp only[aap] at this;obtain⟨_,_,h,_⟩:=this;exact h
variable{name:String}
theorem Cz{P:Program}{g:Nat}(h:P.globalNamed name=some g):g<P.globals.size:=by
 unfold Program.globalNamed at h;split at h
 ·rename_i g' hg
  cases h;have:g∈(List.range P.globals.size).filter fun g=>(P.globals[g]?).any (·.name==name):=by rw[hg];simp
  simpa using (List.mem_filter.1 this).1
 ·cases h
variable{w' :World}
theorem Oc{P:Program}{w:World}(h:∀k,k<P.globals.size→w'.heap[k]? =w.heap[k]?):w'.var? P name=w.var? P name:=by
 unfold World.var?;cases hg:P.globalNamed name with
 |none=>rfl
 |some g=>simp only[Option.bind_some];rw[h g (Cz hg)]
variable{m0:Nat}{μ' :Nat→Place}
theorem GOk.step{P:Program}{base:Nat}{μ:Nat→Place}{mem mem' :Mem}{w:World}(h:GOk P base w)(hH:aam base μ mem w)(hS:Step m0 μ mem w μ' mem' w'):GOk P base w' :=by
 refine⟨h.below,?_⟩;have:=h.tab;unfold Lib.TabIs at this ⊢;rw[←this];refine Oc fun k hk=>hS.frame k ?_ fun b hb=>?_
 ·have:=h.below;have:=hH.aai;omega
 ·have:=NZ hH hb;have:=h.below;omega
structure MOk (P:Program) (base h0:Nat) (w:World) (ds:List Deferred):Prop where
 abp:GOk P base w
 aai:base≤h0
 le:h0≤w.heap.size
 each:∀d∈ds,∃r,d={ target:=.collected r,args:= #[] }∧h0≤r∧w.heap[r]? =some (.deferred (some []))
 nodup:(ds.map (·.target)).Nodup
variable{h0:Nat}
theorem MOk.nil{P:Program}{base:Nat}(w:World)(hg:GOk P base w)(hb:base≤h0)(h:h0≤w.heap.size):MOk P base h0 w []:=⟨hg,hb,h,fun _ h=>by(cases h),by simp⟩
theorem pg{base:Nat}{μ:Nat→Place}{mem:Mem}{w:World}(hH:aam base μ mem w){r:Nat}{x}(hr:w.heap[r]? =some (.deferred x)){b:Nat}{s:aae}(hb:mem[b]? =some s)(hs:s≠ .qF):(μ b).blk≠r:=by
 intro e;have:=hH.slot b s hb;cases s with
 |qF=>exact hs rfl
 |cells own es cs=>simp only[aap] at this;obtain⟨_,_,_,h1,_⟩:=this;rw[e,hr] at h1;cases h1
 |map es=>simp only[aap] at this;obtain⟨_,_,h1,_⟩:=this;rw[e,hr] at h1;cases h1
 |aaF es=>simp only[aap] at this;obtain⟨_,_,h1,_⟩:=this;rw[e,hr] at h1;cases h1
 |loop r=>simp only[aap] at this;obtain⟨_,h1,_⟩:=this;rw[e,hr] at h1;cases h1
theorem MOk.step{P:Program}{base:Nat}{μ:Nat→Place}{mem mem' :Mem}{w:World}{ds:List Deferred}(h:MOk P base h0 w ds)(hH:aam base μ mem w)(hS:Step m0 μ mem w μ' mem' w'):MOk P base h0 w' ds:=by refine⟨h.abp.step hH hS,h.aai,Nat.le_trans h.le hS.size,fun d hd=>?_,h.nodup⟩;obtain⟨r,e,h1,h2⟩:=h.each d hd;refine⟨r,e,h1,?_⟩;rw[hS.frame r (Array.getElem?_eq_some_iff.1 h2).1 fun b hb=>?_,h2];obtain⟨s,hb,ho⟩:=hb;exact pg hH h2 hb (aae.aaO ho)
def aaM(P:Program) (f:FuncId) (args:List AV) (mem:Mem) (R:AV→Mem→Prop):Prop:=
 Sv P f∧∀base μ w Vs,GOk P base w→aam base μ mem w→aad μ mem.length args Vs→
  Calls P f ⟨Vs⟩ w fun e w' =>∃V v mem' μ',e=.returned V∧aab μ' mem'.length v V∧aam base μ' mem' w' ∧Step mem.length μ mem w μ' mem' w' ∧R v mem'
def mB(P:Program) (f:FuncId) (args:List AV) (mem:Mem) (v:AV) (mem' :Mem):Prop:=aaM P f args mem fun v1 m1=>v1=v∧m1=mem'
theorem aaM.mono{P f args mem}{R R' :AV→Mem→Prop}(h:aaM P f args mem R)(hr:∀v m,R v m→R' v m):aaM P f args mem R' :=
 ⟨h.1,fun base μ w Vs h0 h1 h2=>(h.2 base μ w Vs h0 h1 h2).mono fun _ _ ⟨V,v,m,μ',a,b,c,d,r⟩=>⟨V,v,m,μ',a,b,c,d,hr _ _ r⟩⟩
def abj(P:Program) (b:Nat) (args:List AV) (mem:Mem) (R:AV→Mem→Prop):Prop:=
 ∀base μ w Vs,GOk P base w→aam base μ mem w→aad μ mem.length args Vs→b<mem.length→∃f tmps assign body,
  (Instr.yield (μ b).blk ⟨Vs⟩).run P w=.ok (.round (μ b).blk f tmps assign body) w∧
  RoundIn Fence.wide 0 P (μ b).blk f tmps assign body w fun e w' =>∃V v mem' μ',e=.returned V∧aab μ' mem'.length v V∧aam base μ' mem' w' ∧Step mem.length μ mem w μ' mem' w' ∧R v mem'
def uq(P:Program) (b:Nat) (args:List AV) (mem:Mem) (v:AV) (mem' :Mem):Prop:=abj P b args mem fun v1 m1=>v1=v∧m1=mem'
def zv(env:Env):Op→Option (Nat×List AV)
 |.call { callee:=.value x,args,argTypes:=_ }=>match get env x with
  |.yield b=>some (b,Vl env args)
  |_=>none
 |_=>none
def Fp(env:Env):Op→Option (FuncId×List AV)
 |.call { callee:=.value x,args,argTypes:=_ }=>match get env x with
  |.func f caps=>some (f,Vl env args++caps)
  |_=>none
 |_=>none
def rF(ops:Array Oper) (env:Env) (o:Oper):Option Bool:=
 match o.guard with
 |none=>some true
 |some (j,want)=>match (ops[j]?).bind (·.dst) with
  |some d=>match aa env d with
   |.bool b=>some (b==want)
   |.tuple []=>some false
   |_=>none
  |none=>none
def aa4(env:Env) (dst:Option Tmp) (v:AV):Env:=
 match dst with
 |some d=>(d,v)::env
 |none=>env
structure St where
 env:Env
 mem:Mem
def Cy(N:Nat) (o:Oper):Bool:=match o.dst with
 |some d=>decide (d<N)
 |none=>true
def vJ(P:Program) (T:TypeId→Option TyI) (env:Env) (mem:Mem) (o:Oper) (v:AV) (mem' :Mem):Prop:=
 aOp T env mem o.op=some (v,mem')∨(∃f args,Fp env o.op=some (f,args)∧mB P f args mem v mem')∨
  ∃b args,zv env o.op=some (b,args)∧uq P b args mem v mem'
def mi(P:Program) (T:TypeId→Option TyI) (N:Nat) (ops:Array Oper):List Oper→St→St→Prop
 | [],st,IR =>IR =st
 |o::os,st,IR =>∃b,rF ops st.env o=some b∧Cy N o=true∧
   (b=false→mi P T N ops os ⟨aa4 st.env o.dst (.tuple []),st.mem⟩ IR)∧
   (b=true→∃v mem',vJ P T st.env st.mem o v mem' ∧mi P T N ops os ⟨aa4 st.env o.dst v,mem'⟩ IR)
variable{o:Oper}
section
variable {P:Program}{T:TypeId→Option TyI}{μ:Nat→Place}{mem:Mem}{base:Nat}{w:World}
theorem aaJ.aa4{n N:Nat}{env:Env}{a:Act}{v:AV}{V:Value}(h:aaJ μ n env a.tmps)(hN:a.tmps.size=N)(hd:Cy N o=true)(hv:aab μ n v V):
  aaJ μ n (aa4 env o.dst v) (a.put o.dst V).tmps:=by
 unfold Cy at hd;cases ho:o.dst with
 |none=>simpa [Go.Eng.aa4,Act.put] using h
 |some d=>
  rw[ho] at hd;simp only[decide_eq_true_eq] at hd;exact h.put (by rw[hN];exact hd) hv
theorem eX(a:Act)(d:Option Tmp)(V:Value):(a.put d V).tmps.size=a.tmps.size:=by cases d<;>simp[Act.put]
theorem fw(a:Act)(d:Option Tmp)(V:Value):(a.put d V).defers=a.defers:=by cases d<;>rfl
theorem oT{env:Env}{n:Nat}{ops:Array Oper}{a:Act}{b:Bool}(hR:aaJ μ n env a.tmps)(h:rF ops env o=some b):
  Region.wanted o (yielded ops a.tmps)=b:=by
 unfold rF at h;unfold Region.wanted;split at h
 ·rename_i hg;cases h;simp[hg]
 ·rename_i j want hg
  simp only[hg];split at h
  ·rename_i d hd
   split at h
   ·rename_i b' hb
    cases h;have:=hR d;rw[hb] at this;have hv:=this.bool;simp only[yielded,hd,Option.bind_some];have hsome:a.tmps[d]? =some (.bool b'):=by
     rw[Array.getD_eq_getD_getElem?] at hv;cases hx:a.tmps[d]? with
     |none=>rw[hx] at hv;simp[undef] at hv
     |some y=>rw[hx] at hv;simp at hv;rw[hv]
    rw[hsome];cases b' <;>cases want<;>rfl
   ·rename_i hb
    cases h;have:=hR d;rw[hb] at this;simp only[aab,aad] at this;obtain⟨Us,hv,rfl⟩:=this;simp only[yielded,hd,Option.bind_some];rw[Array.getD_eq_getD_getElem?] at hv;cases hx:a.tmps[d]? with
    |none=>rfl
    |some y=>rw[hx] at hv;simp only[Option.getD_some] at hv;rw[hv];cases want<;>rfl
   ·cases h
  ·cases h
theorem xw(h:Sv P f)(args:Array Value)(w:World):(callFunc f args).run P w=.ok (.enter f args) w:=by
 obtain⟨fn,h1,h2,h3⟩:=h;have hb:¬fn.body=none:=by intro e;rw[e] at h2;cases h2
 have hn:¬fn.name = "runtime.NumGoroutine" := by simpa using h3
 simp[callFunc,h1,hn,hb]
theorem Fa{T:TypeId→Option TyI}{env:Env}{mem:Mem}{op:Op}{r}(h:aOp T env mem op=some r):∀c,op≠ .defer c:=by intro c e;subst e;simp[aOp] at h
theorem qX(hT:cH P T)(hG:GOk P base w)(hH:aam base μ mem w){N:Nat}{env:Env}{a:Act}{v:AV}{mem' :Mem}(hR:aaJ μ mem.length env a.tmps)(hN:a.tmps.size=N)(hd:Cy N o=true)(h:vJ P T env mem o v mem'){K:Act→World→Prop}{Q:Exit→Act→World→Prop}(hK:∀V w' μ',aab μ' mem'.length v V→aam base μ' mem' w' →aaJ μ' mem'.length (aa4 env o.dst v) (a.put o.dst V).tmps→Step mem.length μ mem w μ' mem' w' →K (a.put o.dst V) w'):
  o.wpIn (Fr ro) 0 P a w K Q:=by
 refine⟨fun _ _=>trivial,?_⟩;rcases h with h | ⟨f,args,hc,Z8⟩ | ⟨b,args,hc,hy⟩
 ·rw[Oper.semAt_eq _ _ _ (Fa h)]
  obtain⟨N',w',μ',h1,h2,h3,h4⟩:=Rg hT hH hR h;rw[h1];have hR' :aaJ μ' mem'.length env a.tmps:=hR.mono h4.len h4.agree;rcases h2 with⟨V,rfl,hv⟩ | ⟨rfl,rfl⟩
  ·exact hK V w' μ' hv h3 (hR'.aa4 hN hd hv) h4
  ·have hv:aab μ' mem'.length .undef undef:=by simp[aab]
   exact hK undef w' μ' hv h3 (hR'.aa4 hN hd hv) h4
 ·unfold Fp at hc
  split at hc
  ·rename_i x xs ts S'
   split at hc
   ·rename_i f' caps hx
    cases hc;have hf:=aW hR x;rw[hx] at hf;simp only[aab] at hf;obtain⟨Us,hU,hus⟩:=hf;have W9:(execOp a.eval o).run P w=.ok (.enter f ⟨xs.toList.map a.eval++Us⟩) w:=by simp only[execOp,S',resolve,hU,Deferred.ofValue,pure_bind,invoke];rw[xw Z8.1];congr 2;apply Array.ext';simp
    rw[Oper.semAt_eq _ _ _ (by rw[S'];intro c e;cases e),W9];refine⟨fun h=>by simp[Fence.wide] at h,zl.2 ((Z8.2 base μ w _ hG hH ((zp hR xs.toList).append hus)).mono ?_)⟩;rintro e w' ⟨V,v',m',μ',rfl,q1,q2,q3,rfl,rfl⟩;exact hK V w' μ' q1 q2 ((hR.mono q3.len q3.agree).aa4 hN hd q1) q3
   ·cases hc
  ·cases hc
 ·unfold zv at hc
  split at hc
  ·rename_i x xs ts S'
   split at hc
   ·rename_i b' hx
    cases hc;have hf:=aW hR x;rw[hx] at hf;simp only[aab] at hf;obtain⟨hb,hU⟩:=hf;obtain⟨f,tmps,asg,body,h1,h2⟩:=hy base μ w _ hG hH (zp hR xs.toList) hb;have W9:(execOp a.eval o).run P w=.ok (.round (μ b).blk f tmps asg body) w:=by
     rw[←h1];simp only[execOp,S',resolve,hU,Deferred.ofValue,pure_bind,invoke];have e: #[]++xs.map a.eval=(⟨xs.toList.map a.eval⟩:Array Value):=by apply Array.ext';simp
     rw[e]
    rw[Oper.semAt_eq _ _ _ (by rw[S'];intro c e;cases e),W9];refine⟨fun h=>by simp[Fence.wide] at h,RoundIn.mono (F:=Fr ro) h2 ?_⟩;rintro e w' ⟨V,v',m',μ',rfl,q1,q2,q3,rfl,rfl⟩;exact hK V w' μ' q1 q2 ((hR.mono q3.len q3.agree).aa4 hN hd q1) q3
   ·cases hc
  ·cases hc
theorem vr(hT:cH P T) {N:Nat}{ops:Array Oper}{Q:Exit→Act→World→Prop}:∀{l:List Oper}{st IR :St}{μ:Nat→Place}{w:World}{a:Act}{m0:Nat}{μ0:Nat→Place}{mem0:Mem}{w0:World}{h0:Nat}{ro:Option Nat},
  mi P T N ops l st IR →aam base μ st.mem w→aaJ μ st.mem.length st.env a.tmps→a.tmps.size=N→MOk P base h0 w a.defers→m0≤st.mem.length→Step m0 μ0 mem0 w0 μ st.mem w→
  (∀a' w' μ',aam base μ' IR.mem w' →aaJ μ' IR.mem.length IR.env a'.tmps→a'.tmps.size=N→MOk P base h0 w' a'.defers→m0≤IR.mem.length→Step m0 μ0 mem0 w0 μ' IR.mem w' →Q .normal a' w')→
  wpListIn (Fr ro) 0 P ops Q l a w
 | [],st,IR,μ,w,a,m0,μ0,mem0,w0,h0,ro,h,hH,hR,hN,hdf,hm,hS,hQ=>by simp only[mi] at h;subst h;exact wpListIn_nil (hQ a w μ hH hR hN hdf hm hS)
 |o::os,st,IR,μ,w,a,m0,μ0,mem0,w0,h0,ro,h,hH,hR,hN,hdf,hm,hS,hQ=>by
  obtain⟨b,hb,hd,hf,ht⟩:=h;refine wpListIn_step fun K hK=>?_
  rw[oT hR hb];cases b with
  |false=>
   simp only[Bool.false_eq_true,if_false];refine⟨fun _ _=>trivial,?_⟩;refine hK _ _ (vr hT (hf rfl) hH (hR.aa4 hN hd (by simp[aab,aad,undef])) (by rw[eX];exact hN) (by rw[fw];exact hdf) hm hS hQ)
  |true=>
   simp only[if_true];obtain⟨v,mem',hstep,W9⟩:=ht rfl;refine qX hT hdf.abp hH hR hN hd hstep fun V w' μ' q1 q2 q3 q4=>hK _ _ ?_
   exact vr hT W9 q2 q3 (by rw[eX];exact hN) (by rw[fw];exact hdf.step hH q4) (Nat.le_trans hm q4.len) (hS.trans (q4.mono hm)) hQ
end
end Go.Eng
namespace Go.Eng
def AWP(P:Program) (tp:Bool) (N m0:Nat) (c:Code) (st:St) (Q:Exit→St→Prop):Prop:=
 ∀(ro:Option Nat) (h0:Nat) base μ w a,(tp=true→ro=none)→aam base μ st.mem w→aaJ μ st.mem.length st.env a.tmps→a.tmps.size=N→MOk P base h0 w a.defers→m0≤st.mem.length→
  c.wpIn (Fr ro) 0 P (fun e a' w' =>∃IR μ',aam base μ' IR.mem w' ∧aaJ μ' IR.mem.length IR.env a'.tmps∧a'.tmps.size=N∧MOk P base h0 w' a'.defers∧m0≤IR.mem.length∧
   Step m0 μ st.mem w μ' IR.mem w' ∧Q e IR) a w
variable{Q' :Exit→St→Prop}{c:Code}{id:Nat}
section
variable {P:Program}{T:TypeId→Option TyI}{tp:Bool}{N m0:Nat}{Q:Exit→St→Prop}{st:St}
theorem AWP.mono(h:AWP P tp N m0 c st Q)(hq:∀e s,Q e s→Q' e s):AWP P tp N m0 c st Q' :=
 fun ro h0 base μ w a XA h1 h2 h3 h4 h5=>wpIn_mono (h ro h0 base μ w a XA h1 h2 h3 h4 h5) fun _ _ _ ⟨s,μ',a1,a2,a3,a4,a5,a6,a7⟩=>⟨s,μ',a1,a2,a3,a4,a5,a6,hq _ _ a7⟩
theorem Ty(h:Q .normal st):AWP P tp N m0 .skip st Q:=
 fun _ _ _ μ _ _ _ h1 h2 h3 h4 h5=>wpIn_skip ⟨st,μ,h1,h2,h3,h4,h5,.refl h5,h⟩
theorem Tw(h:Q (.exit id) st):AWP P tp N m0 (.exit id) st Q:=
 fun _ _ _ μ _ _ _ h1 h2 h3 h4 h5=>wpIn_exit ⟨st,μ,h1,h2,h3,h4,h5,.refl h5,h⟩
theorem UA(h:Q .ret st):AWP P tp N m0 .ret st Q:=
 fun _ _ _ μ _ _ _ h1 h2 h3 h4 h5=>wpIn_ret ⟨st,μ,h1,h2,h3,h4,h5,.refl h5,h⟩
def VS(R:St→Prop) (Q:Exit→St→Prop):Exit→St→Prop
 |.normal,s=>R s
 |e,s=>Q e s
theorem mv{x y:Code}(h:AWP P tp N m0 x st (VS (fun s=>AWP P tp N m0 y s Q) Q)):AWP P tp N m0 (.seq x y) st Q:=by
 intro ro h0 base μ w a XA h1 h2 h3 h4 h5;refine wpIn_seq (wpIn_mono (h ro h0 base μ w a XA h1 h2 h3 h4 h5) ?_);rintro e a' w' ⟨s,μ',b1,b2,b3,b4,b5,b6,b7⟩;cases e with
 |normal=>
  refine wpIn_mono (b7 ro h0 base μ' w' a' XA b1 b2 b3 b4 b5) ?_;rintro e a2 w2 ⟨s2,μ2,c1,c2,c3,c4,c5,c6,c7⟩;exact⟨s2,μ2,c1,c2,c3,c4,c5,b6.trans c6,c7⟩
 |_=>exact⟨s,μ',b1,b2,b3,b4,b5,b6,b7⟩
theorem NF{c:Operand}{x y:Code}{b:Bool}(hc:get st.env c=.bool b)(ht:b=true→AWP P tp N m0 x st Q)(hf:b=false→AWP P tp N m0 y st Q):
  AWP P tp N m0 (.cond c x y) st Q:=by
 intro ro h0 base μ w a XA h1 h2 h3 h4 h5;have hv:=aW h2 c;rw[hc] at hv;exact wpIn_cond_split hv.bool (fun e=>ht e ro h0 base μ w a XA h1 h2 h3 h4 h5) (fun e=>hf e ro h0 base μ w a XA h1 h2 h3 h4 h5)
def NI(id:Nat) (Q:Exit→St→Prop):Exit→St→Prop
 |.exit i,s=>if i=id then Q .normal s else Q (.exit i) s
 |e,s=>Q e s
theorem AM(h:AWP P tp N m0 c st (NI id Q)):AWP P tp N m0 (.block id c) st Q:=by
 intro ro h0 base μ w a XA h1 h2 h3 h4 h5;refine wpIn_block (wpIn_mono (h ro h0 base μ w a XA h1 h2 h3 h4 h5) ?_);rintro e a' w' ⟨s,μ',b1,b2,b3,b4,b5,b6,b7⟩;cases e with
 |exit i=>
  simp only[Exit.inBlock,NI] at b7 ⊢;split at b7
  ·rename_i hi;rw[if_pos hi];exact⟨s,μ',b1,b2,b3,b4,b5,b6,b7⟩
  ·rename_i hi;rw[if_neg hi];exact⟨s,μ',b1,b2,b3,b4,b5,b6,b7⟩
 |_=>exact⟨s,μ',b1,b2,b3,b4,b5,b6,b7⟩
theorem PE(hT:cH P T){ops:Array Oper}{IR :St}(h:mi P T N ops ops.toList st IR)(hq:Q .normal IR):
  AWP P tp N m0 (.region id ops false) st Q:=by
 intro ro h0 base μ w a XA h1 h2 h3 h4 h5;exact wpIn_region_list (vr hT h h1 h2 h3 h4 h5 (.refl h5) fun a' w' μ' c1 c2 c3 c4 c5 c6=>⟨IR,μ',c1,c2,c3,c4,c5,c6,hq⟩)
theorem xZ{F:Fence}{r:Nat}{σ:Type}{Q:Exit→Act→World→Prop}(I:σ→Act→World→Prop)(m:σ→Nat)(round:∀s a w,I s a w→c.wpIn F r P (Exit.then (fun a' w' =>∃s',I s' a' w' ∧m s' <m s) Q) a w):
  ∀{s a w},I s a w→(Code.loop c).wpIn F r P Q a w:=by
 intro s a w h₀ b k cs XA hb hr;have key:∀n s a w,m s=n→I s a w→
   ∃e a' w',Q e a' w' ∧ArrivesIn (Machine.fenced P F) P (lone (b.atR a (.code c::.inLoop c::k)) cs w) b k cs e a' w' :=by
  intro n;induction n using Nat.strongRecOn with
  |_ n ih=>
   intro s a w hn hI;obtain⟨e,a₁,w₁,hq,Zr⟩:=round s a w hI b (.inLoop c::k) cs XA hb hr;cases e with
   |normal=>
    obtain⟨s',hI₁,AC⟩:=hq;obtain⟨e₂,a₂,w₂,hq₂,harr₂⟩:=ih (m s') (hn▸AC) s' a₁ w₁ rfl hI₁;exact⟨e₂,a₂,w₂,hq₂,.of_steps (StepsIn.trans Zr (.one (fenced_calm hb hr rfl) stepR_inLoop)) harr₂⟩
   |exit id=>exact⟨_,a₁,w₁,hq,.pass (x:=.inLoop c) rfl (fun _ _=>.inl (by simp)) Zr⟩
   |goto l=>exact⟨_,a₁,w₁,hq,.pass (x:=.inLoop c) rfl (fun _ _=>.inl (by simp)) Zr⟩
   |ret=>exact⟨_,a₁,w₁,hq,.pass (x:=.inLoop c) rfl (fun _ _=>.inl (by simp)) Zr⟩
   |panic ch=>exact⟨_,a₁,w₁,hq,.pass (x:=.inLoop c) rfl (fun _ _=>.inl (by simp)) Zr⟩
   |outgrown=>exact⟨_,a₁,w₁,hq,.pass (x:=.inLoop c) rfl (fun _ _=>.inl (by simp)) Zr⟩
 obtain⟨e,a',w',hq,Zr⟩:=key _ s a w rfl h₀;exact⟨e,a',w',hq,.of_steps (.one (fenced_calm hb hr rfl) stepR_loop) Zr⟩
theorem Tx{σ:Type}(I:σ→St→Prop)(m:σ→Nat){s:σ}(hI0:I s st)(round:∀s st,I s st→AWP P tp N m0 c st (VS (fun IR =>∃s',I s' IR ∧m s' <m s) Q)):AWP P tp N m0 (.loop c) st Q:=by
 intro ro h0 base μ w a XA h1 h2 h3 h4 h5;refine xZ (σ:=σ) (fun s a' w' =>∃IR μ',aam base μ' IR.mem w' ∧aaJ μ' IR.mem.length IR.env a'.tmps∧a'.tmps.size=N∧MOk P base h0 w' a'.defers∧m0≤IR.mem.length∧
   Step m0 μ st.mem w μ' IR.mem w' ∧I s IR) m ?_ (s:=s) ⟨st,μ,h1,h2,h3,h4,h5,.refl h5,hI0⟩
 rintro s a' w' ⟨IR,μ',b1,b2,b3,b4,b5,b6,b7⟩;refine wpIn_mono (round s IR b7 ro h0 base μ' w' a' XA b1 b2 b3 b4 b5) ?_;rintro e a2 w2 ⟨s2,μ2,c1,c2,c3,c4,c5,c6,c7⟩;cases e with
 |normal=>
  obtain⟨s',d1,d2⟩:=c7;exact⟨s',⟨s2,μ2,c1,c2,c3,c4,c5,b6.trans c6,d1⟩,d2⟩
 |_=>exact⟨s2,μ2,c1,c2,c3,c4,c5,b6.trans c6,c7⟩
def aa7(m0:Nat) (st st1:St):Prop:=∀base μ w tmps,aam base μ st.mem w→aaJ μ st.mem.length st.env tmps→m0≤st.mem.length→
 ∃μ1,aam base μ1 st1.mem w∧aaJ μ1 st1.mem.length st1.env tmps∧m0≤st1.mem.length∧Step m0 μ st.mem w μ1 st1.mem w
theorem Tz{st1:St}(hw:aa7 m0 st st1)(h:AWP P tp N m0 c st1 Q):AWP P tp N m0 c st Q:=by intro ro h0 base μ w a XA h1 h2 h3 h4 h5;obtain⟨μ1,b1,b2,b3,b4⟩:=hw base μ w a.tmps h1 h2 h5;refine wpIn_mono (h ro h0 base μ1 w a XA b1 b2 h3 h4 b3) ?_;rintro e a2 w2 ⟨s2,μ2,c1,c2,c3,c4,c5,c6,c7⟩;exact⟨s2,μ2,c1,c2,c3,c4,c5,b4.trans c6,c7⟩
theorem aa7.trans{s1 s2 s3:St}(h:aa7 m0 s1 s2)(h' :aa7 m0 s2 s3):aa7 m0 s1 s3:=by intro base μ w tmps h1 h2 h3;obtain⟨μ1,b1,b2,b3,b4⟩:=h base μ w tmps h1 h2 h3;obtain⟨μ2,c1,c2,c3,c4⟩:=h' base μ1 w tmps b1 b2 b3;exact⟨μ2,c1,c2,c3,b4.trans c4⟩
theorem aa7.env{env env1:Env}{mem:Mem}(h:∀t,aa env1 t=aa env t∨aa env1 t=.undef):aa7 m0 ⟨env,mem⟩ ⟨env1,mem⟩:=by
 intro base μ w tmps h1 h2 h3;refine⟨μ,h1,fun t=>?_,h3,.refl h3⟩;rcases h t with e | e
 ·rw[e];exact h2 t
 ·rw[e];simp[aab]
theorem AWP.acT(h:AWP P tp N m0 c st Q')(hq:∀e s,Q' e s→∃s1,aa7 m0 s s1∧Q e s1):AWP P tp N m0 c st Q:=by intro ro h0 base μ w a XA h1 h2 h3 h4 h5;refine wpIn_mono (h ro h0 base μ w a XA h1 h2 h3 h4 h5) ?_;rintro e a2 w2 ⟨s2,μ2,c1,c2,c3,c4,c5,c6,c7⟩;obtain⟨s1,hw,hQ⟩:=hq e s2 c7;obtain⟨μ1,b1,b2,b3,b4⟩:=hw base μ2 w2 a2.tmps c1 c2 c5;exact⟨s1,μ1,b1,b2,c3,c4,b3,c6.trans b4,hQ⟩
end
end Go.Eng
namespace Go.Eng
def rho(m0:Nat) (ks:List Nat) (b:Nat):Option Nat:=if b<m0 then some b else (ks.idxOf? b).map (m0+·)
def xT(ρ:Nat→Option Nat) (env:Env):Env:=env.map fun e=>(e.1,e.2.ren ρ)
def aae.ren(ρ:Nat→Option Nat):aae→aae
 |.qF=>.qF
 |.cells own es cs=>.cells own es (AV.aal ρ cs)
 |.map es=>.map (es.map fun e=>(e.1.ren ρ,e.2.ren ρ))
 |.aaF es=>.aaF (es.map fun e=>(e.1.ren ρ,e.2.ren ρ))
 |.loop r=>.loop { r with env:=xT ρ r.env }
def aa3(m0:Nat) (ks:List Nat) (mem:Mem):Mem:=ks.map fun k=>(mem.getD k .qF).ren (rho m0 ks)
def aaj(m0:Nat) (ks:List Nat) (mem:Mem):Mem:=(mem.take m0).map (aae.ren (rho m0 ks))++aa3 m0 ks mem
def Kv(m0 n:Nat) (ks:List Nat):Bool:=decide ks.Nodup&&ks.all fun k=>decide (m0≤k∧k<n)
theorem iv(ρ:Nat→Option Nat):∀(env:Env) (t:Nat),aa (xT ρ env) t=(aa env t).ren ρ
 | [],t=>by simp[xT,aa,AV.ren]
 |(k,v)::r,t=>by
  simp only[xT,List.map_cons,aa];by_cases h:k=t
  ·simp[h]
  ·simp only[h,if_false];exact iv ρ r t
variable{ks:List Nat}{p:Place}
section
variable {μ:Nat→Place}{mem:Mem}{base:Nat}{w:World}
theorem aap.ren{μ μ' :Nat→Place}{n n' base:Nat}{w:World}{s:aae}{ρ:Nat→Option Nat}(hρ:∀b b',b<n→ρ b=some b' →b' <n' ∧μ' b' =μ b)(h:aap μ n base w p s):aap μ' n' base w p (s.ren ρ):=by
 cases s with
 |qF=>trivial
 |cells own es cs=>
  simp only[aap,aae.ren] at h ⊢;obtain⟨cur,e,fr,h1,h2,h3,h4,h5⟩:=h;refine⟨cur,e,fr,h1,h2,by rw[fN,List.length_map];exact h3,fun j v hv=>?_,h5⟩;rw[fN,List.getElem?_map] at hv;simp only[Option.map_eq_some_iff] at hv;obtain⟨v0,hv0,rfl⟩:=hv;obtain⟨V,hV,hr⟩:=h4 j v0 hv0;exact⟨V,hV,hr.ren hρ⟩
 |map es=>
  simp only[aap,aae.ren] at h ⊢;obtain⟨Do,FS,h1,h2,h3,h4⟩:=h;refine⟨Do,FS,h1,h2,by rw[List.length_map];exact h3,fun j e he=>?_⟩;rw[List.getElem?_map] at he;simp only[Option.map_eq_some_iff] at he;obtain⟨e0,Zt,rfl⟩:=he;obtain⟨E,hE,WL,WR⟩:=h4 j e0 Zt;exact⟨E,hE,WL.ren hρ,WR.ren hρ⟩
 |aaF es=>
  simp only[aap,aae.ren] at h ⊢;obtain⟨Do,FS,h1,h2,h3,h4⟩:=h;refine⟨Do,FS,h1,h2,by rw[List.length_map];exact h3,fun j e he=>?_⟩;rw[List.getElem?_map] at he;simp only[Option.map_eq_some_iff] at he;obtain⟨e0,Zt,rfl⟩:=he;obtain⟨E,hE,WL,WR⟩:=h4 j e0 Zt;exact⟨E,hE,WL.ren hρ,WR.ren hρ⟩
 |loop r=>
  simp only[aap,aae.ren] at h ⊢;obtain⟨L,h1,h2,h3⟩:=h;exact⟨L,h1,h2,{ h3 with tmps:=fun t=>by rw[iv];exact(h3.tmps t).ren hρ }⟩
theorem aae.abC(ρ:Nat→Option Nat)(s:aae):(s.ren ρ).own=s.own:=by cases s<;>rfl
theorem Bc{m0 n:Nat}(h:Kv m0 n ks=true):ks.Nodup∧∀k∈ks,m0≤k∧k<n:=by simp only[Kv,Bool.and_eq_true,decide_eq_true_eq,List.all_eq_true] at h;exact h
theorem eZ{m0:Nat}(hm:m0≤mem.length):(aaj m0 ks mem).length=m0+ks.length:=by simp[aaj,aa3];omega
def gX(m0:Nat) (ks:List Nat) (b:Nat):Nat:=if b<m0 then b else ks.getD (b-m0) 0
theorem tV{m0:Nat}(hm:m0≤mem.length)(hk:Kv m0 mem.length ks=true){b:Nat}{s:aae}(h:(aaj m0 ks mem)[b]? =some s):
  ∃s0,mem[gX m0 ks b]? =some s0∧s=s0.ren (rho m0 ks):=by
 obtain⟨_,YP⟩:=Bc hk;have e1:((mem.take m0).map (aae.ren (rho m0 ks))).length=m0:=by simp;omega
 unfold aaj at h;by_cases hb:b<m0
 ·rw[List.getElem?_append_left (by omega),List.getElem?_map,List.getElem?_take_of_lt hb] at h
  simp only[Option.map_eq_some_iff] at h;obtain⟨s0,h1,h2⟩:=h;exact⟨s0,by simpa [gX,hb] using h1,h2.symm⟩
 ·rw[List.getElem?_append_right (by omega),e1] at h
  unfold aa3 at h;rw[List.getElem?_map] at h;simp only[Option.map_eq_some_iff] at h;obtain⟨k,h1,h2⟩:=h;have W8:=List.mem_of_getElem? h1;obtain⟨_,AC⟩:=YP k W8;have WY:mem[k]? =some mem[k]:=by simp[AC]
  refine⟨mem[k],?_,?_⟩
  ·simp[gX,hb,h1,AC]
  ·rw[←h2];simp[List.getD,WY]
theorem PF{m0:Nat}(hk:Kv m0 mem.length ks=true){x y:Nat}(hx:x<m0+ks.length)(hy:y<m0+ks.length)(h:gX m0 ks x=gX m0 ks y):x=y:=by
 obtain⟨Y3,YP⟩:=Bc hk;have W8:∀z,¬z<m0→z<m0+ks.length→m0≤ks.getD (z-m0) 0:=by
  intro z h1 h2;have AC:z-m0<ks.length:=by omega
  have:ks.getD (z-m0) 0=ks[z-m0]:=by simp[AC]
  rw[this];exact(YP _ (by simp)).1
 unfold gX at h;by_cases h1:x<m0<;>by_cases h2:y<m0<;>simp only[h1,h2,if_true,if_false] at h
 ·exact h
 ·have:=W8 y h2 hy;omega
 ·have:=W8 x h1 hx;omega
 ·have YN :x-m0<ks.length:=by omega
  have hy' :y-m0<ks.length:=by omega
  have ex:ks.getD (x-m0) 0=ks[x-m0]:=by simp[YN]
  have ey:ks.getD (y-m0) 0=ks[y-m0]:=by simp[hy']
  rw[ex,ey] at h;have:=(List.getElem_inj Y3).1 h;omega
theorem aam.aaj{m0:Nat}(hH:aam base μ mem w)(hm:m0≤mem.length)(hk:Kv m0 mem.length ks=true):
  aam base (fun b=>μ (gX m0 ks b)) (aaj m0 ks mem) w∧
  (∀b b',b<mem.length→rho m0 ks b=some b' →b' <(Eng.aaj m0 ks mem).length∧(fun b=>μ (gX m0 ks b)) b' =μ b)∧
  Step m0 μ mem w (fun b=>μ (gX m0 ks b)) (Eng.aaj m0 ks mem) w:=by
 obtain⟨Y3,YP⟩:=Bc hk;have hρ:∀b b',b<mem.length→rho m0 ks b=some b' →b' <(Eng.aaj m0 ks mem).length∧(fun b=>μ (gX m0 ks b)) b' =μ b:=by
  intro b b' hb hr;rw[eZ hm];unfold rho at hr;by_cases h1:b<m0
  ·rw[if_pos h1] at hr
   cases hr;exact⟨by omega,by simp[gX,h1]⟩
  ·rw[if_neg h1] at hr
   simp only[Option.map_eq_some_iff] at hr;obtain⟨i,hi,rfl⟩:=hr;have hi' :=List.idxOf?_eq_some_iff.1 hi;obtain⟨AC,WY,_⟩:=hi';refine⟨by omega,?_⟩;simp only[gX];rw[if_neg (by omega)];have:ks.getD (m0+i-m0) 0=b:=by rw[Nat.add_sub_cancel_left];simp[AC,WY]
   rw[this]
 have pre:∀x,dL (Eng.aaj m0 ks mem) x→dL mem (gX m0 ks x)∧x<m0+ks.length:=by intro x hx;obtain⟨s,hc,ho⟩:=hx;have AC:=(List.getElem?_eq_some_iff.1 hc).1;rw[eZ hm] at AC;obtain⟨s0,h1,rfl⟩:=tV hm hk hc;exact⟨⟨s0,h1,by rw[←aae.abC];exact ho⟩,AC⟩
 refine⟨⟨hH.aai,fun b s hs=>?_,fun x y s hx hy H' hxy=>?_⟩,hρ,?_⟩
 ·obtain⟨s0,h1,rfl⟩:=tV hm hk hs
  exact(hH.slot _ s0 h1).ren hρ
 ·obtain⟨hxo,hxl⟩:=pre x hx
  have hyl:=(List.getElem?_eq_some_iff.1 hy).1;rw[eZ hm] at hyl;obtain⟨s0,h1,rfl⟩:=tV hm hk hy;refine hH.sep _ _ s0 hxo h1 ?_ fun e=>hxy (PF hk hxl hyl e)
  rintro rfl;exact H' rfl
 ·refine⟨by rw[eZ hm];omega,fun b hb=>by simp[gX,hb],rfl,rfl,rfl,Nat.le_refl _,fun _ _ _=>rfl,fun b hb _=>?_,Nat.le_refl _⟩
  exact⟨_,(pre b hb).1,rfl⟩
theorem aa7.aaj{m0:Nat}{env:Env}{mem:Mem}(ks:List Nat)(hk:Kv m0 mem.length ks=true):
  aa7 m0 ⟨env,mem⟩ ⟨xT (rho m0 ks) env,aaj m0 ks mem⟩:=by
 intro base μ w tmps h1 h2 h3;obtain⟨c1,c2,c3⟩:=h1.aaj h3 hk;refine⟨_,c1,fun t=>?_,by rw[eZ h3];omega,c3⟩;rw[iv];exact(h2 t).ren c2
end
mutual
theorem aab.lower{μ μ' :Nat→Place}{n n' :Nat}(hμ:∀b,b<n→μ' b=μ b):∀{v V V'},aab μ n v V→aab μ' n' v V' →aab μ n v V'
 |.undef,_,_,_,_=>by simp[aab]
 |.bool _,_,_,_,h=>by simpa [aab] using h
 |.int _ _,_,_,_,h=>by simpa [aab] using h
 |.str _,_,_,_,h=>by simpa [aab] using h
 |.ptr b o,_,_,h,h' =>by simp only[aab] at h h' ⊢;exact⟨h.1,by rw[←hμ b h.1];exact h'.2⟩
 |.aar,_,_,_,h=>by simpa [aab] using h
 |.slice b o l c,_,_,h,h' =>by simp only[aab] at h h' ⊢;exact⟨h.1,by rw[←hμ b h.1];exact h'.2⟩
 |.kO,_,_,_,h=>by simpa [aab] using h
 |.map b,_,_,h,h' =>by simp only[aab] at h h' ⊢;exact⟨h.1,by rw[←hμ b h.1];exact h'.2⟩
 |.yield b,_,_,h,h' =>by simp only[aab] at h h' ⊢;exact⟨h.1,by rw[←hμ b h.1];exact h'.2⟩
 |.aau,_,_,_,h=>by simpa [aab] using h
 |.func f cs,_,_,h,h' =>by simp only[aab] at h h' ⊢;obtain⟨Us,e,h⟩:=h;obtain⟨Y4,e',h'⟩:=h';exact⟨Y4,e',aad.lower hμ h h'⟩
 |.nilFunc,_,_,_,h=>by simpa [aab] using h
 |.iface t v,_,_,h,h' =>by simp only[aab] at h h' ⊢;obtain⟨U,e,h⟩:=h;obtain⟨U',e',h'⟩:=h';exact⟨U',e',aab.lower hμ h h'⟩
 |.nilIface,_,_,_,h=>by simpa [aab] using h
 |.agg cs,_,_,h,h' =>by simp only[aab] at h h' ⊢;obtain⟨Us,e,h⟩:=h;obtain⟨Y4,e',h'⟩:=h';exact⟨Y4,e',aad.lower hμ h h'⟩
 |.tuple cs,_,_,h,h' =>by simp only[aab] at h h' ⊢;obtain⟨Us,e,h⟩:=h;obtain⟨Y4,e',h'⟩:=h';exact⟨Y4,e',aad.lower hμ h h'⟩
theorem aad.lower{μ μ' :Nat→Place}{n n' :Nat}(hμ:∀b,b<n→μ' b=μ b):∀{vs Us Y4},aad μ n vs Us→aad μ' n' vs Y4 →aad μ n vs Y4
 | [],_,_,_,h=>by simpa [aad] using h
 |v::vs,_,_,h,h' =>by simp only[aad] at h h' ⊢;obtain⟨U,Ws,e,h1,h2⟩:=h;obtain⟨U',Ws',e',Ya,Zq⟩:=h';exact⟨U',Ws',e',aab.lower hμ h1 Ya,aad.lower hμ h2 Zq⟩
end
theorem aap.lower{μ μ' :Nat→Place}{n n' base:Nat}{w w' :World}{s:aae}(hμ:∀b,b<n→μ' b=μ b)(h:aap μ n base w p s)(h' :aap μ' n' base w' p s):aap μ n base w' p s:=by
 cases s with
 |qF=>trivial
 |cells own es cs=>
  simp only[aap] at h h' ⊢;obtain⟨_,_,_,_,_,_,h4,_⟩:=h;obtain⟨cur,e,fr,g1,g2,g3,g4,g5⟩:=h';refine⟨cur,e,fr,g1,g2,g3,fun j v hv=>?_,g5⟩;obtain⟨V,_,hr⟩:=h4 j v hv;obtain⟨V',hV',hr'⟩:=g4 j v hv;exact⟨V',hV',hr.lower hμ hr'⟩
 |map es=>
  simp only[aap] at h h' ⊢;obtain⟨_,_,_,_,_,h4⟩:=h;obtain⟨Do,FS,g1,g2,g3,g4⟩:=h';refine⟨Do,FS,g1,g2,g3,fun j e he=>?_⟩;obtain⟨E,_,WL,WR⟩:=h4 j e he;obtain⟨E',WX,hr1',hr2'⟩:=g4 j e he;exact⟨E',WX,WL.lower hμ hr1',WR.lower hμ hr2'⟩
 |aaF es=>
  simp only[aap] at h h' ⊢;obtain⟨_,_,_,_,_,h4⟩:=h;obtain⟨Do,FS,g1,g2,g3,g4⟩:=h';refine⟨Do,FS,g1,g2,g3,fun j e he=>?_⟩;obtain⟨E,_,WL,WR⟩:=h4 j e he;obtain⟨E',WX,hr1',hr2'⟩:=g4 j e he;exact⟨E',WX,WL.lower hμ hr1',WR.lower hμ hr2'⟩
 |loop r=>
  simp only[aap] at h h' ⊢;obtain⟨L,_,_,h3⟩:=h;obtain⟨L',g1,g2,g3⟩:=h';exact⟨L',g1,g2,{ g3 with tmps:=fun t=>(h3.tmps t).lower hμ (g3.tmps t) }⟩
theorem aam.swap{base:Nat}{μ:Nat→Place}{mem1 XW:Mem}{w:World}(h:aam base μ mem1 w)(hl:XW.length=mem1.length)(hs:∀b s2,XW[b]? =some s2→∃s1,mem1[b]? =some s1∧s1.own=s2.own∧(s1=.qF→s2=.qF)∧aap μ mem1.length base w (μ b) s2):aam base μ XW w:=by
 refine⟨h.aai,fun b s hb=>?_,fun b b' s' hb J' H' XE=>?_⟩
 ·obtain⟨s1,_,_,_,h4⟩:=hs b s hb;rw[hl];exact h4
 ·obtain⟨s,g1,g2⟩:=hb
  obtain⟨s1,k1,k2,_,_⟩:=hs b s g1;obtain⟨s3,k3,_,k5,_⟩:=hs b' s' J';exact h.sep b b' s3 ⟨s1,k1,by rw[k2];exact g2⟩ k3 (fun e=>H' (k5 e)) XE
end Go.Eng
namespace Go.Eng
def dE:Nat→List AV→Env
 |_,[]=>[]
 |i,v::vs=>(i,v)::dE (i+1) vs
def V7(T:TypeId→Option TyI) (env:Env) (mem:Mem):ResultVar→Option AV
 |.tmp t=>some (aa env t)
 |.cell a t=>PA T mem t (aa env a)
def wV(T:TypeId→Option TyI) (env:Env) (mem:Mem):List ResultVar→Option (List AV)
 | []=>some []
 |r::rs=>match V7 T env mem r,wV T env mem rs with
  |some v,some vs=>some (v::vs)
  |_,_=>none
def jM(T:TypeId→Option TyI) (rs:List ResultVar) (env:Env) (mem:Mem):Option AV:=
 match wV T env mem rs with
 |some [v]=>some v
 |some vs=>some (.tuple vs)
 |none=>none
def Fin(mem:Mem) (v:AV) (m' :Mem) (R:AV→Mem→Prop):Prop:=
 ∃ks,Kv mem.length m'.length ks=true∧
  ((m'.take mem.length=mem∧R (v.ren (rho mem.length ks)) (mem++aa3 mem.length ks m'))∨R (v.ren (rho mem.length ks)) (aaj mem.length ks m'))
variable{fn:Func}{r:Nat}
section
variable {P:Program}{T:TypeId→Option TyI}{μ:Nat→Place}{mem:Mem}{base:Nat}{w:World}
theorem wO{n:Nat}{μ:Nat→Place}:∀{vs:List AV}{Vs:List Value}(i:Nat),aad μ n vs Vs→∀t,aab μ n (aa (dE i vs) t) (if t<i then undef else Vs.getD (t-i) undef)
 | [],Vs,i,h,t=>by simp[dE,aa,aab]
 |v::vs,Vs,i,h,t=>by
  simp only[aad] at h;obtain⟨U,Us,rfl,h1,h2⟩:=h;simp only[dE,aa];by_cases ht:i=t
  ·subst ht;simpa using h1
  ·simp only[ht,if_false]
   have:=wO (i+1) h2 t;by_cases AC:t<i
   ·rw[if_pos (by omega)] at this;rw[if_pos AC];exact this
   ·rw[if_neg (by omega)] at this
    rw[if_neg AC];have e:t-i=(t-(i+1))+1:=by omega
    rw[e];simpa using this
def rvS(tmps:Array Value):ResultVar→Sem Value
 |.tmp t=>pure (tmps.getD t undef)
 |.cell a t=>do loadVar t (←asAddr (tmps.getD a undef))
theorem oK(hT:cH P T) (hH:aam base μ mem w) {env:Env}{tmps:Array Value}(hR:aaJ μ mem.length env tmps):
  ∀{rs:List ResultVar}{vs:List AV},wV T env mem rs=some vs→∃Vs,aad μ mem.length vs Vs∧
   (rs.mapM (rvS tmps)).run P w=.ok Vs w
 | [],vs,h=>by simp only[wV,Option.some.injEq] at h;subst h;exact⟨[],by simp[aad],by simp⟩
 |r::rs,vs,h=>by
  simp only[wV] at h;split at h
  ·rename_i v vs' h1 h2
   cases h;obtain⟨Vs,g1,g2⟩:=oK hT hH hR h2;cases r with
   |tmp t=>
    simp only[V7,Option.some.injEq] at h1;subst h1;exact⟨_::Vs,bj.2 ⟨hR t,g1⟩,by rw[List.mapM_cons,rvS,pure_bind,Sem.run_bind,g2];rfl⟩
   |cell a t=>
    simp only[V7] at h1;obtain⟨V,k1,k2⟩:=AH (P:=P) hT hH (hR a) h1;refine⟨V::Vs,bj.2 ⟨k2,g1⟩,?_⟩;have hptr:∃b o,aa env a=.ptr b o:=by
     unfold PA at h1;split at h1
     ·rename_i b o _ hl;exact⟨b,o,hl⟩
     ·cases h1
    obtain⟨b,o,hl⟩:=hptr;have hp:=hR a;rw[hl] at hp;have hp2:=hp.ptr.2;rw[hp2] at k1;simp only[Instr.loadAt,Instr.sureAddr,Sem.run_bind,Sem.run_pure,Result.andThen_ok] at k1;rw[List.mapM_cons,rvS,hp2,Sem.run_bind];simp only[asAddr,pure_bind,k1,Result.andThen_ok];rw[Sem.run_bind,g2];rfl
  ·cases h
theorem sH(hT:cH P T)(hH:aam base μ mem w){env:Env}{tmps:Array Value}(hR:aaJ μ mem.length env tmps){v:AV}(h:jM T fn.results.toList env mem=some v):∃V,(results fn tmps).run P w=.ok V w∧aab μ mem.length v V:=by
 unfold jM at h;have run:∀Vs,(fn.results.toList.mapM (rvS tmps)).run P w=.ok Vs w→
   (results fn tmps).run P w=.ok (if h:Vs.toArray.size=1 then Vs.toArray[0] else .tuple Vs.toArray) w:=by
  intro Vs hVs;unfold results;rw[Array.mapM_eq_mapM_toList,Sem.run_bind,Sem.run_map];erw [hVs];rfl
 split at h
 ·rename_i v' h1
  cases h;obtain⟨Vs,g1,g2⟩:=oK hT hH hR h1;simp only[aad] at g1;obtain⟨U,Us,rfl,g3,rfl⟩:=g1;exact⟨U,by rw[run _ g2];simp,g3⟩
 ·rename_i vs H' h1
  cases h;obtain⟨Vs,g1,g2⟩:=oK hT hH hR h1;refine⟨.tuple Vs.toArray,?_,by simp only[aab];exact⟨Vs,rfl,g1⟩⟩;rw[run _ g2];have:¬Vs.toArray.size=1:=by
   have:=g1.length;intro e;simp at e;rw[e] at this
   match vs,this with
   | [x],_=>exact H' x rfl
  rw[dif_neg this]
 ·cases h
theorem ze{P:Program}{w:World}(h:w.heap[r]? =some (.deferred (some []))):
  (Instr.takeDeferred r).run P w=.ok [] { w with heap:=w.heap.setIfInBounds r (.deferred none) }:=by
 have hg:(getObj r).run P w=.ok (.deferred (some [])) w:=by simp[getObj,Sem.run,h]
 have hs:(setObj r (.deferred none)).run P w=.ok () { w with heap:=w.heap.setIfInBounds r (.deferred none) }:=sd h (by intro c e f;simp);simp only[Instr.takeDeferred,Sem.run_bind,hg,Result.andThen_ok];rw[hs];rfl
theorem aam.shut{base:Nat}{μ:Nat→Place}{mem:Mem}{w:World}{r:Nat}{x y}(hH:aam base μ mem w)(h:w.heap[r]? =some (.deferred x)):
  aam base μ mem { w with heap:=w.heap.setIfInBounds r (.deferred y) }:=by
 refine⟨by simpa using hH.aai,fun b s hs=>?_,hH.sep⟩;by_cases h0:s=.qF
 ·subst h0;trivial
 ·refine(hH.slot b s hs).mono (Nat.le_refl _) (fun _ _=>rfl) fun _=>?_
  exact Array.getElem?_setIfInBounds_ne (Ne.symm (pg hH h hs h0))
theorem Step.shut{m0:Nat}{μ μ' :Nat→Place}{mem mem' :Mem}{w w' :World}{o:Obj}(h:Step m0 μ mem w μ' mem' w')(hr:w.heap.size≤r):
  Step m0 μ mem w μ' mem' { w' with heap:=w'.heap.setIfInBounds r o }:=by
 refine⟨h.len,h.agree,h.os,h.tape,h.output,by simpa using h.size,fun k hk hf=>?_,h.owner,h.drawn⟩;rw[←h.frame k hk hf];exact Array.getElem?_setIfInBounds_ne (by omega)
theorem MOk.shut{P:Program}{base h0 r:Nat}{w:World}{ds:List Deferred}{o:Obj}(h:MOk P base h0 w ({ target:=.collected r,args:= #[] }::ds)):
  MOk P base h0 { w with heap:=w.heap.setIfInBounds r o } ds:=by
 have hrl:h0≤r:=by obtain⟨q,e,h1,_⟩:=h.each _ (List.mem_cons_self ..);cases e;exact h1
 refine⟨⟨h.abp.below,?_⟩,h.aai,by simpa using h.le,fun d hd=>?_,?_⟩
 ·have:=h.abp.tab
  unfold Lib.TabIs at this ⊢;rw[←this];refine Oc fun k hk=>Array.getElem?_setIfInBounds_ne ?_
  have:=h.abp.below;have:=h.aai;omega
 ·obtain⟨q,e,h1,h2⟩:=h.each d (by simp[hd])
  refine⟨q,e,h1,?_⟩;have H':r≠q:=by intro hrq;have:=h.nodup;simp only[List.map_cons,List.nodup_cons,List.mem_map,not_exists] at this;exact this.1 d ⟨hd,by rw[e,hrq]⟩
  show(w.heap.setIfInBounds r o)[q]? =_
  rw[Array.getElem?_setIfInBounds_ne H',h2]
 ·have:=h.nodup
  simp only[List.map_cons,List.nodup_cons] at this;exact this.2
theorem qQ{P:Program}{fn:Func}{tmps:Array Value}{R:Ending→World→Prop}{base m0:Nat}{μ μ0:Nat→Place}{mem mem0:Mem}{w0:World}:
  ∀(ds:List Deferred) (w:World),MOk P base w0.heap.size w ds→aam base μ mem w→Step m0 μ0 mem0 w0 μ mem w→
   (∀w',aam base μ mem w' →Step m0 μ0 mem0 w0 μ mem w' →∃v,(results fn tmps).run P w' =.ok v w' ∧R (.returned v) w')→
   LeavesInM (Fr none) 0 P fn tmps R ds .returning w
 | [],w,_,hH,hS,hq=>hq w hH hS
 |d::ds,w,hM,hH,hS,hq=>by obtain⟨r,rfl,h1,h2⟩:=hM.each d (by simp);refine⟨by simp,.inl ⟨r,_,rfl,ze h2,?_⟩⟩;exact qQ ds _ hM.shut (hH.shut h2) (hS.shut h1) hq
theorem aaM.intro(hT:cH P T){f:FuncId}{c:Code}{args:List AV}{mem:Mem}{R:AV→Mem→Prop}(hf:P.funcs[f]? =some fn)(hb:fn.body=some c)(hn:(fn.name == "runtime.NumGoroutine")=false)(hl:args.length≤fn.ntmps)(h:AWP P true fn.ntmps mem.length c ⟨dE 0 args,mem⟩ fun e IR =>(e=.normal∨e=.ret)∧∃v,jM T fn.results.toList IR.env IR.mem=some v∧Fin mem v IR.mem R):
  aaM P f args mem R:=by
 refine⟨⟨fn,hf,by simp[hb],hn⟩,fun base μ w Vs hG hH hV=>?_⟩;refine zl.1 (callsIn_of_wp_marks (F:=Fr none) (n:=0) hf hb trivial (wpIn_mono (h none w.heap.size base μ w _ (fun _=>rfl) hH ?_ ?_ (MOk.nil w hG hH.aai (Nat.le_refl _)) (Nat.le_refl _)) ?_) rfl)
 ·intro t
  have:=wO 0 hV t;simp only[Nat.not_lt_zero,if_false,Nat.sub_zero] at this;by_cases ht:t<Vs.length
  ·have e:(⟨Vs⟩++Array.replicate (fn.ntmps-(⟨Vs⟩:Array Value).size) undef:Array Value).getD t undef=Vs.getD t undef:=by simp only[Array.getD_eq_getD_getElem?];rw[Array.getElem?_append_left (by simpa using ht)];simp[List.getD]
   show aab μ mem.length (aa (dE 0 args) t) ((⟨Vs⟩++Array.replicate (fn.ntmps-(⟨Vs⟩:Array Value).size) undef:Array Value).getD t undef)
   rw[e];exact this
  ·have:aa (dE 0 args) t=.undef:=by
    have A':=hV.length;have:∀(vs:List AV) (i:Nat),i+vs.length≤t→aa (dE i vs) t=.undef:=by
     intro vs;induction vs with
     |nil=>intro i _;rfl
     |cons v vs ih=>
      intro i hi;simp only[List.length_cons] at hi;simp only[dE,aa];rw[if_neg (by omega)];exact ih (i+1) (by omega)
    exact this args 0 (by omega)
   show aab μ mem.length (aa (dE 0 args) t) _
   rw[this];simp[aab]
 ·simp only[Array.size_append,List.size_toArray,Array.size_replicate,hV.length];omega
 ·rintro e a' w' ⟨IR,μ',b1,b2,b3,b4,b5,b6,he,v,hv,ks,YP,hR⟩
  have post:LeavesInM (Fr none) 0 P fn a'.tmps (fun e w' =>∃V v mem' μ',e=.returned V∧aab μ' mem'.length v V∧aam base μ' mem' w' ∧Step mem.length μ mem w μ' mem' w' ∧R v mem') a'.defers .returning w' :=by
   refine qQ a'.defers w' b4 b1 b6 fun w2 e1 e2=>?_
   obtain⟨V,k1,k2⟩:=sH (P:=P) (fn:=fn) hT e1 b2 hv;obtain⟨c1,c2,c3⟩:=e1.aaj b5 YP;refine⟨V,k1,?_⟩;rcases hR with⟨Xa,hr⟩ | hr
   ·have A':(mem++aa3 mem.length ks IR.mem).length=(aaj mem.length ks IR.mem).length:=by rw[eZ b5];simp[aa3]
    have key:∀b s2,(mem++aa3 mem.length ks IR.mem)[b]? =some s2→∃s1,(aaj mem.length ks IR.mem)[b]? =some s1∧s1.own=s2.own∧(s1=.qF→s2=.qF)∧
      aap (fun b=>μ' (gX mem.length ks b)) (aaj mem.length ks IR.mem).length base w2 (μ' (gX mem.length ks b)) s2:=by
     intro b s2 hb;unfold aaj;rw[Xa];by_cases AC:b<mem.length
     ·rw[List.getElem?_append_left AC] at hb
      refine⟨s2.ren (rho mem.length ks),by rw[List.getElem?_append_left (by simpa using AC),List.getElem?_map,hb];rfl,aae.abC _ _,?_,?_⟩
      ·intro h;cases s2<;>simp[aae.ren] at h ⊢
      ·have hback:gX mem.length ks b=b:=by simp[gX,AC]
       rw[hback];have g1:=hH.slot b s2 hb;have g2:=e1.slot b s2 (by rw[←hb,←Xa,List.getElem?_take_of_lt AC]);rw[e2.agree b AC] at g2 ⊢;have g3:=aap.lower (w' :=w2) (fun b hb=>e2.agree b hb) g1 g2;refine g3.mono ?_ (fun b hb=>?_) fun _=>rfl
       ·simp[aa3]
       ·show μ' (gX mem.length ks b)=μ b
        rw[show gX mem.length ks b=b by simp[gX,hb],e2.agree b hb]
     ·have J' :(aaj mem.length ks IR.mem)[b]? =some s2:=by unfold aaj;rw[Xa,List.getElem?_append_right (by simp;omega)];rw[List.getElem?_append_right (by omega)] at hb;simpa using hb
      have:=c1.slot b s2 J';unfold aaj at J' this;rw[Xa] at J' this;exact⟨s2,J',rfl,id,this⟩
    have hsw:=c1.swap A' key;refine⟨V,_,_,_,rfl,k2.ren fun b b' g1 g2=>?_,hsw,?_,hr⟩
    ·obtain⟨g3,g4⟩:=c2 b b' g1 g2
     exact⟨by rw[A'];exact g3,g4⟩
    ·have c4:=e2.trans c3
     refine⟨by rw[A'];exact c4.len,c4.agree,c4.os,c4.tape,c4.output,c4.size,c4.frame,fun b hb AC=>?_,c4.drawn⟩;obtain⟨s,g1,g2⟩:=hb;obtain⟨s1,k1,k2,_,_⟩:=key b s g1;exact c4.owner b ⟨s1,k1,by rw[k2];exact g2⟩ AC
   ·exact⟨V,_,_,_,rfl,k2.ren c2,c1,e2.trans c3,hr⟩
  rcases he with rfl | rfl
  ·exact post
  ·exact post
end
end Go.Eng
