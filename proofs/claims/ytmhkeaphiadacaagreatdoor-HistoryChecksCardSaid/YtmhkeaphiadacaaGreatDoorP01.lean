/- See P53. -/
import Derived.Calls
import Derived.Orders
import Derived.Laws.AppendOwn
import Derived.Laws.Cells
import Derived.Laws.CopyRow
import Derived.Tactics
import Derived.Laws.StructEq
import Derived.Laws.Build
set_option linter.all false
namespace Go.Eng
theorem w0:IntKind.i64.wrap 0=0:=rfl
theorem w1:IntKind.i64.wrap 1=1:=rfl
theorem w2:IntKind.i64.wrap 2=2:=rfl
theorem w3:IntKind.i64.wrap 3=3:=rfl
theorem w4:IntKind.i64.wrap 4=4:=rfl
theorem w5:IntKind.i64.wrap 5=5:=rfl
theorem w6:IntKind.i64.wrap 6=6:=rfl
theorem w7:IntKind.i64.wrap 7=7:=rfl
theorem w8:IntKind.i64.wrap 8=8:=rfl
inductive AV where
 |undef
 |bool (b:Bool)
 |int (k:IntKind) (n:Int)
 |str (s:List UInt8)
 |ptr (b off:Nat)
 |aar
 |slice (b off len:Nat) (cap:Option Nat)
 |kO
 |map (b:Nat)
 |aau
 |yield (b:Nat)
 |func (f:FuncId) (caps:List AV)
 |nilFunc
 |iface (t:TypeId) (v:AV)
 |nilIface
 |agg (cs:List AV)
 |tuple (cs:List AV)
 deriving Inhabited
structure Place where
 blk:Nat
 off:Nat
 tot:Nat
 es:Nat
 deriving Inhabited
def iU(p:Place) (o:Nat):Option Nat→Nat
 |some c=>c
 |none=>(p.tot-o) / p.es
mutual
def aab(μ:Nat→Place) (n:Nat):AV→Value→Prop
 |.undef,_=>True
 |.bool b,V=>V=.bool b
 |.int k i,V=>V=.int k i
 |.str s,V=>V=.string ⟨s.toArray⟩
 |.ptr b o,V=>b<n∧V=.pointer (some ⟨(μ b).blk,(μ b).off+o,none⟩)
 |.aar,V=>V=.pointer none
 |.slice b o l c,V=>b<n∧V=.slice (some ⟨(μ b).blk,(μ b).off+o,none⟩) l (iU (μ b) o c)
 |.kO,V=>V=.slice none 0 0
 |.map b,V=>b<n∧V=.map (some (μ b).blk)
 |.yield b,V=>b<n∧V=.func (.yield (μ b).blk) #[] #[]
 |.aau,V=>V=.map none
 |.func f cs,V=>∃Us,V=.func (.func f) #[] ⟨Us⟩∧aad μ n cs Us
 |.nilFunc,V=>V=.nilFunc
 |.iface t v,V=>∃U,V=.iface t U∧aab μ n v U
 |.nilIface,V=>V=.nilIface
 |.agg cs,V=>∃Us,V=.agg ⟨Us⟩∧aad μ n cs Us
 |.tuple cs,V=>∃Us,V=.tuple ⟨Us⟩∧aad μ n cs Us
def aad(μ:Nat→Place) (n:Nat):List AV→List Value→Prop
 | [],Us=>Us=[]
 |v::vs,Us=>∃U Ws,Us=U::Ws∧aab μ n v U∧aad μ n vs Ws
end
theorem bj{μ n v vs U Us}:aad μ n (v::vs) (U::Us)↔aab μ n v U∧aad μ n vs Us:=by
 simp only[aad];constructor
 ·rintro ⟨U',Ws,h,h1,h2⟩;cases h;exact⟨h1,h2⟩
 ·rintro ⟨h1,h2⟩;exact⟨U,Us,rfl,h1,h2⟩
theorem aad.length{μ n}:∀{vs Us},aad μ n vs Us→Us.length=vs.length
 | [],_,h=>by simp[aad] at h;simp[h]
 |v::vs,_,h=>by simp only[aad] at h;obtain⟨U,Ws,rfl,_,h2⟩:=h;simp[aad.length h2]
theorem aad.get{μ n}:∀{vs Us},aad μ n vs Us→∀(i:Nat) v,vs[i]? =some v→∃U,Us[i]? =some U∧aab μ n v U
 | [],_,_,i,v,h=>by simp at h
 |w::vs,_,h,i,v,hi=>by
  simp only[aad] at h;obtain⟨U,Ws,rfl,h1,h2⟩:=h;cases i with
  |zero=>simp at hi;subst hi;exact⟨U,by simp,h1⟩
  |succ i=>simpa using aad.get h2 i v (by simpa using hi)
theorem aad.abe{μ n}:∀{vs Us},Us.length=vs.length→(∀(i:Nat) v,vs[i]? =some v→∃U,Us[i]? =some U∧aab μ n v U)→aad μ n vs Us
 | [],Us,hl,_=>by simp[aad];exact List.eq_nil_of_length_eq_zero hl
 |v::vs,[],hl,_=>by simp at hl
 |v::vs,U::Us,hl,h=>by
  refine bj.2 ⟨?_,aad.abe (by simpa using hl) fun i u hu=>?_⟩
  ·obtain⟨U',h1,h2⟩:=h 0 v (by simp)
   simp at h1;subst h1;exact h2
  ·simpa using h (i+1) u (by simpa using hu)
theorem aad.append{μ n}:∀{vs Us ws Ws},aad μ n vs Us→aad μ n ws Ws→aad μ n (vs++ws) (Us++Ws)
 | [],_,ws,Ws,h,h' =>by simp[aad] at h;subst h;simpa using h'
 |v::vs,_,ws,Ws,h,h' =>by simp only[aad] at h;obtain⟨U,Us,rfl,h1,h2⟩:=h;exact bj.2 ⟨h1,aad.append h2 h'⟩
theorem aad.take{μ n vs Us}(h:aad μ n vs Us)(k:Nat):aad μ n (vs.take k) (Us.take k):=by
 refine aad.abe (by simp[h.length]) fun i v hv=>?_
 rw[List.getElem?_take] at hv;split at hv
 ·obtain⟨U,h1,h2⟩:=h.get i v hv
  exact⟨U,by rw[List.getElem?_take];simp[*],h2⟩
 ·cases hv
theorem aad.drop{μ n vs Us}(h:aad μ n vs Us)(k:Nat):aad μ n (vs.drop k) (Us.drop k):=by
 refine aad.abe (by simp[h.length]) fun i v hv=>?_
 rw[List.getElem?_drop] at hv;obtain⟨U,h1,h2⟩:=h.get _ v hv;exact⟨U,by rw[List.getElem?_drop];exact h1,h2⟩
mutual
theorem aab.mono{μ μ' :Nat→Place}{n n' :Nat}(hn:n≤n') (hμ:∀b,b<n→μ' b=μ b):∀{v V},aab μ n v V→aab μ' n' v V
 |.undef,V,_=>by simp[aab]
 |.bool b,V,h=>by simpa [aab] using h
 |.int k i,V,h=>by simpa [aab] using h
 |.str s,V,h=>by simpa [aab] using h
 |.ptr b o,V,h=>by simp only[aab] at h ⊢;exact⟨by omega,by rw[hμ b h.1];exact h.2⟩
 |.aar,V,h=>by simpa [aab] using h
 |.slice b o l c,V,h=>by simp only[aab] at h ⊢;exact⟨by omega,by rw[hμ b h.1];exact h.2⟩
 |.kO,V,h=>by simpa [aab] using h
 |.map b,V,h=>by simp only[aab] at h ⊢;exact⟨by omega,by rw[hμ b h.1];exact h.2⟩
 |.yield b,V,h=>by simp only[aab] at h ⊢;exact⟨by omega,by rw[hμ b h.1];exact h.2⟩
 |.aau,V,h=>by simpa [aab] using h
 |.func f cs,V,h=>by simp only[aab] at h ⊢;obtain⟨Us,rfl,h⟩:=h;exact⟨Us,rfl,aad.mono hn hμ h⟩
 |.nilFunc,V,h=>by simpa [aab] using h
 |.iface t v,V,h=>by simp only[aab] at h ⊢;obtain⟨U,rfl,h⟩:=h;exact⟨U,rfl,aab.mono hn hμ h⟩
 |.nilIface,V,h=>by simpa [aab] using h
 |.agg cs,V,h=>by simp only[aab] at h ⊢;obtain⟨Us,rfl,h⟩:=h;exact⟨Us,rfl,aad.mono hn hμ h⟩
 |.tuple cs,V,h=>by simp only[aab] at h ⊢;obtain⟨Us,rfl,h⟩:=h;exact⟨Us,rfl,aad.mono hn hμ h⟩
theorem aad.mono{μ μ' :Nat→Place}{n n' :Nat}(hn:n≤n') (hμ:∀b,b<n→μ' b=μ b):∀{vs Us},aad μ n vs Us→aad μ' n' vs Us
 | [],Us,h=>by simpa [aad] using h
 |v::vs,Us,h=>by simp only[aad] at h ⊢;obtain⟨U,Ws,rfl,h1,h2⟩:=h;exact⟨U,Ws,rfl,aab.mono hn hμ h1,aad.mono hn hμ h2⟩
end
mutual
def AV.ren(ρ:Nat→Option Nat):AV→AV
 |.ptr b o=>match ρ b with | some b' =>.ptr b' o | none=>.undef
 |.slice b o l c=>match ρ b with | some b' =>.slice b' o l c | none=>.undef
 |.map b=>match ρ b with | some b' =>.map b' | none=>.undef
 |.yield b=>match ρ b with | some b' =>.yield b' | none=>.undef
 |.func f cs=>.func f (AV.aal ρ cs)
 |.iface t v=>.iface t (AV.ren ρ v)
 |.agg cs=>.agg (AV.aal ρ cs)
 |.tuple cs=>.tuple (AV.aal ρ cs)
 |v=>v
def AV.aal(ρ:Nat→Option Nat):List AV→List AV
 | []=>[]
 |v::vs=>AV.ren ρ v::AV.aal ρ vs
end
mutual
theorem aab.ren{μ μ' :Nat→Place}{n n' :Nat}{ρ:Nat→Option Nat}(hρ:∀b b',b<n→ρ b=some b' →b' <n' ∧μ' b' =μ b):
  ∀{v V},aab μ n v V→aab μ' n' (v.ren ρ) V
 |.undef,V,_=>by simp[AV.ren,aab]
 |.bool b,V,h=>by simpa [AV.ren,aab] using h
 |.int k i,V,h=>by simpa [AV.ren,aab] using h
 |.str s,V,h=>by simpa [AV.ren,aab] using h
 |.ptr b o,V,h=>by
  simp only[aab] at h;simp only[AV.ren];cases hb:ρ b with
  |none=>simp[aab]
  |some b' =>obtain⟨h1,h2⟩:=hρ b b' h.1 hb;simp only[aab];exact⟨h1,by rw[h2];exact h.2⟩
 |.aar,V,h=>by simpa [AV.ren,aab] using h
 |.slice b o l c,V,h=>by
  simp only[aab] at h;simp only[AV.ren];cases hb:ρ b with
  |none=>simp[aab]
  |some b' =>obtain⟨h1,h2⟩:=hρ b b' h.1 hb;simp only[aab];exact⟨h1,by rw[h2];exact h.2⟩
 |.kO,V,h=>by simpa [AV.ren,aab] using h
 |.map b,V,h=>by
  simp only[aab] at h;simp only[AV.ren];cases hb:ρ b with
  |none=>simp[aab]
  |some b' =>obtain⟨h1,h2⟩:=hρ b b' h.1 hb;simp only[aab];exact⟨h1,by rw[h2];exact h.2⟩
 |.yield b,V,h=>by
  simp only[aab] at h;simp only[AV.ren];cases hb:ρ b with
  |none=>simp[aab]
  |some b' =>obtain⟨h1,h2⟩:=hρ b b' h.1 hb;simp only[aab];exact⟨h1,by rw[h2];exact h.2⟩
 |.aau,V,h=>by simpa [AV.ren,aab] using h
 |.func f cs,V,h=>by simp only[aab] at h;simp only[AV.ren,aab];obtain⟨Us,rfl,h⟩:=h;exact⟨Us,rfl,aad.ren hρ h⟩
 |.nilFunc,V,h=>by simpa [AV.ren,aab] using h
 |.iface t v,V,h=>by simp only[aab] at h;simp only[AV.ren,aab];obtain⟨U,rfl,h⟩:=h;exact⟨U,rfl,aab.ren hρ h⟩
 |.nilIface,V,h=>by simpa [AV.ren,aab] using h
 |.agg cs,V,h=>by simp only[aab] at h;simp only[AV.ren,aab];obtain⟨Us,rfl,h⟩:=h;exact⟨Us,rfl,aad.ren hρ h⟩
 |.tuple cs,V,h=>by simp only[aab] at h;simp only[AV.ren,aab];obtain⟨Us,rfl,h⟩:=h;exact⟨Us,rfl,aad.ren hρ h⟩
theorem aad.ren{μ μ' :Nat→Place}{n n' :Nat}{ρ:Nat→Option Nat}(hρ:∀b b',b<n→ρ b=some b' →b' <n' ∧μ' b' =μ b):
  ∀{vs Us},aad μ n vs Us→aad μ' n' (AV.aal ρ vs) Us
 | [],Us,h=>by simpa [AV.aal,aad] using h
 |v::vs,Us,h=>by simp only[aad] at h;simp only[AV.aal,aad];obtain⟨U,Ws,rfl,h1,h2⟩:=h;exact⟨U,Ws,rfl,aab.ren hρ h1,aad.ren hρ h2⟩
end
theorem fN(ρ:Nat→Option Nat):∀vs,AV.aal ρ vs=vs.map (AV.ren ρ)
 | []=>rfl
 |v::vs=>by simp[AV.aal,fN ρ vs]
def AV.qK:AV→Bool
 |.agg _ | .tuple _ | .undef=>false
 |_=>true
def AV.known:AV→Bool
 |.undef=>false
 |_=>true
def AV.cells:AV→List AV
 |.agg cs=>cs
 |v=>[v]
theorem aab.abz{μ n v V}(h:aab μ n v V)(hv:v.qK=true):V.oneCell' =true:=by
 cases v<;>simp[AV.qK] at hv<;>simp only[aab] at h;case bool=>subst h;rfl
 case int=>subst h;rfl
 case str=>subst h;rfl
 case ptr=>rw[h.2];rfl
 case aar=>subst h;rfl
 case slice=>rw[h.2];rfl
 case kO=>subst h;rfl
 case map=>rw[h.2];rfl
 case yield=>rw[h.2];rfl
 case aau=>subst h;rfl
 case func=>obtain⟨_,rfl,_⟩:=h;rfl
 case nilFunc=>subst h;rfl
 case iface=>obtain⟨_,rfl,_⟩:=h;rfl
 case nilIface=>subst h;rfl
theorem aab.cells{μ n v V}(h:aab μ n v V)(hv:v.known=true):aad μ n v.cells V.cells.toList:=by
 cases v<;>simp[AV.known] at hv;case agg cs=>
  simp only[aab] at h;obtain⟨Us,rfl,h⟩:=h;simpa [AV.cells,Value.cells] using h
 all_goals
  have hh:=h;simp only[aab] at h;simp only[AV.cells];first
   |(subst h;simpa [aad,Value.cells] using hh)
   |(obtain⟨_,rfl⟩:=h;simpa [aad,Value.cells] using hh)
   |(obtain⟨_,rfl,_⟩:=h;simpa [aad,Value.cells] using hh)
abbrev Env:=List (Nat×AV)
def aa:Env→Nat→AV
 | [],_=>.undef
 |(k,v)::r,t=>if k=t then v else aa r t
def aaJ(μ:Nat→Place) (n:Nat) (env:Env) (tmps:Array Value):Prop:=∀t,aab μ n (aa env t) (tmps.getD t undef)
theorem aaJ.mono{μ μ' :Nat→Place}{n n' :Nat}{env tmps}(hn:n≤n')(hμ:∀b,b<n→μ' b=μ b)(h:aaJ μ n env tmps):aaJ μ' n' env tmps:=
 fun t=>(h t).mono hn hμ
structure abV where
 st:LoopState
 abv:Option Code
 env:Env
 N:Nat
 ps:Array Tmp
 assign:Code
 body:Code
inductive aae where
 |qF
 |cells (own:Bool) (es:Nat) (cs:List AV)
 |map (es:List (AV×AV))
 |aaF (es:List (AV×AV))
 |loop (r:abV)
 deriving Inhabited
abbrev Mem:=List aae
def aae.own:aae→Bool
 |.cells own _ _=>own
 |.map _=>true
 |.aaF _=>false
 |.loop _=>true
 |.qF=>false
variable{s:aae}
theorem aae.aaO(h:s.own=true):s≠ .qF:=by cases s<;>simp_all[aae.own]
def dL(mem:Mem) (b:Nat):Prop:=∃s,mem[b]? =some s∧s.own=true
variable{b:Nat}{cs:List AV}{mem:Mem}
theorem ji{es:Nat}(h:mem[b]? =some (.cells true es cs)):dL mem b:=⟨_,h,rfl⟩
theorem KH{mem:Mem}{b:Nat}{es}(h:mem[b]? =some (.map es)):dL mem b:=⟨_,h,rfl⟩
theorem P7{mem:Mem}{b:Nat}{r}(h:mem[b]? =some (.loop r)):dL mem b:=⟨_,h,rfl⟩
structure abA (μ:Nat→Place) (n:Nat) (r:abV) (L:Loop):Prop where
 st:L.state=r.st
 abv:L.pending=r.abv
 ps:L.params=r.ps
 assign:L.assign=r.assign
 body:L.body=r.body
 size:L.tmps.size=r.N
 tmps:aaJ μ n r.env L.tmps
def Oe(μ:Nat→Place) (n:Nat) (e:AV×AV) (E:MapEntry):Prop:=aab μ n e.1 E.key∧aab μ n e.2 E.val
def acv(p:Place) (es:Nat) (e:TypeId):Prop:=p.es=es%1000∧(1000≤es→e+1=es / 1000)
variable{p:Place}
theorem acv.small{es:Nat}{e:TypeId}(h:p.es=es)(hs:es<1000):acv p es e:=⟨by rw[h,Nat.mod_eq_of_lt hs],fun h1=>by omega⟩
theorem acv.es{es:Nat}{e:TypeId}(h:acv p es e)(hs:es<1000):p.es=es:=by rw[h.1,Nat.mod_eq_of_lt hs]
def CG(Do:Array MapEntry) (FS:Nat):Prop:=FS=Do.size∧∀(j:Nat) E,Do[j]? =some E→E.born=j
def aap(μ:Nat→Place) (n base:Nat) (w:World) (p:Place):aae→Prop
 |.qF=>True
 |.cells own es cs=>∃cur e fr,w.heap[p.blk]? =some (.cells cur e fr)∧acv p es e∧cs.length≤p.tot∧
   (∀(j:Nat) v,cs[j]? =some v→∃V,cur[p.off+j]? =some V∧aab μ n v V)∧
   (own=true→p.off=0∧fr=(0,0)∧cur.size=p.tot∧base≤p.blk)
 |.map es=>∃Do FS,w.heap[p.blk]? =some (.map Do FS)∧(base≤p.blk∧CG Do FS)∧Do.size=es.length∧
   ∀(j:Nat) e,es[j]? =some e→∃E,Do[j]? =some E∧Oe μ n e E
 |.aaF es=>∃Do FS,w.heap[p.blk]? =some (.map Do FS)∧CG Do FS∧Do.size=es.length∧
   ∀(j:Nat) e,es[j]? =some e→∃E,Do[j]? =some E∧Oe μ n e E
 |.loop r=>∃L,w.heap[p.blk]? =some (.loop L)∧base≤p.blk∧abA μ n r L
structure aam (base:Nat) (μ:Nat→Place) (mem:Mem) (w:World):Prop where
 aai:base≤w.heap.size
 slot:∀b s,mem[b]? =some s→aap μ mem.length base w (μ b) s
 sep:∀b b' s',dL mem b→mem[b']? =some s' →s' ≠ .qF→b≠b' →(μ b).blk≠(μ b').blk
structure Step (m0:Nat) (μ:Nat→Place) (mem:Mem) (w:World) (μ' :Nat→Place) (mem' :Mem) (w' :World):Prop where
 len:m0≤mem'.length
 agree:∀b,b<m0→μ' b=μ b
 os:w'.os=w.os
 tape:w'.tape=w.tape
 output:w'.output=w.output
 size:w.heap.size≤w'.heap.size
 frame:∀k,k<w.heap.size→(∀b,dL mem b→(μ b).blk≠k)→w'.heap[k]? =w.heap[k]?
 owner:∀b,dL mem' b→(μ' b).blk<w.heap.size→∃b0,dL mem b0∧(μ b0).blk=(μ' b).blk
 drawn:w.drawn≤w'.drawn
theorem Step.refl{m0 μ mem w}(h:m0≤mem.length):Step m0 μ mem w μ mem w:=
 ⟨h,fun _ _=>rfl,rfl,rfl,rfl,Nat.le_refl _,fun _ _ _=>rfl,fun b hb _=>⟨b,hb,rfl⟩,Nat.le_refl _⟩
theorem Step.trans{m0 μ mem w μ' mem' w' μ'' mem'' w''}(h:Step m0 μ mem w μ' mem' w')(h' :Step m0 μ' mem' w' μ'' mem'' w''):
  Step m0 μ mem w μ'' mem'' w'' :=by
 refine⟨h'.len,fun b hb=>(h'.agree b hb).trans (h.agree b hb),h'.os.trans h.os,h'.tape.trans h.tape,h'.output.trans h.output,
  Nat.le_trans h.size h'.size,fun k hk hf=>?_,fun b hb AC=>?_,Nat.le_trans h.drawn h'.drawn⟩
 ·rw[h'.frame k (Nat.lt_of_lt_of_le hk h.size) ?_,h.frame k hk hf]
  intro b hb he;obtain⟨b0,h0,h1⟩:=h.owner b hb (he▸hk);exact hf b0 h0 (h1.trans he)
 ·obtain⟨b1,h1,h2⟩:=h'.owner b hb (Nat.lt_of_lt_of_le AC h.size)
  obtain⟨b0,h3,h4⟩:=h.owner b1 h1 (h2▸AC);exact⟨b0,h3,h4.trans h2⟩
theorem Step.mono{m0 m1 μ mem w μ' mem' w'}(h:Step m1 μ mem w μ' mem' w')(hm:m0≤m1):Step m0 μ mem w μ' mem' w' :=
 ⟨Nat.le_trans hm h.len,fun b hb=>h.agree b (Nat.lt_of_lt_of_le hb hm),h.os,h.tape,h.output,h.size,h.frame,h.owner,h.drawn⟩
theorem aam.abh{base μ mem w w'}(h:aam base μ mem w)(hw:w'.heap=w.heap):aam base μ mem w' :=by
 refine⟨by rw[hw];exact h.aai,fun b s hs=>?_,h.sep⟩;have:=h.slot b s hs;cases s with
 |qF=>trivial
 |cells own esz cs=>simp only[aap] at this ⊢;rw[hw];exact this
 |map es=>simp only[aap] at this ⊢;rw[hw];exact this
 |aaF es=>simp only[aap] at this ⊢;rw[hw];exact this
 |loop r=>simp only[aap] at this ⊢;rw[hw];exact this
theorem Step.drew{m0 μ mem w}(h:m0≤mem.length):Step m0 μ mem w μ mem w.drew:=
 ⟨h,fun _ _=>rfl,rfl,rfl,rfl,Nat.le_refl _,fun _ _ _=>rfl,fun b hb _=>⟨b,hb,rfl⟩,Nat.le_succ _⟩
variable{w:World}
theorem aap.mono{μ μ' :Nat→Place}{n n' base:Nat}{w' :World}(hn:n≤n')(hμ:∀b,b<n→μ' b=μ b)(hw:s≠ .qF→w'.heap[p.blk]? =w.heap[p.blk]?)(h:aap μ n base w p s):aap μ' n' base w' p s:=by
 cases s with
 |qF=>trivial
 |cells own esz cs=>
  simp only[aap] at h ⊢;obtain⟨cur,e,fr,h1,h1a,XQ,h2,h3⟩:=h;refine⟨cur,e,fr,by rw[hw (by simp),h1],h1a,XQ,fun j v hv=>?_,h3⟩;obtain⟨V,hV,hr⟩:=h2 j v hv;exact⟨V,hV,hr.mono hn hμ⟩
 |map es=>
  simp only[aap] at h ⊢;obtain⟨Do,FS,h1,h2,h3,h4⟩:=h;refine⟨Do,FS,by rw[hw (by simp),h1],h2,h3,fun j e he=>?_⟩;obtain⟨E,hE,WL,WR⟩:=h4 j e he;exact⟨E,hE,WL.mono hn hμ,WR.mono hn hμ⟩
 |aaF es=>
  simp only[aap] at h ⊢;obtain⟨Do,FS,h1,h2,h3,h4⟩:=h;refine⟨Do,FS,by rw[hw (by simp),h1],h2,h3,fun j e he=>?_⟩;obtain⟨E,hE,WL,WR⟩:=h4 j e he;exact⟨E,hE,WL.mono hn hμ,WR.mono hn hμ⟩
 |loop r=>
  simp only[aap] at h ⊢;obtain⟨L,h1,h2,h3⟩:=h;exact⟨L,by rw[hw (by simp),h1],h2,{ h3 with tmps:=h3.tmps.mono hn hμ }⟩
theorem aap.aaY{μ n base w p s}(h:aap μ n base w p s)(hs:s≠ .qF):p.blk<w.heap.size:=by
 cases s with
 |qF=>exact absurd rfl hs
 |cells own esz cs=>simp only[aap] at h;obtain⟨cur,e,fr,h1,_⟩:=h;exact(Array.getElem?_eq_some_iff.1 h1).1
 |map es=>simp only[aap] at h;obtain⟨Do,FS,h1,_⟩:=h;exact(Array.getElem?_eq_some_iff.1 h1).1
 |aaF es=>simp only[aap] at h;obtain⟨Do,FS,h1,_⟩:=h;exact(Array.getElem?_eq_some_iff.1 h1).1
 |loop r=>simp only[aap] at h;obtain⟨L,h1,_⟩:=h;exact(Array.getElem?_eq_some_iff.1 h1).1
def upd(μ:Nat→Place) (b:Nat) (p:Place):Nat→Place:=fun x=>if x=b then p else μ x
theorem dT{μ b p}:upd μ b p b=p:=by simp[upd]
theorem vE{μ b p x}(h:x<b):upd μ b p x=μ x:=by simp[upd];intro h';omega
theorem kJ(hb:b<mem.length):dL (mem++[s]) b↔dL mem b:=by simp[dL,List.getElem?_append_left hb]
theorem gH(w:World)(o:Obj){k:Nat}(h:k<w.heap.size):(w.alloc o).heap[k]? =w.heap[k]? :=heap_alloc_old w o k h
theorem aam.push{base μ mem w}(h:aam base μ mem w)(o:Obj)(s:aae)(p:Place)(hp:p.blk=w.heap.size)(hs:aap (upd μ mem.length p) (mem.length+1) base (w.alloc o) p s):
  aam base (upd μ mem.length p) (mem++[s]) (w.alloc o)∧
  Step mem.length μ mem w (upd μ mem.length p) (mem++[s]) (w.alloc o):=by
 have hμ:∀b,b<mem.length→upd μ mem.length p b=μ b:=fun b hb=>vE hb
 constructor
 ·refine⟨by simp;have:=h.aai;omega,fun b t ht=>?_,fun b b' s' hb J' H' XE=>?_⟩
  ·rw[List.length_append,List.length_singleton]
   by_cases AC:b<mem.length
   ·rw[List.getElem?_append_left AC] at ht
    rw[hμ b AC];refine(h.slot b t ht).mono (Nat.le_succ _) hμ fun H'=>?_
    exact gH w o ((h.slot b t ht).aaY H')
   ·have hbe:b=mem.length:=by have:=(List.getElem?_eq_some_iff.1 ht).1;simp at this;omega
    subst hbe;simp at ht;subst ht;rw[dT];exact hs
  ·by_cases h1:b<mem.length<;>by_cases h2:b' <mem.length
   ·rw[hμ b h1,hμ b' h2]
    exact h.sep b b' s' ((kJ h1).1 hb) (by rwa [List.getElem?_append_left h2] at J') H' XE
   ·have hbe:b' =mem.length:=by have:=(List.getElem?_eq_some_iff.1 J').1;simp at this;omega
    subst hbe;rw[dT,hμ b h1,hp];have:(μ b).blk<w.heap.size:=by obtain⟨s0,hc,ho⟩:=(kJ h1).1 hb;exact(h.slot b _ hc).aaY (aae.aaO ho)
    omega
   ·have hbe:b=mem.length:=by obtain⟨s0,hc,ho⟩:=hb;have:=(List.getElem?_eq_some_iff.1 hc).1;simp at this;omega
    subst hbe;rw[dT,hμ b' h2,hp];have:=(h.slot b' s' (by rwa [List.getElem?_append_left h2] at J')).aaY H';omega
   ·have hbe:b' =mem.length:=by have:=(List.getElem?_eq_some_iff.1 J').1;simp at this;omega
    have hbe2:b=mem.length:=by obtain⟨s0,hc,ho⟩:=hb;have:=(List.getElem?_eq_some_iff.1 hc).1;simp at this;omega
    omega
 ·refine⟨by simp,hμ,rfl,rfl,rfl,by simp,fun k hk _=>gH w o hk,fun b hb AC=>?_,Nat.le_refl _⟩
  by_cases h1:b<mem.length
  ·exact⟨b,(kJ h1).1 hb,by rw[hμ b h1]⟩
  ·have hbe2:b=mem.length:=by obtain⟨s0,hc,ho⟩:=hb;have:=(List.getElem?_eq_some_iff.1 hc).1;simp at this;omega
   subst hbe2;rw[dT,hp] at AC;omega
theorem aam.write{base μ mem w}(h:aam base μ mem w){b:Nat}{s s' :aae}(hb:mem[b]? =some s)(Xn:dL mem b)(hown' :s' ≠ .qF→dL (mem.set b s') b){w' :World}(hdr:w'.drawn=w.drawn)(hos:w'.os=w.os)(Z2:w'.tape=w.tape)(hout:w'.output=w.output)(Xd:w'.heap.size=w.heap.size)(hoth:∀k,k≠(μ b).blk→w'.heap[k]? =w.heap[k]?)(hs:aap μ mem.length base w' (μ b) s'):
  aam base μ (mem.set b s') w' ∧Step mem.length μ mem w μ (mem.set b s') w' :=by
 have AC:b<mem.length:=(List.getElem?_eq_some_iff.1 hb).1;have own:∀x,dL (mem.set b s') x→dL mem x:=by
  intro x hx;by_cases hxb:x=b
  ·subst hxb;exact Xn
  ·obtain⟨s0,hc,ho⟩:=hx
   rw[List.getElem?_set_ne (Ne.symm hxb)] at hc;exact⟨s0,hc,ho⟩
 constructor
 ·refine⟨by rw[Xd];exact h.aai,fun x t ht=>?_,fun x x' t hx YN H' hxx=>?_⟩
  ·rw[List.length_set]
   by_cases hxb:x=b
   ·subst hxb
    rw[List.getElem?_set_self AC] at ht;cases ht;exact hs
   ·rw[List.getElem?_set_ne (Ne.symm hxb)] at ht
    refine(h.slot x t ht).mono (Nat.le_refl _) (fun _ _=>rfl) fun H'=>hoth _ ?_
    exact fun he=>h.sep b x t Xn ht H' (Ne.symm hxb) he.symm
  ·by_cases hxb:x' =b
   ·subst hxb
    have:=h.sep x x' s (own x hx) hb ?_ hxx
    ·exact this
    ·obtain⟨s0,hc,ho⟩:=Xn
     rw[hc] at hb;cases hb;exact aae.aaO ho
   ·rw[List.getElem?_set_ne (Ne.symm hxb)] at YN
    exact h.sep x x' t (own x hx) YN H' hxx
 ·refine⟨by simp,fun _ _=>rfl,hos,Z2,hout,by omega,fun k hk hf=>hoth k ?_,fun x hx _=>⟨x,own x hx,rfl⟩,Nat.le_of_eq hdr.symm⟩
  exact fun he=>hf b Xn he.symm
structure TyI where
 desc:TypeDesc
 size:Nat
 bytes:Nat
 zero:Value
 ab1:Bool
 deriving Inhabited
structure ade (P:Program) (t:TypeId) (i:TyI):Prop where
 desc:P.underlying t=some i.desc
 info:∃f,P.info? t=some f∧f.size=i.size∧f.bytes=i.bytes∧f.zero=some i.zero
 abB:i.zero.cells.size=i.size
 ab1:i.ab1=true→P.stoodInHeld t=false∧P.eqGuardType P.depth t=false
def TyI.isAgg(i:TyI):Bool:=match i.desc with | .struct _ | .array _ _=>true | _=>false
def cH(P:Program) (T:TypeId→Option TyI):Prop:=∀t i,T t=some i→ade P t i
def jn:Value→AV
 |.bool b=>.bool b
 |.int k n=>.int k n
 |.string s=>.str s.data.toList
 |.pointer none=>.aar
 |.slice none 0 0=>.kO
 |.map none=>.aau
 |.nilFunc=>.nilFunc
 |.nilIface=>.nilIface
 |_=>.undef
def iL:Value→AV
 |.agg cs=>.agg (cs.toList.map jn)
 |v=>jn v
theorem ou(μ:Nat→Place)(n:Nat)(v:Value):aab μ n (jn v) v:=by unfold jn;split<;>simp[aab]
theorem mu(μ:Nat→Place) (n:Nat):∀vs:List Value,aad μ n (vs.map jn) vs
 | []=>by simp[aad]
 |v::vs=>bj.2 ⟨ou μ n v,mu μ n vs⟩
theorem wm(μ:Nat→Place)(n:Nat)(v:Value):aab μ n (iL v) v:=by
 unfold iL;split
 ·rename_i cs;simp only[aab];exact⟨cs.toList,by simp,mu μ n _⟩
 ·exact ou μ n _
def get(env:Env):Operand→AV
 |.tmp t=>aa env t
 |.const v=>iL v
 |.global _=>.undef
 |.func f=>.func f []
def Vl(env:Env) (xs:Array Operand):List AV:=xs.toList.map (get env)
theorem aW{μ n env}{a:Act}(h:aaJ μ n env a.tmps)(x:Operand):aab μ n (get env x) (a.eval x):=by
 cases x with
 |tmp t=>exact h t
 |const v=>exact wm μ n v
 |global g=>simp[get,aab]
 |func f=>simp only[get,aab,Act.eval];exact⟨[],rfl,by simp[aad]⟩
theorem zp{μ n env}{a:Act}(h:aaJ μ n env a.tmps)(xs:List Operand):aad μ n (xs.map (get env)) (xs.map a.eval):=by
 induction xs with
 |nil=>simp[aad]
 |cons x xs ih=>exact bj.2 ⟨aW h x,ih⟩
theorem aaJ.put{μ n env}{a:Act}{d:Nat}{v:AV}{V:Value}(h:aaJ μ n env a.tmps)(hd:d<a.tmps.size)(hv:aab μ n v V):
  aaJ μ n ((d,v)::env) (a.put (some d) V).tmps:=by
 intro t;simp only[aa,Act.put];by_cases hdt:d=t
 ·subst hdt
  simp only[if_true,Array.getD_eq_getD_getElem?,Array.getElem?_setIfInBounds_self];simpa [hd] using hv
 ·simp only[hdt,if_false,Array.getD_eq_getD_getElem?,Array.getElem?_setIfInBounds_ne hdt]
  simpa [Array.getD_eq_getD_getElem?] using h t
def gd:Nat:=9223372036854775807
def V0(op:BinOp) (k:IntKind) (a b:Int):Option AV:=
 match op with
 |.add=>some (.int k (k.wrap (a+b)))
 |.sub=>some (.int k (k.wrap (a-b)))
 |.mul=>some (.int k (k.wrap (a*b)))
 |.quo=>if b=0 then none else some (.int k (k.wrap (a.tdiv b)))
 |.rem=>if b=0 then none else some (.int k (a.tmod b))
 |.eql=>some (.bool (decide (a=b)))
 |.neq=>some (.bool (!decide (a=b)))
 |.lss=>some (.bool (decide (a<b)))
 |.leq=>some (.bool (decide (a≤b)))
 |.gtr=>some (.bool (decide (b<a)))
 |.geq=>some (.bool (decide (b≤a)))
 |_=>none
def V2(op:BinOp) (s t:List UInt8):Option AV:=
 match op with
 |.add=>if s.length+t.length≤gd then some (.str (s++t)) else none
 |.eql=>some (.bool (s==t))
 |.neq=>some (.bool (!(s==t)))
 |.lss=>some (.bool (Op.bytesLess s t))
 |.leq=>some (.bool (Op.bytesLess s t||s==t))
 |.gtr=>some (.bool (!(Op.bytesLess s t||s==t)))
 |.geq=>some (.bool (!Op.bytesLess s t))
 |_=>none
def fR(i:TyI) (cs:List AV) (off:Nat):Option AV:=
 if i.isAgg then (if off+i.size≤cs.length then some (.agg ((cs.drop off).take i.size)) else none) else cs[off]?
def Kl(T:TypeId→Option TyI) (q:TypeId→AV→AV→Option Bool) (xs ys:List AV):List Field→Option Bool
 | []=>some true
 |f::fs=>
  if f.name = "_" then none else
  match T f.type with
  |none=>none
  |some i=>
   match fR i xs f.offset,fR i ys f.offset with
   |some a,some b=>
    match q f.type a b,Kl T q xs ys fs with
    |some p,some r=>some (p&&r)
    |_,_=>none
   |_,_=>none
def Ug(q:AV→AV→Option Bool) (i:TyI) (xs ys:List AV):List Nat→Option Bool
 | []=>some true
 |j::js=>
  match fR i xs (j*i.size),fR i ys (j*i.size) with
  |some a,some b=>
   match q a b,Ug q i xs ys js with
   |some p,some r=>some (p&&r)
   |_,_=>none
  |_,_=>none
def iI(T:TypeId→Option TyI):Nat→TypeId→AV→AV→Option Bool
 |0,_,_,_=>none
 |d+1,t,x,y=>
  match T t with
  |none=>none
  |some i=>
   match i.desc,x,y with
   |.bool,.bool a,.bool b=>some (a==b)
   |.int _,.int k a,.int k' b=>if k=k' then some (decide (a=b)) else none
   |.string,.str a,.str b=>some (a==b)
   |.struct fs,.agg xs,.agg ys=>if i.ab1 then Kl T (iI T d) xs ys fs.toList else none
   |.array n e,.agg xs,.agg ys=>if i.ab1 then (match T e with
    |some j=>Ug (iI T d e) j xs ys (List.range' 0 n)
    |none=>none) else none
   |_,_,_=>none
def qO:Operand→Bool
 |.const _=>true
 |_=>false
def Qs(T:TypeId→Option TyI) (t:TypeId) (r c:Bool) (x y:AV):Option Bool:=
 match T t with
 |none=>none
 |some i=>
  match i.desc,x,y with
  |.slice _,.slice _ _ _ _,.kO=>some false
  |.slice _,.kO,.kO=>some true
  |.pointer _,.aar,.aar=>some true
  |.pointer _,.ptr _ _,.aar=>some false
  |.func _ _ _,.nilFunc,.nilFunc=>some true
  |.func _ _ _,.func _ _,.nilFunc=>some false
  |.interface _,.nilIface,.nilIface=>if r||c then some true else none
  |.interface _,.iface _ _,.nilIface=>some false
  |_,_,_=>none
def VY(T:TypeId→Option TyI) (op:BinOp) (t:TypeId) (r c:Bool) (x y:AV):Option AV:=
 match x,y with
 |.int k a,.int k' b=>if k=k' then V0 op k a b else none
 |.str s,.str t=>V2 op s t
 |.bool a,.bool b=>match T t with
  |some i=>match i.desc,op with
   |.bool,.eql=>some (.bool (a==b))
   |.bool,.neq=>some (.bool (!(a==b)))
   |_,_=>none
  |none=>none
 |.agg xs,.agg ys=>match op with
  |.eql=>(iI T 20 t (.agg xs) (.agg ys)).map .bool
  |.neq=>(iI T 20 t (.agg xs) (.agg ys)).map fun b=>.bool (!b)
  |_=>none
 |x,y=>match op with
  |.eql=>(Qs T t r c x y).map .bool
  |.neq=>(Qs T t r c x y).map fun b=>.bool (!b)
  |_=>none
def kB(YO:Nat→Option (Nat×Nat)) (cells:List AV):List (Nat×AV)→Option (List AV)
 | []=>some cells
 |(i,v)::rest=>
  match YO i with
  |none=>none
  |some (off,size)=>
   if v.known&&decide (v.cells.length=size)&&decide (off+size≤cells.length) then
    kB YO (cells.take off++v.cells++cells.drop (off+size)) rest
   else none
def aL(T:TypeId→Option TyI) (fs:Array Field) (i:Nat):Option (Nat×Nat):=
 match fs[i]? with
 |some f=>match T f.type with
  |some j=>some (f.offset,j.size)
  |none=>none
 |none=>none
def bO(T:TypeId→Option TyI) (t:TypeId) (parts:List (Nat×AV)):Option AV:=
 match T t with
 |none=>none
 |some i=>
  match i.desc with
  |.struct fs=>if fs.all (fun f=>(T f.type).isSome) then (kB (aL T fs) (iL i.zero).cells parts).map .agg else none
  |.array _ e=>match T e with
   |some j=>(kB (fun k=>some (k*j.size,j.size)) (iL i.zero).cells parts).map .agg
   |none=>none
  |_=>none
def zi(T:TypeId→Option TyI) (s d:TypeId) (x:AV):Option AV:=
 match T s,T d with
 |some i,some j=>
  match i.desc,j.desc,x with
  |.int _,.int k,.int _ n=>some (.int k (k.wrap n))
  |.string,.string,.str s=>some (.str s)
  |_,_,_=>none
 |_,_=>none
def Dq(n:Nat):Option AV→Option Int
 |none=>some n
 |some (.int _ h)=>some h
 |_=>none
def Kx:Option AV→Option Int
 |none=>some 0
 |some (.int _ h)=>some h
 |_=>none
def ND(T:TypeId→Option TyI) (mem:Mem) (t:TypeId) (x:AV) (lo hi:Option AV):Option AV:=
 match T t with
 |none=>none
 |some i=>
  match i.desc,x with
  |.string,.str s=>
   match Dq s.length hi,Kx lo with
   |some h,some l=>if 0≤l∧l≤h∧h≤s.length then some (.str ((s.drop l.toNat).take (h.toNat-l.toNat))) else none
   |_,_=>none
  |.slice e,.slice b o n c=>
   match T e,mem[b]? with
   |some j,some (.cells _ es cs)=>
    match Dq n hi,Kx lo with
    |some h,some l=>
     if 0≤l∧l≤h∧h≤n∧(l=0∨l<n)∧es=j.size∧0<es∧es<1000∧o+n*es≤cs.length∧c=none then
      some (.slice b (o+l.toNat*es) (h.toNat-l.toNat) none) else none
    |_,_=>none
   |_,_=>none
  |.slice e,.kO=>
   match T e with
   |some _=>
    match Dq 0 hi,Kx lo with
    |some h,some l=>if h=0∧l=0 then some .kO else none
    |_,_=>none
   |none=>none
  |.array n e,.ptr b o=>
   match T e with
   |some j=>
    match Dq n hi,Kx lo with
    |some h,some l=>
     if 0≤l∧l≤h∧h≤n∧l<n then some (.slice b (o+l.toNat*j.size) (h.toNat-l.toNat) (some (n-l.toNat))) else none
    |_,_=>none
   |none=>none
  |_,_=>none
def rN(T:TypeId→Option TyI) (t:TypeId) (x i:AV):Option AV:=
 match T t with
 |none=>none
 |some ti=>
  match ti.desc,x,i with
  |.slice e,.slice b o n _,.int _ k=>match T e with
   |some j=>if 0≤k∧k<n then some (.ptr b (o+k.toNat*j.size)) else none
   |none=>none
  |.array n e,.ptr b o,.int _ k=>match T e with
   |some j=>if 0≤k∧k<n then some (.ptr b (o+k.toNat*j.size)) else none
   |none=>none
  |_,_,_=>none
def NC(T:TypeId→Option TyI) (t:TypeId) (x i:AV):Option AV:=
 match T t with
 |none=>none
 |some ti=>
  match ti.desc,x,i with
  |.array n e,.agg cs,.int _ k=>match T e with
   |some j=>if 0≤k∧k<n then fR j cs (k.toNat*j.size) else none
   |none=>none
  |.string,.str s,.int _ k=>if 0≤k then (match s[k.toNat]? with | some c=>some (.int .u8 c.toNat) | none=>none) else none
  |_,_,_=>none
def lY(T:TypeId→Option TyI) (t:TypeId) (x:AV) (f:Nat):Option AV:=
 match T t with
 |none=>none
 |some ti=>
  match ti.desc,x with
  |.struct fs,.agg cs=>match fs[f]? with
   |some fd=>match T fd.type with
    |some j=>fR j cs fd.offset
    |none=>none
   |none=>none
  |_,_=>none
def rL(T:TypeId→Option TyI) (t:TypeId) (x:AV) (f:Nat):Option AV:=
 match T t with
 |none=>none
 |some ti=>
  match ti.desc,x with
  |.struct fs,.ptr b o=>match fs[f]? with
   |some fd=>match T fd.type with
    |some j=>if j.size=0 then none else some (.ptr b (o+fd.offset))
    |none=>none
   |none=>none
  |_,_=>none
def dY(T:TypeId→Option TyI) (t:TypeId) (mem:Mem) (x:AV):Option AV:=
 match T t with
 |none=>none
 |some ti=>
  match ti.desc,x with
  |.string,.str s=>some (.int .i64 s.length)
  |.slice _,.slice _ _ n _=>some (.int .i64 n)
  |.slice _,.kO=>some (.int .i64 0)
  |.array n _,_=>some (.int .i64 n)
  |.map _ _,.aau=>some (.int .i64 0)
  |.map _ _,.map b=>match mem[b]? with
   |some (.map es)=>some (.int .i64 es.length)
   |_=>none
  |_,_=>none
def PA(T:TypeId→Option TyI) (mem:Mem) (t:TypeId) (x:AV):Option AV:=
 match T t,x with
 |some i,.ptr b o=>match mem[b]? with
  |some (.cells _ _ cs)=>fR i cs o
  |_=>none
 |_,_=>none
def ko(T:TypeId→Option TyI) (mem:Mem) (t:TypeId) (x v:AV):Option Mem:=
 match T t,x with
 |some i,.ptr b o=>match mem[b]? with
  |some (.cells true es cs)=>
   if v.known&&decide (v.cells.length=i.size)&&decide (o+i.size≤cs.length)&&v.cells.all AV.qK then
    some (mem.set b (.cells true es (cs.take o++v.cells++cs.drop (o+i.size)))) else none
  |_=>none
 |_,_=>none
variable{i:TyI}{k:IntKind}{op:BinOp}{v:AV}{x:Sem Value}
section
variable {P:Program}{T:TypeId→Option TyI}{μ:Nat→Place}{n:Nat}
def Val(P:Program) (x:Sem Value) (w:World) (μ:Nat→Place) (n:Nat) (v:AV):Prop:=∃V,x.run P w=.ok V w∧aab μ n v V
theorem Val.int{i:Int}(h:x.run P w=.ok (.int k i) w):Val P x w μ n (.int k i):=⟨_,h,by simp[aab]⟩
theorem Val.bool{b:Bool}(h:x.run P w=.ok (.bool b) w):Val P x w μ n (.bool b):=⟨_,h,by simp[aab]⟩
theorem Val.str{s:List UInt8}(h:x.run P w=.ok (.string ⟨s.toArray⟩) w):Val P x w μ n (.str s):=⟨_,h,by simp[aab]⟩
theorem Py{a b:Int}(h:V0 op k a b=some v)(t:TypeId)(w:World):
  Val P (binOp op t (.int k a) (.int k b)) w μ n v:=by
 cases op<;>simp only[V0,Option.some.injEq,reduceCtorEq] at h;case add=>subst h;exact .int (by simp[binOp,Op.intArith])
 case sub=>subst h;exact .int (by simp[binOp,Op.intArith])
 case mul=>subst h;exact .int (by simp[binOp,Op.intArith])
 case quo=>
  split at h
  ·cases h
  ·rename_i hb;cases h;exact .int (by simp[binOp,Op.intDiv,hb])
 case rem=>
  split at h
  ·cases h
  ·rename_i hb;cases h;exact .int (by simp[binOp,Op.intDiv,hb])
 case eql=>subst h;exact .bool (by simp[binOp,Op.intCmp];try (rw[Bool.eq_iff_iff];simp))
 case neq=>subst h;exact .bool (by simp[binOp,Op.intCmp];try (rw[Bool.eq_iff_iff];simp))
 case lss=>subst h;exact .bool (by simp[binOp,Op.intCmp])
 case leq=>subst h;exact .bool (by simp[binOp,Op.intCmp])
 case gtr=>subst h;exact .bool (by simp[binOp,Op.intCmp])
 case geq=>subst h;exact .bool (by simp[binOp,Op.intCmp])
theorem PC{s u:List UInt8}(h:V2 op s u=some v)(t:TypeId)(w:World):
  Val P (binOp op t (.string ⟨s.toArray⟩) (.string ⟨u.toArray⟩)) w μ n v:=by
 cases op<;>simp only[V2,Option.some.injEq,reduceCtorEq] at h;case add=>
  split at h
  ·rename_i hl
   cases h;refine .str ?_;have:¬((9223372036854775807:Int)<((s.length:Int)+(u.length:Int))):=by simp only[gd] at hl;omega
   have hs:(ByteArray.mk s.toArray).size=s.length:=by simp[ByteArray.size]
   have hu:(ByteArray.mk u.toArray).size=u.length:=by simp[ByteArray.size]
   have hcat:(ByteArray.mk s.toArray)++(ByteArray.mk u.toArray)=ByteArray.mk (s++u).toArray:=by apply ByteArray.ext;simp
   simp[binOp,Op.stringOp,hs,hu,this,hcat]
  ·cases h
 case eql=>subst h;exact .bool (by simp[binOp,Op.stringOp])
 case neq=>subst h;exact .bool (by simp[binOp,Op.stringOp])
 case lss=>subst h;exact .bool (by simp[binOp,Op.stringOp])
 case leq=>subst h;exact .bool (by simp[binOp,Op.stringOp])
 case gtr=>subst h;exact .bool (by simp[binOp,Op.stringOp])
 case geq=>subst h;exact .bool (by simp[binOp,Op.stringOp])
section
variable (hT:cH P T){t:TypeId}
include hT t
section
variable (h:T t=some i)
include h
theorem vh(w:World):(Go.isAgg t).run P w=.ok i.isAgg w:=by have hd:=(hT t i h).desc;simp only[Go.isAgg,Sem.run_bind,run_underlying hd,Result.andThen_ok,TyI.isAgg];cases i.desc<;>rfl
theorem cA(w:World):(Go.sizeOf t).run P w=.ok i.size w:=by obtain⟨f,hf,hs,_,_⟩:=(hT t i h).info;simp[Go.sizeOf,typeInfo,hf,hs]
theorem xW(w:World):∃f,(typeInfo t).run P w=.ok f w∧f.size=i.size∧f.bytes=i.bytes∧f.zero=some i.zero:=by obtain⟨f,hf,hs,hb,hz⟩:=(hT t i h).info;exact⟨f,by simp[typeInfo,hf],hs,hb,hz⟩
theorem dU(w:World):(zeroValue t).run P w=.ok i.zero w:=by obtain⟨f,hf,hs,hb,hz⟩:=xW hT h w;simp[zeroValue,hf,hz]
end
theorem iE(ht:T t=some i){Cs:List Value}{off:Nat}(h:fR i cs off=some v)(hr:aad μ n cs Cs)(w:World):Val P (part t ⟨Cs⟩ off) w μ n v:=by
 unfold fR at h;simp only[part,Val];cases hi:i.isAgg with
 |true=>
  simp only[hi,if_true] at h;split at h
  ·rename_i Xr
   cases h;have A':=hr.length;refine⟨.agg (Array.extract ⟨Cs⟩ off (off+i.size)),?_,?_⟩
   ·simp[vh hT ht,cA hT ht,hi]
   ·simp only[aab]
    refine⟨(Cs.drop off).take i.size,?_,(hr.drop off).take i.size⟩;congr 1;apply Array.ext';simp[List.extract]
  ·cases h
 |false=>
  simp only[hi,Bool.false_eq_true,if_false] at h;obtain⟨U,hU,hv⟩:=hr.get off v h;exact⟨U,by simp[vh hT ht,hi,hU],hv⟩
end
theorem aab.bool{b V}(h:aab μ n (.bool b) V):V=.bool b:=by simpa [aab] using h
theorem aab.int{k i V}(h:aab μ n (.int k i) V):V=.int k i:=by simpa [aab] using h
theorem aab.str{s V}(h:aab μ n (.str s) V):V=.string ⟨s.toArray⟩:=by simpa [aab] using h
theorem aab.agg{cs V}(h:aab μ n (.agg cs) V):∃Us,V=.agg ⟨Us⟩∧aad μ n cs Us:=by simpa only[aab] using h
theorem Dp(hT:cH P T) {d:Nat}{q:TypeId→AV→AV→Option Bool}
  (ih:∀{t:TypeId}{x y:AV}{b:Bool}{X Y:Value},q t x y=some b→aab μ n x X→aab μ n y Y→∀(w:World),(Op.equalIn d t X Y).run P w=.ok b w)
  {xs ys:List AV}{Xs Ys:List Value}(hx:aad μ n xs Xs) (hy:aad μ n ys Ys) (w:World):
  ∀{fs:List Field}{b:Bool},Kl T q xs ys fs=some b→(Op.eqFields d ⟨Xs⟩ ⟨Ys⟩ fs).run P w=.ok b w
 | [],b,h=>by simp only[Kl,Option.some.injEq] at h;subst h;simp[Op.eqFields]
 |f::fs,b,h=>by
  rw[Kl] at h;split at h
  ·cases h
  ·rename_i Z4
   split at h
   ·cases h
   ·rename_i i ht
    split at h
    ·rename_i a c ha hc
     split at h
     ·rename_i p r hp hr
      cases h;obtain⟨A,hA,hrA⟩:=iE (P:=P) (μ:=μ) (n:=n) hT ht ha hx w;obtain⟨C,hC,hrC⟩:=iE (P:=P) (μ:=μ) (n:=n) hT ht hc hy w;have h1:=ih hp hrA hrC w;have h2:=Dp hT ih hx hy w hr;simp only[Op.eqFields,Z4,ne_eq,not_false_eq_true,if_true,Sem.run_bind,hA,hC,h1,Result.andThen_ok];cases p
      ·simp
      ·simp[h2]
     ·cases h
    ·cases h
theorem Dn(hT:cH P T) {d:Nat}{e:TypeId}{i:TyI}(hi:T e=some i) {q:AV→AV→Option Bool}
  (ih:∀{x y:AV}{b:Bool}{X Y:Value},q x y=some b→aab μ n x X→aab μ n y Y→∀(w:World),(Op.equalIn d e X Y).run P w=.ok b w)
  {xs ys:List AV}{Xs Ys:List Value}(hx:aad μ n xs Xs) (hy:aad μ n ys Ys) (w:World):
  ∀{js:List Nat}{b:Bool},Ug q i xs ys js=some b→
   ((forIn js ((none,()):Option Bool×Unit) fun j _=>(do
     let a ←part e ⟨Xs⟩ (j*i.size)
     let c ←part e ⟨Ys⟩ (j*i.size)
     let r ←Op.equalIn d e a c
     if (!r)=true then pure (ForInStep.done (some false,())) else pure (ForInStep.yield (none,())):Sem (ForInStep (Option Bool×Unit)))).run P w=
    .ok (if b then none else some false,()) w)
 | [],b,h=>by simp only[Ug,Option.some.injEq] at h;subst h;simp
 |j::js,b,h=>by
  rw[Ug] at h;split at h
  ·rename_i a c ha hc
   split at h
   ·rename_i p r hp hr
    cases h;obtain⟨A,hA,hrA⟩:=iE (P:=P) (μ:=μ) (n:=n) hT hi ha hx w;obtain⟨C,hC,hrC⟩:=iE (P:=P) (μ:=μ) (n:=n) hT hi hc hy w;have h1:=ih hp hrA hrC w;have h2:=Dn hT hi ih hx hy w hr;simp only[List.forIn_cons,Sem.run_bind,hA,hC,h1,Result.andThen_ok];cases p
    ·simp
    ·simp only[Bool.not_true,Bool.false_eq_true,if_false,Sem.run_pure,Result.andThen_ok,Bool.true_and]
     exact h2
   ·cases h
  ·cases h
theorem iC(hT:cH P T):∀(d:Nat) {t:TypeId}{x y:AV}{b:Bool}{X Y:Value},iI T d t x y=some b→aab μ n x X→aab μ n y Y→
  ∀(k:Nat) (w:World),(Op.equalIn (d+k) t X Y).run P w=.ok b w
 |0,_,_,_,_,_,_,h,_,_,_,_=>by simp[iI] at h
 |d+1,t,x,y,b,X,Y,h,hx,hy,k,w=>by
  rw[iI] at h;rw[show d+1+k=d+k+1 by omega];cases ht:T t with
  |none=>rw[ht] at h;cases h
  |some i=>
   rw[ht] at h;simp only at h;have hd:=(hT t i ht).desc;split at h
   ·rename_i B'
    cases h;rw[hx.bool,hy.bool];rw[B'] at hd;exact run_equalIn_bool' w _ t _ _ hd
   ·rename_i k1 k2 a k' b' B'
    split at h
    ·rename_i hk
     cases h;subst hk;rw[hx.int,hy.int];rw[B'] at hd;rw[run_equalIn_int w _ t _ k1 _ _ hd];congr 1
    ·cases h
   ·rename_i B'
    cases h;rw[hx.str,hy.str];rw[B'] at hd;rw[run_equalIn_string w _ t _ _ hd];simp
   ·rename_i fs xs ys B'
    split at h
    ·rename_i WN
     obtain⟨Xs,rfl,hxs⟩:=hx.agg;obtain⟨Ys,rfl,hys⟩:=hy.agg;rw[B'] at hd;have hf:P.fieldsOf t=fs:=by simp[Program.fieldsOf,hd]
     rw[run_equalIn_agg w _ t _ _ (by rw[hd,hf]) ((hT t i ht).ab1 WN).1,hf];exact Dp hT (fun h1 h2 h3 w=>iC hT d h1 h2 h3 k w) hxs hys w h
    ·cases h
   ·rename_i m e xs ys B'
    split at h
    ·split at h
     ·rename_i j hj
      obtain⟨Xs,rfl,hxs⟩:=hx.agg;obtain⟨Ys,rfl,hys⟩:=hy.agg;rw[B'] at hd;have hfor:=Dn hT hj (d:=d+k) (fun h1 h2 h3 w=>iC hT d h1 h2 h3 k w) hxs hys w h;simp only[Op.equalIn,Sem.run_bind,run_underlying hd,Result.andThen_ok,cA hT hj];simp only[Std.Legacy.Range.forIn_eq_forIn_range',Std.Legacy.Range.size,Nat.sub_zero,Nat.add_sub_cancel,Nat.div_one];rw[hfor];cases b<;>rfl
     ·cases h
    ·cases h
   ·cases h
end
end Go.Eng
namespace Go.Eng
variable{X Y:Value}
section
variable {P:Program}{T:TypeId→Option TyI}{μ:Nat→Place}{n:Nat}
theorem fW(t:TypeId)(X Y:Value):Op.equal t X Y=Op.equalIn (9999+1) t X Y:=rfl
theorem Dd(hT:cH P T){t:TypeId}{x y:AV}{b:Bool}(hx:aab μ n x X)(hy:aab μ n y Y)(ox oy:Operand)(h:Qs T t (qO ox) (qO oy) x y=some b)(w:World):
  (∀op,(eqGuard op t ox oy X Y).run P w=.ok () w)∧(Op.equal t X Y).run P w=.ok b w∧(∀op:BinOp,op=.eql∨op=.neq→binOp op t X Y=(if op=.eql then (do pure (.bool (←Op.equal t X Y))) else (do pure (.bool (!(←Op.equal t X Y)))))):=by
 unfold Qs at h;cases ht:T t with
 |none=>rw[ht] at h;cases h
 |some i=>
  rw[ht] at h;simp only at h;have hd:=(hT t i ht).desc;split at h
  ·rename_i B';cases h;rw[B'] at hd
   simp only[aab] at hx hy;obtain⟨_,rfl⟩:=hx;subst hy;exact⟨fun op=>by rw[eqGuard_at_slice];rfl,by rw[fW,Op.equalIn];simp[run_underlying hd],by intro op ho;cases ho with | inl e=>subst e;rfl | inr e=>subst e;rfl⟩
  ·rename_i B';cases h;rw[B'] at hd
   simp only[aab] at hx hy;subst hx;subst hy;exact⟨fun op=>by rw[eqGuard_at_slice];rfl,by rw[fW,Op.equalIn];simp[run_underlying hd],by intro op ho;cases ho with | inl e=>subst e;rfl | inr e=>subst e;rfl⟩
  ·rename_i B';cases h;rw[B'] at hd
   simp only[aab] at hx hy;subst hx;subst hy;exact⟨fun op=>by rw[eqGuard_at_pointer];rfl,by rw[fW,Op.equalIn];simp[run_underlying hd],by intro op ho;cases ho with | inl e=>subst e;rfl | inr e=>subst e;rfl⟩
  ·rename_i B';cases h;rw[B'] at hd
   simp only[aab] at hx hy;obtain⟨_,rfl⟩:=hx;subst hy;exact⟨fun op=>by rw[eqGuard_at_pointer];rfl,by rw[fW,Op.equalIn];simp[run_underlying hd],by intro op ho;cases ho with | inl e=>subst e;rfl | inr e=>subst e;rfl⟩
  ·rename_i B';cases h;rw[B'] at hd
   simp only[aab] at hx hy;subst hx;subst hy;exact⟨fun op=>by rw[eqGuard_at_nilFunc];rfl,by rw[fW,Op.equalIn];simp[run_underlying hd],by intro op ho;cases ho with | inl e=>subst e;rfl | inr e=>subst e;rfl⟩
  ·rename_i B';cases h;rw[B'] at hd
   simp only[aab] at hx hy;obtain⟨_,rfl,_⟩:=hx;subst hy;exact⟨fun op=>by rw[eqGuard_at_func];rfl,by rw[fW,Op.equalIn];simp[run_underlying hd],by intro op ho;cases ho with | inl e=>subst e;rfl | inr e=>subst e;rfl⟩
  ·rename_i B';rw[B'] at hd
   simp only[aab] at hx hy;subst hx;subst hy;split at h
   ·rename_i hc;cases h
    refine⟨fun op=>?_,by rw[fW,Op.equalIn];simp[run_underlying hd],by intro op ho;cases ho with | inl e=>subst e;rfl | inr e=>subst e;rfl⟩;cases ox<;>cases oy<;>simp[qO] at hc<;>first | (rw[eqGuard_nil_constR];rfl) | (rw[eqGuard_nil_constL];rfl)
   ·cases h
  ·rename_i B';cases h;rw[B'] at hd
   simp only[aab] at hx hy;obtain⟨_,rfl,_⟩:=hx;subst hy;exact⟨fun op=>by rw[eqGuard_at_iface];rfl,by rw[fW,Op.equalIn];simp[run_underlying hd],by intro op ho;cases ho with | inl e=>subst e;rfl | inr e=>subst e;rfl⟩
  ·cases h
theorem Pt(hT:cH P T){op:BinOp}{t:TypeId}{x y v:AV}(hx:aab μ n x X)(hy:aab μ n y Y)(ox oy:Operand)(h:VY T op t (qO ox) (qO oy) x y=some v)(w:World):
  Val P (do eqGuard op t ox oy X Y;binOp op t X Y) w μ n v:=by
 unfold VY at h;split at h
 ·rename_i k a k' b
  split at h
  ·rename_i hk
   subst hk;rw[hx.int,hy.int];obtain⟨V,h1,h2⟩:=Py (P:=P) (μ:=μ) (n:=n) h t w;exact⟨V,by rw[eqGuard_at_int];simpa using h1,h2⟩
  ·cases h
 ·rw[hx.str,hy.str]
  obtain⟨V,h1,h2⟩:=PC (P:=P) (μ:=μ) (n:=n) h t w;exact⟨V,by rw[eqGuard_at_string];simpa using h1,h2⟩
 ·rename_i a b
  rw[hx.bool,hy.bool];split at h
  ·rename_i i hi
   have hd:=(hT t i hi).desc;split at h
   ·rename_i B'
    cases h;rw[B'] at hd;refine .bool ?_;rw[eqGuard_at_bool];simp only[binOp,fW,Sem.run_bind,Sem.run_pure,Result.andThen_ok,run_equalIn_bool' w 9999 t a b hd]
   ·rename_i B'
    cases h;rw[B'] at hd;refine .bool ?_;rw[eqGuard_at_bool];simp only[binOp,fW,Sem.run_bind,Sem.run_pure,Result.andThen_ok,run_equalIn_bool' w 9999 t a b hd]
   ·cases h
  ·cases h
 ·rename_i xs ys
  have hguard:∀b,iI T 20 t (.agg xs) (.agg ys)=some b→P.eqGuardType P.depth t=false:=by
   intro b hb;rw[iI] at hb;cases ht:T t with
   |none=>rw[ht] at hb;cases hb
   |some i=>
    rw[ht] at hb;simp only at hb;split at hb
    ·rename_i h1 _;cases h1
    ·rename_i h1 _;cases h1
    ·rename_i h1 _;cases h1
    ·split at hb
     ·rename_i WN;exact((hT t i ht).ab1 WN).2
     ·cases hb
    ·split at hb
     ·rename_i WN;exact((hT t i ht).ab1 WN).2
     ·cases hb
    ·cases hb
  split at h
  ·simp only[Option.map_eq_some_iff] at h
   obtain⟨b,hb,rfl⟩:=h;have h1:=iC hT 20 hb hx hy 9980 w;obtain⟨Xs,rfl,_⟩:=hx.agg;obtain⟨Ys,rfl,_⟩:=hy.agg;refine .bool ?_;simp only[Sem.run_bind,run_eqGuard_agg w _ t ox oy _ _ (hguard b hb),Result.andThen_ok,run_eql_struct,h1]
  ·simp only[Option.map_eq_some_iff] at h
   obtain⟨b,hb,rfl⟩:=h;have h1:=iC hT 20 hb hx hy 9980 w;obtain⟨Xs,rfl,_⟩:=hx.agg;obtain⟨Ys,rfl,_⟩:=hy.agg;refine .bool ?_;simp only[Sem.run_bind,run_eqGuard_agg w _ t ox oy _ _ (hguard b hb),Result.andThen_ok,run_neq_struct,h1]
  ·cases h
 ·split at h
  ·simp only[Option.map_eq_some_iff] at h
   obtain⟨b,hb,rfl⟩:=h;obtain⟨h1,h2,h3⟩:=Dd hT hx hy ox oy hb w;refine .bool ?_;rw[Sem.run_bind,h1,Result.andThen_ok,h3 _ (.inl rfl)];simp[h2]
  ·simp only[Option.map_eq_some_iff] at h
   obtain⟨b,hb,rfl⟩:=h;obtain⟨h1,h2,h3⟩:=Dd hT hx hy ox oy hb w;refine .bool ?_;rw[Sem.run_bind,h1,Result.andThen_ok,h3 _ (.inr rfl)];simp[h2]
  ·cases h
theorem Cu(hT:cH P T){s d:TypeId}{x v:AV}(hx:aab μ n x X)(h:zi T s d x=some v)(w:World):
  Val P (convert s d X) w μ n v:=by
 unfold zi at h;split at h
 ·rename_i i j hi hj
  have h1:=(hT s i hi).desc;have h2:=(hT d j hj).desc;split at h
  ·rename_i e1 e2;cases h;rw[hx.int];rw[e1] at h1;rw[e2] at h2
   exact .int (by simp[convert,run_underlying h1,run_underlying h2,Conv.intToInt])
  ·rename_i e1 e2;cases h;rw[hx.str];rw[e1] at h1;rw[e2] at h2
   exact .str (by simp[convert,run_underlying h1,run_underlying h2])
  ·cases h
 ·cases h
theorem Kp(off:Nat):∀(vs:List Value) (k:Nat) (cur:List Value),off+k+vs.length≤cur.length→
  ((vs.zipIdx k).foldl (fun(cs:Array Value) (x:Value×Nat)=>cs.setIfInBounds (off+x.2) x.1) ⟨cur⟩)=⟨cur.take (off+k)++vs++cur.drop (off+k+vs.length)⟩
 | [],k,cur,_=>by simp
 |v::vs,k,cur,h=>by
  simp only[List.zipIdx_cons,List.foldl_cons];have h1:(⟨cur⟩:Array Value).setIfInBounds (off+k) v=⟨cur.set (off+k) v⟩:=by simp
  rw[h1,Kp off vs (k+1) (cur.set (off+k) v) (by simp at h ⊢;omega)];have e:=list_seg_step cur (off+k) v vs (by simp at h ⊢;omega);simp only[List.append_assoc,Array.mk.injEq,List.length_cons] at e ⊢;simpa [Nat.add_assoc,Nat.add_comm 1] using e
theorem rX{YO:Nat→Option (Nat×Nat)}:∀{parts:List (Nat×AV)}{cells XU :List AV}{Parts:List (Nat×Value)}{Cells:List Value},
  kB YO cells parts=some XU →aad μ n cells Cells→Parts.map (·.1)=parts.map (·.1)→aad μ n (parts.map (·.2)) (Parts.map (·.2))→
  ∃Cells',Instr.fill YO ⟨Cells⟩ Parts=some ⟨Cells'⟩∧aad μ n XU Cells'
 | [],cells,XU,Parts,Cells,h,hc,hp,_=>by
  simp only[kB,Option.some.injEq] at h;subst h;have:Parts=[]:=by simpa using hp
  subst this;exact⟨Cells,rfl,hc⟩
 |(i,v)::rest,cells,XU,Parts,Cells,h,hc,hp,hv=>by
  cases Parts with
  |nil=>simp at hp
  |cons p Rest=>
   obtain⟨i',V⟩:=p;simp only[List.map_cons,List.cons.injEq] at hp;obtain⟨rfl,hp⟩:=hp;simp only[List.map_cons] at hv;obtain⟨hv1,hv2⟩:=bj.1 hv;rw[kB] at h;cases Xk:YO i' with
   |none=>rw[Xk] at h;cases h
   |some os=>
    obtain⟨off,size⟩:=os;rw[Xk] at h;simp only at h;split at h
    ·rename_i I'
     simp only[Bool.and_eq_true,decide_eq_true_eq] at I';obtain⟨⟨hk,Xd⟩,Xj⟩:=I';have ZN:=hv1.cells hk;have hVl:V.cells.size=size:=by rw[←Array.length_toList,ZN.length,Xd]
     have hCl:=hc.length;rw[Instr.fill,Xk];simp only;have e1:(V.cells.zipIdx.foldl (fun cs (x:Value×Nat)=>cs.setIfInBounds (off+x.2) x.1) (⟨Cells⟩:Array Value))=⟨Cells.take off++V.cells.toList++Cells.drop (off+size)⟩:=by rw[←Array.foldl_toList,Array.toList_zipIdx,Kp off _ 0 Cells (by rw[ZN.length,hCl,Xd];omega)];simp[hVl]
     rw[if_neg (by simp[hVl,hCl];omega),e1];exact rX h (((hc.take off).append ZN).append (hc.drop _)) hp hv2
    ·cases h
theorem NV{α β:Type}(g:α→Sem β) (hf:α→β) (w:World):∀(l:List α),(∀x∈l,(g x).run P w=.ok (hf x) w)→(l.mapM g).run P w=.ok (l.map hf) w
 | [],_=>by simp
 |x::l,h=>by simp[List.mapM_cons,h x (by simp),NV g hf w l (fun y hy=>h y (by simp[hy]))]
theorem No{μ:Nat→Place}{n:Nat}{v:AV}{V:Value}(h:aab μ n v V)(hv:v.cells=[v])(hV:V.cells= #[V]):aad μ n v.cells V.cells.toList:=by rw[hv,hV];exact bj.2 ⟨h,by simp[aad]⟩
theorem CB(v:Value):(jn v).cells=[jn v]:=by unfold jn;split<;>rfl
theorem jh(μ:Nat→Place)(n:Nat)(z:Value):aad μ n (iL z).cells z.cells.toList:=by
 by_cases h:∃cs,z=.agg cs
 ·obtain⟨cs,rfl⟩:=h;exact mu μ n _
 ·have e:iL z=jn z:=by cases z<;>first | rfl | exact absurd ⟨_,rfl⟩ h
  have c:z.cells= #[z]:=by cases z<;>first | rfl | exact absurd ⟨_,rfl⟩ h
  rw[e];exact No (ou μ n z) (CB z) c
theorem JT(hT:cH P T){t:TypeId}{parts:List (Nat×AV)}{Parts:List (Nat×Value)}{v:AV}(h:bO T t parts=some v)(hp:Parts.map (·.1)=parts.map (·.1))(hv:aad μ n (parts.map (·.2)) (Parts.map (·.2)))(w:World):
  Val P (Instr.build t ⟨Parts⟩) w μ n v:=by
 unfold bO at h;cases ht:T t with
 |none=>rw[ht] at h;cases h
 |some i=>
  rw[ht] at h;simp only at h;have hd:=(hT t i ht).desc;have hz:=jh μ n i.zero;split at h
  ·rename_i fs B'
   split at h
   ·rename_i G'
    simp only[Option.map_eq_some_iff] at h;obtain⟨XU,hf,rfl⟩:=h;obtain⟨Cells',h1,h2⟩:=rX hf hz hp hv;rw[B'] at hd;have hall' :∀f∈fs.toList,∃j,T f.type=some j:=by intro f hf;rw[Array.all_eq_true'] at G';have:=G' f (by simpa using hf);exact Option.isSome_iff_exists.1 this
    have hmap:(fs.mapM fun f=>do pure (f.offset,←sizeOf f.type):Sem (Array (Nat×Nat))).run P w=
      .ok (fs.map fun f=>(f.offset,((T f.type).map (·.size)).getD 0)) w:=by
     rw[Array.mapM_eq_mapM_toList,Sem.run_map];rw[NV (P:=P) _ (fun f=>(f.offset,((T f.type).map (·.size)).getD 0)) w fs.toList (fun f hf=>by obtain⟨j,hj⟩:=hall' f hf;simp[cA hT hj,hj])]
     simp only[Result.andThen_ok,Result.ok.injEq,and_true];apply Array.ext';simp
    have Xk:(fun k=>(fs.map fun f=>(f.offset,((T f.type).map (·.size)).getD 0))[k]?)=aL T fs:=by
     funext k;simp only[aL,Array.getElem?_map];cases hk:fs[k]? with
     |none=>rfl
     |some f=>
      have W8:f∈fs.toList:=by have:=Array.mem_of_getElem? hk;simpa using this
      obtain⟨j,hj⟩:=hall' f W8;simp[hj]
    refine⟨.agg ⟨Cells'⟩,?_,by simp only[aab];exact⟨Cells',rfl,h2⟩⟩;simp only[Instr.build,Sem.run_bind,dU hT ht,Result.andThen_ok,run_underlying hd];erw [hmap];simp only[Result.andThen_ok,Xk];rw[show i.zero.cells=⟨i.zero.cells.toList⟩ from rfl,h1];rfl
   ·cases h
  ·rename_i m e B'
   split at h
   ·rename_i j hj
    simp only[Option.map_eq_some_iff] at h;obtain⟨XU,hf,rfl⟩:=h;obtain⟨Cells',h1,h2⟩:=rX hf hz hp hv;rw[B'] at hd;refine⟨.agg ⟨Cells'⟩,?_,by simp only[aab];exact⟨Cells',rfl,h2⟩⟩;simp only[Instr.build,Sem.run_bind,dU hT ht,Result.andThen_ok,run_underlying hd,cA hT hj];rw[show i.zero.cells=⟨i.zero.cells.toList⟩ from rfl,h1];rfl
   ·cases h
  ·cases h
end
end Go.Eng
namespace Go.Eng
variable{f:Nat}
section
variable {P:Program}{T:TypeId→Option TyI}{μ:Nat→Place}{n:Nat}
theorem aab.ptr{b o V}(h:aab μ n (.ptr b o) V):b<n∧V=.pointer (some ⟨(μ b).blk,(μ b).off+o,none⟩):=by simpa only[aab] using h
theorem aab.slice{b o l c V}(h:aab μ n (.slice b o l c) V):b<n∧V=.slice (some ⟨(μ b).blk,(μ b).off+o,none⟩) l (iU (μ b) o c):=by simpa only[aab] using h
theorem bW{k:IntKind}{i:Int}{y:Nat}(h0:0≤i)(h1:i≤y)(code:BoundsCode)(w:World):
  (Instr.sliceBound (.int k i) y code).run P w=.ok i.toNat w:=by
 simp[Instr.sliceBound,asIntOf,h0,h1]
section
variable (hT:cH P T){t:TypeId}
include hT t
theorem yP{x i v:AV}{X I:Value}(hx:aab μ n x X)(hi:aab μ n i I)(h:rN T t x i=some v)(w:World):
  Val P (Instr.indexAt t X I) w μ n v:=by
 unfold rN at h;cases ht:T t with
 |none=>rw[ht] at h;cases h
 |some ti=>
  rw[ht] at h;simp only at h;have hd:=(hT t ti ht).desc;split at h
  ·rename_i e b o m c k j B'
   rw[B'] at hd;split at h
   ·rename_i je YI
    split at h
    ·rename_i hb
     cases h;obtain⟨XR,rfl⟩:=hx.slice;rw[hi.int];refine⟨.pointer (some ⟨(μ b).blk,(μ b).off+(o+j.toNat*je.size),none⟩),?_,by simp only[aab];exact⟨XR,trivial⟩⟩;simp[Instr.indexAt,asIntOf,run_underlying hd,hb,cA hT YI,Addr.add_lit,Nat.add_assoc]
    ·cases h
   ·cases h
  ·rename_i m e b o k j B'
   rw[B'] at hd;split at h
   ·rename_i je YI
    split at h
    ·rename_i hb
     cases h;obtain⟨XR,rfl⟩:=hx.ptr;rw[hi.int];refine⟨.pointer (some ⟨(μ b).blk,(μ b).off+(o+j.toNat*je.size),none⟩),?_,by simp only[aab];exact⟨XR,trivial⟩⟩;simp[Instr.indexAt,asIntOf,run_underlying hd,Instr.sureAddr,hb,cA hT YI,Addr.add_lit,Nat.add_assoc]
    ·cases h
   ·cases h
  ·cases h
theorem JY{x i v:AV}{X I:Value}(hx:aab μ n x X)(hi:aab μ n i I)(h:NC T t x i=some v)(w:World):
  Val P (Instr.index t X I) w μ n v:=by
 unfold NC at h;cases ht:T t with
 |none=>rw[ht] at h;cases h
 |some ti=>
  rw[ht] at h;simp only at h;have hd:=(hT t ti ht).desc;split at h
  ·rename_i m e cs k j B'
   rw[B'] at hd;split at h
   ·rename_i je YI
    split at h
    ·rename_i hb
     obtain⟨Cs,rfl,XJ⟩:=hx.agg;rw[hi.int];obtain⟨V,h1,h2⟩:=iE (P:=P) (μ:=μ) (n:=n) hT YI h XJ w;exact⟨V,by simp[Instr.index,asIntOf,run_underlying hd,hb,cA hT YI,h1],h2⟩
    ·cases h
   ·cases h
  ·rename_i s k j B'
   rw[B'] at hd;split at h
   ·rename_i h0
    split at h
    ·rename_i c hc
     cases h;rw[hx.str,hi.int];have ZD :(ByteArray.mk s.toArray)[j.toNat]? =some c:=by have AC:j.toNat<s.length:=(List.getElem?_eq_some_iff.1 hc).1;have hv:=(List.getElem?_eq_some_iff.1 hc).2;rw[getElem?_pos (ByteArray.mk s.toArray) j.toNat (by simpa [ByteArray.size] using AC)];congr 1
     exact .int (by simp[Instr.index,asIntOf,run_underlying hd,h0,ZD])
    ·cases h
   ·cases h
  ·cases h
theorem JX{x v:AV}{X:Value}(hx:aab μ n x X)(h:lY T t x f=some v)(w:World):
  Val P (Instr.field t X f) w μ n v:=by
 unfold lY at h;cases ht:T t with
 |none=>rw[ht] at h;cases h
 |some ti=>
  rw[ht] at h;simp only at h;have hd:=(hT t ti ht).desc;split at h
  ·rename_i fs cs B'
   rw[B'] at hd;split at h
   ·rename_i fd hfd
    split at h
    ·rename_i j hj
     obtain⟨Cs,rfl,XJ⟩:=hx.agg;obtain⟨V,h1,h2⟩:=iE (P:=P) (μ:=μ) (n:=n) hT hj h XJ w;exact⟨V,by simp[Instr.field,run_underlying hd,hfd,asAgg,h1],h2⟩
    ·cases h
   ·cases h
  ·cases h
theorem yO{x v:AV}{X:Value}(hx:aab μ n x X)(h:rL T t x f=some v)(w:World):
  Val P (Instr.fieldAt t X f) w μ n v:=by
 unfold rL at h;cases ht:T t with
 |none=>rw[ht] at h;cases h
 |some ti=>
  rw[ht] at h;simp only at h;have hd:=(hT t ti ht).desc;split at h
  ·rename_i fs b o B'
   rw[B'] at hd;split at h
   ·rename_i fd hfd
    split at h
    ·rename_i j hj
     split at h
     ·cases h
     ·rename_i Xd
      cases h;obtain⟨XR,rfl⟩:=hx.ptr;refine⟨.pointer (some ⟨(μ b).blk,(μ b).off+(o+fd.offset),none⟩),?_,by simp only[aab];exact⟨XR,trivial⟩⟩;simp[Instr.fieldAt,run_underlying hd,hfd,Instr.sureAddr,fieldPlace,Addr.add_lit,Nat.add_assoc,cA hT hj,Xd]
    ·cases h
   ·cases h
  ·cases h
end
end
end Go.Eng
namespace Go.Eng
section
variable {P:Program}{T:TypeId→Option TyI}{μ:Nat→Place}{mem:Mem}{base:Nat}{w:World}
theorem rR(s:List UInt8):(ByteArray.mk s.toArray).size=s.length:=by simp[ByteArray.size]
theorem aam.cell(hH:aam base μ mem w){b:Nat}{own es cs}(hb:mem[b]? =some (.cells own es cs)){j:Nat}{v:AV}(hj:cs[j]? =some v):
  ∃V,w.cell? ⟨(μ b).blk,(μ b).off+j,none⟩=some V∧aab μ mem.length v V:=by
 have hs:=hH.slot b _ hb;simp only[aap] at hs;obtain⟨cur,e,fr,h1,_,_,h2,_⟩:=hs;obtain⟨V,hV,hr⟩:=h2 j v hj;exact⟨V,by simp[World.cell?,h1,hV],hr⟩
theorem aam.cells(hH:aam base μ mem w){b:Nat}{own es cs}(hb:mem[b]? =some (.cells own es cs)){o k:Nat}(hk:o+k≤cs.length):
  ∃Vs,aad μ mem.length ((cs.drop o).take k) Vs∧Vs.length=k∧∀(j:Nat) u,Vs[j]? =some u→w.cell? ((⟨(μ b).blk,(μ b).off+o,none⟩:Addr).add j)=some u:=by
 induction k with
 |zero=>exact⟨[],by simp[aad],rfl,by simp⟩
 |succ k ih=>
  obtain⟨Vs,h1,h2,h3⟩:=ih (by omega);have AC:o+k<cs.length:=by omega
  obtain⟨V,hV,hr⟩:=hH.cell hb (j:=o+k) (v:=cs[o+k]) (by simp[AC]);refine⟨Vs++[V],?_,by simp[h2],fun j u hu=>?_⟩
  ·rw[List.take_add_one]
   have:(cs.drop o)[k]? =some cs[o+k]:=by simp[List.getElem?_drop,AC]
   rw[this];exact h1.append (bj.2 ⟨hr,by simp[aad]⟩)
  ·by_cases hj:j<Vs.length
   ·rw[List.getElem?_append_left hj] at hu;exact h3 j u hu
   ·have hjk:j=Vs.length:=by have:=(List.getElem?_eq_some_iff.1 hu).1;simp at this;omega
    subst hjk;simp at hu;subst hu;rw[Addr.add_lit,h2,Nat.add_assoc];exact hV
section
variable (hT:cH P T)(hH:aam base μ mem w)
include hT hH
theorem AH{t:TypeId}{x v:AV}{X:Value}(hx:aab μ mem.length x X)(h:PA T mem t x=some v):
  Val P (Instr.loadAt t X) w μ mem.length v:=by
 unfold PA at h;split at h
 ·rename_i i b o ht
  split at h
  ·rename_i own es cs hb
   obtain⟨XR,rfl⟩:=hx.ptr;unfold fR at h;cases hi:i.isAgg with
   |true=>
    simp only[hi,if_true] at h;split at h
    ·rename_i Xr
     cases h;obtain⟨Vs,h1,h2,h3⟩:=hH.cells hb Xr;refine⟨.agg Vs.toArray,?_,by simp only[aab];exact⟨Vs,rfl,h1⟩⟩;have hl:=run_loadCells_list (P:=P) w _ Vs h3;rw[h2] at hl;simp[Instr.loadAt,Instr.sureAddr,loadVar,vh hT ht,hi,cA hT ht,hl]
    ·cases h
   |false=>
    simp only[hi,Bool.false_eq_true,if_false] at h;obtain⟨V,hV,hr⟩:=hH.cell hb h;refine⟨V,?_,hr⟩;simp[Instr.loadAt,Instr.sureAddr,loadVar,vh hT ht,hi,hV]
  ·cases h
 ·cases h
theorem Pz{t ty:TypeId}{x v:AV}{X:Value}(hx:aab μ mem.length x X)(h:dY T t mem x=some v):
  Val P (Builtin.len_ #[t] ty #[X]) w μ mem.length v:=by
 unfold dY at h;cases ht:T t with
 |none=>rw[ht] at h;cases h
 |some ti=>
  rw[ht] at h;simp only at h;have hd:=(hT t ti ht).desc;split at h
  ·rename_i s B';cases h;rw[B'] at hd;rw[hx.str]
   exact .int (by simp[Builtin.len_,run_underlying hd,goInt,rR])
  ·rename_i B';cases h;rw[B'] at hd;rw[hx.slice.2]
   exact .int (by simp[Builtin.len_,run_underlying hd,goInt])
  ·rename_i B';cases h;rw[B'] at hd
   simp only[aab] at hx;subst hx;exact .int (by simp[Builtin.len_,run_underlying hd,goInt])
  ·rename_i m e B';cases h;rw[B'] at hd
   exact .int (by simp[Builtin.len_,run_underlying hd,goInt])
  ·rename_i B';cases h;rw[B'] at hd
   simp only[aab] at hx;subst hx;exact .int (by simp[Builtin.len_,run_underlying hd,goInt])
  ·rename_i b B';rw[B'] at hd
   simp only[aab] at hx;obtain⟨XR,rfl⟩:=hx;split at h
   ·rename_i es hb
    cases h;have hs:=hH.slot b _ hb;simp only[aap] at hs;obtain⟨Do,FS,h1,_,h2,_⟩:=hs;refine .int ?_;have hg:(getObj (μ b).blk).run P w=.ok (.map Do FS) w:=by simp[getObj,Sem.run,h1]
    simp only[Builtin.len_,List.getElem?_toArray,List.getElem?_cons_zero,Sem.run_bind,run_underlying hd,Result.andThen_ok,hg];simp[goInt,h2]
   ·cases h
  ·cases h
theorem J0{t:TypeId}{x v:AV}{X:Value}{lo hi:Option AV}{Lo Hi:Option Value}(hx:aab μ mem.length x X)(hlo:(lo=none∧Lo=none)∨∃l L,lo=some l∧Lo=some L∧aab μ mem.length l L)(hhi:(hi=none∧Hi=none)∨∃l L,hi=some l∧Hi=some L∧aab μ mem.length l L)(h:ND T mem t x lo hi=some v):
  Val P (Instr.sliceAt t X Lo Hi none) w μ mem.length v:=by
 have YX:∀(Z5:Bool) (len cap:Nat) (hh ll:Int),Dq len hi=some hh→
   Kx lo=some ll→0≤ll→ll≤hh→hh≤len→len≤cap→
   (Instr.sliceBounds Z5 len cap Lo Hi none).run P w=.ok (ll.toNat,hh.toNat,cap) w:=by
  intro Z5 len cap hh ll e1 e2 h0 h1 h2 h3;have hH' :hh≤cap:=by omega
  have Ya :ll≤((hh.toNat:Nat):Int):=by omega
  have ZO :0≤hh:=by omega
  rcases hhi with⟨rfl,rfl⟩ | ⟨a,A,rfl,rfl,hA⟩<;>rcases hlo with⟨rfl,rfl⟩ | ⟨b,B,rfl,rfl,hB⟩
  ·simp only[Dq,Kx,Option.some.injEq] at e1 e2;subst e1;subst e2
   simp[Instr.sliceBounds]
  ·cases b<;>simp only[Dq,Kx,reduceCtorEq,Option.some.injEq] at e1 e2
   subst e1;subst e2;rw[hB.int];simp[Instr.sliceBounds,bW h0 h1]
  ·cases a<;>simp only[Dq,Kx,reduceCtorEq,Option.some.injEq] at e1 e2
   subst e1;subst e2;rw[hA.int];simp[Instr.sliceBounds,bW ZO hH']
  ·cases a<;>simp only[Dq,reduceCtorEq,Option.some.injEq] at e1
   cases b<;>simp only[Kx,reduceCtorEq,Option.some.injEq] at e2;subst e1;subst e2;rw[hA.int,hB.int];simp[Instr.sliceBounds,bW ZO hH',bW h0 Ya]
 unfold ND at h;cases ht:T t with
 |none=>rw[ht] at h;cases h
 |some ti=>
  rw[ht] at h;simp only at h;have hd:=(hT t ti ht).desc;split at h
  ·rename_i s B'
   rw[B'] at hd;split at h
   ·rename_i hh ll e1 e2
    split at h
    ·rename_i hb
     cases h;rw[hx.str];have X7:=YX false s.length s.length hh ll e1 e2 hb.1 hb.2.1 hb.2.2 (Nat.le_refl _);refine .str ?_;have hext:(ByteArray.mk s.toArray).extract ll.toNat hh.toNat=⟨((s.drop ll.toNat).take (hh.toNat-ll.toNat)).toArray⟩:=by apply ByteArray.ext;apply Array.ext';simp[List.extract]
     simp[Instr.sliceAt,Instr.slice,run_underlying hd,rR,X7,hext]
    ·cases h
   ·cases h
  ·rename_i e b o m c B'
   rw[B'] at hd;split at h
   ·rename_i j own es cs hj hb
    split at h
    ·rename_i hh ll e1 e2
     split at h
     ·rename_i hc
      obtain⟨g1,g2,g3,g4,g5,g6,g6',g7,rfl⟩:=hc;cases h;obtain⟨XR,rfl⟩:=hx.slice;have hs:=hH.slot b _ hb;simp only[aap] at hs;obtain⟨cur,el,fr,Zn,Yj,hs3,_,_⟩:=hs;have Yj:=Yj.es g6';subst Yj;have YY:m≤iU (μ b) o none:=by simp only[iU];rw[Nat.le_div_iff_mul_le g6];omega
      have X7:=YX true m (iU (μ b) o none) hh ll e1 e2 g1 g2 g3 YY;refine⟨.slice (some ⟨(μ b).blk,(μ b).off+(o+ll.toNat*(μ b).es),none⟩) (hh.toNat-ll.toNat) (iU (μ b) o none-ll.toNat),?_,?_⟩
      ·simp[Instr.sliceAt,Instr.slice,run_underlying hd,X7,cA hT hj]
       by_cases hl0:ll=0
       ·subst hl0;simp[Addr.add_lit]
       ·have:¬iU (μ b) o none=ll.toNat:=by omega
        simp[this,Addr.add_lit,g5,Nat.add_assoc]
      ·simp only[aab]
       refine⟨XR,?_⟩;congr 1;simp only[iU];have Xr:ll.toNat*(μ b).es≤m*(μ b).es:=Nat.mul_le_mul_right _ (by omega);rw[show(μ b).tot-(o+ll.toNat*(μ b).es)=(μ b).tot-o-(μ b).es*ll.toNat by rw[Nat.mul_comm (μ b).es];omega];rw[Nat.sub_mul_div]
     ·cases h
    ·cases h
   ·cases h
  ·rename_i e B'
   rw[B'] at hd;split at h
   ·rename_i j hj
    split at h
    ·rename_i hh ll e1 e2
     split at h
     ·rename_i hc
      obtain⟨rfl,rfl⟩:=hc;cases h;simp only[aab] at hx;subst hx;have X7:=YX true 0 0 0 0 e1 e2 (by omega) (by omega) (by omega) (by omega);refine⟨.slice none 0 0,?_,by simp[aab]⟩;simp[Instr.sliceAt,Instr.slice,run_underlying hd,X7,cA hT hj]
     ·cases h
    ·cases h
   ·cases h
  ·rename_i m e b o B'
   rw[B'] at hd;split at h
   ·rename_i j hj
    split at h
    ·rename_i hh ll e1 e2
     split at h
     ·rename_i hc
      obtain⟨g1,g2,g3,g4⟩:=hc;cases h;obtain⟨XR,rfl⟩:=hx.ptr;have X7:=YX false m m hh ll e1 e2 g1 g2 g3 (Nat.le_refl _);refine⟨.slice (some ⟨(μ b).blk,(μ b).off+(o+ll.toNat*j.size),none⟩) (hh.toNat-ll.toNat) (m-ll.toNat),?_,?_⟩
      ·have:¬m=ll.toNat:=by omega
       simp[Instr.sliceAt,run_underlying hd,Instr.sureAddr,X7,cA hT hj,this,Addr.add_lit,Nat.add_assoc]
      ·simp only[aab];exact⟨XR,rfl⟩
     ·cases h
    ·cases h
   ·cases h
  ·cases h
end
end
end Go.Eng
