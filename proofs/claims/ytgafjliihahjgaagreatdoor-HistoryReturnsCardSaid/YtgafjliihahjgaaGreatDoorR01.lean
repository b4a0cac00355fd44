/- See R54. -/
import Derived.Calls
import Derived.Orders
import Derived.Laws.AppendOwn
import Derived.Laws.Cells
import Derived.Laws.CopyRow
import Derived.Tactics
import Derived.Laws.StructEq
import Derived.Laws.Build
set_option linter.all false
namespace Go.Eng
theorem w0:IntKind.i64.wrap 0=0:=rfl
theorem w1:IntKind.i64.wrap 1=1:=rfl
theorem w2:IntKind.i64.wrap 2=2:=rfl
theorem w3:IntKind.i64.wrap 3=3:=rfl
theorem w4:IntKind.i64.wrap 4=4:=rfl
theorem w5:IntKind.i64.wrap 5=5:=rfl
theorem gL{α:Type}{l:List α}{i:Nat}{a:α}(h:l[i]? =some a):i<l.length:=(List.getElem?_eq_some_iff.1 h).1
theorem gE{α:Type}{l:List α}{i:Nat}{a:α}(h:l[i]? =some a):∀k,l[i]'k=a:=fun k=>(List.getElem?_eq_some_iff.1 h).2
inductive AV where
 |undef
 |bool (b:Bool)
 |int (k:IntKind) (n:Int)
 |str (s:List UInt8)
 |ptr (b off:Nat)
 |aeT
 |slice (b off len:Nat) (cap:Option Nat)
 |kK
 |map (b:Nat)
 |ae0
 |yield (b:Nat)
 |func (f:FuncId) (caps:List AV)
 |nilFunc
 |iface (t:TypeId) (v:AV)
 |nilIface
 |agg (cs:List AV)
 |tuple (cs:List AV)
 deriving Inhabited
structure Place where
 blk:Nat
 off:Nat
 tot:Nat
 es:Nat
 deriving Inhabited
def jh(p:Place) (o:Nat):Option Nat→Nat
 |some c=>c
 |none=>(p.tot-o) / p.es
mutual
def aeA(μ:Nat→Place) (n:Nat):AV→Value→Prop
 |.undef,_=>True
 |.bool b,V=>V=.bool b
 |.int k i,V=>V=.int k i
 |.str s,V=>V=.string ⟨s.toArray⟩
 |.ptr b o,V=>b<n∧V=.pointer (some ⟨(μ b).blk,(μ b).off+o,none⟩)
 |.aeT,V=>V=.pointer none
 |.slice b o l c,V=>b<n∧V=.slice (some ⟨(μ b).blk,(μ b).off+o,none⟩) l (jh (μ b) o c)
 |.kK,V=>V=.slice none 0 0
 |.map b,V=>b<n∧V=.map (some (μ b).blk)
 |.yield b,V=>b<n∧V=.func (.yield (μ b).blk) #[] #[]
 |.ae0,V=>V=.map none
 |.func f cs,V=>∃Us,V=.func (.func f) #[] ⟨Us⟩∧aeC μ n cs Us
 |.nilFunc,V=>V=.nilFunc
 |.iface t v,V=>∃U,V=.iface t U∧aeA μ n v U
 |.nilIface,V=>V=.nilIface
 |.agg cs,V=>∃Us,V=.agg ⟨Us⟩∧aeC μ n cs Us
 |.tuple cs,V=>∃Us,V=.tuple ⟨Us⟩∧aeC μ n cs Us
def aeC(μ:Nat→Place) (n:Nat):List AV→List Value→Prop
 | [],Us=>Us=[]
 |v::vs,Us=>∃U Ws,Us=U::Ws∧aeA μ n v U∧aeC μ n vs Ws
end
theorem bo{μ n v vs U Us}:aeC μ n (v::vs) (U::Us)↔aeA μ n v U∧aeC μ n vs Us:=by
 simp only[aeC];constructor
 ·rintro ⟨U',Ws,h,h1,h2⟩;cases h;exact⟨h1,h2⟩
 ·rintro ⟨h1,h2⟩;exact⟨U,Us,rfl,h1,h2⟩
theorem aeC.length{μ n}:∀{vs Us},aeC μ n vs Us→Us.length=vs.length
 | [],_,h=>by simp[aeC] at h;simp[h]
 |v::vs,_,h=>by simp only[aeC] at h;obtain⟨U,Ws,rfl,_,h2⟩:=h;simp[aeC.length h2]
theorem aeC.get{μ n}:∀{vs Us},aeC μ n vs Us→∀(i:Nat) v,vs[i]? =some v→∃U,Us[i]? =some U∧aeA μ n v U
 | [],_,_,i,v,h=>by simp at h
 |w::vs,_,h,i,v,hi=>by
  simp only[aeC] at h;obtain⟨U,Ws,rfl,h1,h2⟩:=h;cases i with
  |zero=>simp at hi;subst hi;exact⟨U,by simp,h1⟩
  |succ i=>simpa using aeC.get h2 i v (by simpa using hi)
theorem aeC.afy{μ n}:∀{vs Us},Us.length=vs.length→(∀(i:Nat) v,vs[i]? =some v→∃U,Us[i]? =some U∧aeA μ n v U)→aeC μ n vs Us
 | [],Us,hl,_=>by simp[aeC];exact List.eq_nil_of_length_eq_zero hl
 |v::vs,[],hl,_=>by simp at hl
 |v::vs,U::Us,hl,h=>by
  refine bo.2 ⟨?_,aeC.afy (by simpa using hl) fun i u hu=>?_⟩
  ·obtain⟨U',h1,h2⟩:=h 0 v (by simp)
   simp at h1;subst h1;exact h2
  ·simpa using h (i+1) u (by simpa using hu)
theorem aeC.append{μ n}:∀{vs Us ws Ws},aeC μ n vs Us→aeC μ n ws Ws→aeC μ n (vs++ws) (Us++Ws)
 | [],_,ws,Ws,h,h' =>by simp[aeC] at h;subst h;simpa using h'
 |v::vs,_,ws,Ws,h,h' =>by simp only[aeC] at h;obtain⟨U,Us,rfl,h1,h2⟩:=h;exact bo.2 ⟨h1,aeC.append h2 h'⟩
theorem aeC.take{μ n vs Us}(h:aeC μ n vs Us)(k:Nat):aeC μ n (vs.take k) (Us.take k):=by
 refine aeC.afy (by simp[h.length]) fun i v hv=>?_
 rw[List.getElem?_take] at hv;split at hv
 ·obtain⟨U,h1,h2⟩:=h.get i v hv
  exact⟨U,by rw[List.getElem?_take];simp[*],h2⟩
 ·cases hv
theorem aeC.drop{μ n vs Us}(h:aeC μ n vs Us)(k:Nat):aeC μ n (vs.drop k) (Us.drop k):=by
 refine aeC.afy (by simp[h.length]) fun i v hv=>?_
 rw[List.getElem?_drop] at hv;obtain⟨U,h1,h2⟩:=h.get _ v hv;exact⟨U,by rw[List.getElem?_drop];exact h1,h2⟩
mutual
theorem aeA.mono{μ μ' :Nat→Place}{n n' :Nat}(hn:n≤n') (hμ:∀b,b<n→μ' b=μ b):∀{v V},aeA μ n v V→aeA μ' n' v V
 |.undef,V,_=>by simp[aeA]
 |.bool b,V,h=>by simpa [aeA] using h
 |.int k i,V,h=>by simpa [aeA] using h
 |.str s,V,h=>by simpa [aeA] using h
 |.ptr b o,V,h=>by simp only[aeA] at h ⊢;exact⟨by omega,by rw[hμ b h.1];exact h.2⟩
 |.aeT,V,h=>by simpa [aeA] using h
 |.slice b o l c,V,h=>by simp only[aeA] at h ⊢;exact⟨by omega,by rw[hμ b h.1];exact h.2⟩
 |.kK,V,h=>by simpa [aeA] using h
 |.map b,V,h=>by simp only[aeA] at h ⊢;exact⟨by omega,by rw[hμ b h.1];exact h.2⟩
 |.yield b,V,h=>by simp only[aeA] at h ⊢;exact⟨by omega,by rw[hμ b h.1];exact h.2⟩
 |.ae0,V,h=>by simpa [aeA] using h
 |.func f cs,V,h=>by simp only[aeA] at h ⊢;obtain⟨Us,rfl,h⟩:=h;exact⟨Us,rfl,aeC.mono hn hμ h⟩
 |.nilFunc,V,h=>by simpa [aeA] using h
 |.iface t v,V,h=>by simp only[aeA] at h ⊢;obtain⟨U,rfl,h⟩:=h;exact⟨U,rfl,aeA.mono hn hμ h⟩
 |.nilIface,V,h=>by simpa [aeA] using h
 |.agg cs,V,h=>by simp only[aeA] at h ⊢;obtain⟨Us,rfl,h⟩:=h;exact⟨Us,rfl,aeC.mono hn hμ h⟩
 |.tuple cs,V,h=>by simp only[aeA] at h ⊢;obtain⟨Us,rfl,h⟩:=h;exact⟨Us,rfl,aeC.mono hn hμ h⟩
theorem aeC.mono{μ μ' :Nat→Place}{n n' :Nat}(hn:n≤n') (hμ:∀b,b<n→μ' b=μ b):∀{vs Us},aeC μ n vs Us→aeC μ' n' vs Us
 | [],Us,h=>by simpa [aeC] using h
 |v::vs,Us,h=>by simp only[aeC] at h ⊢;obtain⟨U,Ws,rfl,h1,h2⟩:=h;exact⟨U,Ws,rfl,aeA.mono hn hμ h1,aeC.mono hn hμ h2⟩
end
mutual
def AV.ren(ρ:Nat→Option Nat):AV→AV
 |.ptr b o=>match ρ b with | some b' =>.ptr b' o | none=>.undef
 |.slice b o l c=>match ρ b with | some b' =>.slice b' o l c | none=>.undef
 |.map b=>match ρ b with | some b' =>.map b' | none=>.undef
 |.yield b=>match ρ b with | some b' =>.yield b' | none=>.undef
 |.func f cs=>.func f (AV.aeM ρ cs)
 |.iface t v=>.iface t (AV.ren ρ v)
 |.agg cs=>.agg (AV.aeM ρ cs)
 |.tuple cs=>.tuple (AV.aeM ρ cs)
 |v=>v
def AV.aeM(ρ:Nat→Option Nat):List AV→List AV
 | []=>[]
 |v::vs=>AV.ren ρ v::AV.aeM ρ vs
end
mutual
theorem aeA.ren{μ μ' :Nat→Place}{n n' :Nat}{ρ:Nat→Option Nat}(hρ:∀b b',b<n→ρ b=some b' →b' <n' ∧μ' b' =μ b):
  ∀{v V},aeA μ n v V→aeA μ' n' (v.ren ρ) V
 |.undef,V,_=>by simp[AV.ren,aeA]
 |.bool b,V,h=>by simpa [AV.ren,aeA] using h
 |.int k i,V,h=>by simpa [AV.ren,aeA] using h
 |.str s,V,h=>by simpa [AV.ren,aeA] using h
 |.ptr b o,V,h=>by
  simp only[aeA] at h;simp only[AV.ren];cases hb:ρ b with
  |none=>simp[aeA]
  |some b' =>obtain⟨h1,h2⟩:=hρ b b' h.1 hb;simp only[aeA];exact⟨h1,by rw[h2];exact h.2⟩
 |.aeT,V,h=>by simpa [AV.ren,aeA] using h
 |.slice b o l c,V,h=>by
  simp only[aeA] at h;simp only[AV.ren];cases hb:ρ b with
  |none=>simp[aeA]
  |some b' =>obtain⟨h1,h2⟩:=hρ b b' h.1 hb;simp only[aeA];exact⟨h1,by rw[h2];exact h.2⟩
 |.kK,V,h=>by simpa [AV.ren,aeA] using h
 |.map b,V,h=>by
  simp only[aeA] at h;simp only[AV.ren];cases hb:ρ b with
  |none=>simp[aeA]
  |some b' =>obtain⟨h1,h2⟩:=hρ b b' h.1 hb;simp only[aeA];exact⟨h1,by rw[h2];exact h.2⟩
 |.yield b,V,h=>by
  simp only[aeA] at h;simp only[AV.ren];cases hb:ρ b with
  |none=>simp[aeA]
  |some b' =>obtain⟨h1,h2⟩:=hρ b b' h.1 hb;simp only[aeA];exact⟨h1,by rw[h2];exact h.2⟩
 |.ae0,V,h=>by simpa [AV.ren,aeA] using h
 |.func f cs,V,h=>by simp only[aeA] at h;simp only[AV.ren,aeA];obtain⟨Us,rfl,h⟩:=h;exact⟨Us,rfl,aeC.ren hρ h⟩
 |.nilFunc,V,h=>by simpa [AV.ren,aeA] using h
 |.iface t v,V,h=>by simp only[aeA] at h;simp only[AV.ren,aeA];obtain⟨U,rfl,h⟩:=h;exact⟨U,rfl,aeA.ren hρ h⟩
 |.nilIface,V,h=>by simpa [AV.ren,aeA] using h
 |.agg cs,V,h=>by simp only[aeA] at h;simp only[AV.ren,aeA];obtain⟨Us,rfl,h⟩:=h;exact⟨Us,rfl,aeC.ren hρ h⟩
 |.tuple cs,V,h=>by simp only[aeA] at h;simp only[AV.ren,aeA];obtain⟨Us,rfl,h⟩:=h;exact⟨Us,rfl,aeC.ren hρ h⟩
theorem aeC.ren{μ μ' :Nat→Place}{n n' :Nat}{ρ:Nat→Option Nat}(hρ:∀b b',b<n→ρ b=some b' →b' <n' ∧μ' b' =μ b):
  ∀{vs Us},aeC μ n vs Us→aeC μ' n' (AV.aeM ρ vs) Us
 | [],Us,h=>by simpa [AV.aeM,aeC] using h
 |v::vs,Us,h=>by simp only[aeC] at h;simp only[AV.aeM,aeC];obtain⟨U,Ws,rfl,h1,h2⟩:=h;exact⟨U,Ws,rfl,aeA.ren hρ h1,aeC.ren hρ h2⟩
end
theorem fV(ρ:Nat→Option Nat):∀vs,AV.aeM ρ vs=vs.map (AV.ren ρ)
 | []=>rfl
 |v::vs=>by simp[AV.aeM,fV ρ vs]
def AV.kS:AV→Bool
 |.agg _ | .tuple _ | .undef=>false
 |_=>true
def AV.known:AV→Bool
 |.undef=>false
 |_=>true
def AV.cells:AV→List AV
 |.agg cs=>cs
 |v=>[v]
theorem aeA.afV{μ n v V}(h:aeA μ n v V)(hv:v.kS=true):V.oneCell' =true:=by
 cases v<;>simp[AV.kS] at hv<;>simp only[aeA] at h;case bool=>subst h;rfl
 case int=>subst h;rfl
 case str=>subst h;rfl
 case ptr=>rw[h.2];rfl
 case aeT=>subst h;rfl
 case slice=>rw[h.2];rfl
 case kK=>subst h;rfl
 case map=>rw[h.2];rfl
 case yield=>rw[h.2];rfl
 case ae0=>subst h;rfl
 case func=>obtain⟨_,rfl,_⟩:=h;rfl
 case nilFunc=>subst h;rfl
 case iface=>obtain⟨_,rfl,_⟩:=h;rfl
 case nilIface=>subst h;rfl
theorem aeA.cells{μ n v V}(h:aeA μ n v V)(hv:v.known=true):aeC μ n v.cells V.cells.toList:=by
 cases v<;>simp[AV.known] at hv;case agg cs=>
  simp only[aeA] at h;obtain⟨Us,rfl,h⟩:=h;simpa [AV.cells,Value.cells] using h
 all_goals
  have hh:=h;simp only[aeA] at h;simp only[AV.cells];first
   |(subst h;simpa [aeC,Value.cells] using hh)
   |(obtain⟨_,rfl⟩:=h;simpa [aeC,Value.cells] using hh)
   |(obtain⟨_,rfl,_⟩:=h;simpa [aeC,Value.cells] using hh)
abbrev Env:=List (Nat×AV)
def ab:Env→Nat→AV
 | [],_=>.undef
 |(k,v)::r,t=>if k=t then v else ab r t
def ae6(μ:Nat→Place) (n:Nat) (env:Env) (tmps:Array Value):Prop:=∀t,aeA μ n (ab env t) (tmps.getD t undef)
theorem ae6.mono{μ μ' :Nat→Place}{n n' :Nat}{env tmps}(hn:n≤n')(hμ:∀b,b<n→μ' b=μ b)(h:ae6 μ n env tmps):ae6 μ' n' env tmps:=
 fun t=>(h t).mono hn hμ
structure afv where
 st:LoopState
 afe:Option Code
 env:Env
 N:Nat
 ps:Array Tmp
 assign:Code
 body:Code
inductive aeD where
 |kO
 |cells (own:Bool) (es:Nat) (cs:List AV)
 |map (es:List (AV×AV))
 |ae8 (es:List (AV×AV))
 |loop (r:afv)
 deriving Inhabited
abbrev Mem:=List aeD
def aeD.own:aeD→Bool
 |.cells own _ _=>own
 |.map _=>true
 |.ae8 _=>false
 |.loop _=>true
 |.kO=>false
variable{s:aeD}
theorem aeD.afa(h:s.own=true):s≠ .kO:=by cases s<;>simp_all[aeD.own]
def ei(mem:Mem) (b:Nat):Prop:=∃s,mem[b]? =some s∧s.own=true
variable{b:Nat}{cs:List AV}{mem:Mem}
theorem jm{es:Nat}(h:mem[b]? =some (.cells true es cs)):ei mem b:=⟨_,h,rfl⟩
theorem Ks{mem:Mem}{b:Nat}{es}(h:mem[b]? =some (.map es)):ei mem b:=⟨_,h,rfl⟩
theorem PU{mem:Mem}{b:Nat}{r}(h:mem[b]? =some (.loop r)):ei mem b:=⟨_,h,rfl⟩
structure afW (μ:Nat→Place) (n:Nat) (r:afv) (L:Loop):Prop where
 st:L.state=r.st
 afe:L.pending=r.afe
 ps:L.params=r.ps
 assign:L.assign=r.assign
 body:L.body=r.body
 size:L.tmps.size=r.N
 tmps:ae6 μ n r.env L.tmps
def NT(μ:Nat→Place) (n:Nat) (e:AV×AV) (E:MapEntry):Prop:=aeA μ n e.1 E.key∧aeA μ n e.2 E.val
def agO(p:Place) (es:Nat) (e:TypeId):Prop:=p.es=es%1000∧(1000≤es→e+1=es / 1000)
variable{p:Place}
theorem agO.small{es:Nat}{e:TypeId}(h:p.es=es)(hs:es<1000):agO p es e:=⟨by rw[h,Nat.mod_eq_of_lt hs],fun h1=>by omega⟩
theorem agO.es{es:Nat}{e:TypeId}(h:agO p es e)(hs:es<1000):p.es=es:=by rw[h.1,Nat.mod_eq_of_lt hs]
def CC(Do:Array MapEntry) (G':Nat):Prop:=G'=Do.size∧∀(j:Nat) E,Do[j]? =some E→E.born=j
def aeO(μ:Nat→Place) (n base:Nat) (w:World) (p:Place):aeD→Prop
 |.kO=>True
 |.cells own es cs=>∃cur e fr,w.heap[p.blk]? =some (.cells cur e fr)∧agO p es e∧cs.length≤p.tot∧
   (∀(j:Nat) v,cs[j]? =some v→∃V,cur[p.off+j]? =some V∧aeA μ n v V)∧
   (own=true→p.off=0∧fr=(0,0)∧cur.size=p.tot∧base≤p.blk)
 |.map es=>∃Do G',w.heap[p.blk]? =some (.map Do G')∧(base≤p.blk∧CC Do G')∧Do.size=es.length∧
   ∀(j:Nat) e,es[j]? =some e→∃E,Do[j]? =some E∧NT μ n e E
 |.ae8 es=>∃Do G',w.heap[p.blk]? =some (.map Do G')∧CC Do G'∧Do.size=es.length∧
   ∀(j:Nat) e,es[j]? =some e→∃E,Do[j]? =some E∧NT μ n e E
 |.loop r=>∃L,w.heap[p.blk]? =some (.loop L)∧base≤p.blk∧afW μ n r L
structure aeL (base:Nat) (μ:Nat→Place) (mem:Mem) (w:World):Prop where
 aeI:base≤w.heap.size
 slot:∀b s,mem[b]? =some s→aeO μ mem.length base w (μ b) s
 sep:∀b b' s',ei mem b→mem[b']? =some s' →s' ≠ .kO→b≠b' →(μ b).blk≠(μ b').blk
structure Step (m0:Nat) (μ:Nat→Place) (mem:Mem) (w:World) (μ' :Nat→Place) (mem' :Mem) (w' :World):Prop where
 len:m0≤mem'.length
 agree:∀b,b<m0→μ' b=μ b
 os:w'.os=w.os
 tape:w'.tape=w.tape
 output:w'.output=w.output
 size:w.heap.size≤w'.heap.size
 frame:∀k,k<w.heap.size→(∀b,ei mem b→(μ b).blk≠k)→w'.heap[k]? =w.heap[k]?
 owner:∀b,ei mem' b→(μ' b).blk<w.heap.size→∃b0,ei mem b0∧(μ b0).blk=(μ' b).blk
 drawn:w.drawn≤w'.drawn
theorem Step.refl{m0 μ mem w}(h:m0≤mem.length):Step m0 μ mem w μ mem w:=
 ⟨h,fun _ _=>rfl,rfl,rfl,rfl,Nat.le_refl _,fun _ _ _=>rfl,fun b hb _=>⟨b,hb,rfl⟩,Nat.le_refl _⟩
theorem Step.trans{m0 μ mem w μ' mem' w' μ'' mem'' w''}(h:Step m0 μ mem w μ' mem' w')(h' :Step m0 μ' mem' w' μ'' mem'' w''):
  Step m0 μ mem w μ'' mem'' w'' :=by
 refine⟨h'.len,fun b hb=>(h'.agree b hb).trans (h.agree b hb),h'.os.trans h.os,h'.tape.trans h.tape,h'.output.trans h.output,
  Nat.le_trans h.size h'.size,fun k hk hf=>?_,fun b hb A'=>?_,Nat.le_trans h.drawn h'.drawn⟩
 ·rw[h'.frame k (Nat.lt_of_lt_of_le hk h.size) ?_,h.frame k hk hf]
  intro b hb he;obtain⟨b0,h0,h1⟩:=h.owner b hb (he▸hk);exact hf b0 h0 (h1.trans he)
 ·obtain⟨b1,h1,h2⟩:=h'.owner b hb (Nat.lt_of_lt_of_le A' h.size)
  obtain⟨b0,h3,h4⟩:=h.owner b1 h1 (h2▸A');exact⟨b0,h3,h4.trans h2⟩
theorem Step.mono{m0 m1 μ mem w μ' mem' w'}(h:Step m1 μ mem w μ' mem' w')(hm:m0≤m1):Step m0 μ mem w μ' mem' w' :=
 ⟨Nat.le_trans hm h.len,fun b hb=>h.agree b (Nat.lt_of_lt_of_le hb hm),h.os,h.tape,h.output,h.size,h.frame,h.owner,h.drawn⟩
theorem aeL.afz{base μ mem w w'}(h:aeL base μ mem w)(hw:w'.heap=w.heap):aeL base μ mem w' :=by
 refine⟨by rw[hw];exact h.aeI,fun b s hs=>?_,h.sep⟩;have:=h.slot b s hs;cases s with
 |kO=>trivial
 |cells own esz cs=>simp only[aeO] at this ⊢;rw[hw];exact this
 |map es=>simp only[aeO] at this ⊢;rw[hw];exact this
 |ae8 es=>simp only[aeO] at this ⊢;rw[hw];exact this
 |loop r=>simp only[aeO] at this ⊢;rw[hw];exact this
theorem Step.drew{m0 μ mem w}(h:m0≤mem.length):Step m0 μ mem w μ mem w.drew:=
 ⟨h,fun _ _=>rfl,rfl,rfl,rfl,Nat.le_refl _,fun _ _ _=>rfl,fun b hb _=>⟨b,hb,rfl⟩,Nat.le_succ _⟩
variable{w:World}
theorem aeO.mono{μ μ' :Nat→Place}{n n' base:Nat}{w' :World}(hn:n≤n')(hμ:∀b,b<n→μ' b=μ b)(hw:s≠ .kO→w'.heap[p.blk]? =w.heap[p.blk]?)(h:aeO μ n base w p s):aeO μ' n' base w' p s:=by
 cases s with
 |kO=>trivial
 |cells own esz cs=>
  simp only[aeO] at h ⊢;obtain⟨cur,e,fr,h1,h1a,YZ,h2,h3⟩:=h;refine⟨cur,e,fr,by rw[hw (by simp),h1],h1a,YZ,fun j v hv=>?_,h3⟩;obtain⟨V,hV,hr⟩:=h2 j v hv;exact⟨V,hV,hr.mono hn hμ⟩
 |map es=>
  simp only[aeO] at h ⊢;obtain⟨Do,G',h1,h2,h3,h4⟩:=h;refine⟨Do,G',by rw[hw (by simp),h1],h2,h3,fun j e he=>?_⟩;obtain⟨E,hE,Ya,Yc⟩:=h4 j e he;exact⟨E,hE,Ya.mono hn hμ,Yc.mono hn hμ⟩
 |ae8 es=>
  simp only[aeO] at h ⊢;obtain⟨Do,G',h1,h2,h3,h4⟩:=h;refine⟨Do,G',by rw[hw (by simp),h1],h2,h3,fun j e he=>?_⟩;obtain⟨E,hE,Ya,Yc⟩:=h4 j e he;exact⟨E,hE,Ya.mono hn hμ,Yc.mono hn hμ⟩
 |loop r=>
  simp only[aeO] at h ⊢;obtain⟨L,h1,h2,h3⟩:=h;exact⟨L,by rw[hw (by simp),h1],h2,{ h3 with tmps:=h3.tmps.mono hn hμ }⟩
theorem aeO.afk{μ n base w p s}(h:aeO μ n base w p s)(hs:s≠ .kO):p.blk<w.heap.size:=by
 cases s with
 |kO=>exact absurd rfl hs
 |cells own esz cs=>simp only[aeO] at h;obtain⟨cur,e,fr,h1,_⟩:=h;exact(Array.getElem?_eq_some_iff.1 h1).1
 |map es=>simp only[aeO] at h;obtain⟨Do,G',h1,_⟩:=h;exact(Array.getElem?_eq_some_iff.1 h1).1
 |ae8 es=>simp only[aeO] at h;obtain⟨Do,G',h1,_⟩:=h;exact(Array.getElem?_eq_some_iff.1 h1).1
 |loop r=>simp only[aeO] at h;obtain⟨L,h1,_⟩:=h;exact(Array.getElem?_eq_some_iff.1 h1).1
def upd(μ:Nat→Place) (b:Nat) (p:Place):Nat→Place:=fun x=>if x=b then p else μ x
theorem dW{μ b p}:upd μ b p b=p:=by simp[upd]
theorem vp{μ b p x}(h:x<b):upd μ b p x=μ x:=by simp[upd];intro h';omega
theorem kR(hb:b<mem.length):ei (mem++[s]) b↔ei mem b:=by simp[ei,List.getElem?_append_left hb]
theorem gJ(w:World)(o:Obj){k:Nat}(h:k<w.heap.size):(w.alloc o).heap[k]? =w.heap[k]? :=heap_alloc_old w o k h
theorem aeL.push{base μ mem w}(h:aeL base μ mem w)(o:Obj)(s:aeD)(p:Place)(hp:p.blk=w.heap.size)(hs:aeO (upd μ mem.length p) (mem.length+1) base (w.alloc o) p s):
  aeL base (upd μ mem.length p) (mem++[s]) (w.alloc o)∧
  Step mem.length μ mem w (upd μ mem.length p) (mem++[s]) (w.alloc o):=by
 have hμ:∀b,b<mem.length→upd μ mem.length p b=μ b:=fun b hb=>vp hb
 constructor
 ·refine⟨by simp;have:=h.aeI;omega,fun b t ht=>?_,fun b b' s' hb UV PP YN=>?_⟩
  ·rw[List.length_append,List.length_singleton]
   by_cases A':b<mem.length
   ·rw[List.getElem?_append_left A'] at ht
    rw[hμ b A'];refine(h.slot b t ht).mono (Nat.le_succ _) hμ fun PP=>?_
    exact gJ w o ((h.slot b t ht).afk PP)
   ·have hbe:b=mem.length:=by have:=(gL ht);simp at this;omega
    subst hbe;simp at ht;subst ht;rw[dW];exact hs
  ·by_cases h1:b<mem.length<;>by_cases h2:b' <mem.length
   ·rw[hμ b h1,hμ b' h2]
    exact h.sep b b' s' ((kR h1).1 hb) (by rwa [List.getElem?_append_left h2] at UV) PP YN
   ·have hbe:b' =mem.length:=by have:=(gL UV);simp at this;omega
    subst hbe;rw[dW,hμ b h1,hp];have:(μ b).blk<w.heap.size:=by obtain⟨s0,hc,ho⟩:=(kR h1).1 hb;exact(h.slot b _ hc).afk (aeD.afa ho)
    omega
   ·have hbe:b=mem.length:=by obtain⟨s0,hc,ho⟩:=hb;have:=(gL hc);simp at this;omega
    subst hbe;rw[dW,hμ b' h2,hp];have:=(h.slot b' s' (by rwa [List.getElem?_append_left h2] at UV)).afk PP;omega
   ·have hbe:b' =mem.length:=by have:=(gL UV);simp at this;omega
    have acs:b=mem.length:=by obtain⟨s0,hc,ho⟩:=hb;have:=(gL hc);simp at this;omega
    omega
 ·refine⟨by simp,hμ,rfl,rfl,rfl,by simp,fun k hk _=>gJ w o hk,fun b hb A'=>?_,Nat.le_refl _⟩
  by_cases h1:b<mem.length
  ·exact⟨b,(kR h1).1 hb,by rw[hμ b h1]⟩
  ·have acs:b=mem.length:=by obtain⟨s0,hc,ho⟩:=hb;have:=(gL hc);simp at this;omega
   subst acs;rw[dW,hp] at A';omega
theorem aeL.write{base μ mem w}(h:aeL base μ mem w){b:Nat}{s s' :aeD}(hb:mem[b]? =some s)(YV:ei mem b)(abh :s' ≠ .kO→ei (mem.set b s') b){w' :World}(hdr:w'.drawn=w.drawn)(hos:w'.os=w.os)(aam:w'.tape=w.tape)(ZT:w'.output=w.output)(Yw:w'.heap.size=w.heap.size)(aaX:∀k,k≠(μ b).blk→w'.heap[k]? =w.heap[k]?)(hs:aeO μ mem.length base w' (μ b) s'):
  aeL base μ (mem.set b s') w' ∧Step mem.length μ mem w μ (mem.set b s') w' :=by
 have A':b<mem.length:=(gL hb);have own:∀x,ei (mem.set b s') x→ei mem x:=by
  intro x hx;by_cases hxb:x=b
  ·subst hxb;exact YV
  ·obtain⟨s0,hc,ho⟩:=hx
   rw[List.getElem?_set_ne (Ne.symm hxb)] at hc;exact⟨s0,hc,ho⟩
 constructor
 ·refine⟨by rw[Yw];exact h.aeI,fun x t ht=>?_,fun x x' t hx hx' PP hxx=>?_⟩
  ·rw[List.length_set]
   by_cases hxb:x=b
   ·subst hxb
    rw[List.getElem?_set_self A'] at ht;cases ht;exact hs
   ·rw[List.getElem?_set_ne (Ne.symm hxb)] at ht
    refine(h.slot x t ht).mono (Nat.le_refl _) (fun _ _=>rfl) fun PP=>aaX _ ?_
    exact fun he=>h.sep b x t YV ht PP (Ne.symm hxb) he.symm
  ·by_cases hxb:x' =b
   ·subst hxb
    have:=h.sep x x' s (own x hx) hb ?_ hxx
    ·exact this
    ·obtain⟨s0,hc,ho⟩:=YV
     rw[hc] at hb;cases hb;exact aeD.afa ho
   ·rw[List.getElem?_set_ne (Ne.symm hxb)] at hx'
    exact h.sep x x' t (own x hx) hx' PP hxx
 ·refine⟨by simp,fun _ _=>rfl,hos,aam,ZT,by omega,fun k hk hf=>aaX k ?_,fun x hx _=>⟨x,own x hx,rfl⟩,Nat.le_of_eq hdr.symm⟩
  exact fun he=>hf b YV he.symm
structure TyI where
 desc:TypeDesc
 size:Nat
 bytes:Nat
 zero:Value
 agn:Bool
 deriving Inhabited
structure ahn (P:Program) (t:TypeId) (i:TyI):Prop where
 desc:P.underlying t=some i.desc
 info:∃f,P.info? t=some f∧f.size=i.size∧f.bytes=i.bytes∧f.zero=some i.zero
 afX:i.zero.cells.size=i.size
 agn:i.agn=true→P.stoodInHeld t=false∧P.eqGuardType P.depth t=false
def TyI.isAgg(i:TyI):Bool:=match i.desc with | .struct _ | .array _ _=>true | _=>false
def cJ(P:Program) (T:TypeId→Option TyI):Prop:=∀t i,T t=some i→ahn P t i
def jy:Value→AV
 |.bool b=>.bool b
 |.int k n=>.int k n
 |.string s=>.str s.data.toList
 |.pointer none=>.aeT
 |.slice none 0 0=>.kK
 |.map none=>.ae0
 |.nilFunc=>.nilFunc
 |.nilIface=>.nilIface
 |_=>.undef
def iQ:Value→AV
 |.agg cs=>.agg (cs.toList.map jy)
 |v=>jy v
theorem n7(μ:Nat→Place)(n:Nat)(v:Value):aeA μ n (jy v) v:=by unfold jy;split<;>simp[aeA]
theorem mG(μ:Nat→Place) (n:Nat):∀vs:List Value,aeC μ n (vs.map jy) vs
 | []=>by simp[aeC]
 |v::vs=>bo.2 ⟨n7 μ n v,mG μ n vs⟩
theorem wh(μ:Nat→Place)(n:Nat)(v:Value):aeA μ n (iQ v) v:=by
 unfold iQ;split
 ·rename_i cs;simp only[aeA];exact⟨cs.toList,by simp,mG μ n _⟩
 ·exact n7 μ n _
def get(env:Env):Operand→AV
 |.tmp t=>ab env t
 |.const v=>iQ v
 |.global _=>.undef
 |.func f=>.func f []
def Ww(env:Env) (xs:Array Operand):List AV:=xs.toList.map (get env)
theorem aW{μ n env}{a:Act}(h:ae6 μ n env a.tmps)(x:Operand):aeA μ n (get env x) (a.eval x):=by
 cases x with
 |tmp t=>exact h t
 |const v=>exact wh μ n v
 |global g=>simp[get,aeA]
 |func f=>simp only[get,aeA,Act.eval];exact⟨[],rfl,by simp[aeC]⟩
theorem yX{μ n env}{a:Act}(h:ae6 μ n env a.tmps)(xs:List Operand):aeC μ n (xs.map (get env)) (xs.map a.eval):=by
 induction xs with
 |nil=>simp[aeC]
 |cons x xs ih=>exact bo.2 ⟨aW h x,ih⟩
theorem ae6.put{μ n env}{a:Act}{d:Nat}{v:AV}{V:Value}(h:ae6 μ n env a.tmps)(hd:d<a.tmps.size)(hv:aeA μ n v V):
  ae6 μ n ((d,v)::env) (a.put (some d) V).tmps:=by
 intro t;simp only[ab,Act.put];by_cases hdt:d=t
 ·subst hdt
  simp only[if_true,Array.getD_eq_getD_getElem?,Array.getElem?_setIfInBounds_self];simpa [hd] using hv
 ·simp only[hdt,if_false,Array.getD_eq_getD_getElem?,Array.getElem?_setIfInBounds_ne hdt]
  simpa [Array.getD_eq_getD_getElem?] using h t
def gk:Nat:=9223372036854775807
def Xm(op:BinOp) (k:IntKind) (a b:Int):Option AV:=
 match op with
 |.add=>some (.int k (k.wrap (a+b)))
 |.sub=>some (.int k (k.wrap (a-b)))
 |.mul=>some (.int k (k.wrap (a*b)))
 |.quo=>if b=0 then none else some (.int k (k.wrap (a.tdiv b)))
 |.rem=>if b=0 then none else some (.int k (a.tmod b))
 |.eql=>some (.bool (decide (a=b)))
 |.neq=>some (.bool (!decide (a=b)))
 |.lss=>some (.bool (decide (a<b)))
 |.leq=>some (.bool (decide (a≤b)))
 |.gtr=>some (.bool (decide (b<a)))
 |.geq=>some (.bool (decide (b≤a)))
 |_=>none
def Xn(op:BinOp) (s t:List UInt8):Option AV:=
 match op with
 |.add=>if s.length+t.length≤gk then some (.str (s++t)) else none
 |.eql=>some (.bool (s==t))
 |.neq=>some (.bool (!(s==t)))
 |.lss=>some (.bool (Op.bytesLess s t))
 |.leq=>some (.bool (Op.bytesLess s t||s==t))
 |.gtr=>some (.bool (!(Op.bytesLess s t||s==t)))
 |.geq=>some (.bool (!Op.bytesLess s t))
 |_=>none
def jn(i:TyI) (cs:List AV) (off:Nat):Option AV:=
 if i.isAgg then (if off+i.size≤cs.length then some (.agg ((cs.drop off).take i.size)) else none) else cs[off]?
def Qf(T:TypeId→Option TyI) (q:TypeId→AV→AV→Option Bool) (xs ys:List AV):List Field→Option Bool
 | []=>some true
 |f::fs=>
  if f.name = "_" then none else
  match T f.type with
  |none=>none
  |some i=>
   match jn i xs f.offset,jn i ys f.offset with
   |some a,some b=>
    match q f.type a b,Qf T q xs ys fs with
    |some p,some r=>some (p&&r)
    |_,_=>none
   |_,_=>none
def VW(q:AV→AV→Option Bool) (i:TyI) (xs ys:List AV):List Nat→Option Bool
 | []=>some true
 |j::js=>
  match jn i xs (j*i.size),jn i ys (j*i.size) with
  |some a,some b=>
   match q a b,VW q i xs ys js with
   |some p,some r=>some (p&&r)
   |_,_=>none
  |_,_=>none
def lz(T:TypeId→Option TyI):Nat→TypeId→AV→AV→Option Bool
 |0,_,_,_=>none
 |d+1,t,x,y=>
  match T t with
  |none=>none
  |some i=>
   match i.desc,x,y with
   |.bool,.bool a,.bool b=>some (a==b)
   |.int _,.int k a,.int k' b=>if k=k' then some (decide (a=b)) else none
   |.string,.str a,.str b=>some (a==b)
   |.struct fs,.agg xs,.agg ys=>if i.agn then Qf T (lz T d) xs ys fs.toList else none
   |.array n e,.agg xs,.agg ys=>if i.agn then (match T e with
    |some j=>VW (lz T d e) j xs ys (List.range' 0 n)
    |none=>none) else none
   |_,_,_=>none
def qs:Operand→Bool
 |.const _=>true
 |_=>false
def Ax(T:TypeId→Option TyI) (t:TypeId) (r c:Bool) (x y:AV):Option Bool:=
 match T t with
 |none=>none
 |some i=>
  match i.desc,x,y with
  |.slice _,.slice _ _ _ _,.kK=>some false
  |.slice _,.kK,.kK=>some true
  |.pointer _,.aeT,.aeT=>some true
  |.pointer _,.ptr _ _,.aeT=>some false
  |.func _ _ _,.nilFunc,.nilFunc=>some true
  |.func _ _ _,.func _ _,.nilFunc=>some false
  |.interface _,.nilIface,.nilIface=>if r||c then some true else none
  |.interface _,.iface _ _,.nilIface=>some false
  |_,_,_=>none
def Xk(T:TypeId→Option TyI) (op:BinOp) (t:TypeId) (r c:Bool) (x y:AV):Option AV:=
 match x,y with
 |.int k a,.int k' b=>if k=k' then Xm op k a b else none
 |.str s,.str t=>Xn op s t
 |.bool a,.bool b=>match T t with
  |some i=>match i.desc,op with
   |.bool,.eql=>some (.bool (a==b))
   |.bool,.neq=>some (.bool (!(a==b)))
   |_,_=>none
  |none=>none
 |.agg xs,.agg ys=>match op with
  |.eql=>(lz T 20 t (.agg xs) (.agg ys)).map .bool
  |.neq=>(lz T 20 t (.agg xs) (.agg ys)).map fun b=>.bool (!b)
  |_=>none
 |x,y=>match op with
  |.eql=>(Ax T t r c x y).map .bool
  |.neq=>(Ax T t r c x y).map fun b=>.bool (!b)
  |_=>none
def oS(ZI:Nat→Option (Nat×Nat)) (cells:List AV):List (Nat×AV)→Option (List AV)
 | []=>some cells
 |(i,v)::rest=>
  match ZI i with
  |none=>none
  |some (off,size)=>
   if v.known&&decide (v.cells.length=size)&&decide (off+size≤cells.length) then
    oS ZI (cells.take off++v.cells++cells.drop (off+size)) rest
   else none
def aR(T:TypeId→Option TyI) (fs:Array Field) (i:Nat):Option (Nat×Nat):=
 match fs[i]? with
 |some f=>match T f.type with
  |some j=>some (f.offset,j.size)
  |none=>none
 |none=>none
def cM(T:TypeId→Option TyI) (t:TypeId) (parts:List (Nat×AV)):Option AV:=
 match T t with
 |none=>none
 |some i=>
  match i.desc with
  |.struct fs=>if fs.all (fun f=>(T f.type).isSome) then (oS (aR T fs) (iQ i.zero).cells parts).map .agg else none
  |.array _ e=>match T e with
   |some j=>(oS (fun k=>some (k*j.size,j.size)) (iQ i.zero).cells parts).map .agg
   |none=>none
  |_=>none
def yQ(T:TypeId→Option TyI) (s d:TypeId) (x:AV):Option AV:=
 match T s,T d with
 |some i,some j=>
  match i.desc,j.desc,x with
  |.int _,.int k,.int _ n=>some (.int k (k.wrap n))
  |.string,.string,.str s=>some (.str s)
  |_,_,_=>none
 |_,_=>none
def Dj(n:Nat):Option AV→Option Int
 |none=>some n
 |some (.int _ h)=>some h
 |_=>none
def Kd:Option AV→Option Int
 |none=>some 0
 |some (.int _ h)=>some h
 |_=>none
def Nb(T:TypeId→Option TyI) (mem:Mem) (t:TypeId) (x:AV) (lo hi:Option AV):Option AV:=
 match T t with
 |none=>none
 |some i=>
  match i.desc,x with
  |.string,.str s=>
   match Dj s.length hi,Kd lo with
   |some h,some l=>if 0≤l∧l≤h∧h≤s.length then some (.str ((s.drop l.toNat).take (h.toNat-l.toNat))) else none
   |_,_=>none
  |.slice e,.slice b o n c=>
   match T e,mem[b]? with
   |some j,some (.cells _ es cs)=>
    match Dj n hi,Kd lo with
    |some h,some l=>
     if 0≤l∧l≤h∧h≤n∧(l=0∨l<n)∧es=j.size∧0<es∧es<1000∧o+n*es≤cs.length∧c=none then
      some (.slice b (o+l.toNat*es) (h.toNat-l.toNat) none) else none
    |_,_=>none
   |_,_=>none
  |.slice e,.kK=>
   match T e with
   |some _=>
    match Dj 0 hi,Kd lo with
    |some h,some l=>if h=0∧l=0 then some .kK else none
    |_,_=>none
   |none=>none
  |.array n e,.ptr b o=>
   match T e with
   |some j=>
    match Dj n hi,Kd lo with
    |some h,some l=>
     if 0≤l∧l≤h∧h≤n∧l<n then some (.slice b (o+l.toNat*j.size) (h.toNat-l.toNat) (some (n-l.toNat))) else none
    |_,_=>none
   |none=>none
  |_,_=>none
def qW(T:TypeId→Option TyI) (t:TypeId) (x i:AV):Option AV:=
 match T t with
 |none=>none
 |some ti=>
  match ti.desc,x,i with
  |.slice e,.slice b o n _,.int _ k=>match T e with
   |some j=>if 0≤k∧k<n then some (.ptr b (o+k.toNat*j.size)) else none
   |none=>none
  |.array n e,.ptr b o,.int _ k=>match T e with
   |some j=>if 0≤k∧k<n then some (.ptr b (o+k.toNat*j.size)) else none
   |none=>none
  |_,_,_=>none
def Na(T:TypeId→Option TyI) (t:TypeId) (x i:AV):Option AV:=
 match T t with
 |none=>none
 |some ti=>
  match ti.desc,x,i with
  |.array n e,.agg cs,.int _ k=>match T e with
   |some j=>if 0≤k∧k<n then jn j cs (k.toNat*j.size) else none
   |none=>none
  |.string,.str s,.int _ k=>if 0≤k then (match s[k.toNat]? with | some c=>some (.int .u8 c.toNat) | none=>none) else none
  |_,_,_=>none
def nb(T:TypeId→Option TyI) (t:TypeId) (x:AV) (f:Nat):Option AV:=
 match T t with
 |none=>none
 |some ti=>
  match ti.desc,x with
  |.struct fs,.agg cs=>match fs[f]? with
   |some fd=>match T fd.type with
    |some j=>jn j cs fd.offset
    |none=>none
   |none=>none
  |_,_=>none
def qV(T:TypeId→Option TyI) (t:TypeId) (x:AV) (f:Nat):Option AV:=
 match T t with
 |none=>none
 |some ti=>
  match ti.desc,x with
  |.struct fs,.ptr b o=>match fs[f]? with
   |some fd=>match T fd.type with
    |some j=>if j.size=0 then none else some (.ptr b (o+fd.offset))
    |none=>none
   |none=>none
  |_,_=>none
def lD(T:TypeId→Option TyI) (t:TypeId) (mem:Mem) (x:AV):Option AV:=
 match T t with
 |none=>none
 |some ti=>
  match ti.desc,x with
  |.string,.str s=>some (.int .i64 s.length)
  |.slice _,.slice _ _ n _=>some (.int .i64 n)
  |.slice _,.kK=>some (.int .i64 0)
  |.array n _,_=>some (.int .i64 n)
  |.map _ _,.ae0=>some (.int .i64 0)
  |.map _ _,.map b=>match mem[b]? with
   |some (.map es)=>some (.int .i64 es.length)
   |_=>none
  |_,_=>none
def Pg(T:TypeId→Option TyI) (mem:Mem) (t:TypeId) (x:AV):Option AV:=
 match T t,x with
 |some i,.ptr b o=>match mem[b]? with
  |some (.cells _ _ cs)=>jn i cs o
  |_=>none
 |_,_=>none
def rZ(T:TypeId→Option TyI) (mem:Mem) (t:TypeId) (x v:AV):Option Mem:=
 match T t,x with
 |some i,.ptr b o=>match mem[b]? with
  |some (.cells true es cs)=>
   if v.known&&decide (v.cells.length=i.size)&&decide (o+i.size≤cs.length)&&v.cells.all AV.kS then
    some (mem.set b (.cells true es (cs.take o++v.cells++cs.drop (o+i.size)))) else none
  |_=>none
 |_,_=>none
variable{i:TyI}{k:IntKind}{op:BinOp}{v:AV}{x:Sem Value}
section
variable {P:Program}{T:TypeId→Option TyI}{μ:Nat→Place}{n:Nat}
def Val(P:Program) (x:Sem Value) (w:World) (μ:Nat→Place) (n:Nat) (v:AV):Prop:=∃V,x.run P w=.ok V w∧aeA μ n v V
theorem Val.int{i:Int}(h:x.run P w=.ok (.int k i) w):Val P x w μ n (.int k i):=⟨_,h,by simp[aeA]⟩
theorem Val.bool{b:Bool}(h:x.run P w=.ok (.bool b) w):Val P x w μ n (.bool b):=⟨_,h,by simp[aeA]⟩
theorem Val.str{s:List UInt8}(h:x.run P w=.ok (.string ⟨s.toArray⟩) w):Val P x w μ n (.str s):=⟨_,h,by simp[aeA]⟩
theorem Pe{a b:Int}(h:Xm op k a b=some v)(t:TypeId)(w:World):
  Val P (binOp op t (.int k a) (.int k b)) w μ n v:=by
 cases op<;>simp only[Xm,Option.some.injEq,reduceCtorEq] at h;case add=>subst h;exact .int (by simp[binOp,Op.intArith])
 case sub=>subst h;exact .int (by simp[binOp,Op.intArith])
 case mul=>subst h;exact .int (by simp[binOp,Op.intArith])
 case quo=>
  split at h
  ·cases h
  ·rename_i hb;cases h;exact .int (by simp[binOp,Op.intDiv,hb])
 case rem=>
  split at h
  ·cases h
  ·rename_i hb;cases h;exact .int (by simp[binOp,Op.intDiv,hb])
 case eql=>subst h;exact .bool (by simp[binOp,Op.intCmp];try (rw[Bool.eq_iff_iff];simp))
 case neq=>subst h;exact .bool (by simp[binOp,Op.intCmp];try (rw[Bool.eq_iff_iff];simp))
 case lss=>subst h;exact .bool (by simp[binOp,Op.intCmp])
 case leq=>subst h;exact .bool (by simp[binOp,Op.intCmp])
 case gtr=>subst h;exact .bool (by simp[binOp,Op.intCmp])
 case geq=>subst h;exact .bool (by simp[binOp,Op.intCmp])
theorem Pj{s u:List UInt8}(h:Xn op s u=some v)(t:TypeId)(w:World):
  Val P (binOp op t (.string ⟨s.toArray⟩) (.string ⟨u.toArray⟩)) w μ n v:=by
 cases op<;>simp only[Xn,Option.some.injEq,reduceCtorEq] at h;case add=>
  split at h
  ·rename_i hl
   cases h;refine .str ?_;have:¬((9223372036854775807:Int)<((s.length:Int)+(u.length:Int))):=by simp only[gk] at hl;omega
   have hs:(ByteArray.mk s.toArray).size=s.length:=by simp[ByteArray.size]
   have hu:(ByteArray.mk u.toArray).size=u.length:=by simp[ByteArray.size]
   have ac1:(ByteArray.mk s.toArray)++(ByteArray.mk u.toArray)=ByteArray.mk (s++u).toArray:=by apply ByteArray.ext;simp
   simp[binOp,Op.stringOp,hs,hu,this,ac1]
  ·cases h
 case eql=>subst h;exact .bool (by simp[binOp,Op.stringOp])
 case neq=>subst h;exact .bool (by simp[binOp,Op.stringOp])
 case lss=>subst h;exact .bool (by simp[binOp,Op.stringOp])
 case leq=>subst h;exact .bool (by simp[binOp,Op.stringOp])
 case gtr=>subst h;exact .bool (by simp[binOp,Op.stringOp])
 case geq=>subst h;exact .bool (by simp[binOp,Op.stringOp])
section
variable (hT:cJ P T){t:TypeId}
include hT t
section
variable (h:T t=some i)
include h
theorem uY(w:World):(Go.isAgg t).run P w=.ok i.isAgg w:=by have hd:=(hT t i h).desc;simp only[Go.isAgg,Sem.run_bind,run_underlying hd,Result.andThen_ok,TyI.isAgg];cases i.desc<;>rfl
theorem cD(w:World):(Go.sizeOf t).run P w=.ok i.size w:=by obtain⟨f,hf,hs,_,_⟩:=(hT t i h).info;simp[Go.sizeOf,typeInfo,hf,hs]
theorem xJ(w:World):∃f,(typeInfo t).run P w=.ok f w∧f.size=i.size∧f.bytes=i.bytes∧f.zero=some i.zero:=by obtain⟨f,hf,hs,hb,hz⟩:=(hT t i h).info;exact⟨f,by simp[typeInfo,hf],hs,hb,hz⟩
theorem dX(w:World):(zeroValue t).run P w=.ok i.zero w:=by obtain⟨f,hf,hs,hb,hz⟩:=xJ hT h w;simp[zeroValue,hf,hz]
end
theorem iH(ht:T t=some i){Cs:List Value}{off:Nat}(h:jn i cs off=some v)(hr:aeC μ n cs Cs)(w:World):Val P (part t ⟨Cs⟩ off) w μ n v:=by
 unfold jn at h;simp only[part,Val];cases hi:i.isAgg with
 |true=>
  simp only[hi,if_true] at h;split at h
  ·rename_i X7
   cases h;have F':=hr.length;refine⟨.agg (Array.extract ⟨Cs⟩ off (off+i.size)),?_,?_⟩
   ·simp[uY hT ht,cD hT ht,hi]
   ·simp only[aeA]
    refine⟨(Cs.drop off).take i.size,?_,(hr.drop off).take i.size⟩;congr 1;apply Array.ext';simp[List.extract]
  ·cases h
 |false=>
  simp only[hi,Bool.false_eq_true,if_false] at h;obtain⟨U,hU,hv⟩:=hr.get off v h;exact⟨U,by simp[uY hT ht,hi,hU],hv⟩
end
theorem aeA.bool{b V}(h:aeA μ n (.bool b) V):V=.bool b:=by simpa [aeA] using h
theorem aeA.int{k i V}(h:aeA μ n (.int k i) V):V=.int k i:=by simpa [aeA] using h
theorem aeA.str{s V}(h:aeA μ n (.str s) V):V=.string ⟨s.toArray⟩:=by simpa [aeA] using h
theorem aeA.agg{cs V}(h:aeA μ n (.agg cs) V):∃Us,V=.agg ⟨Us⟩∧aeC μ n cs Us:=by simpa only[aeA] using h
theorem Di(hT:cJ P T) {d:Nat}{q:TypeId→AV→AV→Option Bool}
  (ih:∀{t:TypeId}{x y:AV}{b:Bool}{X Y:Value},q t x y=some b→aeA μ n x X→aeA μ n y Y→∀(w:World),(Op.equalIn d t X Y).run P w=.ok b w)
  {xs ys:List AV}{Xs Ys:List Value}(hx:aeC μ n xs Xs) (hy:aeC μ n ys Ys) (w:World):
  ∀{fs:List Field}{b:Bool},Qf T q xs ys fs=some b→(Op.eqFields d ⟨Xs⟩ ⟨Ys⟩ fs).run P w=.ok b w
 | [],b,h=>by simp only[Qf,Option.some.injEq] at h;subst h;simp[Op.eqFields]
 |f::fs,b,h=>by
  rw[Qf] at h;split at h
  ·cases h
  ·rename_i aan
   split at h
   ·cases h
   ·rename_i i ht
    split at h
    ·rename_i a c ha hc
     split at h
     ·rename_i p r hp hr
      cases h;obtain⟨A,hA,hrA⟩:=iH (P:=P) (μ:=μ) (n:=n) hT ht ha hx w;obtain⟨C,hC,hrC⟩:=iH (P:=P) (μ:=μ) (n:=n) hT ht hc hy w;have h1:=ih hp hrA hrC w;have h2:=Di hT ih hx hy w hr;simp only[Op.eqFields,aan,ne_eq,not_false_eq_true,if_true,Sem.run_bind,hA,hC,h1,Result.andThen_ok];cases p
      ·simp
      ·simp[h2]
     ·cases h
    ·cases h
theorem Dh(hT:cJ P T) {d:Nat}{e:TypeId}{i:TyI}(hi:T e=some i) {q:AV→AV→Option Bool}
  (ih:∀{x y:AV}{b:Bool}{X Y:Value},q x y=some b→aeA μ n x X→aeA μ n y Y→∀(w:World),(Op.equalIn d e X Y).run P w=.ok b w)
  {xs ys:List AV}{Xs Ys:List Value}(hx:aeC μ n xs Xs) (hy:aeC μ n ys Ys) (w:World):
  ∀{js:List Nat}{b:Bool},VW q i xs ys js=some b→
   ((forIn js ((none,()):Option Bool×Unit) fun j _=>(do
     let a ←part e ⟨Xs⟩ (j*i.size)
     let c ←part e ⟨Ys⟩ (j*i.size)
     let r ←Op.equalIn d e a c
     if (!r)=true then pure (ForInStep.done (some false,())) else pure (ForInStep.yield (none,())):Sem (ForInStep (Option Bool×Unit)))).run P w=
    .ok (if b then none else some false,()) w)
 | [],b,h=>by simp only[VW,Option.some.injEq] at h;subst h;simp
 |j::js,b,h=>by
  rw[VW] at h;split at h
  ·rename_i a c ha hc
   split at h
   ·rename_i p r hp hr
    cases h;obtain⟨A,hA,hrA⟩:=iH (P:=P) (μ:=μ) (n:=n) hT hi ha hx w;obtain⟨C,hC,hrC⟩:=iH (P:=P) (μ:=μ) (n:=n) hT hi hc hy w;have h1:=ih hp hrA hrC w;have h2:=Dh hT hi ih hx hy w hr;simp only[List.forIn_cons,Sem.run_bind,hA,hC,h1,Result.andThen_ok];cases p
    ·simp
    ·simp only[Bool.not_true,Bool.false_eq_true,if_false,Sem.run_pure,Result.andThen_ok,Bool.true_and]
     exact h2
   ·cases h
  ·cases h
theorem iD(hT:cJ P T):∀(d:Nat) {t:TypeId}{x y:AV}{b:Bool}{X Y:Value},lz T d t x y=some b→aeA μ n x X→aeA μ n y Y→
  ∀(k:Nat) (w:World),(Op.equalIn (d+k) t X Y).run P w=.ok b w
 |0,_,_,_,_,_,_,h,_,_,_,_=>by simp[lz] at h
 |d+1,t,x,y,b,X,Y,h,hx,hy,k,w=>by
  rw[lz] at h;rw[show d+1+k=d+k+1 by omega];cases ht:T t with
  |none=>rw[ht] at h;cases h
  |some i=>
   rw[ht] at h;simp only at h;have hd:=(hT t i ht).desc;split at h
   ·rename_i B'
    cases h;rw[hx.bool,hy.bool];rw[B'] at hd;exact run_equalIn_bool' w _ t _ _ hd
   ·rename_i k1 k2 a k' b' B'
    split at h
    ·rename_i hk
     cases h;subst hk;rw[hx.int,hy.int];rw[B'] at hd;rw[run_equalIn_int w _ t _ k1 _ _ hd];congr 1
    ·cases h
   ·rename_i B'
    cases h;rw[hx.str,hy.str];rw[B'] at hd;rw[run_equalIn_string w _ t _ _ hd];simp
   ·rename_i fs xs ys B'
    split at h
    ·rename_i XW
     obtain⟨Xs,rfl,hxs⟩:=hx.agg;obtain⟨Ys,rfl,hys⟩:=hy.agg;rw[B'] at hd;have hf:P.fieldsOf t=fs:=by simp[Program.fieldsOf,hd]
     rw[run_equalIn_agg w _ t _ _ (by rw[hd,hf]) ((hT t i ht).agn XW).1,hf];exact Di hT (fun h1 h2 h3 w=>iD hT d h1 h2 h3 k w) hxs hys w h
    ·cases h
   ·rename_i m e xs ys B'
    split at h
    ·split at h
     ·rename_i j hj
      obtain⟨Xs,rfl,hxs⟩:=hx.agg;obtain⟨Ys,rfl,hys⟩:=hy.agg;rw[B'] at hd;have ac2:=Dh hT hj (d:=d+k) (fun h1 h2 h3 w=>iD hT d h1 h2 h3 k w) hxs hys w h;simp only[Op.equalIn,Sem.run_bind,run_underlying hd,Result.andThen_ok,cD hT hj];simp only[Std.Legacy.Range.forIn_eq_forIn_range',Std.Legacy.Range.size,Nat.sub_zero,Nat.add_sub_cancel,Nat.div_one];rw[ac2];cases b<;>rfl
     ·cases h
    ·cases h
   ·cases h
end
end Go.Eng
namespace Go.Eng
variable{X Y:Value}
section
variable {P:Program}{T:TypeId→Option TyI}{μ:Nat→Place}{n:Nat}
theorem ga(t:TypeId)(X Y:Value):Op.equal t X Y=Op.equalIn (9999+1) t X Y:=rfl
theorem C5(hT:cJ P T){t:TypeId}{x y:AV}{b:Bool}(hx:aeA μ n x X)(hy:aeA μ n y Y)(ox oy:Operand)(h:Ax T t (qs ox) (qs oy) x y=some b)(w:World):
  (∀op,(eqGuard op t ox oy X Y).run P w=.ok () w)∧(Op.equal t X Y).run P w=.ok b w∧(∀op:BinOp,op=.eql∨op=.neq→binOp op t X Y=(if op=.eql then (do pure (.bool (←Op.equal t X Y))) else (do pure (.bool (!(←Op.equal t X Y)))))):=by
 unfold Ax at h;cases ht:T t with
 |none=>rw[ht] at h;cases h
 |some i=>
  rw[ht] at h;simp only at h;have hd:=(hT t i ht).desc;split at h
  ·rename_i B';cases h;rw[B'] at hd
   simp only[aeA] at hx hy;obtain⟨_,rfl⟩:=hx;subst hy;exact⟨fun op=>by rw[eqGuard_at_slice];rfl,by rw[ga,Op.equalIn];simp[run_underlying hd],by intro op ho;cases ho with | inl e=>subst e;rfl | inr e=>subst e;rfl⟩
  ·rename_i B';cases h;rw[B'] at hd
   simp only[aeA] at hx hy;subst hx;subst hy;exact⟨fun op=>by rw[eqGuard_at_slice];rfl,by rw[ga,Op.equalIn];simp[run_underlying hd],by intro op ho;cases ho with | inl e=>subst e;rfl | inr e=>subst e;rfl⟩
  ·rename_i B';cases h;rw[B'] at hd
   simp only[aeA] at hx hy;subst hx;subst hy;exact⟨fun op=>by rw[eqGuard_at_pointer];rfl,by rw[ga,Op.equalIn];simp[run_underlying hd],by intro op ho;cases ho with | inl e=>subst e;rfl | inr e=>subst e;rfl⟩
  ·rename_i B';cases h;rw[B'] at hd
   simp only[aeA] at hx hy;obtain⟨_,rfl⟩:=hx;subst hy;exact⟨fun op=>by rw[eqGuard_at_pointer];rfl,by rw[ga,Op.equalIn];simp[run_underlying hd],by intro op ho;cases ho with | inl e=>subst e;rfl | inr e=>subst e;rfl⟩
  ·rename_i B';cases h;rw[B'] at hd
   simp only[aeA] at hx hy;subst hx;subst hy;exact⟨fun op=>by rw[eqGuard_at_nilFunc];rfl,by rw[ga,Op.equalIn];simp[run_underlying hd],by intro op ho;cases ho with | inl e=>subst e;rfl | inr e=>subst e;rfl⟩
  ·rename_i B';cases h;rw[B'] at hd
   simp only[aeA] at hx hy;obtain⟨_,rfl,_⟩:=hx;subst hy;exact⟨fun op=>by rw[eqGuard_at_func];rfl,by rw[ga,Op.equalIn];simp[run_underlying hd],by intro op ho;cases ho with | inl e=>subst e;rfl | inr e=>subst e;rfl⟩
  ·rename_i B';rw[B'] at hd
   simp only[aeA] at hx hy;subst hx;subst hy;split at h
   ·rename_i hc;cases h
    refine⟨fun op=>?_,by rw[ga,Op.equalIn];simp[run_underlying hd],by intro op ho;cases ho with | inl e=>subst e;rfl | inr e=>subst e;rfl⟩;cases ox<;>cases oy<;>simp[qs] at hc<;>first | (rw[eqGuard_nil_constR];rfl) | (rw[eqGuard_nil_constL];rfl)
   ·cases h
  ·rename_i B';cases h;rw[B'] at hd
   simp only[aeA] at hx hy;obtain⟨_,rfl,_⟩:=hx;subst hy;exact⟨fun op=>by rw[eqGuard_at_iface];rfl,by rw[ga,Op.equalIn];simp[run_underlying hd],by intro op ho;cases ho with | inl e=>subst e;rfl | inr e=>subst e;rfl⟩
  ·cases h
theorem Pa(hT:cJ P T){op:BinOp}{t:TypeId}{x y v:AV}(hx:aeA μ n x X)(hy:aeA μ n y Y)(ox oy:Operand)(h:Xk T op t (qs ox) (qs oy) x y=some v)(w:World):
  Val P (do eqGuard op t ox oy X Y;binOp op t X Y) w μ n v:=by
 unfold Xk at h;split at h
 ·rename_i k a k' b
  split at h
  ·rename_i hk
   subst hk;rw[hx.int,hy.int];obtain⟨V,h1,h2⟩:=Pe (P:=P) (μ:=μ) (n:=n) h t w;exact⟨V,by rw[eqGuard_at_int];simpa using h1,h2⟩
  ·cases h
 ·rw[hx.str,hy.str]
  obtain⟨V,h1,h2⟩:=Pj (P:=P) (μ:=μ) (n:=n) h t w;exact⟨V,by rw[eqGuard_at_string];simpa using h1,h2⟩
 ·rename_i a b
  rw[hx.bool,hy.bool];split at h
  ·rename_i i hi
   have hd:=(hT t i hi).desc;split at h
   ·rename_i B'
    cases h;rw[B'] at hd;refine .bool ?_;rw[eqGuard_at_bool];simp only[binOp,ga,Sem.run_bind,Sem.run_pure,Result.andThen_ok,run_equalIn_bool' w 9999 t a b hd]
   ·rename_i B'
    cases h;rw[B'] at hd;refine .bool ?_;rw[eqGuard_at_bool];simp only[binOp,ga,Sem.run_bind,Sem.run_pure,Result.andThen_ok,run_equalIn_bool' w 9999 t a b hd]
   ·cases h
  ·cases h
 ·rename_i xs ys
  have aax:∀b,lz T 20 t (.agg xs) (.agg ys)=some b→P.eqGuardType P.depth t=false:=by
   intro b hb;rw[lz] at hb;cases ht:T t with
   |none=>rw[ht] at hb;cases hb
   |some i=>
    rw[ht] at hb;simp only at hb;split at hb
    ·rename_i h1 _;cases h1
    ·rename_i h1 _;cases h1
    ·rename_i h1 _;cases h1
    ·split at hb
     ·rename_i XW;exact((hT t i ht).agn XW).2
     ·cases hb
    ·split at hb
     ·rename_i XW;exact((hT t i ht).agn XW).2
     ·cases hb
    ·cases hb
  split at h
  ·simp only[Option.map_eq_some_iff] at h
   obtain⟨b,hb,rfl⟩:=h;have h1:=iD hT 20 hb hx hy 9980 w;obtain⟨Xs,rfl,_⟩:=hx.agg;obtain⟨Ys,rfl,_⟩:=hy.agg;refine .bool ?_;simp only[Sem.run_bind,run_eqGuard_agg w _ t ox oy _ _ (aax b hb),Result.andThen_ok,run_eql_struct,h1]
  ·simp only[Option.map_eq_some_iff] at h
   obtain⟨b,hb,rfl⟩:=h;have h1:=iD hT 20 hb hx hy 9980 w;obtain⟨Xs,rfl,_⟩:=hx.agg;obtain⟨Ys,rfl,_⟩:=hy.agg;refine .bool ?_;simp only[Sem.run_bind,run_eqGuard_agg w _ t ox oy _ _ (aax b hb),Result.andThen_ok,run_neq_struct,h1]
  ·cases h
 ·split at h
  ·simp only[Option.map_eq_some_iff] at h
   obtain⟨b,hb,rfl⟩:=h;obtain⟨h1,h2,h3⟩:=C5 hT hx hy ox oy hb w;refine .bool ?_;rw[Sem.run_bind,h1,Result.andThen_ok,h3 _ (.inl rfl)];simp[h2]
  ·simp only[Option.map_eq_some_iff] at h
   obtain⟨b,hb,rfl⟩:=h;obtain⟨h1,h2,h3⟩:=C5 hT hx hy ox oy hb w;refine .bool ?_;rw[Sem.run_bind,h1,Result.andThen_ok,h3 _ (.inr rfl)];simp[h2]
  ·cases h
theorem Co(hT:cJ P T){s d:TypeId}{x v:AV}(hx:aeA μ n x X)(h:yQ T s d x=some v)(w:World):
  Val P (convert s d X) w μ n v:=by
 unfold yQ at h;split at h
 ·rename_i i j hi hj
  have h1:=(hT s i hi).desc;have h2:=(hT d j hj).desc;split at h
  ·rename_i e1 e2;cases h;rw[hx.int];rw[e1] at h1;rw[e2] at h2
   exact .int (by simp[convert,run_underlying h1,run_underlying h2,Conv.intToInt])
  ·rename_i e1 e2;cases h;rw[hx.str];rw[e1] at h1;rw[e2] at h2
   exact .str (by simp[convert,run_underlying h1,run_underlying h2])
  ·cases h
 ·cases h
theorem J1(off:Nat):∀(vs:List Value) (k:Nat) (cur:List Value),off+k+vs.length≤cur.length→
  ((vs.zipIdx k).foldl (fun(cs:Array Value) (x:Value×Nat)=>cs.setIfInBounds (off+x.2) x.1) ⟨cur⟩)=⟨cur.take (off+k)++vs++cur.drop (off+k+vs.length)⟩
 | [],k,cur,_=>by simp
 |v::vs,k,cur,h=>by
  simp only[List.zipIdx_cons,List.foldl_cons];have h1:(⟨cur⟩:Array Value).setIfInBounds (off+k) v=⟨cur.set (off+k) v⟩:=by simp
  rw[h1,J1 off vs (k+1) (cur.set (off+k) v) (by simp at h ⊢;omega)];have e:=list_seg_step cur (off+k) v vs (by simp at h ⊢;omega);simp only[List.append_assoc,Array.mk.injEq,List.length_cons] at e ⊢;simpa [Nat.add_assoc,Nat.add_comm 1] using e
theorem rn{ZI:Nat→Option (Nat×Nat)}:∀{parts:List (Nat×AV)}{cells Y6 :List AV}{Parts:List (Nat×Value)}{Cells:List Value},
  oS ZI cells parts=some Y6 →aeC μ n cells Cells→Parts.map (·.1)=parts.map (·.1)→aeC μ n (parts.map (·.2)) (Parts.map (·.2))→
  ∃Cells',Instr.fill ZI ⟨Cells⟩ Parts=some ⟨Cells'⟩∧aeC μ n Y6 Cells'
 | [],cells,Y6,Parts,Cells,h,hc,hp,_=>by
  simp only[oS,Option.some.injEq] at h;subst h;have:Parts=[]:=by simpa using hp
  subst this;exact⟨Cells,rfl,hc⟩
 |(i,v)::rest,cells,Y6,Parts,Cells,h,hc,hp,hv=>by
  cases Parts with
  |nil=>simp at hp
  |cons p Rest=>
   obtain⟨i',V⟩:=p;simp only[List.map_cons,List.cons.injEq] at hp;obtain⟨rfl,hp⟩:=hp;simp only[List.map_cons] at hv;obtain⟨hv1,hv2⟩:=bo.1 hv;rw[oS] at h;cases hpl:ZI i' with
   |none=>rw[hpl] at h;cases h
   |some os=>
    obtain⟨off,size⟩:=os;rw[hpl] at h;simp only at h;split at h
    ·rename_i P'
     simp only[Bool.and_eq_true,decide_eq_true_eq] at P';obtain⟨⟨hk,Yw⟩,YA⟩:=P';have hVc:=hv1.cells hk;have hVl:V.cells.size=size:=by rw[←Array.length_toList,hVc.length,Yw]
     have hCl:=hc.length;rw[Instr.fill,hpl];simp only;have e1:(V.cells.zipIdx.foldl (fun cs (x:Value×Nat)=>cs.setIfInBounds (off+x.2) x.1) (⟨Cells⟩:Array Value))=⟨Cells.take off++V.cells.toList++Cells.drop (off+size)⟩:=by rw[←Array.foldl_toList,Array.toList_zipIdx,J1 off _ 0 Cells (by rw[hVc.length,hCl,Yw];omega)];simp[hVl]
     rw[if_neg (by simp[hVl,hCl];omega),e1];exact rn h (((hc.take off).append hVc).append (hc.drop _)) hp hv2
    ·cases h
theorem Ny{α β:Type}(g:α→Sem β) (hf:α→β) (w:World):∀(l:List α),(∀x∈l,(g x).run P w=.ok (hf x) w)→(l.mapM g).run P w=.ok (l.map hf) w
 | [],_=>by simp
 |x::l,h=>by simp[List.mapM_cons,h x (by simp),Ny g hf w l (fun y hy=>h y (by simp[hy]))]
theorem MV{μ:Nat→Place}{n:Nat}{v:AV}{V:Value}(h:aeA μ n v V)(hv:v.cells=[v])(hV:V.cells= #[V]):aeC μ n v.cells V.cells.toList:=by rw[hv,hV];exact bo.2 ⟨h,by simp[aeC]⟩
theorem Cw(v:Value):(jy v).cells=[jy v]:=by unfold jy;split<;>rfl
theorem jl(μ:Nat→Place)(n:Nat)(z:Value):aeC μ n (iQ z).cells z.cells.toList:=by
 by_cases h:∃cs,z=.agg cs
 ·obtain⟨cs,rfl⟩:=h;exact mG μ n _
 ·have e:iQ z=jy z:=by cases z<;>first | rfl | exact absurd ⟨_,rfl⟩ h
  have c:z.cells= #[z]:=by cases z<;>first | rfl | exact absurd ⟨_,rfl⟩ h
  rw[e];exact MV (n7 μ n z) (Cw z) c
theorem Jq(hT:cJ P T){t:TypeId}{parts:List (Nat×AV)}{Parts:List (Nat×Value)}{v:AV}(h:cM T t parts=some v)(hp:Parts.map (·.1)=parts.map (·.1))(hv:aeC μ n (parts.map (·.2)) (Parts.map (·.2)))(w:World):
  Val P (Instr.build t ⟨Parts⟩) w μ n v:=by
 unfold cM at h;cases ht:T t with
 |none=>rw[ht] at h;cases h
 |some i=>
  rw[ht] at h;simp only at h;have hd:=(hT t i ht).desc;have hz:=jl μ n i.zero;split at h
  ·rename_i fs B'
   split at h
   ·rename_i H'
    simp only[Option.map_eq_some_iff] at h;obtain⟨Y6,hf,rfl⟩:=h;obtain⟨Cells',h1,h2⟩:=rn hf hz hp hv;rw[B'] at hd;have aao :∀f∈fs.toList,∃j,T f.type=some j:=by intro f hf;rw[Array.all_eq_true'] at H';have:=H' f (by simpa using hf);exact Option.isSome_iff_exists.1 this
    have ac3:(fs.mapM fun f=>do pure (f.offset,←sizeOf f.type):Sem (Array (Nat×Nat))).run P w=
      .ok (fs.map fun f=>(f.offset,((T f.type).map (·.size)).getD 0)) w:=by
     rw[Array.mapM_eq_mapM_toList,Sem.run_map];rw[Ny (P:=P) _ (fun f=>(f.offset,((T f.type).map (·.size)).getD 0)) w fs.toList (fun f hf=>by obtain⟨j,hj⟩:=aao f hf;simp[cD hT hj,hj])]
     simp only[Result.andThen_ok,Result.ok.injEq,and_true];apply Array.ext';simp
    have hpl:(fun k=>(fs.map fun f=>(f.offset,((T f.type).map (·.size)).getD 0))[k]?)=aR T fs:=by
     funext k;simp only[aR,Array.getElem?_map];cases hk:fs[k]? with
     |none=>rfl
     |some f=>
      have Yo:f∈fs.toList:=by have:=Array.mem_of_getElem? hk;simpa using this
      obtain⟨j,hj⟩:=aao f Yo;simp[hj]
    refine⟨.agg ⟨Cells'⟩,?_,by simp only[aeA];exact⟨Cells',rfl,h2⟩⟩;simp only[Instr.build,Sem.run_bind,dX hT ht,Result.andThen_ok,run_underlying hd];erw [ac3];simp only[Result.andThen_ok,hpl];rw[show i.zero.cells=⟨i.zero.cells.toList⟩ from rfl,h1];rfl
   ·cases h
  ·rename_i m e B'
   split at h
   ·rename_i j hj
    simp only[Option.map_eq_some_iff] at h;obtain⟨Y6,hf,rfl⟩:=h;obtain⟨Cells',h1,h2⟩:=rn hf hz hp hv;rw[B'] at hd;refine⟨.agg ⟨Cells'⟩,?_,by simp only[aeA];exact⟨Cells',rfl,h2⟩⟩;simp only[Instr.build,Sem.run_bind,dX hT ht,Result.andThen_ok,run_underlying hd,cD hT hj];rw[show i.zero.cells=⟨i.zero.cells.toList⟩ from rfl,h1];rfl
   ·cases h
  ·cases h
end
end Go.Eng
namespace Go.Eng
variable{f:Nat}
section
variable {P:Program}{T:TypeId→Option TyI}{μ:Nat→Place}{n:Nat}
theorem aeA.ptr{b o V}(h:aeA μ n (.ptr b o) V):b<n∧V=.pointer (some ⟨(μ b).blk,(μ b).off+o,none⟩):=by simpa only[aeA] using h
theorem aeA.slice{b o l c V}(h:aeA μ n (.slice b o l c) V):b<n∧V=.slice (some ⟨(μ b).blk,(μ b).off+o,none⟩) l (jh (μ b) o c):=by simpa only[aeA] using h
theorem bX{k:IntKind}{i:Int}{y:Nat}(h0:0≤i)(h1:i≤y)(code:BoundsCode)(w:World):
  (Instr.sliceBound (.int k i) y code).run P w=.ok i.toNat w:=by
 simp[Instr.sliceBound,asIntOf,h0,h1]
section
variable (hT:cJ P T){t:TypeId}
include hT t
theorem yz{x i v:AV}{X I:Value}(hx:aeA μ n x X)(hi:aeA μ n i I)(h:qW T t x i=some v)(w:World):
  Val P (Instr.indexAt t X I) w μ n v:=by
 unfold qW at h;cases ht:T t with
 |none=>rw[ht] at h;cases h
 |some ti=>
  rw[ht] at h;simp only at h;have hd:=(hT t ti ht).desc;split at h
  ·rename_i e b o m c k j B'
   rw[B'] at hd;split at h
   ·rename_i je ZU
    split at h
    ·rename_i hb
     cases h;obtain⟨Y0,rfl⟩:=hx.slice;rw[hi.int];refine⟨.pointer (some ⟨(μ b).blk,(μ b).off+(o+j.toNat*je.size),none⟩),?_,by simp only[aeA];exact⟨Y0,trivial⟩⟩;simp[Instr.indexAt,asIntOf,run_underlying hd,hb,cD hT ZU,Addr.add_lit,Nat.add_assoc]
    ·cases h
   ·cases h
  ·rename_i m e b o k j B'
   rw[B'] at hd;split at h
   ·rename_i je ZU
    split at h
    ·rename_i hb
     cases h;obtain⟨Y0,rfl⟩:=hx.ptr;rw[hi.int];refine⟨.pointer (some ⟨(μ b).blk,(μ b).off+(o+j.toNat*je.size),none⟩),?_,by simp only[aeA];exact⟨Y0,trivial⟩⟩;simp[Instr.indexAt,asIntOf,run_underlying hd,Instr.sureAddr,hb,cD hT ZU,Addr.add_lit,Nat.add_assoc]
    ·cases h
   ·cases h
  ·cases h
theorem Jv{x i v:AV}{X I:Value}(hx:aeA μ n x X)(hi:aeA μ n i I)(h:Na T t x i=some v)(w:World):
  Val P (Instr.index t X I) w μ n v:=by
 unfold Na at h;cases ht:T t with
 |none=>rw[ht] at h;cases h
 |some ti=>
  rw[ht] at h;simp only at h;have hd:=(hT t ti ht).desc;split at h
  ·rename_i m e cs k j B'
   rw[B'] at hd;split at h
   ·rename_i je ZU
    split at h
    ·rename_i hb
     obtain⟨Cs,rfl,YO⟩:=hx.agg;rw[hi.int];obtain⟨V,h1,h2⟩:=iH (P:=P) (μ:=μ) (n:=n) hT ZU h YO w;exact⟨V,by simp[Instr.index,asIntOf,run_underlying hd,hb,cD hT ZU,h1],h2⟩
    ·cases h
   ·cases h
  ·rename_i s k j B'
   rw[B'] at hd;split at h
   ·rename_i h0
    split at h
    ·rename_i c hc
     cases h;rw[hx.str,hi.int];have hc' :(ByteArray.mk s.toArray)[j.toNat]? =some c:=by have A':j.toNat<s.length:=(gL hc);have hv:=(List.getElem?_eq_some_iff.1 hc).2;rw[getElem?_pos (ByteArray.mk s.toArray) j.toNat (by simpa [ByteArray.size] using A')];congr 1
     exact .int (by simp[Instr.index,asIntOf,run_underlying hd,h0,hc'])
    ·cases h
   ·cases h
  ·cases h
theorem Ju{x v:AV}{X:Value}(hx:aeA μ n x X)(h:nb T t x f=some v)(w:World):
  Val P (Instr.field t X f) w μ n v:=by
 unfold nb at h;cases ht:T t with
 |none=>rw[ht] at h;cases h
 |some ti=>
  rw[ht] at h;simp only at h;have hd:=(hT t ti ht).desc;split at h
  ·rename_i fs cs B'
   rw[B'] at hd;split at h
   ·rename_i fd hfd
    split at h
    ·rename_i j hj
     obtain⟨Cs,rfl,YO⟩:=hx.agg;obtain⟨V,h1,h2⟩:=iH (P:=P) (μ:=μ) (n:=n) hT hj h YO w;exact⟨V,by simp[Instr.field,run_underlying hd,hfd,asAgg,h1],h2⟩
    ·cases h
   ·cases h
  ·cases h
theorem yy{x v:AV}{X:Value}(hx:aeA μ n x X)(h:qV T t x f=some v)(w:World):
  Val P (Instr.fieldAt t X f) w μ n v:=by
 unfold qV at h;cases ht:T t with
 |none=>rw[ht] at h;cases h
 |some ti=>
  rw[ht] at h;simp only at h;have hd:=(hT t ti ht).desc;split at h
  ·rename_i fs b o B'
   rw[B'] at hd;split at h
   ·rename_i fd hfd
    split at h
    ·rename_i j hj
     split at h
     ·cases h
     ·rename_i Yw
      cases h;obtain⟨Y0,rfl⟩:=hx.ptr;refine⟨.pointer (some ⟨(μ b).blk,(μ b).off+(o+fd.offset),none⟩),?_,by simp only[aeA];exact⟨Y0,trivial⟩⟩;simp[Instr.fieldAt,run_underlying hd,hfd,Instr.sureAddr,fieldPlace,Addr.add_lit,Nat.add_assoc,cD hT hj,Yw]
    ·cases h
   ·cases h
  ·cases h
end
end
end Go.Eng
namespace Go.Eng
section
variable {P:Program}{T:TypeId→Option TyI}{μ:Nat→Place}{mem:Mem}{base:Nat}{w:World}
theorem qY(s:List UInt8):(ByteArray.mk s.toArray).size=s.length:=by simp[ByteArray.size]
theorem aeL.cell(hH:aeL base μ mem w){b:Nat}{own es cs}(hb:mem[b]? =some (.cells own es cs)){j:Nat}{v:AV}(hj:cs[j]? =some v):
  ∃V,w.cell? ⟨(μ b).blk,(μ b).off+j,none⟩=some V∧aeA μ mem.length v V:=by
 have hs:=hH.slot b _ hb;simp only[aeO] at hs;obtain⟨cur,e,fr,h1,_,_,h2,_⟩:=hs;obtain⟨V,hV,hr⟩:=h2 j v hj;exact⟨V,by simp[World.cell?,h1,hV],hr⟩
theorem aeL.cells(hH:aeL base μ mem w){b:Nat}{own es cs}(hb:mem[b]? =some (.cells own es cs)){o k:Nat}(hk:o+k≤cs.length):
  ∃Vs,aeC μ mem.length ((cs.drop o).take k) Vs∧Vs.length=k∧∀(j:Nat) u,Vs[j]? =some u→w.cell? ((⟨(μ b).blk,(μ b).off+o,none⟩:Addr).add j)=some u:=by
 induction k with
 |zero=>exact⟨[],by simp[aeC],rfl,by simp⟩
 |succ k ih=>
  obtain⟨Vs,h1,h2,h3⟩:=ih (by omega);have A':o+k<cs.length:=by omega
  obtain⟨V,hV,hr⟩:=hH.cell hb (j:=o+k) (v:=cs[o+k]) (by simp[A']);refine⟨Vs++[V],?_,by simp[h2],fun j u hu=>?_⟩
  ·rw[List.take_add_one]
   have:(cs.drop o)[k]? =some cs[o+k]:=by simp[List.getElem?_drop,A']
   rw[this];exact h1.append (bo.2 ⟨hr,by simp[aeC]⟩)
  ·by_cases hj:j<Vs.length
   ·rw[List.getElem?_append_left hj] at hu;exact h3 j u hu
   ·have hjk:j=Vs.length:=by have:=(gL hu);simp at this;omega
    subst hjk;simp at hu;subst hu;rw[Addr.add_lit,h2,Nat.add_assoc];exact hV
section
variable (hT:cJ P T)(hH:aeL base μ mem w)
include hT hH
theorem Au{t:TypeId}{x v:AV}{X:Value}(hx:aeA μ mem.length x X)(h:Pg T mem t x=some v):
  Val P (Instr.loadAt t X) w μ mem.length v:=by
 unfold Pg at h;split at h
 ·rename_i i b o ht
  split at h
  ·rename_i own es cs hb
   obtain⟨Y0,rfl⟩:=hx.ptr;unfold jn at h;cases hi:i.isAgg with
   |true=>
    simp only[hi,if_true] at h;split at h
    ·rename_i X7
     cases h;obtain⟨Vs,h1,h2,h3⟩:=hH.cells hb X7;refine⟨.agg Vs.toArray,?_,by simp only[aeA];exact⟨Vs,rfl,h1⟩⟩;have hl:=run_loadCells_list (P:=P) w _ Vs h3;rw[h2] at hl;simp[Instr.loadAt,Instr.sureAddr,loadVar,uY hT ht,hi,cD hT ht,hl]
    ·cases h
   |false=>
    simp only[hi,Bool.false_eq_true,if_false] at h;obtain⟨V,hV,hr⟩:=hH.cell hb h;refine⟨V,?_,hr⟩;simp[Instr.loadAt,Instr.sureAddr,loadVar,uY hT ht,hi,hV]
  ·cases h
 ·cases h
theorem Pf{t ty:TypeId}{x v:AV}{X:Value}(hx:aeA μ mem.length x X)(h:lD T t mem x=some v):
  Val P (Builtin.len_ #[t] ty #[X]) w μ mem.length v:=by
 unfold lD at h;cases ht:T t with
 |none=>rw[ht] at h;cases h
 |some ti=>
  rw[ht] at h;simp only at h;have hd:=(hT t ti ht).desc;split at h
  ·rename_i s B';cases h;rw[B'] at hd;rw[hx.str]
   exact .int (by simp[Builtin.len_,run_underlying hd,goInt,qY])
  ·rename_i B';cases h;rw[B'] at hd;rw[hx.slice.2]
   exact .int (by simp[Builtin.len_,run_underlying hd,goInt])
  ·rename_i B';cases h;rw[B'] at hd
   simp only[aeA] at hx;subst hx;exact .int (by simp[Builtin.len_,run_underlying hd,goInt])
  ·rename_i m e B';cases h;rw[B'] at hd
   exact .int (by simp[Builtin.len_,run_underlying hd,goInt])
  ·rename_i B';cases h;rw[B'] at hd
   simp only[aeA] at hx;subst hx;exact .int (by simp[Builtin.len_,run_underlying hd,goInt])
  ·rename_i b B';rw[B'] at hd
   simp only[aeA] at hx;obtain⟨Y0,rfl⟩:=hx;split at h
   ·rename_i es hb
    cases h;have hs:=hH.slot b _ hb;simp only[aeO] at hs;obtain⟨Do,G',h1,_,h2,_⟩:=hs;refine .int ?_;have hg:(getObj (μ b).blk).run P w=.ok (.map Do G') w:=by simp[getObj,Sem.run,h1]
    simp only[Builtin.len_,List.getElem?_toArray,List.getElem?_cons_zero,Sem.run_bind,run_underlying hd,Result.andThen_ok,hg];simp[goInt,h2]
   ·cases h
  ·cases h
theorem Jx{t:TypeId}{x v:AV}{X:Value}{lo hi:Option AV}{Lo Hi:Option Value}(hx:aeA μ mem.length x X)(hlo:(lo=none∧Lo=none)∨∃l L,lo=some l∧Lo=some L∧aeA μ mem.length l L)(hhi:(hi=none∧Hi=none)∨∃l L,hi=some l∧Hi=some L∧aeA μ mem.length l L)(h:Nb T mem t x lo hi=some v):
  Val P (Instr.sliceAt t X Lo Hi none) w μ mem.length v:=by
 have ZV:∀(aag:Bool) (len cap:Nat) (hh ll:Int),Dj len hi=some hh→
   Kd lo=some ll→0≤ll→ll≤hh→hh≤len→len≤cap→
   (Instr.sliceBounds aag len cap Lo Hi none).run P w=.ok (ll.toNat,hh.toNat,cap) w:=by
  intro aag len cap hh ll e1 e2 h0 h1 h2 h3;have hH' :hh≤cap:=by omega
  have YS :ll≤((hh.toNat:Nat):Int):=by omega
  have aaA :0≤hh:=by omega
  rcases hhi with⟨rfl,rfl⟩ | ⟨a,A,rfl,rfl,hA⟩<;>rcases hlo with⟨rfl,rfl⟩ | ⟨b,B,rfl,rfl,hB⟩
  ·simp only[Dj,Kd,Option.some.injEq] at e1 e2;subst e1;subst e2
   simp[Instr.sliceBounds]
  ·cases b<;>simp only[Dj,Kd,reduceCtorEq,Option.some.injEq] at e1 e2
   subst e1;subst e2;rw[hB.int];simp[Instr.sliceBounds,bX h0 h1]
  ·cases a<;>simp only[Dj,Kd,reduceCtorEq,Option.some.injEq] at e1 e2
   subst e1;subst e2;rw[hA.int];simp[Instr.sliceBounds,bX aaA hH']
  ·cases a<;>simp only[Dj,reduceCtorEq,Option.some.injEq] at e1
   cases b<;>simp only[Kd,reduceCtorEq,Option.some.injEq] at e2;subst e1;subst e2;rw[hA.int,hB.int];simp[Instr.sliceBounds,bX aaA hH',bX h0 YS]
 unfold Nb at h;cases ht:T t with
 |none=>rw[ht] at h;cases h
 |some ti=>
  rw[ht] at h;simp only at h;have hd:=(hT t ti ht).desc;split at h
  ·rename_i s B'
   rw[B'] at hd;split at h
   ·rename_i hh ll e1 e2
    split at h
    ·rename_i hb
     cases h;rw[hx.str];have Ze:=ZV false s.length s.length hh ll e1 e2 hb.1 hb.2.1 hb.2.2 (Nat.le_refl _);refine .str ?_;have abJ:(ByteArray.mk s.toArray).extract ll.toNat hh.toNat=⟨((s.drop ll.toNat).take (hh.toNat-ll.toNat)).toArray⟩:=by apply ByteArray.ext;apply Array.ext';simp[List.extract]
     simp[Instr.sliceAt,Instr.slice,run_underlying hd,qY,Ze,abJ]
    ·cases h
   ·cases h
  ·rename_i e b o m c B'
   rw[B'] at hd;split at h
   ·rename_i j own es cs hj hb
    split at h
    ·rename_i hh ll e1 e2
     split at h
     ·rename_i hc
      obtain⟨g1,g2,g3,g4,g5,g6,g6',g7,rfl⟩:=hc;cases h;obtain⟨Y0,rfl⟩:=hx.slice;have hs:=hH.slot b _ hb;simp only[aeO] at hs;obtain⟨cur,el,fr,hs1,ZC,hs3,_,_⟩:=hs;have ZC:=ZC.es g6';subst ZC;have ZW:m≤jh (μ b) o none:=by simp only[jh];rw[Nat.le_div_iff_mul_le g6];omega
      have Ze:=ZV true m (jh (μ b) o none) hh ll e1 e2 g1 g2 g3 ZW;refine⟨.slice (some ⟨(μ b).blk,(μ b).off+(o+ll.toNat*(μ b).es),none⟩) (hh.toNat-ll.toNat) (jh (μ b) o none-ll.toNat),?_,?_⟩
      ·simp[Instr.sliceAt,Instr.slice,run_underlying hd,Ze,cD hT hj]
       by_cases hl0:ll=0
       ·subst hl0;simp[Addr.add_lit]
       ·have:¬jh (μ b) o none=ll.toNat:=by omega
        simp[this,Addr.add_lit,g5,Nat.add_assoc]
      ·simp only[aeA]
       refine⟨Y0,?_⟩;congr 1;simp only[jh];have X7:ll.toNat*(μ b).es≤m*(μ b).es:=Nat.mul_le_mul_right _ (by omega);rw[show(μ b).tot-(o+ll.toNat*(μ b).es)=(μ b).tot-o-(μ b).es*ll.toNat by rw[Nat.mul_comm (μ b).es];omega];rw[Nat.sub_mul_div]
     ·cases h
    ·cases h
   ·cases h
  ·rename_i e B'
   rw[B'] at hd;split at h
   ·rename_i j hj
    split at h
    ·rename_i hh ll e1 e2
     split at h
     ·rename_i hc
      obtain⟨rfl,rfl⟩:=hc;cases h;simp only[aeA] at hx;subst hx;have Ze:=ZV true 0 0 0 0 e1 e2 (by omega) (by omega) (by omega) (by omega);refine⟨.slice none 0 0,?_,by simp[aeA]⟩;simp[Instr.sliceAt,Instr.slice,run_underlying hd,Ze,cD hT hj]
     ·cases h
    ·cases h
   ·cases h
  ·rename_i m e b o B'
   rw[B'] at hd;split at h
   ·rename_i j hj
    split at h
    ·rename_i hh ll e1 e2
     split at h
     ·rename_i hc
      obtain⟨g1,g2,g3,g4⟩:=hc;cases h;obtain⟨Y0,rfl⟩:=hx.ptr;have Ze:=ZV false m m hh ll e1 e2 g1 g2 g3 (Nat.le_refl _);refine⟨.slice (some ⟨(μ b).blk,(μ b).off+(o+ll.toNat*j.size),none⟩) (hh.toNat-ll.toNat) (m-ll.toNat),?_,?_⟩
      ·have:¬m=ll.toNat:=by omega
       simp[Instr.sliceAt,run_underlying hd,Instr.sureAddr,Ze,cD hT hj,this,Addr.add_lit,Nat.add_assoc]
      ·simp only[aeA];exact⟨Y0,rfl⟩
     ·cases h
    ·cases h
   ·cases h
  ·cases h
end
end
end Go.Eng
