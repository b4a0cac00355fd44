/- See K51. -/
import Derived.Calls
import Derived.Orders
import Derived.Laws.AppendOwn
import Derived.Laws.Cells
import Derived.Laws.CopyRow
import Derived.Tactics
import Derived.Laws.StructEq
import Derived.Laws.Build
set_option linter.all false
namespace Go.Eng
inductive AV where
 |undef
 |bool (b:Bool)
 |int (k:IntKind) (n:Int)
 |str (s:List UInt8)
 |ptr (b off:Nat)
 |nilptr
 |slice (b off len:Nat) (cap:Option Nat)
 |nilslice
 |map (b:Nat)
 |nilmap
 |yield (b:Nat)
 |func (f:FuncId) (caps:List AV)
 |nilFunc
 |iface (t:TypeId) (v:AV)
 |nilIface
 |agg (cs:List AV)
 |tuple (cs:List AV)
 deriving Inhabited
structure Place where
 blk:Nat
 off:Nat
 tot:Nat
 es:Nat
 deriving Inhabited
def iz(p:Place) (o:Nat):Option Nat→Nat
 |some c=>c
 |none=>(p.tot-o) / p.es
mutual
def VRel(μ:Nat→Place) (n:Nat):AV→Value→Prop
 |.undef,_=>True
 |.bool b,V=>V=.bool b
 |.int k i,V=>V=.int k i
 |.str s,V=>V=.string ⟨s.toArray⟩
 |.ptr b o,V=>b<n∧V=.pointer (some ⟨(μ b).blk,(μ b).off+o,none⟩)
 |.nilptr,V=>V=.pointer none
 |.slice b o l c,V=>b<n∧V=.slice (some ⟨(μ b).blk,(μ b).off+o,none⟩) l (iz (μ b) o c)
 |.nilslice,V=>V=.slice none 0 0
 |.map b,V=>b<n∧V=.map (some (μ b).blk)
 |.yield b,V=>b<n∧V=.func (.yield (μ b).blk) #[] #[]
 |.nilmap,V=>V=.map none
 |.func f cs,V=>∃Us,V=.func (.func f) #[] ⟨Us⟩∧VRels μ n cs Us
 |.nilFunc,V=>V=.nilFunc
 |.iface t v,V=>∃U,V=.iface t U∧VRel μ n v U
 |.nilIface,V=>V=.nilIface
 |.agg cs,V=>∃Us,V=.agg ⟨Us⟩∧VRels μ n cs Us
 |.tuple cs,V=>∃Us,V=.tuple ⟨Us⟩∧VRels μ n cs Us
def VRels(μ:Nat→Place) (n:Nat):List AV→List Value→Prop
 | [],Us=>Us=[]
 |v::vs,Us=>∃U Ws,Us=U::Ws∧VRel μ n v U∧VRels μ n vs Ws
end
theorem bl{μ n v vs U Us}:VRels μ n (v::vs) (U::Us)↔VRel μ n v U∧VRels μ n vs Us:=by
 simp only[VRels]
 constructor
 ·rintro ⟨U',Ws,h,h1,h2⟩;cases h;exact⟨h1,h2⟩
 ·rintro ⟨h1,h2⟩;exact⟨U,Us,rfl,h1,h2⟩
theorem VRels.length{μ n}:∀{vs Us},VRels μ n vs Us→Us.length=vs.length
 | [],_,h=>by simp[VRels] at h;simp[h]
 |v::vs,_,h=>by
  simp only[VRels] at h
  obtain⟨U,Ws,rfl,_,h2⟩:=h
  simp[VRels.length h2]
theorem VRels.get{μ n}:∀{vs Us},VRels μ n vs Us→∀(i:Nat) v,vs[i]? =some v→∃U,Us[i]? =some U∧VRel μ n v U
 | [],_,_,i,v,h=>by simp at h
 |w::vs,_,h,i,v,hi=>by
  simp only[VRels] at h
  obtain⟨U,Ws,rfl,h1,h2⟩:=h
  cases i with
  |zero=>simp at hi;subst hi;exact⟨U,by simp,h1⟩
  |succ i=>simpa using VRels.get h2 i v (by simpa using hi)
theorem VRels.of_get{μ n}:∀{vs Us},Us.length=vs.length→(∀(i:Nat) v,vs[i]? =some v→∃U,Us[i]? =some U∧VRel μ n v U)→VRels μ n vs Us
 | [],Us,hl,_=>by simp[VRels];exact List.eq_nil_of_length_eq_zero hl
 |v::vs,[],hl,_=>by simp at hl
 |v::vs,U::Us,hl,h=>by
  refine bl.2 ⟨?_,VRels.of_get (by simpa using hl) fun i u hu=>?_⟩
  ·obtain⟨U',h1,h2⟩:=h 0 v (by simp)
   simp at h1;subst h1;exact h2
  ·simpa using h (i+1) u (by simpa using hu)
theorem VRels.append{μ n}:∀{vs Us ws Ws},VRels μ n vs Us→VRels μ n ws Ws→VRels μ n (vs++ws) (Us++Ws)
 | [],_,ws,Ws,h,h' =>by simp[VRels] at h;subst h;simpa using h'
 |v::vs,_,ws,Ws,h,h' =>by
  simp only[VRels] at h
  obtain⟨U,Us,rfl,h1,h2⟩:=h
  exact bl.2 ⟨h1,VRels.append h2 h'⟩
theorem VRels.take{μ n vs Us} (h:VRels μ n vs Us) (k:Nat):VRels μ n (vs.take k) (Us.take k):=by
 refine VRels.of_get (by simp[h.length]) fun i v hv=>?_
 rw[List.getElem?_take] at hv
 split at hv
 ·obtain⟨U,h1,h2⟩:=h.get i v hv
  exact⟨U,by rw[List.getElem?_take];simp[*],h2⟩
 ·cases hv
theorem VRels.drop{μ n vs Us} (h:VRels μ n vs Us) (k:Nat):VRels μ n (vs.drop k) (Us.drop k):=by
 refine VRels.of_get (by simp[h.length]) fun i v hv=>?_
 rw[List.getElem?_drop] at hv
 obtain⟨U,h1,h2⟩:=h.get _ v hv
 exact⟨U,by rw[List.getElem?_drop];exact h1,h2⟩
mutual
theorem VRel.mono{μ μ' :Nat→Place}{n n' :Nat}(hn:n≤n') (hμ:∀b,b<n→μ' b=μ b):∀{v V},VRel μ n v V→VRel μ' n' v V
 |.undef,V,_=>by simp[VRel]
 |.bool b,V,h=>by simpa [VRel] using h
 |.int k i,V,h=>by simpa [VRel] using h
 |.str s,V,h=>by simpa [VRel] using h
 |.ptr b o,V,h=>by simp only[VRel] at h ⊢;exact⟨by omega,by rw[hμ b h.1];exact h.2⟩
 |.nilptr,V,h=>by simpa [VRel] using h
 |.slice b o l c,V,h=>by simp only[VRel] at h ⊢;exact⟨by omega,by rw[hμ b h.1];exact h.2⟩
 |.nilslice,V,h=>by simpa [VRel] using h
 |.map b,V,h=>by simp only[VRel] at h ⊢;exact⟨by omega,by rw[hμ b h.1];exact h.2⟩
 |.yield b,V,h=>by simp only[VRel] at h ⊢;exact⟨by omega,by rw[hμ b h.1];exact h.2⟩
 |.nilmap,V,h=>by simpa [VRel] using h
 |.func f cs,V,h=>by
  simp only[VRel] at h ⊢
  obtain⟨Us,rfl,h⟩:=h
  exact⟨Us,rfl,VRels.mono hn hμ h⟩
 |.nilFunc,V,h=>by simpa [VRel] using h
 |.iface t v,V,h=>by
  simp only[VRel] at h ⊢
  obtain⟨U,rfl,h⟩:=h
  exact⟨U,rfl,VRel.mono hn hμ h⟩
 |.nilIface,V,h=>by simpa [VRel] using h
 |.agg cs,V,h=>by
  simp only[VRel] at h ⊢
  obtain⟨Us,rfl,h⟩:=h
  exact⟨Us,rfl,VRels.mono hn hμ h⟩
 |.tuple cs,V,h=>by
  simp only[VRel] at h ⊢
  obtain⟨Us,rfl,h⟩:=h
  exact⟨Us,rfl,VRels.mono hn hμ h⟩
theorem VRels.mono{μ μ' :Nat→Place}{n n' :Nat}(hn:n≤n') (hμ:∀b,b<n→μ' b=μ b):∀{vs Us},VRels μ n vs Us→VRels μ' n' vs Us
 | [],Us,h=>by simpa [VRels] using h
 |v::vs,Us,h=>by
  simp only[VRels] at h ⊢
  obtain⟨U,Ws,rfl,h1,h2⟩:=h
  exact⟨U,Ws,rfl,VRel.mono hn hμ h1,VRels.mono hn hμ h2⟩
end
mutual
def AV.ren(ρ:Nat→Option Nat):AV→AV
 |.ptr b o=>match ρ b with | some b' =>.ptr b' o | none=>.undef
 |.slice b o l c=>match ρ b with | some b' =>.slice b' o l c | none=>.undef
 |.map b=>match ρ b with | some b' =>.map b' | none=>.undef
 |.yield b=>match ρ b with | some b' =>.yield b' | none=>.undef
 |.func f cs=>.func f (AV.rens ρ cs)
 |.iface t v=>.iface t (AV.ren ρ v)
 |.agg cs=>.agg (AV.rens ρ cs)
 |.tuple cs=>.tuple (AV.rens ρ cs)
 |v=>v
def AV.rens(ρ:Nat→Option Nat):List AV→List AV
 | []=>[]
 |v::vs=>AV.ren ρ v::AV.rens ρ vs
end
mutual
theorem VRel.ren{μ μ' :Nat→Place}{n n' :Nat}{ρ:Nat→Option Nat}(hρ:∀b b',b<n→ρ b=some b' →b' <n' ∧μ' b' =μ b):
  ∀{v V},VRel μ n v V→VRel μ' n' (v.ren ρ) V
 |.undef,V,_=>by simp[AV.ren,VRel]
 |.bool b,V,h=>by simpa [AV.ren,VRel] using h
 |.int k i,V,h=>by simpa [AV.ren,VRel] using h
 |.str s,V,h=>by simpa [AV.ren,VRel] using h
 |.ptr b o,V,h=>by
  simp only[VRel] at h
  simp only[AV.ren]
  cases hb:ρ b with
  |none=>simp[VRel]
  |some b' =>obtain⟨h1,h2⟩:=hρ b b' h.1 hb;simp only[VRel];exact⟨h1,by rw[h2];exact h.2⟩
 |.nilptr,V,h=>by simpa [AV.ren,VRel] using h
 |.slice b o l c,V,h=>by
  simp only[VRel] at h
  simp only[AV.ren]
  cases hb:ρ b with
  |none=>simp[VRel]
  |some b' =>obtain⟨h1,h2⟩:=hρ b b' h.1 hb;simp only[VRel];exact⟨h1,by rw[h2];exact h.2⟩
 |.nilslice,V,h=>by simpa [AV.ren,VRel] using h
 |.map b,V,h=>by
  simp only[VRel] at h
  simp only[AV.ren]
  cases hb:ρ b with
  |none=>simp[VRel]
  |some b' =>obtain⟨h1,h2⟩:=hρ b b' h.1 hb;simp only[VRel];exact⟨h1,by rw[h2];exact h.2⟩
 |.yield b,V,h=>by
  simp only[VRel] at h
  simp only[AV.ren]
  cases hb:ρ b with
  |none=>simp[VRel]
  |some b' =>obtain⟨h1,h2⟩:=hρ b b' h.1 hb;simp only[VRel];exact⟨h1,by rw[h2];exact h.2⟩
 |.nilmap,V,h=>by simpa [AV.ren,VRel] using h
 |.func f cs,V,h=>by
  simp only[VRel] at h
  simp only[AV.ren,VRel]
  obtain⟨Us,rfl,h⟩:=h
  exact⟨Us,rfl,VRels.ren hρ h⟩
 |.nilFunc,V,h=>by simpa [AV.ren,VRel] using h
 |.iface t v,V,h=>by
  simp only[VRel] at h
  simp only[AV.ren,VRel]
  obtain⟨U,rfl,h⟩:=h
  exact⟨U,rfl,VRel.ren hρ h⟩
 |.nilIface,V,h=>by simpa [AV.ren,VRel] using h
 |.agg cs,V,h=>by
  simp only[VRel] at h
  simp only[AV.ren,VRel]
  obtain⟨Us,rfl,h⟩:=h
  exact⟨Us,rfl,VRels.ren hρ h⟩
 |.tuple cs,V,h=>by
  simp only[VRel] at h
  simp only[AV.ren,VRel]
  obtain⟨Us,rfl,h⟩:=h
  exact⟨Us,rfl,VRels.ren hρ h⟩
theorem VRels.ren{μ μ' :Nat→Place}{n n' :Nat}{ρ:Nat→Option Nat}(hρ:∀b b',b<n→ρ b=some b' →b' <n' ∧μ' b' =μ b):
  ∀{vs Us},VRels μ n vs Us→VRels μ' n' (AV.rens ρ vs) Us
 | [],Us,h=>by simpa [AV.rens,VRels] using h
 |v::vs,Us,h=>by
  simp only[VRels] at h
  simp only[AV.rens,VRels]
  obtain⟨U,Ws,rfl,h1,h2⟩:=h
  exact⟨U,Ws,rfl,VRel.ren hρ h1,VRels.ren hρ h2⟩
end
theorem fZ(ρ:Nat→Option Nat):∀vs,AV.rens ρ vs=vs.map (AV.ren ρ)
 | []=>rfl
 |v::vs=>by simp[AV.rens,fZ ρ vs]
def AV.cellOk:AV→Bool
 |.agg _ | .tuple _ | .undef=>false
 |_=>true
def AV.known:AV→Bool
 |.undef=>false
 |_=>true
def AV.cells:AV→List AV
 |.agg cs=>cs
 |v=>[v]
theorem VRel.oneCell{μ n v V} (h:VRel μ n v V) (hv:v.cellOk=true):V.oneCell' =true:=by
 cases v<;>simp[AV.cellOk] at hv<;>simp only[VRel] at h
 case bool=>subst h;rfl
 case int=>subst h;rfl
 case str=>subst h;rfl
 case ptr=>rw[h.2];rfl
 case nilptr=>subst h;rfl
 case slice=>rw[h.2];rfl
 case nilslice=>subst h;rfl
 case map=>rw[h.2];rfl
 case yield=>rw[h.2];rfl
 case nilmap=>subst h;rfl
 case func=>obtain⟨_,rfl,_⟩:=h;rfl
 case nilFunc=>subst h;rfl
 case iface=>obtain⟨_,rfl,_⟩:=h;rfl
 case nilIface=>subst h;rfl
theorem VRel.cells{μ n v V} (h:VRel μ n v V) (hv:v.known=true):VRels μ n v.cells V.cells.toList:=by
 cases v<;>simp[AV.known] at hv
 case agg cs=>
  simp only[VRel] at h
  obtain⟨Us,rfl,h⟩:=h
  simpa [AV.cells,Value.cells] using h
 all_goals
  have hh:=h
  simp only[VRel] at h
  simp only[AV.cells]
  first
   |(subst h;simpa [VRels,Value.cells] using hh)
   |(obtain⟨_,rfl⟩:=h;simpa [VRels,Value.cells] using hh)
   |(obtain⟨_,rfl,_⟩:=h;simpa [VRels,Value.cells] using hh)
abbrev Env:=List (Nat×AV)
def ab:Env→Nat→AV
 | [],_=>.undef
 |(k,v)::r,t=>if k=t then v else ab r t
def TRel(μ:Nat→Place) (n:Nat) (env:Env) (tmps:Array Value):Prop:=∀t,VRel μ n (ab env t) (tmps.getD t undef)
theorem TRel.mono{μ μ' :Nat→Place}{n n' :Nat}{env tmps} (hn:n≤n') (hμ:∀b,b<n→μ' b=μ b) (h:TRel μ n env tmps):TRel μ' n' env tmps:=
 fun t=>(h t).mono hn hμ
structure LoopA where
 st:LoopState
 pend:Option Code
 env:Env
 N:Nat
 ps:Array Tmp
 assign:Code
 body:Code
inductive Slot where
 |absent
 |cells (own:Bool) (es:Nat) (cs:List AV)
 |map (es:List (AV×AV))
 |fmap (es:List (AV×AV))
 |loop (r:LoopA)
 deriving Inhabited
abbrev Mem:=List Slot
def Slot.own:Slot→Bool
 |.cells own _ _=>own
 |.map _=>true
 |.fmap _=>false
 |.loop _=>true
 |.absent=>false
theorem Slot.own_ne{s:Slot}(h:s.own=true):s≠ .absent:=by cases s<;>simp_all[Slot.own]
def dn(mem:Mem) (b:Nat):Prop:=∃s,mem[b]? =some s∧s.own=true
theorem gT{mem:Mem}{b es:Nat}{cs:List AV}(h:mem[b]? =some (.cells true es cs)):dn mem b:=⟨_,h,rfl⟩
theorem He{mem:Mem}{b:Nat}{es} (h:mem[b]? =some (.map es)):dn mem b:=⟨_,h,rfl⟩
theorem Ml{mem:Mem}{b:Nat}{r} (h:mem[b]? =some (.loop r)):dn mem b:=⟨_,h,rfl⟩
structure LoopRel (μ:Nat→Place) (n:Nat) (r:LoopA) (L:Loop):Prop where
 st:L.state=r.st
 pend:L.pending=r.pend
 ps:L.params=r.ps
 assign:L.assign=r.assign
 body:L.body=r.body
 size:L.tmps.size=r.N
 tmps:TRel μ n r.env L.tmps
def Ku(μ:Nat→Place) (n:Nat) (e:AV×AV) (E:MapEntry):Prop:=VRel μ n e.1 E.key∧VRel μ n e.2 E.val
def EsOk(p:Place) (es:Nat) (e:TypeId):Prop:=p.es=es%1000∧(1000≤es→e+1=es / 1000)
theorem EsOk.small{p:Place}{es:Nat}{e:TypeId}(h:p.es=es) (hs:es<1000):EsOk p es e:=⟨by rw[h,Nat.mod_eq_of_lt hs],fun h1=>by omega⟩
theorem EsOk.es{p:Place}{es:Nat}{e:TypeId}(h:EsOk p es e) (hs:es<1000):p.es=es:=by rw[h.1,Nat.mod_eq_of_lt hs]
def AW(ents:Array MapEntry) (clock:Nat):Prop:=clock=ents.size∧∀(j:Nat) E,ents[j]? =some E→E.born=j
def SRel(μ:Nat→Place) (n base:Nat) (w:World) (p:Place):Slot→Prop
 |.absent=>True
 |.cells own es cs=>∃cur e fr,w.heap[p.blk]? =some (.cells cur e fr)∧EsOk p es e∧cs.length≤p.tot∧
   (∀(j:Nat) v,cs[j]? =some v→∃V,cur[p.off+j]? =some V∧VRel μ n v V)∧
   (own=true→p.off=0∧fr=(0,0)∧cur.size=p.tot∧base≤p.blk)
 |.map es=>∃ents clock,w.heap[p.blk]? =some (.map ents clock)∧(base≤p.blk∧AW ents clock)∧ents.size=es.length∧
   ∀(j:Nat) e,es[j]? =some e→∃E,ents[j]? =some E∧Ku μ n e E
 |.fmap es=>∃ents clock,w.heap[p.blk]? =some (.map ents clock)∧AW ents clock∧ents.size=es.length∧
   ∀(j:Nat) e,es[j]? =some e→∃E,ents[j]? =some E∧Ku μ n e E
 |.loop r=>∃L,w.heap[p.blk]? =some (.loop L)∧base≤p.blk∧LoopRel μ n r L
structure HRel (base:Nat) (μ:Nat→Place) (mem:Mem) (w:World):Prop where
 base_le:base≤w.heap.size
 slot:∀b s,mem[b]? =some s→SRel μ mem.length base w (μ b) s
 sep:∀b b' s',dn mem b→mem[b']? =some s' →s' ≠ .absent→b≠b' →(μ b).blk≠(μ b').blk
structure Step (m0:Nat) (μ:Nat→Place) (mem:Mem) (w:World) (μ' :Nat→Place) (mem' :Mem) (w' :World):Prop where
 len:m0≤mem'.length
 agree:∀b,b<m0→μ' b=μ b
 os:w'.os=w.os
 tape:w'.tape=w.tape
 output:w'.output=w.output
 size:w.heap.size≤w'.heap.size
 frame:∀k,k<w.heap.size→(∀b,dn mem b→(μ b).blk≠k)→w'.heap[k]? =w.heap[k]?
 owner:∀b,dn mem' b→(μ' b).blk<w.heap.size→∃b0,dn mem b0∧(μ b0).blk=(μ' b).blk
 drawn:w.drawn≤w'.drawn
theorem Step.refl{m0 μ mem w} (h:m0≤mem.length):Step m0 μ mem w μ mem w:=
 ⟨h,fun _ _=>rfl,rfl,rfl,rfl,Nat.le_refl _,fun _ _ _=>rfl,fun b hb _=>⟨b,hb,rfl⟩,Nat.le_refl _⟩
theorem Step.trans{m0 μ mem w μ' mem' w' μ'' mem'' w''} (h:Step m0 μ mem w μ' mem' w') (h' :Step m0 μ' mem' w' μ'' mem'' w''):
  Step m0 μ mem w μ'' mem'' w'' :=by
 refine⟨h'.len,fun b hb=>(h'.agree b hb).trans (h.agree b hb),h'.os.trans h.os,h'.tape.trans h.tape,h'.output.trans h.output,
  Nat.le_trans h.size h'.size,fun k hk hf=>?_,fun b hb hlt=>?_,Nat.le_trans h.drawn h'.drawn⟩
 ·rw[h'.frame k (Nat.lt_of_lt_of_le hk h.size) ?_,h.frame k hk hf]
  intro b hb he
  obtain⟨b0,h0,h1⟩:=h.owner b hb (he▸hk)
  exact hf b0 h0 (h1.trans he)
 ·obtain⟨b1,h1,h2⟩:=h'.owner b hb (Nat.lt_of_lt_of_le hlt h.size)
  obtain⟨b0,h3,h4⟩:=h.owner b1 h1 (h2▸hlt)
  exact⟨b0,h3,h4.trans h2⟩
theorem Step.mono{m0 m1 μ mem w μ' mem' w'} (h:Step m1 μ mem w μ' mem' w') (hm:m0≤m1):Step m0 μ mem w μ' mem' w' :=
 ⟨Nat.le_trans hm h.len,fun b hb=>h.agree b (Nat.lt_of_lt_of_le hb hm),h.os,h.tape,h.output,h.size,h.frame,h.owner,h.drawn⟩
theorem HRel.sameHeap{base μ mem w w'} (h:HRel base μ mem w) (hw:w'.heap=w.heap):HRel base μ mem w' :=by
 refine⟨by rw[hw];exact h.base_le,fun b s hs=>?_,h.sep⟩
 have:=h.slot b s hs
 cases s with
 |absent=>trivial
 |cells own esz cs=>simp only[SRel] at this ⊢;rw[hw];exact this
 |map es=>simp only[SRel] at this ⊢;rw[hw];exact this
 |fmap es=>simp only[SRel] at this ⊢;rw[hw];exact this
 |loop r=>simp only[SRel] at this ⊢;rw[hw];exact this
theorem Step.drew{m0 μ mem w} (h:m0≤mem.length):Step m0 μ mem w μ mem w.drew:=
 ⟨h,fun _ _=>rfl,rfl,rfl,rfl,Nat.le_refl _,fun _ _ _=>rfl,fun b hb _=>⟨b,hb,rfl⟩,Nat.le_succ _⟩
theorem SRel.mono{μ μ' :Nat→Place}{n n' base:Nat}{w w' :World}{p:Place}{s:Slot}(hn:n≤n') (hμ:∀b,b<n→μ' b=μ b)
  (hw:s≠ .absent→w'.heap[p.blk]? =w.heap[p.blk]?) (h:SRel μ n base w p s):SRel μ' n' base w' p s:=by
 cases s with
 |absent=>trivial
 |cells own esz cs=>
  simp only[SRel] at h ⊢
  obtain⟨cur,e,fr,h1,h1a,h1b,h2,h3⟩:=h
  refine⟨cur,e,fr,by rw[hw (by simp),h1],h1a,h1b,fun j v hv=>?_,h3⟩
  obtain⟨V,hV,hr⟩:=h2 j v hv
  exact⟨V,hV,hr.mono hn hμ⟩
 |map es=>
  simp only[SRel] at h ⊢
  obtain⟨ents,clock,h1,h2,h3,h4⟩:=h
  refine⟨ents,clock,by rw[hw (by simp),h1],h2,h3,fun j e he=>?_⟩
  obtain⟨E,hE,hr1,hr2⟩:=h4 j e he
  exact⟨E,hE,hr1.mono hn hμ,hr2.mono hn hμ⟩
 |fmap es=>
  simp only[SRel] at h ⊢
  obtain⟨ents,clock,h1,h2,h3,h4⟩:=h
  refine⟨ents,clock,by rw[hw (by simp),h1],h2,h3,fun j e he=>?_⟩
  obtain⟨E,hE,hr1,hr2⟩:=h4 j e he
  exact⟨E,hE,hr1.mono hn hμ,hr2.mono hn hμ⟩
 |loop r=>
  simp only[SRel] at h ⊢
  obtain⟨L,h1,h2,h3⟩:=h
  exact⟨L,by rw[hw (by simp),h1],h2,{ h3 with tmps:=h3.tmps.mono hn hμ }⟩
theorem SRel.blk_lt{μ n base w p s} (h:SRel μ n base w p s) (hs:s≠ .absent):p.blk<w.heap.size:=by
 cases s with
 |absent=>exact absurd rfl hs
 |cells own esz cs=>simp only[SRel] at h;obtain⟨cur,e,fr,h1,_⟩:=h;exact(Array.getElem?_eq_some_iff.1 h1).1
 |map es=>simp only[SRel] at h;obtain⟨ents,clock,h1,_⟩:=h;exact(Array.getElem?_eq_some_iff.1 h1).1
 |fmap es=>simp only[SRel] at h;obtain⟨ents,clock,h1,_⟩:=h;exact(Array.getElem?_eq_some_iff.1 h1).1
 |loop r=>simp only[SRel] at h;obtain⟨L,h1,_⟩:=h;exact(Array.getElem?_eq_some_iff.1 h1).1
def upd(μ:Nat→Place) (b:Nat) (p:Place):Nat→Place:=fun x=>if x=b then p else μ x
theorem dr{μ b p}:upd μ b p b=p:=by simp[upd]
theorem tL{μ b p x} (h:x<b):upd μ b p x=μ x:=by simp[upd];intro h';omega
theorem ju{mem:Mem}{s:Slot}{b:Nat}(hb:b<mem.length):dn (mem++[s]) b↔dn mem b:=by
 simp[dn,List.getElem?_append_left hb]
theorem fu(w:World) (o:Obj) {k:Nat}(h:k<w.heap.size):(w.alloc o).heap[k]? =w.heap[k]? :=heap_alloc_old w o k h
theorem HRel.push{base μ mem w} (h:HRel base μ mem w) (o:Obj) (s:Slot) (p:Place) (hp:p.blk=w.heap.size)
  (hs:SRel (upd μ mem.length p) (mem.length+1) base (w.alloc o) p s):
  HRel base (upd μ mem.length p) (mem++[s]) (w.alloc o)∧
  Step mem.length μ mem w (upd μ mem.length p) (mem++[s]) (w.alloc o):=by
 have hμ:∀b,b<mem.length→upd μ mem.length p b=μ b:=fun b hb=>tL hb
 constructor
 ·refine⟨by simp;have:=h.base_le;omega,fun b t ht=>?_,fun b b' s' hb hb' hne hbb=>?_⟩
  ·rw[List.length_append,List.length_singleton]
   by_cases hlt:b<mem.length
   ·rw[List.getElem?_append_left hlt] at ht
    rw[hμ b hlt]
    refine(h.slot b t ht).mono (Nat.le_succ _) hμ fun hne=>?_
    exact fu w o ((h.slot b t ht).blk_lt hne)
   ·have hbe:b=mem.length:=by
     have:=(List.getElem?_eq_some_iff.1 ht).1;simp at this;omega
    subst hbe
    simp at ht;subst ht
    rw[dr];exact hs
  ·by_cases h1:b<mem.length<;>by_cases h2:b' <mem.length
   ·rw[hμ b h1,hμ b' h2]
    exact h.sep b b' s' ((ju h1).1 hb) (by rwa [List.getElem?_append_left h2] at hb') hne hbb
   ·have hbe:b' =mem.length:=by have:=(List.getElem?_eq_some_iff.1 hb').1;simp at this;omega
    subst hbe
    rw[dr,hμ b h1,hp]
    have:(μ b).blk<w.heap.size:=by
     obtain⟨s0,hc,ho⟩:=(ju h1).1 hb
     exact(h.slot b _ hc).blk_lt (Slot.own_ne ho)
    omega
   ·have hbe:b=mem.length:=by
     obtain⟨s0,hc,ho⟩:=hb;have:=(List.getElem?_eq_some_iff.1 hc).1;simp at this;omega
    subst hbe
    rw[dr,hμ b' h2,hp]
    have:=(h.slot b' s' (by rwa [List.getElem?_append_left h2] at hb')).blk_lt hne
    omega
   ·have hbe:b' =mem.length:=by have:=(List.getElem?_eq_some_iff.1 hb').1;simp at this;omega
    have hbe2:b=mem.length:=by
     obtain⟨s0,hc,ho⟩:=hb;have:=(List.getElem?_eq_some_iff.1 hc).1;simp at this;omega
    omega
 ·refine⟨by simp,hμ,rfl,rfl,rfl,by simp,fun k hk _=>fu w o hk,fun b hb hlt=>?_,Nat.le_refl _⟩
  by_cases h1:b<mem.length
  ·exact⟨b,(ju h1).1 hb,by rw[hμ b h1]⟩
  ·have hbe2:b=mem.length:=by
    obtain⟨s0,hc,ho⟩:=hb;have:=(List.getElem?_eq_some_iff.1 hc).1;simp at this;omega
   subst hbe2
   rw[dr,hp] at hlt
   omega
theorem HRel.write{base μ mem w} (h:HRel base μ mem w) {b:Nat}{s s' :Slot}(hb:mem[b]? =some s) (hown:dn mem b) (hown' :s' ≠ .absent→dn (mem.set b s') b)
  {w' :World}(hdr:w'.drawn=w.drawn) (hos:w'.os=w.os) (htape:w'.tape=w.tape) (hout:w'.output=w.output) (hsz:w'.heap.size=w.heap.size)
  (hoth:∀k,k≠(μ b).blk→w'.heap[k]? =w.heap[k]?) (hs:SRel μ mem.length base w' (μ b) s'):
  HRel base μ (mem.set b s') w' ∧Step mem.length μ mem w μ (mem.set b s') w' :=by
 have hlt:b<mem.length:=(List.getElem?_eq_some_iff.1 hb).1
 have own:∀x,dn (mem.set b s') x→dn mem x:=by
  intro x hx
  by_cases hxb:x=b
  ·subst hxb;exact hown
  ·obtain⟨s0,hc,ho⟩:=hx
   rw[List.getElem?_set_ne (Ne.symm hxb)] at hc;exact⟨s0,hc,ho⟩
 constructor
 ·refine⟨by rw[hsz];exact h.base_le,fun x t ht=>?_,fun x x' t hx hx' hne hxx=>?_⟩
  ·rw[List.length_set]
   by_cases hxb:x=b
   ·subst hxb
    rw[List.getElem?_set_self hlt] at ht
    cases ht;exact hs
   ·rw[List.getElem?_set_ne (Ne.symm hxb)] at ht
    refine(h.slot x t ht).mono (Nat.le_refl _) (fun _ _=>rfl) fun hne=>hoth _ ?_
    exact fun he=>h.sep b x t hown ht hne (Ne.symm hxb) he.symm
  ·by_cases hxb:x' =b
   ·subst hxb
    have:=h.sep x x' s (own x hx) hb ?_ hxx
    ·exact this
    ·obtain⟨s0,hc,ho⟩:=hown
     rw[hc] at hb;cases hb;exact Slot.own_ne ho
   ·rw[List.getElem?_set_ne (Ne.symm hxb)] at hx'
    exact h.sep x x' t (own x hx) hx' hne hxx
 ·refine⟨by simp,fun _ _=>rfl,hos,htape,hout,by omega,fun k hk hf=>hoth k ?_,fun x hx _=>⟨x,own x hx,rfl⟩,Nat.le_of_eq hdr.symm⟩
  exact fun he=>hf b hown he.symm
structure TyI where
 desc:TypeDesc
 size:Nat
 bytes:Nat
 zero:Value
 eqOk:Bool
 deriving Inhabited
structure TyOk (P:Program) (t:TypeId) (i:TyI):Prop where
 desc:P.underlying t=some i.desc
 info:∃f,P.info? t=some f∧f.size=i.size∧f.bytes=i.bytes∧f.zero=some i.zero
 zsize:i.zero.cells.size=i.size
 eqOk:i.eqOk=true→P.stoodInHeld t=false∧P.eqGuardType P.depth t=false
def TyI.isAgg(i:TyI):Bool:=match i.desc with | .struct _ | .array _ _=>true | _=>false
def cf(P:Program) (T:TypeId→Option TyI):Prop:=∀t i,T t=some i→TyOk P t i
def im:Value→AV
 |.bool b=>.bool b
 |.int k n=>.int k n
 |.string s=>.str s.data.toList
 |.pointer none=>.nilptr
 |.slice none 0 0=>.nilslice
 |.map none=>.nilmap
 |.nilFunc=>.nilFunc
 |.nilIface=>.nilIface
 |_=>.undef
def gw:Value→AV
 |.agg cs=>.agg (cs.toList.map im)
 |v=>im v
theorem mg(μ:Nat→Place) (n:Nat) (v:Value):VRel μ n (im v) v:=by
 unfold im
 split<;>simp[VRel]
theorem km(μ:Nat→Place) (n:Nat):∀vs:List Value,VRels μ n (vs.map im) vs
 | []=>by simp[VRels]
 |v::vs=>bl.2 ⟨mg μ n v,km μ n vs⟩
theorem uw(μ:Nat→Place) (n:Nat) (v:Value):VRel μ n (gw v) v:=by
 unfold gw
 split
 ·rename_i cs;simp only[VRel];exact⟨cs.toList,by simp,km μ n _⟩
 ·exact mg μ n _
def get(env:Env):Operand→AV
 |.tmp t=>ab env t
 |.const v=>gw v
 |.global _=>.undef
 |.func f=>.func f []
def Rv(env:Env) (xs:Array Operand):List AV:=xs.toList.map (get env)
theorem aS{μ n env} {a:Act}(h:TRel μ n env a.tmps) (x:Operand):VRel μ n (get env x) (a.eval x):=by
 cases x with
 |tmp t=>exact h t
 |const v=>exact uw μ n v
 |global g=>simp[get,VRel]
 |func f=>simp only[get,VRel,Act.eval];exact⟨[],rfl,by simp[VRels]⟩
theorem xD{μ n env} {a:Act}(h:TRel μ n env a.tmps) (xs:List Operand):VRels μ n (xs.map (get env)) (xs.map a.eval):=by
 induction xs with
 |nil=>simp[VRels]
 |cons x xs ih=>exact bl.2 ⟨aS h x,ih⟩
theorem TRel.put{μ n env} {a:Act}{d:Nat}{v:AV}{V:Value}(h:TRel μ n env a.tmps) (hd:d<a.tmps.size) (hv:VRel μ n v V):
  TRel μ n ((d,v)::env) (a.put (some d) V).tmps:=by
 intro t
 simp only[ab,Act.put]
 by_cases hdt:d=t
 ·subst hdt
  simp only[if_true,Array.getD_eq_getD_getElem?,Array.getElem?_setIfInBounds_self]
  simpa [hd] using hv
 ·simp only[hdt,if_false,Array.getD_eq_getD_getElem?,Array.getElem?_setIfInBounds_ne hdt]
  simpa [Array.getD_eq_getD_getElem?] using h t
def gE:Nat:=9223372036854775807
def R8(op:BinOp) (k:IntKind) (a b:Int):Option AV:=
 match op with
 |.add=>some (.int k (k.wrap (a+b)))
 |.sub=>some (.int k (k.wrap (a-b)))
 |.mul=>some (.int k (k.wrap (a*b)))
 |.quo=>if b=0 then none else some (.int k (k.wrap (a.tdiv b)))
 |.rem=>if b=0 then none else some (.int k (a.tmod b))
 |.eql=>some (.bool (decide (a=b)))
 |.neq=>some (.bool (!decide (a=b)))
 |.lss=>some (.bool (decide (a<b)))
 |.leq=>some (.bool (decide (a≤b)))
 |.gtr=>some (.bool (decide (b<a)))
 |.geq=>some (.bool (decide (b≤a)))
 |_=>none
def R9(op:BinOp) (s t:List UInt8):Option AV:=
 match op with
 |.add=>if s.length+t.length≤gE then some (.str (s++t)) else none
 |.eql=>some (.bool (s==t))
 |.neq=>some (.bool (!(s==t)))
 |.lss=>some (.bool (Op.bytesLess s t))
 |.leq=>some (.bool (Op.bytesLess s t||s==t))
 |.gtr=>some (.bool (!(Op.bytesLess s t||s==t)))
 |.geq=>some (.bool (!Op.bytesLess s t))
 |_=>none
def gD(i:TyI) (cs:List AV) (off:Nat):Option AV:=
 if i.isAgg then (if off+i.size≤cs.length then some (.agg ((cs.drop off).take i.size)) else none) else cs[off]?
def MI(T:TypeId→Option TyI) (q:TypeId→AV→AV→Option Bool) (xs ys:List AV):List Field→Option Bool
 | []=>some true
 |f::fs=>
  if f.name = "_" then none else
  match T f.type with
  |none=>none
  |some i=>
   match gD i xs f.offset,gD i ys f.offset with
   |some a,some b=>
    match q f.type a b,MI T q xs ys fs with
    |some p,some r=>some (p&&r)
    |_,_=>none
   |_,_=>none
def Qv(q:AV→AV→Option Bool) (i:TyI) (xs ys:List AV):List Nat→Option Bool
 | []=>some true
 |j::js=>
  match gD i xs (j*i.size),gD i ys (j*i.size) with
  |some a,some b=>
   match q a b,Qv q i xs ys js with
   |some p,some r=>some (p&&r)
   |_,_=>none
  |_,_=>none
def iH(T:TypeId→Option TyI):Nat→TypeId→AV→AV→Option Bool
 |0,_,_,_=>none
 |d+1,t,x,y=>
  match T t with
  |none=>none
  |some i=>
   match i.desc,x,y with
   |.bool,.bool a,.bool b=>some (a==b)
   |.int _,.int k a,.int k' b=>if k=k' then some (decide (a=b)) else none
   |.string,.str a,.str b=>some (a==b)
   |.struct fs,.agg xs,.agg ys=>if i.eqOk then MI T (iH T d) xs ys fs.toList else none
   |.array n e,.agg xs,.agg ys=>if i.eqOk then (match T e with
    |some j=>Qv (iH T d e) j xs ys (List.range' 0 n)
    |none=>none) else none
   |_,_,_=>none
def oG:Operand→Bool
 |.const _=>true
 |_=>false
def QO(T:TypeId→Option TyI) (t:TypeId) (r c:Bool) (x y:AV):Option Bool:=
 match T t with
 |none=>none
 |some i=>
  match i.desc,x,y with
  |.slice _,.slice _ _ _ _,.nilslice=>some false
  |.slice _,.nilslice,.nilslice=>some true
  |.pointer _,.nilptr,.nilptr=>some true
  |.pointer _,.ptr _ _,.nilptr=>some false
  |.func _ _ _,.nilFunc,.nilFunc=>some true
  |.func _ _ _,.func _ _,.nilFunc=>some false
  |.interface _,.nilIface,.nilIface=>if r||c then some true else none
  |.interface _,.iface _ _,.nilIface=>some false
  |_,_,_=>none
def R6(T:TypeId→Option TyI) (op:BinOp) (t:TypeId) (r c:Bool) (x y:AV):Option AV:=
 match x,y with
 |.int k a,.int k' b=>if k=k' then R8 op k a b else none
 |.str s,.str t=>R9 op s t
 |.bool a,.bool b=>match T t with
  |some i=>match i.desc,op with
   |.bool,.eql=>some (.bool (a==b))
   |.bool,.neq=>some (.bool (!(a==b)))
   |_,_=>none
  |none=>none
 |.agg xs,.agg ys=>match op with
  |.eql=>(iH T 20 t (.agg xs) (.agg ys)).map .bool
  |.neq=>(iH T 20 t (.agg xs) (.agg ys)).map fun b=>.bool (!b)
  |_=>none
 |x,y=>match op with
  |.eql=>(QO T t r c x y).map .bool
  |.neq=>(QO T t r c x y).map fun b=>.bool (!b)
  |_=>none
def mQ(place:Nat→Option (Nat×Nat)) (cells:List AV):List (Nat×AV)→Option (List AV)
 | []=>some cells
 |(i,v)::rest=>
  match place i with
  |none=>none
  |some (off,size)=>
   if v.known&&decide (v.cells.length=size)&&decide (off+size≤cells.length) then
    mQ place (cells.take off++v.cells++cells.drop (off+size)) rest
   else none
def aG(T:TypeId→Option TyI) (fs:Array Field) (i:Nat):Option (Nat×Nat):=
 match fs[i]? with
 |some f=>match T f.type with
  |some j=>some (f.offset,j.size)
  |none=>none
 |none=>none
def bx(T:TypeId→Option TyI) (t:TypeId) (parts:List (Nat×AV)):Option AV:=
 match T t with
 |none=>none
 |some i=>
  match i.desc with
  |.struct fs=>if fs.all (fun f=>(T f.type).isSome) then (mQ (aG T fs) (gw i.zero).cells parts).map .agg else none
  |.array _ e=>match T e with
   |some j=>(mQ (fun k=>some (k*j.size,j.size)) (gw i.zero).cells parts).map .agg
   |none=>none
  |_=>none
def xw(T:TypeId→Option TyI) (s d:TypeId) (x:AV):Option AV:=
 match T s,T d with
 |some i,some j=>
  match i.desc,j.desc,x with
  |.int _,.int k,.int _ n=>some (.int k (k.wrap n))
  |.string,.string,.str s=>some (.str s)
  |_,_,_=>none
 |_,_=>none
def Bc(n:Nat):Option AV→Option Int
 |none=>some n
 |some (.int _ h)=>some h
 |_=>none
def G1:Option AV→Option Int
 |none=>some 0
 |some (.int _ h)=>some h
 |_=>none
def JK(T:TypeId→Option TyI) (mem:Mem) (t:TypeId) (x:AV) (lo hi:Option AV):Option AV:=
 match T t with
 |none=>none
 |some i=>
  match i.desc,x with
  |.string,.str s=>
   match Bc s.length hi,G1 lo with
   |some h,some l=>if 0≤l∧l≤h∧h≤s.length then some (.str ((s.drop l.toNat).take (h.toNat-l.toNat))) else none
   |_,_=>none
  |.slice e,.slice b o n c=>
   match T e,mem[b]? with
   |some j,some (.cells _ es cs)=>
    match Bc n hi,G1 lo with
    |some h,some l=>
     if 0≤l∧l≤h∧h≤n∧(l=0∨l<n)∧es=j.size∧0<es∧es<1000∧o+n*es≤cs.length∧c=none then
      some (.slice b (o+l.toNat*es) (h.toNat-l.toNat) none) else none
    |_,_=>none
   |_,_=>none
  |.slice e,.nilslice=>
   match T e with
   |some _=>
    match Bc 0 hi,G1 lo with
    |some h,some l=>if h=0∧l=0 then some .nilslice else none
    |_,_=>none
   |none=>none
  |.array n e,.ptr b o=>
   match T e with
   |some j=>
    match Bc n hi,G1 lo with
    |some h,some l=>
     if 0≤l∧l≤h∧h≤n∧l<n then some (.slice b (o+l.toNat*j.size) (h.toNat-l.toNat) (some (n-l.toNat))) else none
    |_,_=>none
   |none=>none
  |_,_=>none
def po(T:TypeId→Option TyI) (t:TypeId) (x i:AV):Option AV:=
 match T t with
 |none=>none
 |some ti=>
  match ti.desc,x,i with
  |.slice e,.slice b o n _,.int _ k=>match T e with
   |some j=>if 0≤k∧k<n then some (.ptr b (o+k.toNat*j.size)) else none
   |none=>none
  |.array n e,.ptr b o,.int _ k=>match T e with
   |some j=>if 0≤k∧k<n then some (.ptr b (o+k.toNat*j.size)) else none
   |none=>none
  |_,_,_=>none
def JJ(T:TypeId→Option TyI) (t:TypeId) (x i:AV):Option AV:=
 match T t with
 |none=>none
 |some ti=>
  match ti.desc,x,i with
  |.array n e,.agg cs,.int _ k=>match T e with
   |some j=>if 0≤k∧k<n then gD j cs (k.toNat*j.size) else none
   |none=>none
  |.string,.str s,.int _ k=>if 0≤k then (match s[k.toNat]? with | some c=>some (.int .u8 c.toNat) | none=>none) else none
  |_,_,_=>none
def jS(T:TypeId→Option TyI) (t:TypeId) (x:AV) (f:Nat):Option AV:=
 match T t with
 |none=>none
 |some ti=>
  match ti.desc,x with
  |.struct fs,.agg cs=>match fs[f]? with
   |some fd=>match T fd.type with
    |some j=>gD j cs fd.offset
    |none=>none
   |none=>none
  |_,_=>none
def pn(T:TypeId→Option TyI) (t:TypeId) (x:AV) (f:Nat):Option AV:=
 match T t with
 |none=>none
 |some ti=>
  match ti.desc,x with
  |.struct fs,.ptr b o=>match fs[f]? with
   |some fd=>match T fd.type with
    |some j=>if j.size=0 then none else some (.ptr b (o+fd.offset))
    |none=>none
   |none=>none
  |_,_=>none
def QN(T:TypeId→Option TyI) (t:TypeId) (mem:Mem) (x:AV):Option AV:=
 match T t with
 |none=>none
 |some ti=>
  match ti.desc,x with
  |.string,.str s=>some (.int .i64 s.length)
  |.slice _,.slice _ _ n _=>some (.int .i64 n)
  |.slice _,.nilslice=>some (.int .i64 0)
  |.array n _,_=>some (.int .i64 n)
  |.map _ _,.nilmap=>some (.int .i64 0)
  |.map _ _,.map b=>match mem[b]? with
   |some (.map es)=>some (.int .i64 es.length)
   |_=>none
  |_,_=>none
def LH(T:TypeId→Option TyI) (mem:Mem) (t:TypeId) (x:AV):Option AV:=
 match T t,x with
 |some i,.ptr b o=>match mem[b]? with
  |some (.cells _ _ cs)=>gD i cs o
  |_=>none
 |_,_=>none
def qp(T:TypeId→Option TyI) (mem:Mem) (t:TypeId) (x v:AV):Option Mem:=
 match T t,x with
 |some i,.ptr b o=>match mem[b]? with
  |some (.cells true es cs)=>
   if v.known&&decide (v.cells.length=i.size)&&decide (o+i.size≤cs.length)&&v.cells.all AV.cellOk then
    some (mem.set b (.cells true es (cs.take o++v.cells++cs.drop (o+i.size)))) else none
  |_=>none
 |_,_=>none
section
variable {P:Program}{T:TypeId→Option TyI}{μ:Nat→Place}{n:Nat}
def Val(P:Program) (x:Sem Value) (w:World) (μ:Nat→Place) (n:Nat) (v:AV):Prop:=∃V,x.run P w=.ok V w∧VRel μ n v V
theorem Val.int{x:Sem Value}{w:World}{k:IntKind}{i:Int}(h:x.run P w=.ok (.int k i) w):Val P x w μ n (.int k i):=⟨_,h,by simp[VRel]⟩
theorem Val.bool{x:Sem Value}{w:World}{b:Bool}(h:x.run P w=.ok (.bool b) w):Val P x w μ n (.bool b):=⟨_,h,by simp[VRel]⟩
theorem Val.str{x:Sem Value}{w:World}{s:List UInt8}(h:x.run P w=.ok (.string ⟨s.toArray⟩) w):Val P x w μ n (.str s):=⟨_,h,by simp[VRel]⟩
theorem LF{op:BinOp}{k:IntKind}{a b:Int}{v:AV}(h:R8 op k a b=some v) (t:TypeId) (w:World):
  Val P (binOp op t (.int k a) (.int k b)) w μ n v:=by
 cases op<;>simp only[R8,Option.some.injEq,reduceCtorEq] at h
 case add=>subst h;exact .int (by simp[binOp,Op.intArith])
 case sub=>subst h;exact .int (by simp[binOp,Op.intArith])
 case mul=>subst h;exact .int (by simp[binOp,Op.intArith])
 case quo=>
  split at h
  ·cases h
  ·rename_i hb;cases h;exact .int (by simp[binOp,Op.intDiv,hb])
 case rem=>
  split at h
  ·cases h
  ·rename_i hb;cases h;exact .int (by simp[binOp,Op.intDiv,hb])
 case eql=>subst h;exact .bool (by simp[binOp,Op.intCmp];try (rw[Bool.eq_iff_iff];simp))
 case neq=>subst h;exact .bool (by simp[binOp,Op.intCmp];try (rw[Bool.eq_iff_iff];simp))
 case lss=>subst h;exact .bool (by simp[binOp,Op.intCmp])
 case leq=>subst h;exact .bool (by simp[binOp,Op.intCmp])
 case gtr=>subst h;exact .bool (by simp[binOp,Op.intCmp])
 case geq=>subst h;exact .bool (by simp[binOp,Op.intCmp])
theorem LJ{op:BinOp}{s u:List UInt8}{v:AV}(h:R9 op s u=some v) (t:TypeId) (w:World):
  Val P (binOp op t (.string ⟨s.toArray⟩) (.string ⟨u.toArray⟩)) w μ n v:=by
 cases op<;>simp only[R9,Option.some.injEq,reduceCtorEq] at h
 case add=>
  split at h
  ·rename_i hl
   cases h
   refine .str ?_
   have:¬((9223372036854775807:Int)<((s.length:Int)+(u.length:Int))):=by simp only[gE] at hl;omega
   have hs:(ByteArray.mk s.toArray).size=s.length:=by simp[ByteArray.size]
   have hu:(ByteArray.mk u.toArray).size=u.length:=by simp[ByteArray.size]
   have hcat:(ByteArray.mk s.toArray)++(ByteArray.mk u.toArray)=ByteArray.mk (s++u).toArray:=by
    apply ByteArray.ext;simp
   simp[binOp,Op.stringOp,hs,hu,this,hcat]
  ·cases h
 case eql=>subst h;exact .bool (by simp[binOp,Op.stringOp])
 case neq=>subst h;exact .bool (by simp[binOp,Op.stringOp])
 case lss=>subst h;exact .bool (by simp[binOp,Op.stringOp])
 case leq=>subst h;exact .bool (by simp[binOp,Op.stringOp])
 case gtr=>subst h;exact .bool (by simp[binOp,Op.stringOp])
 case geq=>subst h;exact .bool (by simp[binOp,Op.stringOp])
theorem sT(hT:cf P T) {t:TypeId}{i:TyI}(h:T t=some i) (w:World):(Go.isAgg t).run P w=.ok i.isAgg w:=by
 have hd:=(hT t i h).desc
 simp only[Go.isAgg,Sem.run_bind,run_underlying hd,Result.andThen_ok,TyI.isAgg]
 cases i.desc<;>rfl
theorem bX(hT:cf P T) {t:TypeId}{i:TyI}(h:T t=some i) (w:World):(Go.sizeOf t).run P w=.ok i.size w:=by
 obtain⟨f,hf,hs,_,_⟩:=(hT t i h).info
 simp[Go.sizeOf,typeInfo,hf,hs]
theorem vV(hT:cf P T) {t:TypeId}{i:TyI}(h:T t=some i) (w:World):∃f,(typeInfo t).run P w=.ok f w∧f.size=i.size∧f.bytes=i.bytes∧f.zero=some i.zero:=by
 obtain⟨f,hf,hs,hb,hz⟩:=(hT t i h).info
 exact⟨f,by simp[typeInfo,hf],hs,hb,hz⟩
theorem dv(hT:cf P T) {t:TypeId}{i:TyI}(h:T t=some i) (w:World):(zeroValue t).run P w=.ok i.zero w:=by
 obtain⟨f,hf,hs,hb,hz⟩:=vV hT h w
 simp[zeroValue,hf,hz]
theorem gi(hT:cf P T) {t:TypeId}{i:TyI}(ht:T t=some i) {cs:List AV}{Cs:List Value}{off:Nat}{v:AV}
  (h:gD i cs off=some v) (hr:VRels μ n cs Cs) (w:World):Val P (part t ⟨Cs⟩ off) w μ n v:=by
 unfold gD at h
 simp only[part,Val]
 cases hi:i.isAgg with
 |true=>
  simp only[hi,if_true] at h
  split at h
  ·rename_i hle
   cases h
   have hlen:=hr.length
   refine⟨.agg (Array.extract ⟨Cs⟩ off (off+i.size)),?_,?_⟩
   ·simp[sT hT ht,bX hT ht,hi]
   ·simp only[VRel]
    refine⟨(Cs.drop off).take i.size,?_,(hr.drop off).take i.size⟩
    congr 1
    apply Array.ext'
    simp[List.extract]
  ·cases h
 |false=>
  simp only[hi,Bool.false_eq_true,if_false] at h
  obtain⟨U,hU,hv⟩:=hr.get off v h
  exact⟨U,by simp[sT hT ht,hi,hU],hv⟩
theorem VRel.bool{b V} (h:VRel μ n (.bool b) V):V=.bool b:=by simpa [VRel] using h
theorem VRel.int{k i V} (h:VRel μ n (.int k i) V):V=.int k i:=by simpa [VRel] using h
theorem VRel.str{s V} (h:VRel μ n (.str s) V):V=.string ⟨s.toArray⟩:=by simpa [VRel] using h
theorem VRel.agg{cs V} (h:VRel μ n (.agg cs) V):∃Us,V=.agg ⟨Us⟩∧VRels μ n cs Us:=by simpa only[VRel] using h
theorem Bb(hT:cf P T) {d:Nat}{q:TypeId→AV→AV→Option Bool}
  (ih:∀{t:TypeId}{x y:AV}{b:Bool}{X Y:Value},q t x y=some b→VRel μ n x X→VRel μ n y Y→∀(w:World),(Op.equalIn d t X Y).run P w=.ok b w)
  {xs ys:List AV}{Xs Ys:List Value}(hx:VRels μ n xs Xs) (hy:VRels μ n ys Ys) (w:World):
  ∀{fs:List Field}{b:Bool},MI T q xs ys fs=some b→(Op.eqFields d ⟨Xs⟩ ⟨Ys⟩ fs).run P w=.ok b w
 | [],b,h=>by
  simp only[MI,Option.some.injEq] at h;subst h;simp[Op.eqFields]
 |f::fs,b,h=>by
  rw[MI] at h
  split at h
  ·cases h
  ·rename_i hname
   split at h
   ·cases h
   ·rename_i i ht
    split at h
    ·rename_i a c ha hc
     split at h
     ·rename_i p r hp hr
      cases h
      obtain⟨A,hA,hrA⟩:=gi (P:=P) (μ:=μ) (n:=n) hT ht ha hx w
      obtain⟨C,hC,hrC⟩:=gi (P:=P) (μ:=μ) (n:=n) hT ht hc hy w
      have h1:=ih hp hrA hrC w
      have h2:=Bb hT ih hx hy w hr
      simp only[Op.eqFields,hname,ne_eq,not_false_eq_true,if_true,Sem.run_bind,hA,hC,h1,Result.andThen_ok]
      cases p
      ·simp
      ·simp[h2]
     ·cases h
    ·cases h
theorem Ba(hT:cf P T) {d:Nat}{e:TypeId}{i:TyI}(hi:T e=some i) {q:AV→AV→Option Bool}
  (ih:∀{x y:AV}{b:Bool}{X Y:Value},q x y=some b→VRel μ n x X→VRel μ n y Y→∀(w:World),(Op.equalIn d e X Y).run P w=.ok b w)
  {xs ys:List AV}{Xs Ys:List Value}(hx:VRels μ n xs Xs) (hy:VRels μ n ys Ys) (w:World):
  ∀{js:List Nat}{b:Bool},Qv q i xs ys js=some b→
   ((forIn js ((none,()):Option Bool×Unit) fun j _=>(do
     let a ←part e ⟨Xs⟩ (j*i.size)
     let c ←part e ⟨Ys⟩ (j*i.size)
     let r ←Op.equalIn d e a c
     if (!r)=true then pure (ForInStep.done (some false,())) else pure (ForInStep.yield (none,())):Sem (ForInStep (Option Bool×Unit)))).run P w=
    .ok (if b then none else some false,()) w)
 | [],b,h=>by
  simp only[Qv,Option.some.injEq] at h;subst h;simp
 |j::js,b,h=>by
  rw[Qv] at h
  split at h
  ·rename_i a c ha hc
   split at h
   ·rename_i p r hp hr
    cases h
    obtain⟨A,hA,hrA⟩:=gi (P:=P) (μ:=μ) (n:=n) hT hi ha hx w
    obtain⟨C,hC,hrC⟩:=gi (P:=P) (μ:=μ) (n:=n) hT hi hc hy w
    have h1:=ih hp hrA hrC w
    have h2:=Ba hT hi ih hx hy w hr
    simp only[List.forIn_cons,Sem.run_bind,hA,hC,h1,Result.andThen_ok]
    cases p
    ·simp
    ·simp only[Bool.not_true,Bool.false_eq_true,if_false,Sem.run_pure,Result.andThen_ok,Bool.true_and]
     exact h2
   ·cases h
  ·cases h
theorem gd(hT:cf P T):∀(d:Nat) {t:TypeId} {x y:AV} {b:Bool} {X Y:Value},iH T d t x y=some b→VRel μ n x X→VRel μ n y Y→
  ∀(k:Nat) (w:World),(Op.equalIn (d+k) t X Y).run P w=.ok b w
 |0,_,_,_,_,_,_,h,_,_,_,_=>by simp[iH] at h
 |d+1,t,x,y,b,X,Y,h,hx,hy,k,w=>by
  rw[iH] at h
  rw[show d+1+k=d+k+1 by omega]
  cases ht:T t with
  |none=>rw[ht] at h;cases h
  |some i=>
   rw[ht] at h
   simp only at h
   have hd:=(hT t i ht).desc
   split at h
   ·rename_i hdesc
    cases h;rw[hx.bool,hy.bool]
    rw[hdesc] at hd
    exact run_equalIn_bool' w _ t _ _ hd
   ·rename_i k1 k2 a k' b' hdesc
    split at h
    ·rename_i hk
     cases h;subst hk
     rw[hx.int,hy.int]
     rw[hdesc] at hd
     rw[run_equalIn_int w _ t _ k1 _ _ hd]
     congr 1
    ·cases h
   ·rename_i hdesc
    cases h;rw[hx.str,hy.str]
    rw[hdesc] at hd
    rw[run_equalIn_string w _ t _ _ hd]
    simp
   ·rename_i fs xs ys hdesc
    split at h
    ·rename_i hok
     obtain⟨Xs,rfl,hxs⟩:=hx.agg
     obtain⟨Ys,rfl,hys⟩:=hy.agg
     rw[hdesc] at hd
     have hf:P.fieldsOf t=fs:=by simp[Program.fieldsOf,hd]
     rw[run_equalIn_agg w _ t _ _ (by rw[hd,hf]) ((hT t i ht).eqOk hok).1,hf]
     exact Bb hT (fun h1 h2 h3 w=>gd hT d h1 h2 h3 k w) hxs hys w h
    ·cases h
   ·rename_i m e xs ys hdesc
    split at h
    ·split at h
     ·rename_i j hj
      obtain⟨Xs,rfl,hxs⟩:=hx.agg
      obtain⟨Ys,rfl,hys⟩:=hy.agg
      rw[hdesc] at hd
      have hfor:=Ba hT hj (d:=d+k) (fun h1 h2 h3 w=>gd hT d h1 h2 h3 k w) hxs hys w h
      simp only[Op.equalIn,Sem.run_bind,run_underlying hd,Result.andThen_ok,bX hT hj]
      simp only[Std.Legacy.Range.forIn_eq_forIn_range',Std.Legacy.Range.size,Nat.sub_zero,Nat.add_sub_cancel,Nat.div_one]
      rw[hfor]
      cases b<;>rfl
     ·cases h
    ·cases h
   ·cases h
end
end Go.Eng
namespace Go.Eng
section
variable {P:Program}{T:TypeId→Option TyI}{μ:Nat→Place}{n:Nat}
theorem eN(t:TypeId) (X Y:Value):Op.equal t X Y=Op.equalIn (9999+1) t X Y:=rfl
theorem AZ(hT:cf P T) {t:TypeId}{x y:AV}{b:Bool}{X Y:Value}
  (hx:VRel μ n x X) (hy:VRel μ n y Y) (ox oy:Operand) (h:QO T t (oG ox) (oG oy) x y=some b) (w:World):
  (∀op,(eqGuard op t ox oy X Y).run P w=.ok () w)∧(Op.equal t X Y).run P w=.ok b w∧(∀op:BinOp,op=.eql∨op=.neq→binOp op t X Y=(if op=.eql then (do pure (.bool (←Op.equal t X Y))) else (do pure (.bool (!(←Op.equal t X Y)))))):=by
 unfold QO at h
 cases ht:T t with
 |none=>rw[ht] at h;cases h
 |some i=>
  rw[ht] at h
  simp only at h
  have hd:=(hT t i ht).desc
  split at h
  ·rename_i hdesc;cases h;rw[hdesc] at hd
   simp only[VRel] at hx hy;obtain⟨_,rfl⟩:=hx;subst hy
   exact⟨fun op=>by rw[eqGuard_at_slice];rfl,by rw[eN,Op.equalIn];simp[run_underlying hd],by intro op ho;cases ho with | inl e=>subst e;rfl | inr e=>subst e;rfl⟩
  ·rename_i hdesc;cases h;rw[hdesc] at hd
   simp only[VRel] at hx hy;subst hx;subst hy
   exact⟨fun op=>by rw[eqGuard_at_slice];rfl,by rw[eN,Op.equalIn];simp[run_underlying hd],by intro op ho;cases ho with | inl e=>subst e;rfl | inr e=>subst e;rfl⟩
  ·rename_i hdesc;cases h;rw[hdesc] at hd
   simp only[VRel] at hx hy;subst hx;subst hy
   exact⟨fun op=>by rw[eqGuard_at_pointer];rfl,by rw[eN,Op.equalIn];simp[run_underlying hd],by intro op ho;cases ho with | inl e=>subst e;rfl | inr e=>subst e;rfl⟩
  ·rename_i hdesc;cases h;rw[hdesc] at hd
   simp only[VRel] at hx hy;obtain⟨_,rfl⟩:=hx;subst hy
   exact⟨fun op=>by rw[eqGuard_at_pointer];rfl,by rw[eN,Op.equalIn];simp[run_underlying hd],by intro op ho;cases ho with | inl e=>subst e;rfl | inr e=>subst e;rfl⟩
  ·rename_i hdesc;cases h;rw[hdesc] at hd
   simp only[VRel] at hx hy;subst hx;subst hy
   exact⟨fun op=>by rw[eqGuard_at_nilFunc];rfl,by rw[eN,Op.equalIn];simp[run_underlying hd],by intro op ho;cases ho with | inl e=>subst e;rfl | inr e=>subst e;rfl⟩
  ·rename_i hdesc;cases h;rw[hdesc] at hd
   simp only[VRel] at hx hy;obtain⟨_,rfl,_⟩:=hx;subst hy
   exact⟨fun op=>by rw[eqGuard_at_func];rfl,by rw[eN,Op.equalIn];simp[run_underlying hd],by intro op ho;cases ho with | inl e=>subst e;rfl | inr e=>subst e;rfl⟩
  ·rename_i hdesc;rw[hdesc] at hd
   simp only[VRel] at hx hy;subst hx;subst hy
   split at h
   ·rename_i hc;cases h
    refine⟨fun op=>?_,by rw[eN,Op.equalIn];simp[run_underlying hd],by intro op ho;cases ho with | inl e=>subst e;rfl | inr e=>subst e;rfl⟩
    cases ox<;>cases oy<;>simp[oG] at hc<;>first | (rw[eqGuard_nil_constR];rfl) | (rw[eqGuard_nil_constL];rfl)
   ·cases h
  ·rename_i hdesc;cases h;rw[hdesc] at hd
   simp only[VRel] at hx hy;obtain⟨_,rfl,_⟩:=hx;subst hy
   exact⟨fun op=>by rw[eqGuard_at_iface];rfl,by rw[eN,Op.equalIn];simp[run_underlying hd],by intro op ho;cases ho with | inl e=>subst e;rfl | inr e=>subst e;rfl⟩
  ·cases h
theorem LA(hT:cf P T) {op:BinOp}{t:TypeId}{x y v:AV}{X Y:Value}(hx:VRel μ n x X) (hy:VRel μ n y Y) (ox oy:Operand) (h:R6 T op t (oG ox) (oG oy) x y=some v) (w:World):
  Val P (do eqGuard op t ox oy X Y;binOp op t X Y) w μ n v:=by
 unfold R6 at h
 split at h
 ·rename_i k a k' b
  split at h
  ·rename_i hk
   subst hk
   rw[hx.int,hy.int]
   obtain⟨V,h1,h2⟩:=LF (P:=P) (μ:=μ) (n:=n) h t w
   exact⟨V,by rw[eqGuard_at_int];simpa using h1,h2⟩
  ·cases h
 ·rw[hx.str,hy.str]
  obtain⟨V,h1,h2⟩:=LJ (P:=P) (μ:=μ) (n:=n) h t w
  exact⟨V,by rw[eqGuard_at_string];simpa using h1,h2⟩
 ·rename_i a b
  rw[hx.bool,hy.bool]
  split at h
  ·rename_i i hi
   have hd:=(hT t i hi).desc
   split at h
   ·rename_i hdesc
    cases h
    rw[hdesc] at hd
    refine .bool ?_
    rw[eqGuard_at_bool]
    simp only[binOp,eN,Sem.run_bind,Sem.run_pure,Result.andThen_ok,run_equalIn_bool' w 9999 t a b hd]
   ·rename_i hdesc
    cases h
    rw[hdesc] at hd
    refine .bool ?_
    rw[eqGuard_at_bool]
    simp only[binOp,eN,Sem.run_bind,Sem.run_pure,Result.andThen_ok,run_equalIn_bool' w 9999 t a b hd]
   ·cases h
  ·cases h
 ·rename_i xs ys
  have hguard:∀b,iH T 20 t (.agg xs) (.agg ys)=some b→P.eqGuardType P.depth t=false:=by
   intro b hb
   rw[iH] at hb
   cases ht:T t with
   |none=>rw[ht] at hb;cases hb
   |some i=>
    rw[ht] at hb
    simp only at hb
    split at hb
    ·rename_i h1 _;cases h1
    ·rename_i h1 _;cases h1
    ·rename_i h1 _;cases h1
    ·split at hb
     ·rename_i hok;exact((hT t i ht).eqOk hok).2
     ·cases hb
    ·split at hb
     ·rename_i hok;exact((hT t i ht).eqOk hok).2
     ·cases hb
    ·cases hb
  split at h
  ·simp only[Option.map_eq_some_iff] at h
   obtain⟨b,hb,rfl⟩:=h
   have h1:=gd hT 20 hb hx hy 9980 w
   obtain⟨Xs,rfl,_⟩:=hx.agg
   obtain⟨Ys,rfl,_⟩:=hy.agg
   refine .bool ?_
   simp only[Sem.run_bind,run_eqGuard_agg w _ t ox oy _ _ (hguard b hb),Result.andThen_ok,run_eql_struct,h1]
  ·simp only[Option.map_eq_some_iff] at h
   obtain⟨b,hb,rfl⟩:=h
   have h1:=gd hT 20 hb hx hy 9980 w
   obtain⟨Xs,rfl,_⟩:=hx.agg
   obtain⟨Ys,rfl,_⟩:=hy.agg
   refine .bool ?_
   simp only[Sem.run_bind,run_eqGuard_agg w _ t ox oy _ _ (hguard b hb),Result.andThen_ok,run_neq_struct,h1]
  ·cases h
 ·split at h
  ·simp only[Option.map_eq_some_iff] at h
   obtain⟨b,hb,rfl⟩:=h
   obtain⟨h1,h2,h3⟩:=AZ hT hx hy ox oy hb w
   refine .bool ?_
   rw[Sem.run_bind,h1,Result.andThen_ok,h3 _ (.inl rfl)]
   simp[h2]
  ·simp only[Option.map_eq_some_iff] at h
   obtain⟨b,hb,rfl⟩:=h
   obtain⟨h1,h2,h3⟩:=AZ hT hx hy ox oy hb w
   refine .bool ?_
   rw[Sem.run_bind,h1,Result.andThen_ok,h3 _ (.inr rfl)]
   simp[h2]
  ·cases h
theorem AF(hT:cf P T) {s d:TypeId}{x v:AV}{X:Value}(hx:VRel μ n x X) (h:xw T s d x=some v) (w:World):
  Val P (convert s d X) w μ n v:=by
 unfold xw at h
 split at h
 ·rename_i i j hi hj
  have h1:=(hT s i hi).desc
  have h2:=(hT d j hj).desc
  split at h
  ·rename_i e1 e2;cases h;rw[hx.int];rw[e1] at h1;rw[e2] at h2
   exact .int (by simp[convert,run_underlying h1,run_underlying h2,Conv.intToInt])
  ·rename_i e1 e2;cases h;rw[hx.str];rw[e1] at h1;rw[e2] at h2
   exact .str (by simp[convert,run_underlying h1,run_underlying h2])
  ·cases h
 ·cases h
theorem GR(off:Nat):∀(vs:List Value) (k:Nat) (cur:List Value),off+k+vs.length≤cur.length→
  ((vs.zipIdx k).foldl (fun(cs:Array Value) (x:Value×Nat)=>cs.setIfInBounds (off+x.2) x.1) ⟨cur⟩)=⟨cur.take (off+k)++vs++cur.drop (off+k+vs.length)⟩
 | [],k,cur,_=>by simp
 |v::vs,k,cur,h=>by
  simp only[List.zipIdx_cons,List.foldl_cons]
  have h1:(⟨cur⟩:Array Value).setIfInBounds (off+k) v=⟨cur.set (off+k) v⟩:=by simp
  rw[h1,GR off vs (k+1) (cur.set (off+k) v) (by simp at h ⊢;omega)]
  have e:=list_seg_step cur (off+k) v vs (by simp at h ⊢;omega)
  simp only[List.append_assoc,Array.mk.injEq,List.length_cons] at e ⊢
  simpa [Nat.add_assoc,Nat.add_comm 1] using e
theorem pM{place:Nat→Option (Nat×Nat)}:∀{parts:List (Nat×AV)}{cells cells' :List AV} {Parts:List (Nat×Value)} {Cells:List Value},
  mQ place cells parts=some cells' →VRels μ n cells Cells→Parts.map (·.1)=parts.map (·.1)→VRels μ n (parts.map (·.2)) (Parts.map (·.2))→
  ∃Cells',Instr.fill place ⟨Cells⟩ Parts=some ⟨Cells'⟩∧VRels μ n cells' Cells'
 | [],cells,cells',Parts,Cells,h,hc,hp,_=>by
  simp only[mQ,Option.some.injEq] at h;subst h
  have:Parts=[]:=by simpa using hp
  subst this
  exact⟨Cells,rfl,hc⟩
 |(i,v)::rest,cells,cells',Parts,Cells,h,hc,hp,hv=>by
  cases Parts with
  |nil=>simp at hp
  |cons p Rest=>
   obtain⟨i',V⟩:=p
   simp only[List.map_cons,List.cons.injEq] at hp
   obtain⟨rfl,hp⟩:=hp
   simp only[List.map_cons] at hv
   obtain⟨hv1,hv2⟩:=bl.1 hv
   rw[mQ] at h
   cases hpl:place i' with
   |none=>rw[hpl] at h;cases h
   |some os=>
    obtain⟨off,size⟩:=os
    rw[hpl] at h
    simp only at h
    split at h
    ·rename_i hcond
     simp only[Bool.and_eq_true,decide_eq_true_eq] at hcond
     obtain⟨⟨hk,hsz⟩,hfit⟩:=hcond
     have hVc:=hv1.cells hk
     have hVl:V.cells.size=size:=by rw[←Array.length_toList,hVc.length,hsz]
     have hCl:=hc.length
     rw[Instr.fill,hpl]
     simp only
     have e1:(V.cells.zipIdx.foldl (fun cs (x:Value×Nat)=>cs.setIfInBounds (off+x.2) x.1) (⟨Cells⟩:Array Value))=⟨Cells.take off++V.cells.toList++Cells.drop (off+size)⟩:=by
      rw[←Array.foldl_toList,Array.toList_zipIdx,GR off _ 0 Cells (by rw[hVc.length,hCl,hsz];omega)]
      simp[hVl]
     rw[if_neg (by simp[hVl,hCl];omega),e1]
     exact pM h (((hc.take off).append hVc).append (hc.drop _)) hp hv2
    ·cases h
theorem J8{α β:Type}(g:α→Sem β) (hf:α→β) (w:World):∀(l:List α),(∀x∈l,(g x).run P w=.ok (hf x) w)→(l.mapM g).run P w=.ok (l.map hf) w
 | [],_=>by simp
 |x::l,h=>by
  simp[List.mapM_cons,h x (by simp),J8 g hf w l (fun y hy=>h y (by simp[hy]))]
theorem Jy{μ:Nat→Place}{n:Nat}{v:AV}{V:Value}(h:VRel μ n v V) (hv:v.cells=[v]) (hV:V.cells= #[V]):VRels μ n v.cells V.cells.toList:=by
 rw[hv,hV];exact bl.2 ⟨h,by simp[VRels]⟩
theorem AN(v:Value):(im v).cells=[im v]:=by
 unfold im
 split<;>rfl
theorem gS(μ:Nat→Place) (n:Nat) (z:Value):VRels μ n (gw z).cells z.cells.toList:=by
 by_cases h:∃cs,z=.agg cs
 ·obtain⟨cs,rfl⟩:=h;exact km μ n _
 ·have e:gw z=im z:=by cases z<;>first | rfl | exact absurd ⟨_,rfl⟩ h
  have c:z.cells= #[z]:=by cases z<;>first | rfl | exact absurd ⟨_,rfl⟩ h
  rw[e];exact Jy (mg μ n z) (AN z) c
theorem Gl(hT:cf P T) {t:TypeId}{parts:List (Nat×AV)}{Parts:List (Nat×Value)}{v:AV}(h:bx T t parts=some v)
  (hp:Parts.map (·.1)=parts.map (·.1)) (hv:VRels μ n (parts.map (·.2)) (Parts.map (·.2))) (w:World):
  Val P (Instr.build t ⟨Parts⟩) w μ n v:=by
 unfold bx at h
 cases ht:T t with
 |none=>rw[ht] at h;cases h
 |some i=>
  rw[ht] at h
  simp only at h
  have hd:=(hT t i ht).desc
  have hz:=gS μ n i.zero
  split at h
  ·rename_i fs hdesc
   split at h
   ·rename_i hall
    simp only[Option.map_eq_some_iff] at h
    obtain⟨cells',hf,rfl⟩:=h
    obtain⟨Cells',h1,h2⟩:=pM hf hz hp hv
    rw[hdesc] at hd
    have hall' :∀f∈fs.toList,∃j,T f.type=some j:=by
     intro f hf
     rw[Array.all_eq_true'] at hall
     have:=hall f (by simpa using hf)
     exact Option.isSome_iff_exists.1 this
    have hmap:(fs.mapM fun f=>do pure (f.offset,←sizeOf f.type):Sem (Array (Nat×Nat))).run P w=
      .ok (fs.map fun f=>(f.offset,((T f.type).map (·.size)).getD 0)) w:=by
     rw[Array.mapM_eq_mapM_toList,Sem.run_map]
     rw[J8 (P:=P) _ (fun f=>(f.offset,((T f.type).map (·.size)).getD 0)) w fs.toList (fun f hf=>by
      obtain⟨j,hj⟩:=hall' f hf
      simp[bX hT hj,hj])]
     simp only[Result.andThen_ok,Result.ok.injEq,and_true]
     apply Array.ext'
     simp
    have hpl:(fun k=>(fs.map fun f=>(f.offset,((T f.type).map (·.size)).getD 0))[k]?)=aG T fs:=by
     funext k
     simp only[aG,Array.getElem?_map]
     cases hk:fs[k]? with
     |none=>rfl
     |some f=>
      have hmem:f∈fs.toList:=by
       have:=Array.mem_of_getElem? hk
       simpa using this
      obtain⟨j,hj⟩:=hall' f hmem
      simp[hj]
    refine⟨.agg ⟨Cells'⟩,?_,by simp only[VRel];exact⟨Cells',rfl,h2⟩⟩
    simp only[Instr.build,Sem.run_bind,dv hT ht,Result.andThen_ok,run_underlying hd]
    erw [hmap]
    simp only[Result.andThen_ok,hpl]
    rw[show i.zero.cells=⟨i.zero.cells.toList⟩ from rfl,h1]
    rfl
   ·cases h
  ·rename_i m e hdesc
   split at h
   ·rename_i j hj
    simp only[Option.map_eq_some_iff] at h
    obtain⟨cells',hf,rfl⟩:=h
    obtain⟨Cells',h1,h2⟩:=pM hf hz hp hv
    rw[hdesc] at hd
    refine⟨.agg ⟨Cells'⟩,?_,by simp only[VRel];exact⟨Cells',rfl,h2⟩⟩
    simp only[Instr.build,Sem.run_bind,dv hT ht,Result.andThen_ok,run_underlying hd,bX hT hj]
    rw[show i.zero.cells=⟨i.zero.cells.toList⟩ from rfl,h1]
    rfl
   ·cases h
  ·cases h
end
end Go.Eng
namespace Go.Eng
section
variable {P:Program}{T:TypeId→Option TyI}{μ:Nat→Place}{n:Nat}
theorem VRel.ptr{b o V} (h:VRel μ n (.ptr b o) V):b<n∧V=.pointer (some ⟨(μ b).blk,(μ b).off+o,none⟩):=by simpa only[VRel] using h
theorem VRel.slice{b o l c V} (h:VRel μ n (.slice b o l c) V):b<n∧V=.slice (some ⟨(μ b).blk,(μ b).off+o,none⟩) l (iz (μ b) o c):=by simpa only[VRel] using h
theorem bP{k:IntKind}{i:Int}{y:Nat}(h0:0≤i) (h1:i≤y) (code:BoundsCode) (w:World):
  (Instr.sliceBound (.int k i) y code).run P w=.ok i.toNat w:=by
 simp[Instr.sliceBound,asIntOf,h0,h1]
theorem wZ(hT:cf P T) {t:TypeId}{x i v:AV}{X I:Value}(hx:VRel μ n x X) (hi:VRel μ n i I) (h:po T t x i=some v) (w:World):
  Val P (Instr.indexAt t X I) w μ n v:=by
 unfold po at h
 cases ht:T t with
 |none=>rw[ht] at h;cases h
 |some ti=>
  rw[ht] at h
  simp only at h
  have hd:=(hT t ti ht).desc
  split at h
  ·rename_i e b o m c k j hdesc
   rw[hdesc] at hd
   split at h
   ·rename_i je hje
    split at h
    ·rename_i hb
     cases h
     obtain⟨hbn,rfl⟩:=hx.slice
     rw[hi.int]
     refine⟨.pointer (some ⟨(μ b).blk,(μ b).off+(o+j.toNat*je.size),none⟩),?_,by simp only[VRel];exact⟨hbn,trivial⟩⟩
     simp[Instr.indexAt,asIntOf,run_underlying hd,hb,bX hT hje,Addr.add_lit,Nat.add_assoc]
    ·cases h
   ·cases h
  ·rename_i m e b o k j hdesc
   rw[hdesc] at hd
   split at h
   ·rename_i je hje
    split at h
    ·rename_i hb
     cases h
     obtain⟨hbn,rfl⟩:=hx.ptr
     rw[hi.int]
     refine⟨.pointer (some ⟨(μ b).blk,(μ b).off+(o+j.toNat*je.size),none⟩),?_,by simp only[VRel];exact⟨hbn,trivial⟩⟩
     simp[Instr.indexAt,asIntOf,run_underlying hd,Instr.sureAddr,hb,bX hT hje,Addr.add_lit,Nat.add_assoc]
    ·cases h
   ·cases h
  ·cases h
theorem Gr(hT:cf P T) {t:TypeId}{x i v:AV}{X I:Value}(hx:VRel μ n x X) (hi:VRel μ n i I) (h:JJ T t x i=some v) (w:World):
  Val P (Instr.index t X I) w μ n v:=by
 unfold JJ at h
 cases ht:T t with
 |none=>rw[ht] at h;cases h
 |some ti=>
  rw[ht] at h
  simp only at h
  have hd:=(hT t ti ht).desc
  split at h
  ·rename_i m e cs k j hdesc
   rw[hdesc] at hd
   split at h
   ·rename_i je hje
    split at h
    ·rename_i hb
     obtain⟨Cs,rfl,hcs⟩:=hx.agg
     rw[hi.int]
     obtain⟨V,h1,h2⟩:=gi (P:=P) (μ:=μ) (n:=n) hT hje h hcs w
     exact⟨V,by simp[Instr.index,asIntOf,run_underlying hd,hb,bX hT hje,h1],h2⟩
    ·cases h
   ·cases h
  ·rename_i s k j hdesc
   rw[hdesc] at hd
   split at h
   ·rename_i h0
    split at h
    ·rename_i c hc
     cases h
     rw[hx.str,hi.int]
     have hc' :(ByteArray.mk s.toArray)[j.toNat]? =some c:=by
      have hlt:j.toNat<s.length:=(List.getElem?_eq_some_iff.1 hc).1
      have hv:=(List.getElem?_eq_some_iff.1 hc).2
      rw[getElem?_pos (ByteArray.mk s.toArray) j.toNat (by simpa [ByteArray.size] using hlt)]
      congr 1
     exact .int (by simp[Instr.index,asIntOf,run_underlying hd,h0,hc'])
    ·cases h
   ·cases h
  ·cases h
theorem Gq(hT:cf P T) {t:TypeId}{x v:AV}{f:Nat}{X:Value}(hx:VRel μ n x X) (h:jS T t x f=some v) (w:World):
  Val P (Instr.field t X f) w μ n v:=by
 unfold jS at h
 cases ht:T t with
 |none=>rw[ht] at h;cases h
 |some ti=>
  rw[ht] at h
  simp only at h
  have hd:=(hT t ti ht).desc
  split at h
  ·rename_i fs cs hdesc
   rw[hdesc] at hd
   split at h
   ·rename_i fd hfd
    split at h
    ·rename_i j hj
     obtain⟨Cs,rfl,hcs⟩:=hx.agg
     obtain⟨V,h1,h2⟩:=gi (P:=P) (μ:=μ) (n:=n) hT hj h hcs w
     exact⟨V,by simp[Instr.field,run_underlying hd,hfd,asAgg,h1],h2⟩
    ·cases h
   ·cases h
  ·cases h
theorem wY(hT:cf P T) {t:TypeId}{x v:AV}{f:Nat}{X:Value}(hx:VRel μ n x X) (h:pn T t x f=some v) (w:World):
  Val P (Instr.fieldAt t X f) w μ n v:=by
 unfold pn at h
 cases ht:T t with
 |none=>rw[ht] at h;cases h
 |some ti=>
  rw[ht] at h
  simp only at h
  have hd:=(hT t ti ht).desc
  split at h
  ·rename_i fs b o hdesc
   rw[hdesc] at hd
   split at h
   ·rename_i fd hfd
    split at h
    ·rename_i j hj
     split at h
     ·cases h
     ·rename_i hsz
      cases h
      obtain⟨hbn,rfl⟩:=hx.ptr
      refine⟨.pointer (some ⟨(μ b).blk,(μ b).off+(o+fd.offset),none⟩),?_,by simp only[VRel];exact⟨hbn,trivial⟩⟩
      simp[Instr.fieldAt,run_underlying hd,hfd,Instr.sureAddr,fieldPlace,Addr.add_lit,Nat.add_assoc,bX hT hj,hsz]
    ·cases h
   ·cases h
  ·cases h
end
end Go.Eng
namespace Go.Eng
section
variable {P:Program}{T:TypeId→Option TyI}{μ:Nat→Place}{mem:Mem}{base:Nat}{w:World}
theorem pr(s:List UInt8):(ByteArray.mk s.toArray).size=s.length:=by simp[ByteArray.size]
theorem HRel.cell(hH:HRel base μ mem w) {b:Nat}{own es cs} (hb:mem[b]? =some (.cells own es cs)) {j:Nat}{v:AV}(hj:cs[j]? =some v):
  ∃V,w.cell? ⟨(μ b).blk,(μ b).off+j,none⟩=some V∧VRel μ mem.length v V:=by
 have hs:=hH.slot b _ hb
 simp only[SRel] at hs
 obtain⟨cur,e,fr,h1,_,_,h2,_⟩:=hs
 obtain⟨V,hV,hr⟩:=h2 j v hj
 exact⟨V,by simp[World.cell?,h1,hV],hr⟩
theorem HRel.cells(hH:HRel base μ mem w) {b:Nat}{own es cs} (hb:mem[b]? =some (.cells own es cs)) {o k:Nat}(hk:o+k≤cs.length):
  ∃Vs,VRels μ mem.length ((cs.drop o).take k) Vs∧Vs.length=k∧∀(j:Nat) u,Vs[j]? =some u→w.cell? ((⟨(μ b).blk,(μ b).off+o,none⟩:Addr).add j)=some u:=by
 induction k with
 |zero=>exact⟨[],by simp[VRels],rfl,by simp⟩
 |succ k ih=>
  obtain⟨Vs,h1,h2,h3⟩:=ih (by omega)
  have hlt:o+k<cs.length:=by omega
  obtain⟨V,hV,hr⟩:=hH.cell hb (j:=o+k) (v:=cs[o+k]) (by simp[hlt])
  refine⟨Vs++[V],?_,by simp[h2],fun j u hu=>?_⟩
  ·rw[List.take_add_one]
   have:(cs.drop o)[k]? =some cs[o+k]:=by simp[List.getElem?_drop,hlt]
   rw[this]
   exact h1.append (bl.2 ⟨hr,by simp[VRels]⟩)
  ·by_cases hj:j<Vs.length
   ·rw[List.getElem?_append_left hj] at hu;exact h3 j u hu
   ·have hjk:j=Vs.length:=by
     have:=(List.getElem?_eq_some_iff.1 hu).1;simp at this;omega
    subst hjk
    simp at hu;subst hu
    rw[Addr.add_lit,h2,Nat.add_assoc]
    exact hV
theorem yG(hT:cf P T) (hH:HRel base μ mem w) {t:TypeId}{x v:AV}{X:Value}(hx:VRel μ mem.length x X) (h:LH T mem t x=some v):
  Val P (Instr.loadAt t X) w μ mem.length v:=by
 unfold LH at h
 split at h
 ·rename_i i b o ht
  split at h
  ·rename_i own es cs hb
   obtain⟨hbn,rfl⟩:=hx.ptr
   unfold gD at h
   cases hi:i.isAgg with
   |true=>
    simp only[hi,if_true] at h
    split at h
    ·rename_i hle
     cases h
     obtain⟨Vs,h1,h2,h3⟩:=hH.cells hb hle
     refine⟨.agg Vs.toArray,?_,by simp only[VRel];exact⟨Vs,rfl,h1⟩⟩
     have hl:=run_loadCells_list (P:=P) w _ Vs h3
     rw[h2] at hl
     simp[Instr.loadAt,Instr.sureAddr,loadVar,sT hT ht,hi,bX hT ht,hl]
    ·cases h
   |false=>
    simp only[hi,Bool.false_eq_true,if_false] at h
    obtain⟨V,hV,hr⟩:=hH.cell hb h
    refine⟨V,?_,hr⟩
    simp[Instr.loadAt,Instr.sureAddr,loadVar,sT hT ht,hi,hV]
  ·cases h
 ·cases h
theorem LG(hT:cf P T) (hH:HRel base μ mem w) {t ty:TypeId}{x v:AV}{X:Value}(hx:VRel μ mem.length x X) (h:QN T t mem x=some v):
  Val P (Builtin.len_ #[t] ty #[X]) w μ mem.length v:=by
 unfold QN at h
 cases ht:T t with
 |none=>rw[ht] at h;cases h
 |some ti=>
  rw[ht] at h
  simp only at h
  have hd:=(hT t ti ht).desc
  split at h
  ·rename_i s hdesc;cases h;rw[hdesc] at hd;rw[hx.str]
   exact .int (by simp[Builtin.len_,run_underlying hd,goInt,pr])
  ·rename_i hdesc;cases h;rw[hdesc] at hd;rw[hx.slice.2]
   exact .int (by simp[Builtin.len_,run_underlying hd,goInt])
  ·rename_i hdesc;cases h;rw[hdesc] at hd
   simp only[VRel] at hx;subst hx
   exact .int (by simp[Builtin.len_,run_underlying hd,goInt])
  ·rename_i m e hdesc;cases h;rw[hdesc] at hd
   exact .int (by simp[Builtin.len_,run_underlying hd,goInt])
  ·rename_i hdesc;cases h;rw[hdesc] at hd
   simp only[VRel] at hx;subst hx
   exact .int (by simp[Builtin.len_,run_underlying hd,goInt])
  ·rename_i b hdesc;rw[hdesc] at hd
   simp only[VRel] at hx
   obtain⟨hbn,rfl⟩:=hx
   split at h
   ·rename_i es hb
    cases h
    have hs:=hH.slot b _ hb
    simp only[SRel] at hs
    obtain⟨ents,clock,h1,_,h2,_⟩:=hs
    refine .int ?_
    have hg:(getObj (μ b).blk).run P w=.ok (.map ents clock) w:=by simp[getObj,Sem.run,h1]
    simp only[Builtin.len_,List.getElem?_toArray,List.getElem?_cons_zero,Sem.run_bind,run_underlying hd,Result.andThen_ok,hg]
    simp[goInt,h2]
   ·cases h
  ·cases h
theorem Gt(hT:cf P T) (hH:HRel base μ mem w) {t:TypeId}{x v:AV}{X:Value}{lo hi:Option AV}{Lo Hi:Option Value}
  (hx:VRel μ mem.length x X) (hlo:(lo=none∧Lo=none)∨∃l L,lo=some l∧Lo=some L∧VRel μ mem.length l L)
  (hhi:(hi=none∧Hi=none)∨∃l L,hi=some l∧Hi=some L∧VRel μ mem.length l L) (h:JK T mem t x lo hi=some v):
  Val P (Instr.sliceAt t X Lo Hi none) w μ mem.length v:=by
 have bounds:∀(isSlice:Bool) (len cap:Nat) (hh ll:Int),Bc len hi=some hh→
   G1 lo=some ll→0≤ll→ll≤hh→hh≤len→len≤cap→
   (Instr.sliceBounds isSlice len cap Lo Hi none).run P w=.ok (ll.toNat,hh.toNat,cap) w:=by
  intro isSlice len cap hh ll e1 e2 h0 h1 h2 h3
  have hH' :hh≤cap:=by omega
  have h1' :ll≤((hh.toNat:Nat):Int):=by omega
  have h1'' :0≤hh:=by omega
  rcases hhi with⟨rfl,rfl⟩ | ⟨a,A,rfl,rfl,hA⟩<;>rcases hlo with⟨rfl,rfl⟩ | ⟨b,B,rfl,rfl,hB⟩
  ·simp only[Bc,G1,Option.some.injEq] at e1 e2;subst e1;subst e2
   simp[Instr.sliceBounds]
  ·cases b<;>simp only[Bc,G1,reduceCtorEq,Option.some.injEq] at e1 e2
   subst e1;subst e2;rw[hB.int]
   simp[Instr.sliceBounds,bP h0 h1]
  ·cases a<;>simp only[Bc,G1,reduceCtorEq,Option.some.injEq] at e1 e2
   subst e1;subst e2;rw[hA.int]
   simp[Instr.sliceBounds,bP h1'' hH']
  ·cases a<;>simp only[Bc,reduceCtorEq,Option.some.injEq] at e1
   cases b<;>simp only[G1,reduceCtorEq,Option.some.injEq] at e2
   subst e1;subst e2;rw[hA.int,hB.int]
   simp[Instr.sliceBounds,bP h1'' hH',bP h0 h1']
 unfold JK at h
 cases ht:T t with
 |none=>rw[ht] at h;cases h
 |some ti=>
  rw[ht] at h
  simp only at h
  have hd:=(hT t ti ht).desc
  split at h
  ·rename_i s hdesc
   rw[hdesc] at hd
   split at h
   ·rename_i hh ll e1 e2
    split at h
    ·rename_i hb
     cases h
     rw[hx.str]
     have hbd:=bounds false s.length s.length hh ll e1 e2 hb.1 hb.2.1 hb.2.2 (Nat.le_refl _)
     refine .str ?_
     have hext:(ByteArray.mk s.toArray).extract ll.toNat hh.toNat=⟨((s.drop ll.toNat).take (hh.toNat-ll.toNat)).toArray⟩:=by
      apply ByteArray.ext
      apply Array.ext'
      simp[List.extract]
     simp[Instr.sliceAt,Instr.slice,run_underlying hd,pr,hbd,hext]
    ·cases h
   ·cases h
  ·rename_i e b o m c hdesc
   rw[hdesc] at hd
   split at h
   ·rename_i j own es cs hj hb
    split at h
    ·rename_i hh ll e1 e2
     split at h
     ·rename_i hc
      obtain⟨g1,g2,g3,g4,g5,g6,g6',g7,rfl⟩:=hc
      cases h
      obtain⟨hbn,rfl⟩:=hx.slice
      have hs:=hH.slot b _ hb
      simp only[SRel] at hs
      obtain⟨cur,el,fr,hs1,hs2,hs3,_,_⟩:=hs
      have hs2:=hs2.es g6'
      subst hs2
      have hcap:m≤iz (μ b) o none:=by
       simp only[iz]
       rw[Nat.le_div_iff_mul_le g6]
       omega
      have hbd:=bounds true m (iz (μ b) o none) hh ll e1 e2 g1 g2 g3 hcap
      refine⟨.slice (some ⟨(μ b).blk,(μ b).off+(o+ll.toNat*(μ b).es),none⟩) (hh.toNat-ll.toNat) (iz (μ b) o none-ll.toNat),?_,?_⟩
      ·simp[Instr.sliceAt,Instr.slice,run_underlying hd,hbd,bX hT hj]
       by_cases hl0:ll=0
       ·subst hl0;simp[Addr.add_lit]
       ·have:¬iz (μ b) o none=ll.toNat:=by omega
        simp[this,Addr.add_lit,g5,Nat.add_assoc]
      ·simp only[VRel]
       refine⟨hbn,?_⟩
       congr 1
       simp only[iz]
       have hle:ll.toNat*(μ b).es≤m*(μ b).es:=Nat.mul_le_mul_right _ (by omega)
       rw[show(μ b).tot-(o+ll.toNat*(μ b).es)=(μ b).tot-o-(μ b).es*ll.toNat by rw[Nat.mul_comm (μ b).es];omega]
       rw[Nat.sub_mul_div]
     ·cases h
    ·cases h
   ·cases h
  ·rename_i e hdesc
   rw[hdesc] at hd
   split at h
   ·rename_i j hj
    split at h
    ·rename_i hh ll e1 e2
     split at h
     ·rename_i hc
      obtain⟨rfl,rfl⟩:=hc
      cases h
      simp only[VRel] at hx;subst hx
      have hbd:=bounds true 0 0 0 0 e1 e2 (by omega) (by omega) (by omega) (by omega)
      refine⟨.slice none 0 0,?_,by simp[VRel]⟩
      simp[Instr.sliceAt,Instr.slice,run_underlying hd,hbd,bX hT hj]
     ·cases h
    ·cases h
   ·cases h
  ·rename_i m e b o hdesc
   rw[hdesc] at hd
   split at h
   ·rename_i j hj
    split at h
    ·rename_i hh ll e1 e2
     split at h
     ·rename_i hc
      obtain⟨g1,g2,g3,g4⟩:=hc
      cases h
      obtain⟨hbn,rfl⟩:=hx.ptr
      have hbd:=bounds false m m hh ll e1 e2 g1 g2 g3 (Nat.le_refl _)
      refine⟨.slice (some ⟨(μ b).blk,(μ b).off+(o+ll.toNat*j.size),none⟩) (hh.toNat-ll.toNat) (m-ll.toNat),?_,?_⟩
      ·have:¬m=ll.toNat:=by omega
       simp[Instr.sliceAt,run_underlying hd,Instr.sureAddr,hbd,bX hT hj,this,Addr.add_lit,Nat.add_assoc]
      ·simp only[VRel];exact⟨hbn,rfl⟩
     ·cases h
    ·cases h
   ·cases h
  ·cases h
end
end Go.Eng
