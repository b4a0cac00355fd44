/- See C54. -/
import Derived.Calls
import Derived.Orders
import Derived.Laws.AppendOwn
import Derived.Laws.Cells
import Derived.Laws.CopyRow
import Derived.Tactics
import Derived.Laws.StructEq
import Derived.Laws.Build
set_option linter.all false
namespace Go.Eng
theorem w0:IntKind.i64.wrap 0=0:=rfl
theorem w1:IntKind.i64.wrap 1=1:=rfl
theorem w2:IntKind.i64.wrap 2=2:=rfl
theorem w3:IntKind.i64.wrap 3=3:=rfl
theorem w4:IntKind.i64.wrap 4=4:=rfl
theorem w5:IntKind.i64.wrap 5=5:=rfl
theorem w6:IntKind.i64.wrap 6=6:=rfl
theorem w7:IntKind.i64.wrap 7=7:=rfl
theorem xE{α:Type}(e:α):∃x,x=e:=⟨_,rfl⟩
variable{b:Nat}
theorem gU{α:Type}{M:List α}{x:α}(h:M[b]? =some x)(Z:List α):(M++Z)[b]? =some x:=by rw[List.getElem?_append_left (List.getElem?_eq_some_iff.1 h).1,h]
theorem lM:(∀{α:Type} {a b:α} {l:List α},(a∈b::l)=(a=b∨a∈l))∧(∀{α:Type} {a:α},(a∈([]:List α))=False)∧∀p:Prop,(p∨False)=p:=⟨fun {_ _ _ _}=>by simp,fun {_ _}=>by simp,fun _=>by simp⟩
theorem lA:(∀{α:Type} (l:List α),[]++l=l)∧(∀{α:Type} (l:List α),l++[]=l)∧∀{α:Type} {a:α} {l k:List α},a::l++k=a::(l++k):=⟨fun _=>rfl,fun _=>List.append_nil _,rfl⟩
theorem lB:(∀{α β:Type} {f:α→β} {a:α} {l:List α},List.map f (a::l)=f a::List.map f l)∧(∀{α β:Type} {f:α→β},List.map f []=[])∧(∀{α:Type} {a b:α} {l k:List α},(a::l=b::k)=(a=b∧l=k))∧∀p:Prop,(p∧True)=p:=⟨rfl,rfl,fun {_ _ _ _ _}=>by simp,fun _=>by simp⟩
theorem gL{α:Type}{l:List α}{i:Nat}{a:α}(h:l[i]? =some a):i<l.length:=(List.getElem?_eq_some_iff.1 h).1
inductive AV where
 |undef
 |bool (b:Bool)
 |int (k:IntKind) (n:Int)
 |str (s:List UInt8)
 |ptr (b off:Nat)
 |af4
 |slice (b off len:Nat) (cap:Option Nat)
 |qF
 |map (b:Nat)
 |age
 |yield (b:Nat)
 |func (f:FuncId) (caps:List AV)
 |nilFunc
 |iface (t:TypeId) (v:AV)
 |nilIface
 |agg (cs:List AV)
 |tuple (cs:List AV)
 deriving Inhabited
structure Place where
 blk:Nat
 off:Nat
 tot:Nat
 es:Nat
 deriving Inhabited
def kH(p:Place)(o:Nat):Option Nat→Nat
 |some c=>c
 |none=>(p.tot-o) / p.es
mutual
def afQ(μ:Nat→Place)(n:Nat):AV→Value→Prop
 |.undef,_=>True
 |.bool b,V=>V=.bool b
 |.int k i,V=>V=.int k i
 |.str s,V=>V=.string ⟨s.toArray⟩
 |.ptr b o,V=>b<n∧V=.pointer (some ⟨(μ b).blk,(μ b).off+o,none⟩)
 |.af4,V=>V=.pointer none
 |.slice b o l c,V=>b<n∧V=.slice (some ⟨(μ b).blk,(μ b).off+o,none⟩) l (kH (μ b) o c)
 |.qF,V=>V=.slice none 0 0
 |.map b,V=>b<n∧V=.map (some (μ b).blk)
 |.yield b,V=>b<n∧V=.func (.yield (μ b).blk) #[] #[]
 |.age,V=>V=.map none
 |.func f X,V=>∃Z,V=.func (.func f) #[] ⟨Z⟩∧afS μ n X Z
 |.nilFunc,V=>V=.nilFunc
 |.iface t v,V=>∃U,V=.iface t U∧afQ μ n v U
 |.nilIface,V=>V=.nilIface
 |.agg X,V=>∃Z,V=.agg ⟨Z⟩∧afS μ n X Z
 |.tuple X,V=>∃Z,V=.tuple ⟨Z⟩∧afS μ n X Z
def afS(μ:Nat→Place)(n:Nat):List AV→List Value→Prop
 | [],Us=>Us=[]
 |v::vs,Us=>∃U Z,Us=U::Z∧afQ μ n v U∧afS μ n vs Z
end
theorem bO{μ n v vs U Us}:afS μ n (v::vs) (U::Us)↔afQ μ n v U∧afS μ n vs Us:=by
 simp only[afS];constructor
 ·rintro ⟨V,S,h,Z,X⟩;cases h;exact⟨Z,X⟩
 ·rintro ⟨Z,X⟩;exact⟨U,Us,rfl,Z,X⟩
theorem afS.length{μ n}:∀{vs Us},afS μ n vs Us→Us.length=vs.length
 | [],_,h=>by simp[afS] at h;simp[h]
 |v::vs,_,h=>by simp only[afS] at h;obtain⟨U,X,rfl,_,Z⟩:=h;simp[afS.length Z]
theorem afS.get{μ n}:∀{vs Us},afS μ n vs Us→∀(i:Nat) v,vs[i]? =some v→∃U,Us[i]? =some U∧afQ μ n v U
 | [],_,_,i,v,h=>by simp at h
 |w::vs,_,h,i,v,hi=>by
  simp only[afS] at h;obtain⟨U,V,rfl,Z,X⟩:=h;cases i with
  |zero=>simp at hi;subst hi;exact⟨U,by simp,Z⟩
  |succ i=>simpa using afS.get X i v (by simpa using hi)
theorem afS.agT{μ n}:∀{vs Us},Us.length=vs.length→(∀(i:Nat) v,vs[i]? =some v→∃U,Us[i]? =some U∧afQ μ n v U)→afS μ n vs Us
 | [],Us,hl,_=>by simp[afS];exact List.eq_nil_of_length_eq_zero hl
 |v::vs,[],hl,_=>by simp at hl
 |v::vs,U::Us,hl,h=>by
  refine bO.2 ⟨?_,afS.agT (by simpa using hl) fun i u X=>?_⟩
  ·obtain⟨S,Z,V⟩:=h 0 v (by simp)
   simp at Z;subst Z;exact V
  ·simpa using h (i+1) u (by simpa using X)
theorem afS.append{μ n}:∀{vs Z ws Ws},afS μ n vs Z→afS μ n ws Ws→afS μ n (vs++ws) (Z++Ws)
 | [],_,ws,Ws,h,h' =>by simp[afS] at h;subst h;simpa using h'
 |v::vs,_,ws,Ws,h,h' =>by simp only[afS] at h;obtain⟨U,Z,rfl,X,V⟩:=h;exact bO.2 ⟨X,afS.append V h'⟩
theorem afS.take{μ n vs Us}(h:afS μ n vs Us)(k:Nat):afS μ n (vs.take k) (Us.take k):=by
 refine afS.agT (by simp[h.length]) fun i v Z=>?_
 rw[List.getElem?_take] at Z;split at Z
 ·obtain⟨U,V,X⟩:=h.get i v Z
  exact⟨U,by rw[List.getElem?_take];simp[*],X⟩
 ·cases Z
theorem afS.drop{μ n vs Us}(h:afS μ n vs Us)(k:Nat):afS μ n (vs.drop k) (Us.drop k):=by
 refine afS.agT (by simp[h.length]) fun i v Z=>?_
 rw[List.getElem?_drop] at Z;obtain⟨U,X,V⟩:=h.get _ v Z;exact⟨U,by rw[List.getElem?_drop];exact X,V⟩
mutual
theorem afQ.mono{μ μ' :Nat→Place}{n n' :Nat}(y:n≤n')(hμ:∀b,b<n→μ' b=μ b):∀{v V},afQ μ n v V→afQ μ' n' v V
 |.undef,V,_=>by simp[afQ]
 |.bool b,V,h=>by simpa [afQ] using h
 |.int k i,V,h=>by simpa [afQ] using h
 |.str s,V,h=>by simpa [afQ] using h
 |.ptr b o,V,h=>by simp only[afQ] at h ⊢;exact⟨by omega,by rw[hμ b h.1];exact h.2⟩
 |.af4,V,h=>by simpa [afQ] using h
 |.slice b o l c,V,h=>by simp only[afQ] at h ⊢;exact⟨by omega,by rw[hμ b h.1];exact h.2⟩
 |.qF,V,h=>by simpa [afQ] using h
 |.map b,V,h=>by simp only[afQ] at h ⊢;exact⟨by omega,by rw[hμ b h.1];exact h.2⟩
 |.yield b,V,h=>by simp only[afQ] at h ⊢;exact⟨by omega,by rw[hμ b h.1];exact h.2⟩
 |.age,V,h=>by simpa [afQ] using h
 |.func f X,V,h=>by simp only[afQ] at h ⊢;obtain⟨Z,rfl,h⟩:=h;exact⟨Z,rfl,afS.mono y hμ h⟩
 |.nilFunc,V,h=>by simpa [afQ] using h
 |.iface t v,V,h=>by simp only[afQ] at h ⊢;obtain⟨U,rfl,h⟩:=h;exact⟨U,rfl,afQ.mono y hμ h⟩
 |.nilIface,V,h=>by simpa [afQ] using h
 |.agg X,V,h=>by simp only[afQ] at h ⊢;obtain⟨Z,rfl,h⟩:=h;exact⟨Z,rfl,afS.mono y hμ h⟩
 |.tuple X,V,h=>by simp only[afQ] at h ⊢;obtain⟨Z,rfl,h⟩:=h;exact⟨Z,rfl,afS.mono y hμ h⟩
theorem afS.mono{μ μ' :Nat→Place}{n n' :Nat}(y:n≤n')(hμ:∀b,b<n→μ' b=μ b):∀{vs Us},afS μ n vs Us→afS μ' n' vs Us
 | [],Us,h=>by simpa [afS] using h
 |v::vs,Us,h=>by simp only[afS] at h ⊢;obtain⟨U,Z,rfl,X,V⟩:=h;exact⟨U,Z,rfl,afQ.mono y hμ X,afS.mono y hμ V⟩
end
mutual
def AV.ren(ρ:Nat→Option Nat):AV→AV
 |.ptr b o=>match ρ b with | some b' =>.ptr b' o | none=>.undef
 |.slice b o l c=>match ρ b with | some b' =>.slice b' o l c | none=>.undef
 |.map b=>match ρ b with | some b' =>.map b' | none=>.undef
 |.yield b=>match ρ b with | some b' =>.yield b' | none=>.undef
 |.func f Z=>.func f (AV.af9 ρ Z)
 |.iface t v=>.iface t (AV.ren ρ v)
 |.agg Z=>.agg (AV.af9 ρ Z)
 |.tuple Z=>.tuple (AV.af9 ρ Z)
 |v=>v
def AV.af9(ρ:Nat→Option Nat):List AV→List AV
 | []=>[]
 |v::vs=>AV.ren ρ v::AV.af9 ρ vs
end
mutual
theorem afQ.ren{μ μ' :Nat→Place}{n n' :Nat}{ρ:Nat→Option Nat}(hρ:∀b Z,b<n→ρ b=some Z →Z <n' ∧μ' Z =μ b):
  ∀{v V},afQ μ n v V→afQ μ' n' (v.ren ρ) V
 |.undef,V,_=>by simp[AV.ren,afQ]
 |.bool b,V,h=>by simpa [AV.ren,afQ] using h
 |.int k i,V,h=>by simpa [AV.ren,afQ] using h
 |.str s,V,h=>by simpa [AV.ren,afQ] using h
 |.ptr b o,V,h=>by
  simp only[afQ] at h;simp only[AV.ren];cases hb:ρ b with
  |none=>simp[afQ]
  |some Z =>obtain⟨X,S⟩:=hρ b Z h.1 hb;simp only[afQ];exact⟨X,by rw[S];exact h.2⟩
 |.af4,V,h=>by simpa [AV.ren,afQ] using h
 |.slice b o l c,V,h=>by
  simp only[afQ] at h;simp only[AV.ren];cases hb:ρ b with
  |none=>simp[afQ]
  |some Z =>obtain⟨X,S⟩:=hρ b Z h.1 hb;simp only[afQ];exact⟨X,by rw[S];exact h.2⟩
 |.qF,V,h=>by simpa [AV.ren,afQ] using h
 |.map b,V,h=>by
  simp only[afQ] at h;simp only[AV.ren];cases hb:ρ b with
  |none=>simp[afQ]
  |some Z =>obtain⟨X,S⟩:=hρ b Z h.1 hb;simp only[afQ];exact⟨X,by rw[S];exact h.2⟩
 |.yield b,V,h=>by
  simp only[afQ] at h;simp only[AV.ren];cases hb:ρ b with
  |none=>simp[afQ]
  |some Z =>obtain⟨X,S⟩:=hρ b Z h.1 hb;simp only[afQ];exact⟨X,by rw[S];exact h.2⟩
 |.age,V,h=>by simpa [AV.ren,afQ] using h
 |.func f Q,V,h=>by simp only[afQ] at h;simp only[AV.ren,afQ];obtain⟨R,rfl,h⟩:=h;exact⟨R,rfl,afS.ren hρ h⟩
 |.nilFunc,V,h=>by simpa [AV.ren,afQ] using h
 |.iface t v,V,h=>by simp only[afQ] at h;simp only[AV.ren,afQ];obtain⟨U,rfl,h⟩:=h;exact⟨U,rfl,afQ.ren hρ h⟩
 |.nilIface,V,h=>by simpa [AV.ren,afQ] using h
 |.agg Q,V,h=>by simp only[afQ] at h;simp only[AV.ren,afQ];obtain⟨R,rfl,h⟩:=h;exact⟨R,rfl,afS.ren hρ h⟩
 |.tuple Q,V,h=>by simp only[afQ] at h;simp only[AV.ren,afQ];obtain⟨R,rfl,h⟩:=h;exact⟨R,rfl,afS.ren hρ h⟩
theorem afS.ren{μ μ' :Nat→Place}{n n' :Nat}{ρ:Nat→Option Nat}(hρ:∀b Z,b<n→ρ b=some Z →Z <n' ∧μ' Z =μ b):
  ∀{vs Us},afS μ n vs Us→afS μ' n' (AV.af9 ρ vs) Us
 | [],Us,h=>by simpa [AV.af9,afS] using h
 |v::vs,Us,h=>by simp only[afS] at h;simp only[AV.af9,afS];obtain⟨U,X,rfl,V,S⟩:=h;exact⟨U,X,rfl,afQ.ren hρ V,afS.ren hρ S⟩
end
theorem jf(ρ:Nat→Option Nat):∀Z,AV.af9 ρ Z=Z.map (AV.ren ρ)
 | []=>rfl
 |v::Z=>by simp[AV.af9,jf ρ Z]
def AV.afR:AV→Bool
 |.agg _ | .tuple _ | .undef=>false
 |_=>true
def AV.known:AV→Bool
 |.undef=>false
 |_=>true
def AV.cells:AV→List AV
 |.agg cs=>cs
 |v=>[v]
theorem afQ.ahc{μ n v V}(h:afQ μ n v V)(y:v.afR=true):V.oneCell' =true:=by
 cases v<;>simp[AV.afR] at y<;>simp only[afQ] at h;case bool=>subst h;rfl
 case int=>subst h;rfl
 case str=>subst h;rfl
 case ptr=>rw[h.2];rfl
 case af4=>subst h;rfl
 case slice=>rw[h.2];rfl
 case qF=>subst h;rfl
 case map=>rw[h.2];rfl
 case yield=>rw[h.2];rfl
 case age=>subst h;rfl
 case func=>obtain⟨_,rfl,_⟩:=h;rfl
 case nilFunc=>subst h;rfl
 case iface=>obtain⟨_,rfl,_⟩:=h;rfl
 case nilIface=>subst h;rfl
theorem afQ.cells{μ n v V}(h:afQ μ n v V)(y:v.known=true):afS μ n v.cells V.cells.toList:=by
 cases v<;>simp[AV.known] at y;case agg cs=>
  simp only[afQ] at h;obtain⟨X,rfl,h⟩:=h;simpa [AV.cells,Value.cells] using h
 all_goals
  have Z:=h;simp only[afQ] at h;simp only[AV.cells];first
   |(subst h;simpa [afS,Value.cells] using Z)
   |(obtain⟨_,rfl⟩:=h;simpa [afS,Value.cells] using Z)
   |(obtain⟨_,rfl,_⟩:=h;simpa [afS,Value.cells] using Z)
abbrev Env:=List (Nat×AV)
def ad:Env→Nat→AV
 | [],_=>.undef
 |(k,v)::r,t=>if k=t then v else ad r t
def agn(μ:Nat→Place)(n:Nat)(env:Env)(tmps:Array Value):Prop:=∀t,afQ μ n (ad env t) (tmps.getD t undef)
theorem agn.mono{μ μ' :Nat→Place}{n n' :Nat}{env tmps}(y:n≤n')(hμ:∀b,b<n→μ' b=μ b)(h:agn μ n env tmps):agn μ' n' env tmps:=
 fun t=>(h t).mono y hμ
structure agY where
 st:LoopState
 agX:Option Code
 env:Env
 N:Nat
 ps:Array Tmp
 assign:Code
 body:Code
inductive afU where
 |qK
 |cells (own:Bool) (es:Nat) (cs:List AV)
 |map (es:List (AV×AV))
 |agq (es:List (AV×AV))
 |loop (r:agY)
 deriving Inhabited
abbrev Mem:=List afU
def afU.own:afU→Bool
 |.cells own _ _=>own
 |.map _=>true
 |.agq _=>false
 |.loop _=>true
 |.qK=>false
variable{s:afU}
theorem afU.agr(h:s.own=true):s≠ .qK:=by cases s<;>simp_all[afU.own]
def ef(mem:Mem)(b:Nat):Prop:=∃s,mem[b]? =some s∧s.own=true
variable{cs:List AV}{mem:Mem}
theorem kc{es:Nat}(h:mem[b]? =some (.cells true es cs)):ef mem b:=⟨_,h,rfl⟩
theorem Mz{mem:Mem}{b:Nat}{es}(h:mem[b]? =some (.map es)):ef mem b:=⟨_,h,rfl⟩
theorem SC{mem:Mem}{b:Nat}{r}(h:mem[b]? =some (.loop r)):ef mem b:=⟨_,h,rfl⟩
structure ahd (μ:Nat→Place)(n:Nat)(r:agY)(L:Loop):Prop where
 st:L.state=r.st
 agX:L.pending=r.agX
 ps:L.params=r.ps
 assign:L.assign=r.assign
 body:L.body=r.body
 size:L.tmps.size=r.N
 tmps:agn μ n r.env L.tmps
def QI(μ:Nat→Place)(n:Nat)(e:AV×AV)(E:MapEntry):Prop:=afQ μ n e.1 E.key∧afQ μ n e.2 E.val
def ahQ(p:Place)(es:Nat)(e:TypeId):Prop:=p.es=es%1000∧(1000≤es→e+1=es / 1000)
variable{p:Place}
theorem ahQ.small{es:Nat}{e:TypeId}(h:p.es=es)(hs:es<1000):ahQ p es e:=⟨by rw[h,Nat.mod_eq_of_lt hs],fun Z=>by omega⟩
theorem ahQ.es{es:Nat}{e:TypeId}(h:ahQ p es e)(hs:es<1000):p.es=es:=by rw[h.1,Nat.mod_eq_of_lt hs]
def E9(y:Array MapEntry)(H:Nat):Prop:=H=y.size∧∀(j:Nat) E,y[j]? =some E→E.born=j
def af5(μ:Nat→Place)(n y:Nat)(w:World)(p:Place):afU→Prop
 |.qK=>True
 |.cells own es cs=>∃X e S,w.heap[p.blk]? =some (.cells X e S)∧ahQ p es e∧cs.length≤p.tot∧
   (∀(j:Nat) v,cs[j]? =some v→∃V,X[p.off+j]? =some V∧afQ μ n v V)∧
   (own=true→p.off=0∧S=(0,0)∧X.size=p.tot∧y≤p.blk)
 |.map es=>∃Z U,w.heap[p.blk]? =some (.map Z U)∧(y≤p.blk∧E9 Z U)∧Z.size=es.length∧
   ∀(j:Nat) e,es[j]? =some e→∃E,Z[j]? =some E∧QI μ n e E
 |.agq es=>∃Z U,w.heap[p.blk]? =some (.map Z U)∧E9 Z U∧Z.size=es.length∧
   ∀(j:Nat) e,es[j]? =some e→∃E,Z[j]? =some E∧QI μ n e E
 |.loop r=>∃L,w.heap[p.blk]? =some (.loop L)∧y≤p.blk∧ahd μ n r L
structure af3 (base:Nat) (μ:Nat→Place)(mem:Mem)(w:World):Prop where
 afY:base≤w.heap.size
 slot:∀b s,mem[b]? =some s→af5 μ mem.length base w (μ b) s
 sep:∀b b' s',ef mem b→mem[b']? =some s' →s' ≠ .qK→b≠b' →(μ b).blk≠(μ b').blk
structure Step (m0:Nat) (μ:Nat→Place)(mem:Mem)(w:World) (μ' :Nat→Place) (mem' :Mem) (w' :World):Prop where
 len:m0≤mem'.length
 agree:∀b,b<m0→μ' b=μ b
 os:w'.os=w.os
 tape:w'.tape=w.tape
 output:w'.output=w.output
 size:w.heap.size≤w'.heap.size
 frame:∀k,k<w.heap.size→(∀b,ef mem b→(μ b).blk≠k)→w'.heap[k]? =w.heap[k]?
 owner:∀b,ef mem' b→(μ' b).blk<w.heap.size→∃b0,ef mem b0∧(μ b0).blk=(μ' b).blk
 drawn:w.drawn≤w'.drawn
theorem Step.refl{m0 μ mem w}(h:m0≤mem.length):Step m0 μ mem w μ mem w:=
 ⟨h,fun _ _=>rfl,rfl,rfl,rfl,Nat.le_refl _,fun _ _ _=>rfl,fun b Z _=>⟨b,Z,rfl⟩,Nat.le_refl _⟩
theorem Step.trans{m0 μ mem w μ' mem' w' μ'' mem'' w''}(h:Step m0 μ mem w μ' mem' w')(h' :Step m0 μ' mem' w' μ'' mem'' w''):
  Step m0 μ mem w μ'' mem'' w'' :=by
 refine⟨h'.len,fun b Z=>(h'.agree b Z).trans (h.agree b Z),h'.os.trans h.os,h'.tape.trans h.tape,h'.output.trans h.output,
  Nat.le_trans h.size h'.size,fun k X S=>?_,fun b Z R=>?_,Nat.le_trans h.drawn h'.drawn⟩
 ·rw[h'.frame k (Nat.lt_of_lt_of_le X h.size) ?_,h.frame k X S]
  intro b Z Q;obtain⟨V,N,U⟩:=h.owner b Z (Q▸X);exact S V N (U.trans Q)
 ·obtain⟨M,U,O⟩:=h'.owner b Z (Nat.lt_of_lt_of_le R h.size)
  obtain⟨V,h3,L⟩:=h.owner M U (O▸R);exact⟨V,h3,L.trans O⟩
theorem Step.mono{m0 m1 μ mem w μ' mem' w'}(h:Step m1 μ mem w μ' mem' w')(y:m0≤m1):Step m0 μ mem w μ' mem' w' :=
 ⟨Nat.le_trans y h.len,fun b Z=>h.agree b (Nat.lt_of_lt_of_le Z y),h.os,h.tape,h.output,h.size,h.frame,h.owner,h.drawn⟩
theorem af3.agU{base μ mem w w'}(h:af3 base μ mem w)(y:w'.heap=w.heap):af3 base μ mem w' :=by
 refine⟨by rw[y];exact h.afY,fun b s Z=>?_,h.sep⟩;have:=h.slot b s Z;cases s with
 |qK=>trivial
 |cells own esz cs=>simp only[af5] at this ⊢;rw[y];exact this
 |map es=>simp only[af5] at this ⊢;rw[y];exact this
 |agq es=>simp only[af5] at this ⊢;rw[y];exact this
 |loop r=>simp only[af5] at this ⊢;rw[y];exact this
theorem Step.drew{m0 μ mem w}(h:m0≤mem.length):Step m0 μ mem w μ mem w.drew:=
 ⟨h,fun _ _=>rfl,rfl,rfl,rfl,Nat.le_refl _,fun _ _ _=>rfl,fun b Z _=>⟨b,Z,rfl⟩,Nat.le_succ _⟩
variable{w:World}
theorem af5.mono{μ μ' :Nat→Place}{n n' base:Nat}{w' :World}(y:n≤n')(hμ:∀b,b<n→μ' b=μ b)(H:s≠ .qK→w'.heap[p.blk]? =w.heap[p.blk]?)(h:af5 μ n base w p s):af5 μ' n' base w' p s:=by
 cases s with
 |qK=>trivial
 |cells own esz cs=>
  simp only[af5] at h ⊢;obtain⟨R,e,D,Z,Q,O,X,h3⟩:=h;refine⟨R,e,D,by rw[H (by simp),Z],Q,O,fun j v C=>?_,h3⟩;obtain⟨V,hV,B⟩:=X j v C;exact⟨V,hV,B.mono y hμ⟩
 |map es=>
  simp only[af5] at h ⊢;obtain⟨N,M,Z,X,h3,K⟩:=h;refine⟨N,M,by rw[H (by simp),Z],X,h3,fun j e G=>?_⟩;obtain⟨E,F,U,S⟩:=K j e G;exact⟨E,F,U.mono y hμ,S.mono y hμ⟩
 |agq es=>
  simp only[af5] at h ⊢;obtain⟨N,M,Z,X,h3,K⟩:=h;refine⟨N,M,by rw[H (by simp),Z],X,h3,fun j e G=>?_⟩;obtain⟨E,F,U,S⟩:=K j e G;exact⟨E,F,U.mono y hμ,S.mono y hμ⟩
 |loop r=>
  simp only[af5] at h ⊢;obtain⟨L,Z,X,h3⟩:=h;exact⟨L,by rw[H (by simp),Z],X,{ h3 with tmps:=h3.tmps.mono y hμ }⟩
theorem af5.agA{μ n base w p s}(h:af5 μ n base w p s)(hs:s≠ .qK):p.blk<w.heap.size:=by
 cases s with
 |qK=>exact absurd rfl hs
 |cells own esz cs=>simp only[af5] at h;obtain⟨X,e,S,Z,_⟩:=h;exact(Array.getElem?_eq_some_iff.1 Z).1
 |map es=>simp only[af5] at h;obtain⟨V,U,Z,_⟩:=h;exact(Array.getElem?_eq_some_iff.1 Z).1
 |agq es=>simp only[af5] at h;obtain⟨V,U,Z,_⟩:=h;exact(Array.getElem?_eq_some_iff.1 Z).1
 |loop r=>simp only[af5] at h;obtain⟨L,Z,_⟩:=h;exact(Array.getElem?_eq_some_iff.1 Z).1
def upd(μ:Nat→Place)(b:Nat)(p:Place):Nat→Place:=fun x=>if x=b then p else μ x
theorem eI{μ b p}:upd μ b p b=p:=by simp[upd]
theorem xR{μ b p x}(h:x<b):upd μ b p x=μ x:=by simp[upd];intro Z;omega
theorem mj(y:b<mem.length):ef (mem++[s]) b↔ef mem b:=by simp[ef,List.getElem?_append_left y]
theorem ir(w:World)(o:Obj){k:Nat}(h:k<w.heap.size):(w.alloc o).heap[k]? =w.heap[k]? :=heap_alloc_old w o k h
theorem af3.push{base μ mem w}(h:af3 base μ mem w)(o:Obj)(s:afU)(p:Place)(y:p.blk=w.heap.size)(hs:af5 (upd μ mem.length p) (mem.length+1) base (w.alloc o) p s):
  af3 base (upd μ mem.length p) (mem++[s]) (w.alloc o)∧
  Step mem.length μ mem w (upd μ mem.length p) (mem++[s]) (w.alloc o):=by
 have hμ:∀b,b<mem.length→upd μ mem.length p b=μ b:=fun b X=>xR X
 constructor
 ·refine⟨by simp;have:=h.afY;omega,fun b t R=>?_,fun b V D X O N G=>?_⟩
  ·rw[List.length_append,List.length_singleton]
   by_cases M:b<mem.length
   ·rw[List.getElem?_append_left M] at R
    rw[hμ b M];refine(h.slot b t R).mono (Nat.le_succ _) hμ fun N=>?_
    exact ir w o ((h.slot b t R).agA N)
   ·have Z:b=mem.length:=by have:=gL R;simp at this;omega
    subst Z;simp at R;subst R;rw[eI];exact hs
  ·by_cases U:b<mem.length<;>by_cases L:V <mem.length
   ·rw[hμ b U,hμ V L]
    exact h.sep b V D ((mj U).1 X) (by rwa [List.getElem?_append_left L] at O) N G
   ·have Z:V =mem.length:=by have:=gL O;simp at this;omega
    subst Z;rw[eI,hμ b U,y];have:(μ b).blk<w.heap.size:=by obtain⟨F,S,K⟩:=(mj U).1 X;exact(h.slot b _ S).agA (afU.agr K)
    omega
   ·have Z:b=mem.length:=by obtain⟨F,S,K⟩:=X;have:=gL S;simp at this;omega
    subst Z;rw[eI,hμ V L,y];have:=(h.slot V D (by rwa [List.getElem?_append_left L] at O)).agA N;omega
   ·have Z:V =mem.length:=by have:=gL O;simp at this;omega
    have Q:b=mem.length:=by obtain⟨F,S,K⟩:=X;have:=gL S;simp at this;omega
    omega
 ·refine⟨by simp,hμ,rfl,rfl,rfl,by simp,fun k C _=>ir w o C,fun b X M=>?_,Nat.le_refl _⟩
  by_cases U:b<mem.length
  ·exact⟨b,(mj U).1 X,by rw[hμ b U]⟩
  ·have Q:b=mem.length:=by obtain⟨F,S,K⟩:=X;have:=gL S;simp at this;omega
   subst Q;rw[eI,y] at M;omega
theorem af3.write{base μ mem w}(h:af3 base μ mem w){b:Nat}{s s' :afU}(I:mem[b]? =some s)(y:ef mem b)(ach :s' ≠ .qK→ef (mem.set b s') b){w' :World}(J:w'.drawn=w.drawn)(W:w'.os=w.os)(Y:w'.tape=w.tape)(acD:w'.output=w.output)(hsz:w'.heap.size=w.heap.size)(H:∀k,k≠(μ b).blk→w'.heap[k]? =w.heap[k]?)(hs:af5 μ mem.length base w' (μ b) s'):
  af3 base μ (mem.set b s') w' ∧Step mem.length μ mem w μ (mem.set b s') w' :=by
 have K:b<mem.length:=gL I;have own:∀x,ef (mem.set b s') x→ef mem x:=by
  intro x X;by_cases Z:x=b
  ·subst Z;exact y
  ·obtain⟨M,S,R⟩:=X
   rw[List.getElem?_set_ne (Ne.symm Z)] at S;exact⟨M,S,R⟩
 constructor
 ·refine⟨by rw[hsz];exact h.afY,fun x t V=>?_,fun x Q t X L O U=>?_⟩
  ·rw[List.length_set]
   by_cases Z:x=b
   ·subst Z
    rw[List.getElem?_set_self K] at V;cases V;exact hs
   ·rw[List.getElem?_set_ne (Ne.symm Z)] at V
    refine(h.slot x t V).mono (Nat.le_refl _) (fun _ _=>rfl) fun O=>H _ ?_
    exact fun N=>h.sep b x t y V O (Ne.symm Z) N.symm
  ·by_cases Z:Q =b
   ·subst Z
    have:=h.sep x Q s (own x X) I ?_ U
    ·exact this
    ·obtain⟨M,S,R⟩:=y
     rw[S] at I;cases I;exact afU.agr R
   ·rw[List.getElem?_set_ne (Ne.symm Z)] at L
    exact h.sep x Q t (own x X) L O U
 ·refine⟨by simp,fun _ _=>rfl,W,Y,acD,by omega,fun k F G=>H k ?_,fun x X _=>⟨x,own x X,rfl⟩,Nat.le_of_eq J.symm⟩
  exact fun N=>G b y N.symm
structure TyI where
 desc:TypeDesc
 size:Nat
 bytes:Nat
 zero:Value
 ahx:Bool
 deriving Inhabited
structure ais (P:Program)(t:TypeId)(i:TyI):Prop where
 desc:P.underlying t=some i.desc
 info:∃f,P.info? t=some f∧f.size=i.size∧f.bytes=i.bytes∧f.zero=some i.zero
 ahe:i.zero.cells.size=i.size
 ahx:i.ahx=true→P.stoodInHeld t=false∧P.eqGuardType P.depth t=false
def TyI.isAgg(i:TyI):Bool:=match i.desc with | .struct _ | .array _ _=>true | _=>false
def cX(P:Program)(T:TypeId→Option TyI):Prop:=∀t i,T t=some i→ais P t i
def ky:Value→AV
 |.bool b=>.bool b
 |.int k n=>.int k n
 |.string s=>.str s.data.toList
 |.pointer none=>.af4
 |.slice none 0 0=>.qF
 |.map none=>.age
 |.nilFunc=>.nilFunc
 |.nilIface=>.nilIface
 |_=>.undef
def jI:Value→AV
 |.agg cs=>.agg (cs.toList.map ky)
 |v=>ky v
theorem qf(μ:Nat→Place)(n:Nat)(v:Value):afQ μ n (ky v) v:=by unfold ky;split<;>simp[afQ]
theorem nU(μ:Nat→Place)(n:Nat):∀Z:List Value,afS μ n (Z.map ky) Z
 | []=>by simp[afS]
 |v::Z=>bO.2 ⟨qf μ n v,nU μ n Z⟩
theorem yD(μ:Nat→Place)(n:Nat)(v:Value):afQ μ n (jI v) v:=by
 unfold jI;split
 next cs=>simp only[afQ];exact⟨cs.toList,by simp,nU μ n _⟩
 ·exact qf μ n _
def get(env:Env):Operand→AV
 |.tmp t=>ad env t
 |.const v=>jI v
 |.global _=>.undef
 |.func f=>.func f []
def YE(env:Env)(y:Array Operand):List AV:=y.toList.map (get env)
theorem bp{μ n env}{a:Act}(h:agn μ n env a.tmps)(x:Operand):afQ μ n (get env x) (a.eval x):=by
 cases x with
 |tmp t=>exact h t
 |const v=>exact yD μ n v
 |global g=>simp[get,afQ]
 |func f=>simp only[get,afQ,Act.eval];exact⟨[],rfl,by simp[afS]⟩
theorem Bl{μ n env}{a:Act}(h:agn μ n env a.tmps)(y:List Operand):afS μ n (y.map (get env)) (y.map a.eval):=by
 induction y with
 |nil=>simp[afS]
 |cons x y ih=>exact bO.2 ⟨bp h x,ih⟩
theorem agn.put{μ n env}{a:Act}{d:Nat}{v:AV}{V:Value}(h:agn μ n env a.tmps)(hd:d<a.tmps.size)(y:afQ μ n v V):
  agn μ n ((d,v)::env) (a.put (some d) V).tmps:=by
 intro t;simp only[ad,Act.put];by_cases Z:d=t
 ·subst Z
  simp only[if_true,Array.getD_eq_getD_getElem?,Array.getElem?_setIfInBounds_self];simpa [hd] using y
 ·simp only[Z,if_false,Array.getD_eq_getD_getElem?,Array.getElem?_setIfInBounds_ne Z]
  simpa [Array.getD_eq_getD_getElem?] using h t
def fm:Nat:=9223372036854775807
def Zm(y:BinOp)(k:IntKind)(a b:Int):Option AV:=
 match y with
 |.add=>some (.int k (k.wrap (a+b)))
 |.sub=>some (.int k (k.wrap (a-b)))
 |.mul=>some (.int k (k.wrap (a*b)))
 |.quo=>if b=0 then none else some (.int k (k.wrap (a.tdiv b)))
 |.rem=>if b=0 then none else some (.int k (a.tmod b))
 |.eql=>some (.bool (decide (a=b)))
 |.neq=>some (.bool (!decide (a=b)))
 |.lss=>some (.bool (decide (a<b)))
 |.leq=>some (.bool (decide (a≤b)))
 |.gtr=>some (.bool (decide (b<a)))
 |.geq=>some (.bool (decide (b≤a)))
 |_=>none
def Zn(y:BinOp)(s t:List UInt8):Option AV:=
 match y with
 |.add=>if s.length+t.length≤fm then some (.str (s++t)) else none
 |.eql=>some (.bool (s==t))
 |.neq=>some (.bool (!(s==t)))
 |.lss=>some (.bool (Op.bytesLess s t))
 |.leq=>some (.bool (Op.bytesLess s t||s==t))
 |.gtr=>some (.bool (!(Op.bytesLess s t||s==t)))
 |.geq=>some (.bool (!Op.bytesLess s t))
 |_=>none
def jR(i:TyI)(cs:List AV)(y:Nat):Option AV:=
 if i.isAgg then (if y+i.size≤cs.length then some (.agg ((cs.drop y).take i.size)) else none) else cs[y]?
def Ta(T:TypeId→Option TyI)(q:TypeId→AV→AV→Option Bool)(y H:List AV):List Field→Option Bool
 | []=>some true
 |f::fs=>
  if f.name = "_" then none else
  match T f.type with
  |none=>none
  |some i=>
   match jR i y f.offset,jR i H f.offset with
   |some a,some b=>
    match q f.type a b,Ta T q y H fs with
    |some p,some r=>some (p&&r)
    |_,_=>none
   |_,_=>none
def Xk(q:AV→AV→Option Bool)(i:TyI)(y H:List AV):List Nat→Option Bool
 | []=>some true
 |j::js=>
  match jR i y (j*i.size),jR i H (j*i.size) with
  |some a,some b=>
   match q a b,Xk q i y H js with
   |some p,some r=>some (p&&r)
   |_,_=>none
  |_,_=>none
def kU(T:TypeId→Option TyI):Nat→TypeId→AV→AV→Option Bool
 |0,_,_,_=>none
 |d+1,t,x,y=>
  match T t with
  |none=>none
  |some i=>
   match i.desc,x,y with
   |.bool,.bool a,.bool b=>some (a==b)
   |.int _,.int k a,.int k' b=>if k=k' then some (decide (a=b)) else none
   |.string,.str a,.str b=>some (a==b)
   |.struct fs,.agg xs,.agg ys=>if i.ahx then Ta T (kU T d) xs ys fs.toList else none
   |.array n e,.agg xs,.agg ys=>if i.ahx then (match T e with
    |some j=>Xk (kU T d e) j xs ys (List.range' 0 n)
    |none=>none) else none
   |_,_,_=>none
def sL:Operand→Bool
 |.const _=>true
 |_=>false
def XF(T:TypeId→Option TyI)(t:TypeId)(r c:Bool)(x y:AV):Option Bool:=
 match T t with
 |none=>none
 |some i=>
  match i.desc,x,y with
  |.slice _,.slice _ _ _ _,.qF=>some false
  |.slice _,.qF,.qF=>some true
  |.pointer _,.af4,.af4=>some true
  |.pointer _,.ptr _ _,.af4=>some false
  |.func _ _ _,.nilFunc,.nilFunc=>some true
  |.func _ _ _,.func _ _,.nilFunc=>some false
  |.interface _,.nilIface,.nilIface=>if r||c then some true else none
  |.interface _,.iface _ _,.nilIface=>some false
  |_,_,_=>none
def Zk(T:TypeId→Option TyI)(H:BinOp)(t:TypeId)(r c:Bool)(x y:AV):Option AV:=
 match x,y with
 |.int k a,.int k' b=>if k=k' then Zm H k a b else none
 |.str s,.str t=>Zn H s t
 |.bool a,.bool b=>match T t with
  |some i=>match i.desc,H with
   |.bool,.eql=>some (.bool (a==b))
   |.bool,.neq=>some (.bool (!(a==b)))
   |_,_=>none
  |none=>none
 |.agg xs,.agg ys=>match H with
  |.eql=>(kU T 20 t (.agg xs) (.agg ys)).map .bool
  |.neq=>(kU T 20 t (.agg xs) (.agg ys)).map fun b=>.bool (!b)
  |_=>none
 |x,y=>match H with
  |.eql=>(XF T t r c x y).map .bool
  |.neq=>(XF T t r c x y).map fun b=>.bool (!b)
  |_=>none
def qX(y:Nat→Option (Nat×Nat))(cells:List AV):List (Nat×AV)→Option (List AV)
 | []=>some cells
 |(i,v)::rest=>
  match y i with
  |none=>none
  |some (off,size)=>
   if v.known&&decide (v.cells.length=size)&&decide (off+size≤cells.length) then
    qX y (cells.take off++v.cells++cells.drop (off+size)) rest
   else none
def aF(T:TypeId→Option TyI)(y:Array Field)(i:Nat):Option (Nat×Nat):=
 match y[i]? with
 |some f=>match T f.type with
  |some j=>some (f.offset,j.size)
  |none=>none
 |none=>none
def bN(T:TypeId→Option TyI)(t:TypeId)(parts:List (Nat×AV)):Option AV:=
 match T t with
 |none=>none
 |some i=>
  match i.desc with
  |.struct fs=>if fs.all (fun f=>(T f.type).isSome) then (qX (aF T fs) (jI i.zero).cells parts).map .agg else none
  |.array _ e=>match T e with
   |some j=>(qX (fun k=>some (k*j.size,j.size)) (jI i.zero).cells parts).map .agg
   |none=>none
  |_=>none
def Be(T:TypeId→Option TyI)(s d:TypeId)(x:AV):Option AV:=
 match T s,T d with
 |some i,some j=>
  match i.desc,j.desc,x with
  |.int _,.int k,.int _ n=>some (.int k (k.wrap n))
  |.string,.string,.str s=>some (.str s)
  |_,_,_=>none
 |_,_=>none
def Fx(n:Nat):Option AV→Option Int
 |none=>some n
 |some (.int _ h)=>some h
 |_=>none
def Mj:Option AV→Option Int
 |none=>some 0
 |some (.int _ h)=>some h
 |_=>none
def PQ(T:TypeId→Option TyI)(mem:Mem)(t:TypeId)(x:AV)(y H:Option AV):Option AV:=
 match T t with
 |none=>none
 |some i=>
  match i.desc,x with
  |.string,.str s=>
   match Fx s.length H,Mj y with
   |some h,some l=>if 0≤l∧l≤h∧h≤s.length then some (.str ((s.drop l.toNat).take (h.toNat-l.toNat))) else none
   |_,_=>none
  |.slice e,.slice b o n c=>
   match T e,mem[b]? with
   |some j,some (.cells _ es cs)=>
    match Fx n H,Mj y with
    |some h,some l=>
     if 0≤l∧l≤h∧h≤n∧(l=0∨l<n)∧es=j.size∧0<es∧es<1000∧o+n*es≤cs.length∧c=none then
      some (.slice b (o+l.toNat*es) (h.toNat-l.toNat) none) else none
    |_,_=>none
   |_,_=>none
  |.slice e,.qF=>
   match T e with
   |some _=>
    match Fx 0 H,Mj y with
    |some h,some l=>if h=0∧l=0 then some .qF else none
    |_,_=>none
   |none=>none
  |.array n e,.ptr b o=>
   match T e with
   |some j=>
    match Fx n H,Mj y with
    |some h,some l=>
     if 0≤l∧l≤h∧h≤n∧l<n then some (.slice b (o+l.toNat*j.size) (h.toNat-l.toNat) (some (n-l.toNat))) else none
    |_,_=>none
   |none=>none
  |_,_=>none
def tJ(T:TypeId→Option TyI)(t:TypeId)(x i:AV):Option AV:=
 match T t with
 |none=>none
 |some ti=>
  match ti.desc,x,i with
  |.slice e,.slice b o n _,.int _ k=>match T e with
   |some j=>if 0≤k∧k<n then some (.ptr b (o+k.toNat*j.size)) else none
   |none=>none
  |.array n e,.ptr b o,.int _ k=>match T e with
   |some j=>if 0≤k∧k<n then some (.ptr b (o+k.toNat*j.size)) else none
   |none=>none
  |_,_,_=>none
def PO(T:TypeId→Option TyI)(t:TypeId)(x i:AV):Option AV:=
 match T t with
 |none=>none
 |some ti=>
  match ti.desc,x,i with
  |.array n e,.agg cs,.int _ k=>match T e with
   |some j=>if 0≤k∧k<n then jR j cs (k.toNat*j.size) else none
   |none=>none
  |.string,.str s,.int _ k=>if 0≤k then (match s[k.toNat]? with | some c=>some (.int .u8 c.toNat) | none=>none) else none
  |_,_,_=>none
def mV(T:TypeId→Option TyI)(t:TypeId)(x:AV)(f:Nat):Option AV:=
 match T t with
 |none=>none
 |some ti=>
  match ti.desc,x with
  |.struct fs,.agg cs=>match fs[f]? with
   |some fd=>match T fd.type with
    |some j=>jR j cs fd.offset
    |none=>none
   |none=>none
  |_,_=>none
def tI(T:TypeId→Option TyI)(t:TypeId)(x:AV)(f:Nat):Option AV:=
 match T t with
 |none=>none
 |some ti=>
  match ti.desc,x with
  |.struct fs,.ptr b o=>match fs[f]? with
   |some fd=>match T fd.type with
    |some j=>if j.size=0 then none else some (.ptr b (o+fd.offset))
    |none=>none
   |none=>none
  |_,_=>none
def XE(T:TypeId→Option TyI)(t:TypeId)(mem:Mem)(x:AV):Option AV:=
 match T t with
 |none=>none
 |some ti=>
  match ti.desc,x with
  |.string,.str s=>some (.int .i64 s.length)
  |.slice _,.slice _ _ n _=>some (.int .i64 n)
  |.slice _,.qF=>some (.int .i64 0)
  |.array n _,_=>some (.int .i64 n)
  |.map _ _,.age=>some (.int .i64 0)
  |.map _ _,.map b=>match mem[b]? with
   |some (.map es)=>some (.int .i64 es.length)
   |_=>none
  |_,_=>none
def RY(T:TypeId→Option TyI)(mem:Mem)(t:TypeId)(x:AV):Option AV:=
 match T t,x with
 |some i,.ptr b o=>match mem[b]? with
  |some (.cells _ _ cs)=>jR i cs o
  |_=>none
 |_,_=>none
def uy(T:TypeId→Option TyI)(mem:Mem)(t:TypeId)(x v:AV):Option Mem:=
 match T t,x with
 |some i,.ptr b o=>match mem[b]? with
  |some (.cells true es cs)=>
   if v.known&&decide (v.cells.length=i.size)&&decide (o+i.size≤cs.length)&&v.cells.all AV.afR then
    some (mem.set b (.cells true es (cs.take o++v.cells++cs.drop (o+i.size)))) else none
  |_=>none
 |_,_=>none
variable{i:TyI}{k:IntKind}{op:BinOp}{v:AV}{x:Sem Value}
section
variable {P:Program}{T:TypeId→Option TyI}{μ:Nat→Place}{n:Nat}
def Val(P:Program)(x:Sem Value)(w:World) (μ:Nat→Place)(n:Nat)(v:AV):Prop:=∃V,x.run P w=.ok V w∧afQ μ n v V
theorem Val.int{i:Int}(h:x.run P w=.ok (.int k i) w):Val P x w μ n (.int k i):=⟨_,h,by simp[afQ]⟩
theorem Val.bool{b:Bool}(h:x.run P w=.ok (.bool b) w):Val P x w μ n (.bool b):=⟨_,h,by simp[afQ]⟩
theorem Val.str{s:List UInt8}(h:x.run P w=.ok (.string ⟨s.toArray⟩) w):Val P x w μ n (.str s):=⟨_,h,by simp[afQ]⟩
theorem RW{a b:Int}(h:Zm op k a b=some v)(t:TypeId)(w:World):
  Val P (binOp op t (.int k a) (.int k b)) w μ n v:=by
 cases op<;>simp only[Zm,Option.some.injEq,reduceCtorEq] at h;case add=>subst h;exact .int (by simp[binOp,Op.intArith])
 case sub=>subst h;exact .int (by simp[binOp,Op.intArith])
 case mul=>subst h;exact .int (by simp[binOp,Op.intArith])
 case quo=>
  split at h
  ·cases h
  next Z=>cases h;exact .int (by simp[binOp,Op.intDiv,Z])
 case rem=>
  split at h
  ·cases h
  next Z=>cases h;exact .int (by simp[binOp,Op.intDiv,Z])
 case eql=>subst h;exact .bool (by simp[binOp,Op.intCmp];try (rw[Bool.eq_iff_iff];simp))
 case neq=>subst h;exact .bool (by simp[binOp,Op.intCmp];try (rw[Bool.eq_iff_iff];simp))
 case lss=>subst h;exact .bool (by simp[binOp,Op.intCmp])
 case leq=>subst h;exact .bool (by simp[binOp,Op.intCmp])
 case gtr=>subst h;exact .bool (by simp[binOp,Op.intCmp])
 case geq=>subst h;exact .bool (by simp[binOp,Op.intCmp])
theorem R3{s u:List UInt8}(h:Zn op s u=some v)(t:TypeId)(w:World):
  Val P (binOp op t (.string ⟨s.toArray⟩) (.string ⟨u.toArray⟩)) w μ n v:=by
 cases op<;>simp only[Zn,Option.some.injEq,reduceCtorEq] at h;case add=>
  split at h
  ·rename_i X
   cases h;refine .str ?_;have:¬((9223372036854775807:Int)<((s.length:Int)+(u.length:Int))):=by simp only[fm] at X;omega
   have V:(ByteArray.mk s.toArray).size=s.length:=by simp[ByteArray.size]
   have U:(ByteArray.mk u.toArray).size=u.length:=by simp[ByteArray.size]
   have Z:(ByteArray.mk s.toArray)++(ByteArray.mk u.toArray)=ByteArray.mk (s++u).toArray:=by apply ByteArray.ext;simp
   simp[binOp,Op.stringOp,V,U,this,Z]
  ·cases h
 case eql=>subst h;exact .bool (by simp[binOp,Op.stringOp])
 case neq=>subst h;exact .bool (by simp[binOp,Op.stringOp])
 case lss=>subst h;exact .bool (by simp[binOp,Op.stringOp])
 case leq=>subst h;exact .bool (by simp[binOp,Op.stringOp])
 case gtr=>subst h;exact .bool (by simp[binOp,Op.stringOp])
 case geq=>subst h;exact .bool (by simp[binOp,Op.stringOp])
section
variable (hT:cX P T){t:TypeId}
include hT t
section
variable (h:T t=some i)
include h
theorem xr(w:World):(Go.isAgg t).run P w=.ok i.isAgg w:=by have Z:=(hT t i h).desc;simp only[Go.isAgg,Sem.run_bind,run_underlying Z,Result.andThen_ok,TyI.isAgg];cases i.desc<;>rfl
theorem cN(w:World):(Go.sizeOf t).run P w=.ok i.size w:=by obtain⟨f,Z,X,_,_⟩:=(hT t i h).info;simp[Go.sizeOf,typeInfo,Z,X]
theorem z8(w:World):∃f,(typeInfo t).run P w=.ok f w∧f.size=i.size∧f.bytes=i.bytes∧f.zero=some i.zero:=by obtain⟨f,Z,X,V,U⟩:=(hT t i h).info;exact⟨f,by simp[typeInfo,Z],X,V,U⟩
theorem eJ(w:World):(zeroValue t).run P w=.ok i.zero w:=by obtain⟨f,Z,V,U,X⟩:=z8 hT h w;simp[zeroValue,Z,X]
end
theorem jr(I:T t=some i){H:List Value}{y:Nat}(h:jR i cs y=some v)(hr:afS μ n cs H)(w:World):Val P (part t ⟨H⟩ y) w μ n v:=by
 unfold jR at h;simp only[part,Val];cases hi:i.isAgg with
 |true=>
  simp only[hi,if_true] at h;split at h
  ·rename_i Z
   cases h;have S:=hr.length;refine⟨.agg (Array.extract ⟨H⟩ y (y+i.size)),?_,?_⟩
   ·simp[xr hT I,cN hT I,hi]
   ·simp only[afQ]
    refine⟨(H.drop y).take i.size,?_,(hr.drop y).take i.size⟩;congr 1;apply Array.ext';simp[List.extract]
  ·cases h
 |false=>
  simp only[hi,Bool.false_eq_true,if_false] at h;obtain⟨U,X,V⟩:=hr.get y v h;exact⟨U,by simp[xr hT I,hi,X],V⟩
end
theorem afQ.bool{b V}(h:afQ μ n (.bool b) V):V=.bool b:=by simpa [afQ] using h
theorem afQ.int{k i V}(h:afQ μ n (.int k i) V):V=.int k i:=by simpa [afQ] using h
theorem afQ.str{s V}(h:afQ μ n (.str s) V):V=.string ⟨s.toArray⟩:=by simpa [afQ] using h
theorem afQ.agg{cs V}(h:afQ μ n (.agg cs) V):∃Z,V=.agg ⟨Z⟩∧afS μ n cs Z:=by simpa only[afQ] using h
theorem Fv(hT:cX P T){d:Nat}{q:TypeId→AV→AV→Option Bool}
  (I:∀{t:TypeId}{x y:AV}{b:Bool}{X Y:Value},q t x y=some b→afQ μ n x X→afQ μ n y Y→∀(w:World),(Op.equalIn d t X Y).run P w=.ok b w)
  {J W:List AV}{Xs Ys:List Value}(hx:afS μ n J Xs) (hy:afS μ n W Ys) (w:World):
  ∀{H:List Field}{b:Bool},Ta T q J W H=some b→(Op.eqFields d ⟨Xs⟩ ⟨Ys⟩ H).run P w=.ok b w
 | [],b,h=>by simp only[Ta,Option.some.injEq] at h;subst h;simp[Op.eqFields]
 |f::H,b,h=>by
  rw[Ta] at h;split at h
  ·cases h
  ·rename_i Z
   split at h
   ·cases h
   ·rename_i i S
    split at h
    ·rename_i a c R Q
     split at h
     ·rename_i p r O N
      cases h;obtain⟨A,M,V⟩:=jr (P:=P) (μ:=μ) (n:=n) hT S R hx w;obtain⟨C,L,U⟩:=jr (P:=P) (μ:=μ) (n:=n) hT S Q hy w;have K:=I O V U w;have G:=Fv hT I hx hy w N;simp only[Op.eqFields,Z,ne_eq,not_false_eq_true,if_true,Sem.run_bind,M,L,K,Result.andThen_ok];cases p
      ·simp
      ·simp[G]
     ·cases h
    ·cases h
theorem Ft(hT:cX P T){d:Nat}{e:TypeId}{i:TyI}(H:T e=some i){q:AV→AV→Option Bool}
  (J:∀{x y:AV}{b:Bool}{X Y:Value},q x y=some b→afQ μ n x X→afQ μ n y Y→∀(w:World),(Op.equalIn d e X Y).run P w=.ok b w)
  {W ys:List AV}{Xs Ys:List Value}(hx:afS μ n W Xs) (hy:afS μ n ys Ys) (w:World):
  ∀{I:List Nat}{b:Bool},Xk q i W ys I=some b→
   ((forIn I ((none,()):Option Bool×Unit) fun j _=>(do
     let a ←part e ⟨Xs⟩ (j*i.size)
     let c ←part e ⟨Ys⟩ (j*i.size)
     let r ←Op.equalIn d e a c
     if (!r)=true then pure (ForInStep.done (some false,())) else pure (ForInStep.yield (none,())):Sem (ForInStep (Option Bool×Unit)))).run P w=
    .ok (if b then none else some false,()) w)
 | [],b,h=>by simp only[Xk,Option.some.injEq] at h;subst h;simp
 |j::I,b,h=>by
  rw[Xk] at h;split at h
  ·rename_i a c U S
   split at h
   ·rename_i p r R Q
    cases h;obtain⟨A,O,Z⟩:=jr (P:=P) (μ:=μ) (n:=n) hT H U hx w;obtain⟨C,N,V⟩:=jr (P:=P) (μ:=μ) (n:=n) hT H S hy w;have M:=J R Z V w;have L:=Ft hT H J hx hy w Q;simp only[List.forIn_cons,Sem.run_bind,O,N,M,Result.andThen_ok];cases p
    ·simp
    ·simp only[Bool.not_true,Bool.false_eq_true,if_false,Sem.run_pure,Result.andThen_ok,Bool.true_and]
     exact L
   ·cases h
  ·cases h
theorem jo(hT:cX P T):∀(d:Nat) {t:TypeId} {x y:AV} {b:Bool} {X Y:Value},kU T d t x y=some b→afQ μ n x X→afQ μ n y Y→
  ∀(k:Nat) (w:World),(Op.equalIn (d+k) t X Y).run P w=.ok b w
 |0,_,_,_,_,_,_,h,_,_,_,_=>by simp[kU] at h
 |d+1,t,x,y,b,X,Y,h,hx,hy,k,w=>by
  rw[kU] at h;rw[show d+1+k=d+k+1 by omega];cases ht:T t with
  |none=>rw[ht] at h;cases h
  |some i=>
   rw[ht] at h;simp only at h;have Z:=(hT t i ht).desc;split at h
   ·rename_i V
    cases h;rw[hx.bool,hy.bool];rw[V] at Z;exact run_equalIn_bool' w _ t _ _ Z
   ·rename_i K o a W J V
    split at h
    ·rename_i G
     cases h;subst G;rw[hx.int,hy.int];rw[V] at Z;rw[run_equalIn_int w _ t _ K _ _ Z];congr 1
    ·cases h
   ·rename_i V
    cases h;rw[hx.str,hy.str];rw[V] at Z;rw[run_equalIn_string w _ t _ _ Z];simp
   ·rename_i F D C V
    split at h
    ·rename_i R
     obtain⟨B,rfl,U⟩:=hx.agg;obtain⟨u,rfl,S⟩:=hy.agg;rw[V] at Z;have M:P.fieldsOf t=F:=by simp[Program.fieldsOf,Z]
     rw[run_equalIn_agg w _ t _ _ (by rw[Z,M]) ((hT t i ht).ahx R).1,M];exact Fv hT (fun Q O h3 w=>jo hT d Q O h3 k w) U S w h
    ·cases h
   ·rename_i m e D C V
    split at h
    ·split at h
     ·rename_i j L
      obtain⟨B,rfl,U⟩:=hx.agg;obtain⟨u,rfl,S⟩:=hy.agg;rw[V] at Z;have N:=Ft hT L (d:=d+k) (fun Q O h3 w=>jo hT d Q O h3 k w) U S w h;simp only[Op.equalIn,Sem.run_bind,run_underlying Z,Result.andThen_ok,cN hT L];simp only[Std.Legacy.Range.forIn_eq_forIn_range',Std.Legacy.Range.size,Nat.sub_zero,Nat.add_sub_cancel,Nat.div_one];rw[N];cases b<;>rfl
     ·cases h
    ·cases h
   ·cases h
end
end Go.Eng
namespace Go.Eng
variable{X Y:Value}
section
variable {P:Program}{T:TypeId→Option TyI}{μ:Nat→Place}{n:Nat}
theorem gD(t:TypeId)(X Y:Value):Op.equal t X Y=Op.equalIn (9999+1) t X Y:=rfl
theorem Fh(hT:cX P T){t:TypeId}{x y:AV}{b:Bool}(H:afQ μ n x X)(I:afQ μ n y Y)(J W:Operand)(h:XF T t (sL J) (sL W) x y=some b)(w:World):
  (∀Z,(eqGuard Z t J W X Y).run P w=.ok () w)∧(Op.equal t X Y).run P w=.ok b w∧(∀Z:BinOp,Z=.eql∨Z=.neq→binOp Z t X Y=(if Z=.eql then (do pure (.bool (←Op.equal t X Y))) else (do pure (.bool (!(←Op.equal t X Y)))))):=by
 unfold XF at h;cases ht:T t with
 |none=>rw[ht] at h;cases h
 |some i=>
  rw[ht] at h;simp only at h;have V:=(hT t i ht).desc;split at h
  ·rename_i U;cases h;rw[U] at V
   simp only[afQ] at H I;obtain⟨_,rfl⟩:=H;subst I;exact⟨fun Z=>by rw[eqGuard_at_slice];rfl,by rw[gD,Op.equalIn];simp[run_underlying V],by intro Z S;cases S with | inl e=>subst e;rfl | inr e=>subst e;rfl⟩
  ·rename_i U;cases h;rw[U] at V
   simp only[afQ] at H I;subst H;subst I;exact⟨fun Z=>by rw[eqGuard_at_slice];rfl,by rw[gD,Op.equalIn];simp[run_underlying V],by intro Z S;cases S with | inl e=>subst e;rfl | inr e=>subst e;rfl⟩
  ·rename_i U;cases h;rw[U] at V
   simp only[afQ] at H I;subst H;subst I;exact⟨fun Z=>by rw[eqGuard_at_pointer];rfl,by rw[gD,Op.equalIn];simp[run_underlying V],by intro Z S;cases S with | inl e=>subst e;rfl | inr e=>subst e;rfl⟩
  ·rename_i U;cases h;rw[U] at V
   simp only[afQ] at H I;obtain⟨_,rfl⟩:=H;subst I;exact⟨fun Z=>by rw[eqGuard_at_pointer];rfl,by rw[gD,Op.equalIn];simp[run_underlying V],by intro Z S;cases S with | inl e=>subst e;rfl | inr e=>subst e;rfl⟩
  ·rename_i U;cases h;rw[U] at V
   simp only[afQ] at H I;subst H;subst I;exact⟨fun Z=>by rw[eqGuard_at_nilFunc];rfl,by rw[gD,Op.equalIn];simp[run_underlying V],by intro Z S;cases S with | inl e=>subst e;rfl | inr e=>subst e;rfl⟩
  ·rename_i U;cases h;rw[U] at V
   simp only[afQ] at H I;obtain⟨_,rfl,_⟩:=H;subst I;exact⟨fun Z=>by rw[eqGuard_at_func];rfl,by rw[gD,Op.equalIn];simp[run_underlying V],by intro Z S;cases S with | inl e=>subst e;rfl | inr e=>subst e;rfl⟩
  ·rename_i U;rw[U] at V
   simp only[afQ] at H I;subst H;subst I;split at h
   ·rename_i R;cases h
    refine⟨fun Z=>?_,by rw[gD,Op.equalIn];simp[run_underlying V],by intro Z S;cases S with | inl e=>subst e;rfl | inr e=>subst e;rfl⟩;cases J<;>cases W<;>simp[sL] at R<;>first | (rw[eqGuard_nil_constR];rfl) | (rw[eqGuard_nil_constL];rfl)
   ·cases h
  ·rename_i U;cases h;rw[U] at V
   simp only[afQ] at H I;obtain⟨_,rfl,_⟩:=H;subst I;exact⟨fun Z=>by rw[eqGuard_at_iface];rfl,by rw[gD,Op.equalIn];simp[run_underlying V],by intro Z S;cases S with | inl e=>subst e;rfl | inr e=>subst e;rfl⟩
  ·cases h
theorem RS(hT:cX P T){op:BinOp}{t:TypeId}{x y v:AV}(H:afQ μ n x X)(I:afQ μ n y Y)(J W:Operand)(h:Zk T op t (sL J) (sL W) x y=some v)(w:World):
  Val P (do eqGuard op t J W X Y;binOp op t X Y) w μ n v:=by
 unfold Zk at h;split at h
 ·rename_i k a C b
  split at h
  ·rename_i M
   subst M;rw[H.int,I.int];obtain⟨V,U,S⟩:=RW (P:=P) (μ:=μ) (n:=n) h t w;exact⟨V,by rw[eqGuard_at_int];simpa using U,S⟩
  ·cases h
 ·rw[H.str,I.str]
  obtain⟨V,U,S⟩:=R3 (P:=P) (μ:=μ) (n:=n) h t w;exact⟨V,by rw[eqGuard_at_string];simpa using U,S⟩
 ·rename_i a b
  rw[H.bool,I.bool];split at h
  ·rename_i i L
   have O:=(hT t i L).desc;split at h
   ·rename_i N
    cases h;rw[N] at O;refine .bool ?_;rw[eqGuard_at_bool];simp only[binOp,gD,Sem.run_bind,Sem.run_pure,Result.andThen_ok,run_equalIn_bool' w 9999 t a b O]
   ·rename_i N
    cases h;rw[N] at O;refine .bool ?_;rw[eqGuard_at_bool];simp only[binOp,gD,Sem.run_bind,Sem.run_pure,Result.andThen_ok,run_equalIn_bool' w 9999 t a b O]
   ·cases h
  ·cases h
 ·rename_i K G
  have Q:∀b,kU T 20 t (.agg K) (.agg G)=some b→P.eqGuardType P.depth t=false:=by
   intro b Z;rw[kU] at Z;cases ht:T t with
   |none=>rw[ht] at Z;cases Z
   |some i=>
    rw[ht] at Z;simp only at Z;split at Z
    next U _=>cases U
    next U _=>cases U
    next U _=>cases U
    ·split at Z
     next R=>exact((hT t i ht).ahx R).2
     ·cases Z
    ·split at Z
     next R=>exact((hT t i ht).ahx R).2
     ·cases Z
    ·cases Z
  split at h
  ·simp only[Option.map_eq_some_iff] at h
   obtain⟨b,Z,rfl⟩:=h;have U:=jo hT 20 Z H I 9980 w;obtain⟨F,rfl,_⟩:=H.agg;obtain⟨D,rfl,_⟩:=I.agg;refine .bool ?_;simp only[Sem.run_bind,run_eqGuard_agg w _ t J W _ _ (Q b Z),Result.andThen_ok,run_eql_struct,U]
  ·simp only[Option.map_eq_some_iff] at h
   obtain⟨b,Z,rfl⟩:=h;have U:=jo hT 20 Z H I 9980 w;obtain⟨F,rfl,_⟩:=H.agg;obtain⟨D,rfl,_⟩:=I.agg;refine .bool ?_;simp only[Sem.run_bind,run_eqGuard_agg w _ t J W _ _ (Q b Z),Result.andThen_ok,run_neq_struct,U]
  ·cases h
 ·split at h
  ·simp only[Option.map_eq_some_iff] at h
   obtain⟨b,Z,rfl⟩:=h;obtain⟨U,S,h3⟩:=Fh hT H I J W Z w;refine .bool ?_;rw[Sem.run_bind,U,Result.andThen_ok,h3 _ (.inl rfl)];simp[S]
  ·simp only[Option.map_eq_some_iff] at h
   obtain⟨b,Z,rfl⟩:=h;obtain⟨U,S,h3⟩:=Fh hT H I J W Z w;refine .bool ?_;rw[Sem.run_bind,U,Result.andThen_ok,h3 _ (.inr rfl)];simp[S]
  ·cases h
theorem EN(hT:cX P T){s d:TypeId}{x v:AV}(y:afQ μ n x X)(h:Be T s d x=some v)(w:World):
  Val P (convert s d X) w μ n v:=by
 unfold Be at h;split at h
 ·rename_i i j R Q
  have Z:=(hT s i R).desc;have V:=(hT d j Q).desc;split at h
  ·rename_i U S;cases h;rw[y.int];rw[U] at Z;rw[S] at V
   exact .int (by simp[convert,run_underlying Z,run_underlying V,Conv.intToInt])
  ·rename_i U S;cases h;rw[y.str];rw[U] at Z;rw[S] at V
   exact .str (by simp[convert,run_underlying Z,run_underlying V])
  ·cases h
 ·cases h
theorem L8(y:Nat):∀(vs:List Value) (k:Nat) (cur:List Value),y+k+vs.length≤cur.length→
  ((vs.zipIdx k).foldl (fun(cs:Array Value) (x:Value×Nat)=>cs.setIfInBounds (y+x.2) x.1) ⟨cur⟩)=⟨cur.take (y+k)++vs++cur.drop (y+k+vs.length)⟩
 | [],k,cur,_=>by simp
 |v::vs,k,cur,h=>by
  simp only[List.zipIdx_cons,List.foldl_cons];have Z:(⟨cur⟩:Array Value).setIfInBounds (y+k) v=⟨cur.set (y+k) v⟩:=by simp
  rw[Z,L8 y vs (k+1) (cur.set (y+k) v) (by simp at h ⊢;omega)];have e:=list_seg_step cur (y+k) v vs (by simp at h ⊢;omega);simp only[List.append_assoc,Array.mk.injEq,List.length_cons] at e ⊢;simpa [Nat.add_assoc,Nat.add_comm 1] using e
theorem tS{J:Nat→Option (Nat×Nat)}:∀{parts:List (Nat×AV)}{cells I :List AV} {H:List (Nat×Value)} {y:List Value},
  qX J cells parts=some I →afS μ n cells y→H.map (·.1)=parts.map (·.1)→afS μ n (parts.map (·.2)) (H.map (·.2))→
  ∃Z,Instr.fill J ⟨y⟩ H=some ⟨Z⟩∧afS μ n I Z
 | [],cells,I,H,y,h,hc,R,_=>by
  simp only[qX,Option.some.injEq] at h;subst h;have:H=[]:=by simpa using R
  subst this;exact⟨y,rfl,hc⟩
 |(i,v)::rest,cells,I,H,y,h,hc,R,hv=>by
  cases H with
  |nil=>simp at R
  |cons p Rest=>
   obtain⟨F,V⟩:=p;simp only[List.map_cons,List.cons.injEq] at R;obtain⟨rfl,R⟩:=R;simp only[List.map_cons] at hv;obtain⟨L,K⟩:=bO.1 hv;rw[qX] at h;cases hpl:J F with
   |none=>rw[hpl] at h;cases h
   |some os=>
    obtain⟨U,S⟩:=os;rw[hpl] at h;simp only at h;split at h
    ·rename_i G
     simp only[Bool.and_eq_true,decide_eq_true_eq] at G;obtain⟨⟨D,O⟩,C⟩:=G;have Q:=L.cells D;have N:V.cells.size=S:=by rw[←Array.length_toList,Q.length,O]
     have M:=hc.length;rw[Instr.fill,hpl];simp only;have B:(V.cells.zipIdx.foldl (fun cs (x:Value×Nat)=>cs.setIfInBounds (U+x.2) x.1) (⟨y⟩:Array Value))=⟨y.take U++V.cells.toList++y.drop (U+S)⟩:=by rw[←Array.foldl_toList,Array.toList_zipIdx,L8 U _ 0 y (by rw[Q.length,M,O];omega)];simp[N]
     rw[if_neg (by simp[N,M];omega),B];exact tS h (((hc.take U).append Q).append (hc.drop _)) R K
    ·cases h
theorem Qk{α β:Type}(g:α→Sem β)(hf:α→β)(w:World):∀(l:List α),(∀x∈l,(g x).run P w=.ok (hf x) w)→(l.mapM g).run P w=.ok (l.map hf) w
 | [],_=>by simp
 |x::l,h=>by simp[List.mapM_cons,h x (by simp),Qk g hf w l (fun y Z=>h y (by simp[Z]))]
theorem Pz{μ:Nat→Place}{n:Nat}{v:AV}{V:Value}(h:afQ μ n v V)(y:v.cells=[v])(hV:V.cells= #[V]):afS μ n v.cells V.cells.toList:=by rw[y,hV];exact bO.2 ⟨h,by simp[afS]⟩
theorem EX(v:Value):(ky v).cells=[ky v]:=by unfold ky;split<;>rfl
theorem j9(μ:Nat→Place)(n:Nat)(z:Value):afS μ n (jI z).cells z.cells.toList:=by
 by_cases h:∃Z,z=.agg Z
 ·obtain⟨Z,rfl⟩:=h;exact nU μ n _
 ·have e:jI z=ky z:=by cases z<;>first | rfl | exact absurd ⟨_,rfl⟩ h
  have c:z.cells= #[z]:=by cases z<;>first | rfl | exact absurd ⟨_,rfl⟩ h
  rw[e];exact Pz (qf μ n z) (EX z) c
theorem Lx(hT:cX P T){t:TypeId}{parts:List (Nat×AV)}{y:List (Nat×Value)}{v:AV}(h:bN T t parts=some v)(H:y.map (·.1)=parts.map (·.1))(I:afS μ n (parts.map (·.2)) (y.map (·.2)))(w:World):
  Val P (Instr.build t ⟨y⟩) w μ n v:=by
 unfold bN at h;cases ht:T t with
 |none=>rw[ht] at h;cases h
 |some i=>
  rw[ht] at h;simp only at h;have Q:=(hT t i ht).desc;have D:=j9 μ n i.zero;split at h
  ·rename_i V O
   split at h
   ·rename_i C
    simp only[Option.map_eq_some_iff] at h;obtain⟨N,U,rfl⟩:=h;obtain⟨Z,M,L⟩:=tS U D H I;rw[O] at Q;have R :∀f∈V.toList,∃j,T f.type=some j:=by intro f U;rw[Array.all_eq_true'] at C;have:=C f (by simpa using U);exact Option.isSome_iff_exists.1 this
    have K:(V.mapM fun f=>do pure (f.offset,←sizeOf f.type):Sem (Array (Nat×Nat))).run P w=
      .ok (V.map fun f=>(f.offset,((T f.type).map (·.size)).getD 0)) w:=by
     rw[Array.mapM_eq_mapM_toList,Sem.run_map];rw[Qk (P:=P) _ (fun f=>(f.offset,((T f.type).map (·.size)).getD 0)) w V.toList (fun f U=>by obtain⟨j,S⟩:=R f U;simp[cN hT S,S])]
     simp only[Result.andThen_ok,Result.ok.injEq,and_true];apply Array.ext';simp
    have G:(fun k=>(V.map fun f=>(f.offset,((T f.type).map (·.size)).getD 0))[k]?)=aF T V:=by
     funext k;simp only[aF,Array.getElem?_map];cases hk:V[k]? with
     |none=>rfl
     |some f=>
      have F:f∈V.toList:=by have:=Array.mem_of_getElem? hk;simpa using this
      obtain⟨j,S⟩:=R f F;simp[S]
    refine⟨.agg ⟨Z⟩,?_,by simp only[afQ];exact⟨Z,rfl,L⟩⟩;simp only[Instr.build,Sem.run_bind,eJ hT ht,Result.andThen_ok,run_underlying Q];erw [K];simp only[Result.andThen_ok,G];rw[show i.zero.cells=⟨i.zero.cells.toList⟩ from rfl,M];rfl
   ·cases h
  ·rename_i m e O
   split at h
   ·rename_i j S
    simp only[Option.map_eq_some_iff] at h;obtain⟨N,U,rfl⟩:=h;obtain⟨Z,M,L⟩:=tS U D H I;rw[O] at Q;refine⟨.agg ⟨Z⟩,?_,by simp only[afQ];exact⟨Z,rfl,L⟩⟩;simp only[Instr.build,Sem.run_bind,eJ hT ht,Result.andThen_ok,run_underlying Q,cN hT S];rw[show i.zero.cells=⟨i.zero.cells.toList⟩ from rfl,M];rfl
   ·cases h
  ·cases h
end
end Go.Eng
namespace Go.Eng
variable{f:Nat}
section
variable {P:Program}{T:TypeId→Option TyI}{μ:Nat→Place}{n:Nat}
theorem afQ.ptr{b o V}(h:afQ μ n (.ptr b o) V):b<n∧V=.pointer (some ⟨(μ b).blk,(μ b).off+o,none⟩):=by simpa only[afQ] using h
theorem afQ.slice{b o l c V}(h:afQ μ n (.slice b o l c) V):b<n∧V=.slice (some ⟨(μ b).blk,(μ b).off+o,none⟩) l (kH (μ b) o c):=by simpa only[afQ] using h
theorem cv{k:IntKind}{i:Int}{y:Nat}(h0:0≤i)(h1:i≤y)(H:BoundsCode)(w:World):
  (Instr.sliceBound (.int k i) y H).run P w=.ok i.toNat w:=by
 simp[Instr.sliceBound,asIntOf,h0,h1]
section
variable (hT:cX P T){t:TypeId}
include hT t
theorem AO{x i v:AV}{X I:Value}(y:afQ μ n x X)(H:afQ μ n i I)(h:tJ T t x i=some v)(w:World):
  Val P (Instr.indexAt t X I) w μ n v:=by
 unfold tJ at h;cases ht:T t with
 |none=>rw[ht] at h;cases h
 |some ti=>
  rw[ht] at h;simp only at h;have U:=(hT t ti ht).desc;split at h
  ·rename_i e b o m c k j S
   rw[S] at U;split at h
   ·rename_i R Z
    split at h
    ·rename_i Q
     cases h;obtain⟨V,rfl⟩:=y.slice;rw[H.int];refine⟨.pointer (some ⟨(μ b).blk,(μ b).off+(o+j.toNat*R.size),none⟩),?_,by simp only[afQ];exact⟨V,trivial⟩⟩;simp[Instr.indexAt,asIntOf,run_underlying U,Q,cN hT Z,Addr.add_lit,Nat.add_assoc]
    ·cases h
   ·cases h
  ·rename_i m e b o k j S
   rw[S] at U;split at h
   ·rename_i R Z
    split at h
    ·rename_i Q
     cases h;obtain⟨V,rfl⟩:=y.ptr;rw[H.int];refine⟨.pointer (some ⟨(μ b).blk,(μ b).off+(o+j.toNat*R.size),none⟩),?_,by simp only[afQ];exact⟨V,trivial⟩⟩;simp[Instr.indexAt,asIntOf,run_underlying U,Instr.sureAddr,Q,cN hT Z,Addr.add_lit,Nat.add_assoc]
    ·cases h
   ·cases h
  ·cases h
theorem LC{x i v:AV}{X I:Value}(y:afQ μ n x X)(H:afQ μ n i I)(h:PO T t x i=some v)(w:World):
  Val P (Instr.index t X I) w μ n v:=by
 unfold PO at h;cases ht:T t with
 |none=>rw[ht] at h;cases h
 |some ti=>
  rw[ht] at h;simp only at h;have U:=(hT t ti ht).desc;split at h
  ·rename_i m e F k j S
   rw[S] at U;split at h
   ·rename_i D Z
    split at h
    ·rename_i N
     obtain⟨C,rfl,R⟩:=y.agg;rw[H.int];obtain⟨V,M,L⟩:=jr (P:=P) (μ:=μ) (n:=n) hT Z h R w;exact⟨V,by simp[Instr.index,asIntOf,run_underlying U,N,cN hT Z,M],L⟩
    ·cases h
   ·cases h
  ·rename_i s k j S
   rw[S] at U;split at h
   ·rename_i K
    split at h
    ·rename_i c O
     cases h;rw[y.str,H.int];have Q :(ByteArray.mk s.toArray)[j.toNat]? =some c:=by have G:j.toNat<s.length:=gL O;have B:=(List.getElem?_eq_some_iff.1 O).2;rw[getElem?_pos (ByteArray.mk s.toArray) j.toNat (by simpa [ByteArray.size] using G)];congr 1
     exact .int (by simp[Instr.index,asIntOf,run_underlying U,K,Q])
    ·cases h
   ·cases h
  ·cases h
theorem LB{x v:AV}{X:Value}(y:afQ μ n x X)(h:mV T t x f=some v)(w:World):
  Val P (Instr.field t X f) w μ n v:=by
 unfold mV at h;cases ht:T t with
 |none=>rw[ht] at h;cases h
 |some ti=>
  rw[ht] at h;simp only at h;have S:=(hT t ti ht).desc;split at h
  ·rename_i M L R
   rw[R] at S;split at h
   ·rename_i K Z
    split at h
    ·rename_i j Q
     obtain⟨G,rfl,U⟩:=y.agg;obtain⟨V,O,N⟩:=jr (P:=P) (μ:=μ) (n:=n) hT Q h U w;exact⟨V,by simp[Instr.field,run_underlying S,Z,asAgg,O],N⟩
    ·cases h
   ·cases h
  ·cases h
theorem AN{x v:AV}{X:Value}(y:afQ μ n x X)(h:tI T t x f=some v)(w:World):
  Val P (Instr.fieldAt t X f) w μ n v:=by
 unfold tI at h;cases ht:T t with
 |none=>rw[ht] at h;cases h
 |some ti=>
  rw[ht] at h;simp only at h;have S:=(hT t ti ht).desc;split at h
  ·rename_i N b o R
   rw[R] at S;split at h
   ·rename_i Q Z
    split at h
    ·rename_i j O
     split at h
     ·cases h
     ·rename_i V
      cases h;obtain⟨U,rfl⟩:=y.ptr;refine⟨.pointer (some ⟨(μ b).blk,(μ b).off+(o+Q.offset),none⟩),?_,by simp only[afQ];exact⟨U,trivial⟩⟩;simp[Instr.fieldAt,run_underlying S,Z,Instr.sureAddr,fieldPlace,Addr.add_lit,Nat.add_assoc,cN hT O,V]
    ·cases h
   ·cases h
  ·cases h
end
end
end Go.Eng
namespace Go.Eng
section
variable {P:Program}{T:TypeId→Option TyI}{μ:Nat→Place}{mem:Mem}{base:Nat}{w:World}
theorem tM(s:List UInt8):(ByteArray.mk s.toArray).size=s.length:=by simp[ByteArray.size]
theorem af3.cell(y:af3 base μ mem w){b:Nat}{own es cs}(H:mem[b]? =some (.cells own es cs)){j:Nat}{v:AV}(I:cs[j]? =some v):
  ∃V,w.cell? ⟨(μ b).blk,(μ b).off+j,none⟩=some V∧afQ μ mem.length v V:=by
 have Z:=y.slot b _ H;simp only[af5] at Z;obtain⟨X,e,Q,U,_,_,S,_⟩:=Z;obtain⟨V,hV,R⟩:=S j v I;exact⟨V,by simp[World.cell?,U,hV],R⟩
theorem af3.cells(y:af3 base μ mem w){b:Nat}{own es cs}(H:mem[b]? =some (.cells own es cs)){o k:Nat}(hk:o+k≤cs.length):
  ∃Z,afS μ mem.length ((cs.drop o).take k) Z∧Z.length=k∧∀(j:Nat) u,Z[j]? =some u→w.cell? ((⟨(μ b).blk,(μ b).off+o,none⟩:Addr).add j)=some u:=by
 induction k with
 |zero=>exact⟨[],by simp[afS],rfl,by simp⟩
 |succ k ih=>
  obtain⟨Z,Q,S,h3⟩:=ih (by omega);have R:o+k<cs.length:=by omega
  obtain⟨V,hV,O⟩:=y.cell H (j:=o+k) (v:=cs[o+k]) (by simp[R]);refine⟨Z++[V],?_,by simp[S],fun j u X=>?_⟩
  ·rw[List.take_add_one]
   have:(cs.drop o)[k]? =some cs[o+k]:=by simp[List.getElem?_drop,R]
   rw[this];exact Q.append (bO.2 ⟨O,by simp[afS]⟩)
  ·by_cases N:j<Z.length
   ·rw[List.getElem?_append_left N] at X;exact h3 j u X
   ·have U:j=Z.length:=by have:=gL X;simp at this;omega
    subst U;simp at X;subst X;rw[Addr.add_lit,S,Nat.add_assoc];exact hV
section
variable (hT:cX P T)(hH:af3 base μ mem w)
include hT hH
theorem Cz{t:TypeId}{x v:AV}{X:Value}(y:afQ μ mem.length x X)(h:RY T mem t x=some v):
  Val P (Instr.loadAt t X) w μ mem.length v:=by
 unfold RY at h;split at h
 ·rename_i i b o Z
  split at h
  ·rename_i own es K R
   obtain⟨O,rfl⟩:=y.ptr;unfold jR at h;cases hi:i.isAgg with
   |true=>
    simp only[hi,if_true] at h;split at h
    ·rename_i U
     cases h;obtain⟨S,N,M,h3⟩:=hH.cells R U;refine⟨.agg S.toArray,?_,by simp only[afQ];exact⟨S,rfl,N⟩⟩;have Q:=run_loadCells_list (P:=P) w _ S h3;rw[M] at Q;simp[Instr.loadAt,Instr.sureAddr,loadVar,xr hT Z,hi,cN hT Z,Q]
    ·cases h
   |false=>
    simp only[hi,Bool.false_eq_true,if_false] at h;obtain⟨V,hV,L⟩:=hH.cell R h;refine⟨V,?_,L⟩;simp[Instr.loadAt,Instr.sureAddr,loadVar,xr hT Z,hi,hV]
  ·cases h
 ·cases h
theorem RX{t ty:TypeId}{x v:AV}{X:Value}(y:afQ μ mem.length x X)(h:XE T t mem x=some v):
  Val P (Builtin.len_ #[t] ty #[X]) w μ mem.length v:=by
 unfold XE at h;cases ht:T t with
 |none=>rw[ht] at h;cases h
 |some ti=>
  rw[ht] at h;simp only at h;have Z:=(hT t ti ht).desc;split at h
  ·rename_i s V;cases h;rw[V] at Z;rw[y.str]
   exact .int (by simp[Builtin.len_,run_underlying Z,goInt,tM])
  ·rename_i V;cases h;rw[V] at Z;rw[y.slice.2]
   exact .int (by simp[Builtin.len_,run_underlying Z,goInt])
  ·rename_i V;cases h;rw[V] at Z
   simp only[afQ] at y;subst y;exact .int (by simp[Builtin.len_,run_underlying Z,goInt])
  ·rename_i m e V;cases h;rw[V] at Z
   exact .int (by simp[Builtin.len_,run_underlying Z,goInt])
  ·rename_i V;cases h;rw[V] at Z
   simp only[afQ] at y;subst y;exact .int (by simp[Builtin.len_,run_underlying Z,goInt])
  ·rename_i b V;rw[V] at Z
   simp only[afQ] at y;obtain⟨S,rfl⟩:=y;split at h
   ·rename_i es R
    cases h;have U:=hH.slot b _ R;simp only[af5] at U;obtain⟨Q,O,N,_,M,_⟩:=U;refine .int ?_;have L:(getObj (μ b).blk).run P w=.ok (.map Q O) w:=by simp[getObj,Sem.run,N]
    simp only[Builtin.len_,List.getElem?_toArray,List.getElem?_cons_zero,Sem.run_bind,run_underlying Z,Result.andThen_ok,L];simp[goInt,M]
   ·cases h
  ·cases h
theorem LF{t:TypeId}{x v:AV}{X:Value}{H I:Option AV}{J Hi:Option Value}(y:afQ μ mem.length x X)(hlo:(H=none∧J=none)∨∃l L,H=some l∧J=some L∧afQ μ mem.length l L)(hhi:(I=none∧Hi=none)∨∃l L,I=some l∧Hi=some L∧afQ μ mem.length l L)(h:PQ T mem t x H I=some v):
  Val P (Instr.sliceAt t X J Hi none) w μ mem.length v:=by
 have O:∀(F:Bool) (R Q:Nat) (V Z:Int),Fx R I=some V→
   Mj H=some Z→0≤Z→Z≤V→V≤R→R≤Q→
   (Instr.sliceBounds F R Q J Hi none).run P w=.ok (Z.toNat,V.toNat,Q) w:=by
  intro F R Q V Z U S h0 h1 h2 h3;have D :V≤Q:=by omega
  have h1' :Z≤((V.toNat:Nat):Int):=by omega
  have C :0≤V:=by omega
  rcases hhi with⟨rfl,rfl⟩ | ⟨a,A,rfl,rfl,hA⟩<;>rcases hlo with⟨rfl,rfl⟩ | ⟨b,B,rfl,rfl,hB⟩
  ·simp only[Fx,Mj,Option.some.injEq] at U S;subst U;subst S
   simp[Instr.sliceBounds]
  ·cases b<;>simp only[Fx,Mj,reduceCtorEq,Option.some.injEq] at U S
   subst U;subst S;rw[hB.int];simp[Instr.sliceBounds,cv h0 h1]
  ·cases a<;>simp only[Fx,Mj,reduceCtorEq,Option.some.injEq] at U S
   subst U;subst S;rw[hA.int];simp[Instr.sliceBounds,cv C D]
  ·cases a<;>simp only[Fx,reduceCtorEq,Option.some.injEq] at U
   cases b<;>simp only[Mj,reduceCtorEq,Option.some.injEq] at S;subst U;subst S;rw[hA.int,hB.int];simp[Instr.sliceBounds,cv C D,cv h0 h1']
 unfold PQ at h;cases ht:T t with
 |none=>rw[ht] at h;cases h
 |some ti=>
  rw[ht] at h;simp only at h;have N:=(hT t ti ht).desc;split at h
  ·rename_i s M
   rw[M] at N;split at h
   ·rename_i V Z U S
    split at h
    ·rename_i u
     cases h;rw[y.str];have K:=O false s.length s.length V Z U S u.1 u.2.1 u.2.2 (Nat.le_refl _);refine .str ?_;have aea:(ByteArray.mk s.toArray).extract Z.toNat V.toNat=⟨((s.drop Z.toNat).take (V.toNat-Z.toNat)).toArray⟩:=by apply ByteArray.ext;apply Array.ext';simp[List.extract]
     simp[Instr.sliceAt,Instr.slice,run_underlying N,tM,K,aea]
    ·cases h
   ·cases h
  ·rename_i e b o m c M
   rw[M] at N;split at h
   ·rename_i j own es cs Y u
    split at h
    ·rename_i V Z U S
     split at h
     ·rename_i W
      obtain⟨g1,g2,g3,g4,g5,g6,g6',g7,rfl⟩:=W;cases h;obtain⟨G,rfl⟩:=y.slice;have hs:=hH.slot b _ u;simp only[af5] at hs;obtain⟨cur,el,fr,hs1,hs2,hs3,_,_⟩:=hs;have hs2:=hs2.es g6';subst hs2;have aa8:m≤kH (μ b) o none:=by simp only[kH];rw[Nat.le_div_iff_mul_le g6];omega
      have K:=O true m (kH (μ b) o none) V Z U S g1 g2 g3 aa8;refine⟨.slice (some ⟨(μ b).blk,(μ b).off+(o+Z.toNat*(μ b).es),none⟩) (V.toNat-Z.toNat) (kH (μ b) o none-Z.toNat),?_,?_⟩
      ·simp[Instr.sliceAt,Instr.slice,run_underlying N,K,cN hT Y]
       by_cases hl0:Z=0
       ·subst hl0;simp[Addr.add_lit]
       ·have:¬kH (μ b) o none=Z.toNat:=by omega
        simp[this,Addr.add_lit,g5,Nat.add_assoc]
      ·simp only[afQ]
       refine⟨G,?_⟩;congr 1;simp only[kH];have hle:Z.toNat*(μ b).es≤m*(μ b).es:=Nat.mul_le_mul_right _ (by omega);rw[show(μ b).tot-(o+Z.toNat*(μ b).es)=(μ b).tot-o-(μ b).es*Z.toNat by rw[Nat.mul_comm (μ b).es];omega];rw[Nat.sub_mul_div]
     ·cases h
    ·cases h
   ·cases h
  ·rename_i e M
   rw[M] at N;split at h
   ·rename_i j Y
    split at h
    ·rename_i V Z U S
     split at h
     ·rename_i W
      obtain⟨rfl,rfl⟩:=W;cases h;simp only[afQ] at y;subst y;have K:=O true 0 0 0 0 U S (by omega) (by omega) (by omega) (by omega);refine⟨.slice none 0 0,?_,by simp[afQ]⟩;simp[Instr.sliceAt,Instr.slice,run_underlying N,K,cN hT Y]
     ·cases h
    ·cases h
   ·cases h
  ·rename_i m e b o M
   rw[M] at N;split at h
   ·rename_i j Y
    split at h
    ·rename_i V Z U S
     split at h
     ·rename_i W
      obtain⟨g1,g2,g3,g4⟩:=W;cases h;obtain⟨G,rfl⟩:=y.ptr;have K:=O false m m V Z U S g1 g2 g3 (Nat.le_refl _);refine⟨.slice (some ⟨(μ b).blk,(μ b).off+(o+Z.toNat*j.size),none⟩) (V.toNat-Z.toNat) (m-Z.toNat),?_,?_⟩
      ·have:¬m=Z.toNat:=by omega
       simp[Instr.sliceAt,run_underlying N,Instr.sureAddr,K,cN hT Y,this,Addr.add_lit,Nat.add_assoc]
      ·simp only[afQ];exact⟨G,rfl⟩
     ·cases h
    ·cases h
   ·cases h
  ·cases h
end
end
end Go.Eng
