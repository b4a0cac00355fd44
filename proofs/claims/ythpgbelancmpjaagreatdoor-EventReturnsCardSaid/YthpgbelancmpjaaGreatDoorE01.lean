/- See E54. -/
import Derived.Calls
import Derived.Orders
import Derived.Laws.AppendOwn
import Derived.Laws.Cells
import Derived.Laws.CopyRow
import Derived.Tactics
import Derived.Laws.StructEq
import Derived.Laws.Build
set_option linter.all false
namespace Go.Eng
theorem w0:IntKind.i64.wrap 0=0:=rfl
theorem w1:IntKind.i64.wrap 1=1:=rfl
theorem w2:IntKind.i64.wrap 2=2:=rfl
theorem w3:IntKind.i64.wrap 3=3:=rfl
theorem w4:IntKind.i64.wrap 4=4:=rfl
theorem w5:IntKind.i64.wrap 5=5:=rfl
theorem w6:IntKind.i64.wrap 6=6:=rfl
theorem w7:IntKind.i64.wrap 7=7:=rfl
theorem xE{α:Type}(e:α):∃x,x=e:=⟨_,rfl⟩
variable{b:Nat}
theorem gU{α:Type}{M:List α}{x:α}(h:M[b]? =some x)(Z:List α):(M++Z)[b]? =some x:=by rw[List.getElem?_append_left (List.getElem?_eq_some_iff.1 h).1,h]
theorem lM:(∀{α:Type} {a b:α} {l:List α},(a∈b::l)=(a=b∨a∈l))∧(∀{α:Type} {a:α},(a∈([]:List α))=False)∧∀p:Prop,(p∨False)=p:=⟨fun {_ _ _ _}=>by simp,fun {_ _}=>by simp,fun _=>by simp⟩
theorem lA:(∀{α:Type} (l:List α),[]++l=l)∧(∀{α:Type} (l:List α),l++[]=l)∧∀{α:Type} {a:α} {l k:List α},a::l++k=a::(l++k):=⟨fun _=>rfl,fun _=>List.append_nil _,rfl⟩
theorem lB:(∀{α β:Type} {f:α→β} {a:α} {l:List α},List.map f (a::l)=f a::List.map f l)∧(∀{α β:Type} {f:α→β},List.map f []=[])∧(∀{α:Type} {a b:α} {l k:List α},(a::l=b::k)=(a=b∧l=k))∧∀p:Prop,(p∧True)=p:=⟨rfl,rfl,fun {_ _ _ _ _}=>by simp,fun _=>by simp⟩
theorem gL{α:Type}{l:List α}{i:Nat}{a:α}(h:l[i]? =some a):i<l.length:=(List.getElem?_eq_some_iff.1 h).1
inductive AV where
 |undef
 |bool (b:Bool)
 |int (k:IntKind) (n:Int)
 |str (s:List UInt8)
 |ptr (b off:Nat)
 |aet
 |slice (b off len:Nat) (cap:Option Nat)
 |qF
 |map (b:Nat)
 |aeF
 |yield (b:Nat)
 |func (f:FuncId) (caps:List AV)
 |nilFunc
 |iface (t:TypeId) (v:AV)
 |nilIface
 |agg (cs:List AV)
 |tuple (cs:List AV)
 deriving Inhabited
structure Place where
 blk:Nat
 off:Nat
 tot:Nat
 es:Nat
 deriving Inhabited
def jF(p:Place)(o:Nat):Option Nat→Nat
 |some c=>c
 |none=>(p.tot-o) / p.es
mutual
def aeg(μ:Nat→Place)(n:Nat):AV→Value→Prop
 |.undef,_=>True
 |.bool b,V=>V=.bool b
 |.int k i,V=>V=.int k i
 |.str s,V=>V=.string ⟨s.toArray⟩
 |.ptr b o,V=>b<n∧V=.pointer (some ⟨(μ b).blk,(μ b).off+o,none⟩)
 |.aet,V=>V=.pointer none
 |.slice b o l c,V=>b<n∧V=.slice (some ⟨(μ b).blk,(μ b).off+o,none⟩) l (jF (μ b) o c)
 |.qF,V=>V=.slice none 0 0
 |.map b,V=>b<n∧V=.map (some (μ b).blk)
 |.yield b,V=>b<n∧V=.func (.yield (μ b).blk) #[] #[]
 |.aeF,V=>V=.map none
 |.func f X,V=>∃Z,V=.func (.func f) #[] ⟨Z⟩∧aeh μ n X Z
 |.nilFunc,V=>V=.nilFunc
 |.iface t v,V=>∃U,V=.iface t U∧aeg μ n v U
 |.nilIface,V=>V=.nilIface
 |.agg X,V=>∃Z,V=.agg ⟨Z⟩∧aeh μ n X Z
 |.tuple X,V=>∃Z,V=.tuple ⟨Z⟩∧aeh μ n X Z
def aeh(μ:Nat→Place)(n:Nat):List AV→List Value→Prop
 | [],Us=>Us=[]
 |v::vs,Us=>∃U Z,Us=U::Z∧aeg μ n v U∧aeh μ n vs Z
end
theorem bE{μ n v vs U Us}:aeh μ n (v::vs) (U::Us)↔aeg μ n v U∧aeh μ n vs Us:=by
 simp only[aeh];constructor
 ·rintro ⟨V,S,h,Z,X⟩;cases h;exact⟨Z,X⟩
 ·rintro ⟨Z,X⟩;exact⟨U,Us,rfl,Z,X⟩
theorem aeh.length{μ n}:∀{vs Us},aeh μ n vs Us→Us.length=vs.length
 | [],_,h=>by simp[aeh] at h;simp[h]
 |v::vs,_,h=>by simp only[aeh] at h;obtain⟨U,X,rfl,_,Z⟩:=h;simp[aeh.length Z]
theorem aeh.get{μ n}:∀{vs Us},aeh μ n vs Us→∀(i:Nat) v,vs[i]? =some v→∃U,Us[i]? =some U∧aeg μ n v U
 | [],_,_,i,v,h=>by simp at h
 |w::vs,_,h,i,v,hi=>by
  simp only[aeh] at h;obtain⟨U,V,rfl,Z,X⟩:=h;cases i with
  |zero=>simp at hi;subst hi;exact⟨U,by simp,Z⟩
  |succ i=>simpa using aeh.get X i v (by simpa using hi)
theorem aeh.afe{μ n}:∀{vs Us},Us.length=vs.length→(∀(i:Nat) v,vs[i]? =some v→∃U,Us[i]? =some U∧aeg μ n v U)→aeh μ n vs Us
 | [],Us,hl,_=>by simp[aeh];exact List.eq_nil_of_length_eq_zero hl
 |v::vs,[],hl,_=>by simp at hl
 |v::vs,U::Us,hl,h=>by
  refine bE.2 ⟨?_,aeh.afe (by simpa using hl) fun i u X=>?_⟩
  ·obtain⟨S,Z,V⟩:=h 0 v (by simp)
   simp at Z;subst Z;exact V
  ·simpa using h (i+1) u (by simpa using X)
theorem aeh.append{μ n}:∀{vs Z ws Ws},aeh μ n vs Z→aeh μ n ws Ws→aeh μ n (vs++ws) (Z++Ws)
 | [],_,ws,Ws,h,h' =>by simp[aeh] at h;subst h;simpa using h'
 |v::vs,_,ws,Ws,h,h' =>by simp only[aeh] at h;obtain⟨U,Z,rfl,X,V⟩:=h;exact bE.2 ⟨X,aeh.append V h'⟩
theorem aeh.take{μ n vs Us}(h:aeh μ n vs Us)(k:Nat):aeh μ n (vs.take k) (Us.take k):=by
 refine aeh.afe (by simp[h.length]) fun i v Z=>?_
 rw[List.getElem?_take] at Z;split at Z
 ·obtain⟨U,V,X⟩:=h.get i v Z
  exact⟨U,by rw[List.getElem?_take];simp[*],X⟩
 ·cases Z
theorem aeh.drop{μ n vs Us}(h:aeh μ n vs Us)(k:Nat):aeh μ n (vs.drop k) (Us.drop k):=by
 refine aeh.afe (by simp[h.length]) fun i v Z=>?_
 rw[List.getElem?_drop] at Z;obtain⟨U,X,V⟩:=h.get _ v Z;exact⟨U,by rw[List.getElem?_drop];exact X,V⟩
mutual
theorem aeg.mono{μ μ' :Nat→Place}{n n' :Nat}(H:n≤n')(hμ:∀b,b<n→μ' b=μ b):∀{v V},aeg μ n v V→aeg μ' n' v V
 |.undef,V,_=>by simp[aeg]
 |.bool b,V,h=>by simpa [aeg] using h
 |.int k i,V,h=>by simpa [aeg] using h
 |.str s,V,h=>by simpa [aeg] using h
 |.ptr b o,V,h=>by simp only[aeg] at h ⊢;exact⟨by omega,by rw[hμ b h.1];exact h.2⟩
 |.aet,V,h=>by simpa [aeg] using h
 |.slice b o l c,V,h=>by simp only[aeg] at h ⊢;exact⟨by omega,by rw[hμ b h.1];exact h.2⟩
 |.qF,V,h=>by simpa [aeg] using h
 |.map b,V,h=>by simp only[aeg] at h ⊢;exact⟨by omega,by rw[hμ b h.1];exact h.2⟩
 |.yield b,V,h=>by simp only[aeg] at h ⊢;exact⟨by omega,by rw[hμ b h.1];exact h.2⟩
 |.aeF,V,h=>by simpa [aeg] using h
 |.func f X,V,h=>by simp only[aeg] at h ⊢;obtain⟨Z,rfl,h⟩:=h;exact⟨Z,rfl,aeh.mono H hμ h⟩
 |.nilFunc,V,h=>by simpa [aeg] using h
 |.iface t v,V,h=>by simp only[aeg] at h ⊢;obtain⟨U,rfl,h⟩:=h;exact⟨U,rfl,aeg.mono H hμ h⟩
 |.nilIface,V,h=>by simpa [aeg] using h
 |.agg X,V,h=>by simp only[aeg] at h ⊢;obtain⟨Z,rfl,h⟩:=h;exact⟨Z,rfl,aeh.mono H hμ h⟩
 |.tuple X,V,h=>by simp only[aeg] at h ⊢;obtain⟨Z,rfl,h⟩:=h;exact⟨Z,rfl,aeh.mono H hμ h⟩
theorem aeh.mono{μ μ' :Nat→Place}{n n' :Nat}(H:n≤n')(hμ:∀b,b<n→μ' b=μ b):∀{vs Us},aeh μ n vs Us→aeh μ' n' vs Us
 | [],Us,h=>by simpa [aeh] using h
 |v::vs,Us,h=>by simp only[aeh] at h ⊢;obtain⟨U,Z,rfl,X,V⟩:=h;exact⟨U,Z,rfl,aeg.mono H hμ X,aeh.mono H hμ V⟩
end
mutual
def AV.ren(ρ:Nat→Option Nat):AV→AV
 |.ptr b o=>match ρ b with | some b' =>.ptr b' o | none=>.undef
 |.slice b o l c=>match ρ b with | some b' =>.slice b' o l c | none=>.undef
 |.map b=>match ρ b with | some b' =>.map b' | none=>.undef
 |.yield b=>match ρ b with | some b' =>.yield b' | none=>.undef
 |.func f Z=>.func f (AV.aez ρ Z)
 |.iface t v=>.iface t (AV.ren ρ v)
 |.agg Z=>.agg (AV.aez ρ Z)
 |.tuple Z=>.tuple (AV.aez ρ Z)
 |v=>v
def AV.aez(ρ:Nat→Option Nat):List AV→List AV
 | []=>[]
 |v::vs=>AV.ren ρ v::AV.aez ρ vs
end
mutual
theorem aeg.ren{μ μ' :Nat→Place}{n n' :Nat}{ρ:Nat→Option Nat}(hρ:∀b Z,b<n→ρ b=some Z →Z <n' ∧μ' Z =μ b):
  ∀{v V},aeg μ n v V→aeg μ' n' (v.ren ρ) V
 |.undef,V,_=>by simp[AV.ren,aeg]
 |.bool b,V,h=>by simpa [AV.ren,aeg] using h
 |.int k i,V,h=>by simpa [AV.ren,aeg] using h
 |.str s,V,h=>by simpa [AV.ren,aeg] using h
 |.ptr b o,V,h=>by
  simp only[aeg] at h;simp only[AV.ren];cases hb:ρ b with
  |none=>simp[aeg]
  |some Z =>obtain⟨X,S⟩:=hρ b Z h.1 hb;simp only[aeg];exact⟨X,by rw[S];exact h.2⟩
 |.aet,V,h=>by simpa [AV.ren,aeg] using h
 |.slice b o l c,V,h=>by
  simp only[aeg] at h;simp only[AV.ren];cases hb:ρ b with
  |none=>simp[aeg]
  |some Z =>obtain⟨X,S⟩:=hρ b Z h.1 hb;simp only[aeg];exact⟨X,by rw[S];exact h.2⟩
 |.qF,V,h=>by simpa [AV.ren,aeg] using h
 |.map b,V,h=>by
  simp only[aeg] at h;simp only[AV.ren];cases hb:ρ b with
  |none=>simp[aeg]
  |some Z =>obtain⟨X,S⟩:=hρ b Z h.1 hb;simp only[aeg];exact⟨X,by rw[S];exact h.2⟩
 |.yield b,V,h=>by
  simp only[aeg] at h;simp only[AV.ren];cases hb:ρ b with
  |none=>simp[aeg]
  |some Z =>obtain⟨X,S⟩:=hρ b Z h.1 hb;simp only[aeg];exact⟨X,by rw[S];exact h.2⟩
 |.aeF,V,h=>by simpa [AV.ren,aeg] using h
 |.func f O,V,h=>by simp only[aeg] at h;simp only[AV.ren,aeg];obtain⟨R,rfl,h⟩:=h;exact⟨R,rfl,aeh.ren hρ h⟩
 |.nilFunc,V,h=>by simpa [AV.ren,aeg] using h
 |.iface t v,V,h=>by simp only[aeg] at h;simp only[AV.ren,aeg];obtain⟨U,rfl,h⟩:=h;exact⟨U,rfl,aeg.ren hρ h⟩
 |.nilIface,V,h=>by simpa [AV.ren,aeg] using h
 |.agg O,V,h=>by simp only[aeg] at h;simp only[AV.ren,aeg];obtain⟨R,rfl,h⟩:=h;exact⟨R,rfl,aeh.ren hρ h⟩
 |.tuple O,V,h=>by simp only[aeg] at h;simp only[AV.ren,aeg];obtain⟨R,rfl,h⟩:=h;exact⟨R,rfl,aeh.ren hρ h⟩
theorem aeh.ren{μ μ' :Nat→Place}{n n' :Nat}{ρ:Nat→Option Nat}(hρ:∀b Z,b<n→ρ b=some Z →Z <n' ∧μ' Z =μ b):
  ∀{vs Us},aeh μ n vs Us→aeh μ' n' (AV.aez ρ vs) Us
 | [],Us,h=>by simpa [AV.aez,aeh] using h
 |v::vs,Us,h=>by simp only[aeh] at h;simp only[AV.aez,aeh];obtain⟨U,X,rfl,V,S⟩:=h;exact⟨U,X,rfl,aeg.ren hρ V,aeh.ren hρ S⟩
end
theorem gw(ρ:Nat→Option Nat):∀Z,AV.aez ρ Z=Z.map (AV.ren ρ)
 | []=>rfl
 |v::Z=>by simp[AV.aez,gw ρ Z]
def AV.aei:AV→Bool
 |.agg _ | .tuple _ | .undef=>false
 |_=>true
def AV.known:AV→Bool
 |.undef=>false
 |_=>true
def AV.cells:AV→List AV
 |.agg cs=>cs
 |v=>[v]
theorem aeg.afz{μ n v V}(h:aeg μ n v V)(H:v.aei=true):V.oneCell' =true:=by
 cases v<;>simp[AV.aei] at H<;>simp only[aeg] at h;case bool=>subst h;rfl
 case int=>subst h;rfl
 case str=>subst h;rfl
 case ptr=>rw[h.2];rfl
 case aet=>subst h;rfl
 case slice=>rw[h.2];rfl
 case qF=>subst h;rfl
 case map=>rw[h.2];rfl
 case yield=>rw[h.2];rfl
 case aeF=>subst h;rfl
 case func=>obtain⟨_,rfl,_⟩:=h;rfl
 case nilFunc=>subst h;rfl
 case iface=>obtain⟨_,rfl,_⟩:=h;rfl
 case nilIface=>subst h;rfl
theorem aeg.cells{μ n v V}(h:aeg μ n v V)(H:v.known=true):aeh μ n v.cells V.cells.toList:=by
 cases v<;>simp[AV.known] at H;case agg cs=>
  simp only[aeg] at h;obtain⟨X,rfl,h⟩:=h;simpa [AV.cells,Value.cells] using h
 all_goals
  have Z:=h;simp only[aeg] at h;simp only[AV.cells];first
   |(subst h;simpa [aeh,Value.cells] using Z)
   |(obtain⟨_,rfl⟩:=h;simpa [aeh,Value.cells] using Z)
   |(obtain⟨_,rfl,_⟩:=h;simpa [aeh,Value.cells] using Z)
abbrev Env:=List (Nat×AV)
def ad:Env→Nat→AV
 | [],_=>.undef
 |(k,v)::r,t=>if k=t then v else ad r t
def aeM(μ:Nat→Place)(n:Nat)(env:Env)(tmps:Array Value):Prop:=∀t,aeg μ n (ad env t) (tmps.getD t undef)
theorem aeM.mono{μ μ' :Nat→Place}{n n' :Nat}{env tmps}(H:n≤n')(hμ:∀b,b<n→μ' b=μ b)(h:aeM μ n env tmps):aeM μ' n' env tmps:=
 fun t=>(h t).mono H hμ
structure afk where
 st:LoopState
 afj:Option Code
 env:Env
 N:Nat
 ps:Array Tmp
 assign:Code
 body:Code
inductive aek where
 |qK
 |cells (own:Bool) (es:Nat) (cs:List AV)
 |map (es:List (AV×AV))
 |aeO (es:List (AV×AV))
 |loop (r:afk)
 deriving Inhabited
abbrev Mem:=List aek
def aek.own:aek→Bool
 |.cells own _ _=>own
 |.map _=>true
 |.aeO _=>false
 |.loop _=>true
 |.qK=>false
variable{s:aek}
theorem aek.aeP(h:s.own=true):s≠ .qK:=by cases s<;>simp_all[aek.own]
def dQ(mem:Mem)(b:Nat):Prop:=∃s,mem[b]? =some s∧s.own=true
variable{cs:List AV}{mem:Mem}
theorem jh{es:Nat}(h:mem[b]? =some (.cells true es cs)):dQ mem b:=⟨_,h,rfl⟩
theorem Kz{mem:Mem}{b:Nat}{es}(h:mem[b]? =some (.map es)):dQ mem b:=⟨_,h,rfl⟩
theorem Qe{mem:Mem}{b:Nat}{r}(h:mem[b]? =some (.loop r)):dQ mem b:=⟨_,h,rfl⟩
structure afB (μ:Nat→Place)(n:Nat)(r:afk)(L:Loop):Prop where
 st:L.state=r.st
 afj:L.pending=r.afj
 ps:L.params=r.ps
 assign:L.assign=r.assign
 body:L.body=r.body
 size:L.tmps.size=r.N
 tmps:aeM μ n r.env L.tmps
def Oz(μ:Nat→Place)(n:Nat)(e:AV×AV)(E:MapEntry):Prop:=aeg μ n e.1 E.key∧aeg μ n e.2 E.val
def agf(p:Place)(es:Nat)(e:TypeId):Prop:=p.es=es%1000∧(1000≤es→e+1=es / 1000)
variable{p:Place}
theorem agf.small{es:Nat}{e:TypeId}(h:p.es=es)(H:es<1000):agf p es e:=⟨by rw[h,Nat.mod_eq_of_lt H],fun Z=>by omega⟩
theorem agf.es{es:Nat}{e:TypeId}(h:agf p es e)(H:es<1000):p.es=es:=by rw[h.1,Nat.mod_eq_of_lt H]
def Dq(H:Array MapEntry)(I:Nat):Prop:=I=H.size∧∀(j:Nat) E,H[j]? =some E→E.born=j
def aeu(μ:Nat→Place)(n H:Nat)(w:World)(p:Place):aek→Prop
 |.qK=>True
 |.cells own es cs=>∃X e S,w.heap[p.blk]? =some (.cells X e S)∧agf p es e∧cs.length≤p.tot∧
   (∀(j:Nat) v,cs[j]? =some v→∃V,X[p.off+j]? =some V∧aeg μ n v V)∧
   (own=true→p.off=0∧S=(0,0)∧X.size=p.tot∧H≤p.blk)
 |.map es=>∃Z U,w.heap[p.blk]? =some (.map Z U)∧(H≤p.blk∧Dq Z U)∧Z.size=es.length∧
   ∀(j:Nat) e,es[j]? =some e→∃E,Z[j]? =some E∧Oz μ n e E
 |.aeO es=>∃Z U,w.heap[p.blk]? =some (.map Z U)∧Dq Z U∧Z.size=es.length∧
   ∀(j:Nat) e,es[j]? =some e→∃E,Z[j]? =some E∧Oz μ n e E
 |.loop r=>∃L,w.heap[p.blk]? =some (.loop L)∧H≤p.blk∧afB μ n r L
structure aes (base:Nat) (μ:Nat→Place)(mem:Mem)(w:World):Prop where
 aep:base≤w.heap.size
 slot:∀b s,mem[b]? =some s→aeu μ mem.length base w (μ b) s
 sep:∀b b' s',dQ mem b→mem[b']? =some s' →s' ≠ .qK→b≠b' →(μ b).blk≠(μ b').blk
structure Step (m0:Nat) (μ:Nat→Place)(mem:Mem)(w:World) (μ' :Nat→Place) (mem' :Mem) (w' :World):Prop where
 len:m0≤mem'.length
 agree:∀b,b<m0→μ' b=μ b
 os:w'.os=w.os
 tape:w'.tape=w.tape
 output:w'.output=w.output
 size:w.heap.size≤w'.heap.size
 frame:∀k,k<w.heap.size→(∀b,dQ mem b→(μ b).blk≠k)→w'.heap[k]? =w.heap[k]?
 owner:∀b,dQ mem' b→(μ' b).blk<w.heap.size→∃b0,dQ mem b0∧(μ b0).blk=(μ' b).blk
 drawn:w.drawn≤w'.drawn
theorem Step.refl{m0 μ mem w}(h:m0≤mem.length):Step m0 μ mem w μ mem w:=
 ⟨h,fun _ _=>rfl,rfl,rfl,rfl,Nat.le_refl _,fun _ _ _=>rfl,fun b Z _=>⟨b,Z,rfl⟩,Nat.le_refl _⟩
theorem Step.trans{m0 μ mem w μ' mem' w' μ'' mem'' w''}(h:Step m0 μ mem w μ' mem' w')(h' :Step m0 μ' mem' w' μ'' mem'' w''):
  Step m0 μ mem w μ'' mem'' w'' :=by
 refine⟨h'.len,fun b Z=>(h'.agree b Z).trans (h.agree b Z),h'.os.trans h.os,h'.tape.trans h.tape,h'.output.trans h.output,
  Nat.le_trans h.size h'.size,fun k X S=>?_,fun b Z R=>?_,Nat.le_trans h.drawn h'.drawn⟩
 ·rw[h'.frame k (Nat.lt_of_lt_of_le X h.size) ?_,h.frame k X S]
  intro b Z O;obtain⟨V,M,U⟩:=h.owner b Z (O▸X);exact S V M (U.trans O)
 ·obtain⟨L,U,N⟩:=h'.owner b Z (Nat.lt_of_lt_of_le R h.size)
  obtain⟨V,h3,K⟩:=h.owner L U (N▸R);exact⟨V,h3,K.trans N⟩
theorem Step.mono{m0 m1 μ mem w μ' mem' w'}(h:Step m1 μ mem w μ' mem' w')(H:m0≤m1):Step m0 μ mem w μ' mem' w' :=
 ⟨Nat.le_trans H h.len,fun b Z=>h.agree b (Nat.lt_of_lt_of_le Z H),h.os,h.tape,h.output,h.size,h.frame,h.owner,h.drawn⟩
theorem aes.afg{base μ mem w w'}(h:aes base μ mem w)(H:w'.heap=w.heap):aes base μ mem w' :=by
 refine⟨by rw[H];exact h.aep,fun b s Z=>?_,h.sep⟩;have:=h.slot b s Z;cases s with
 |qK=>trivial
 |cells own esz cs=>simp only[aeu] at this ⊢;rw[H];exact this
 |map es=>simp only[aeu] at this ⊢;rw[H];exact this
 |aeO es=>simp only[aeu] at this ⊢;rw[H];exact this
 |loop r=>simp only[aeu] at this ⊢;rw[H];exact this
theorem Step.drew{m0 μ mem w}(h:m0≤mem.length):Step m0 μ mem w μ mem w.drew:=
 ⟨h,fun _ _=>rfl,rfl,rfl,rfl,Nat.le_refl _,fun _ _ _=>rfl,fun b Z _=>⟨b,Z,rfl⟩,Nat.le_succ _⟩
variable{w:World}
theorem aeu.mono{μ μ' :Nat→Place}{n n' base:Nat}{w' :World}(H:n≤n')(hμ:∀b,b<n→μ' b=μ b)(I:s≠ .qK→w'.heap[p.blk]? =w.heap[p.blk]?)(h:aeu μ n base w p s):aeu μ' n' base w' p s:=by
 cases s with
 |qK=>trivial
 |cells own esz cs=>
  simp only[aeu] at h ⊢;obtain⟨U,e,fr,Z,S,D,X,h3⟩:=h;refine⟨U,e,fr,by rw[I (by simp),Z],S,D,fun j v C=>?_,h3⟩;obtain⟨V,hV,B⟩:=X j v C;exact⟨V,hV,B.mono H hμ⟩
 |map es=>
  simp only[aeu] at h ⊢;obtain⟨R,O,Z,X,h3,N⟩:=h;refine⟨R,O,by rw[I (by simp),Z],X,h3,fun j e M=>?_⟩;obtain⟨E,K,G,F⟩:=N j e M;exact⟨E,K,G.mono H hμ,F.mono H hμ⟩
 |aeO es=>
  simp only[aeu] at h ⊢;obtain⟨R,O,Z,X,h3,N⟩:=h;refine⟨R,O,by rw[I (by simp),Z],X,h3,fun j e M=>?_⟩;obtain⟨E,K,G,F⟩:=N j e M;exact⟨E,K,G.mono H hμ,F.mono H hμ⟩
 |loop r=>
  simp only[aeu] at h ⊢;obtain⟨L,Z,X,h3⟩:=h;exact⟨L,by rw[I (by simp),Z],X,{ h3 with tmps:=h3.tmps.mono H hμ }⟩
theorem aeu.aeY{μ n base w p s}(h:aeu μ n base w p s)(H:s≠ .qK):p.blk<w.heap.size:=by
 cases s with
 |qK=>exact absurd rfl H
 |cells own esz cs=>simp only[aeu] at h;obtain⟨X,e,S,Z,_⟩:=h;exact(Array.getElem?_eq_some_iff.1 Z).1
 |map es=>simp only[aeu] at h;obtain⟨V,U,Z,_⟩:=h;exact(Array.getElem?_eq_some_iff.1 Z).1
 |aeO es=>simp only[aeu] at h;obtain⟨V,U,Z,_⟩:=h;exact(Array.getElem?_eq_some_iff.1 Z).1
 |loop r=>simp only[aeu] at h;obtain⟨L,Z,_⟩:=h;exact(Array.getElem?_eq_some_iff.1 Z).1
def upd(μ:Nat→Place)(b:Nat)(p:Place):Nat→Place:=fun x=>if x=b then p else μ x
theorem eH{μ b p}:upd μ b p b=p:=by simp[upd]
theorem wF{μ b p x}(h:x<b):upd μ b p x=μ x:=by simp[upd];intro Z;omega
theorem kQ(H:b<mem.length):dQ (mem++[s]) b↔dQ mem b:=by simp[dQ,List.getElem?_append_left H]
theorem gF(w:World)(o:Obj){k:Nat}(h:k<w.heap.size):(w.alloc o).heap[k]? =w.heap[k]? :=heap_alloc_old w o k h
theorem aes.push{base μ mem w}(h:aes base μ mem w)(o:Obj)(s:aek)(p:Place)(H:p.blk=w.heap.size)(I:aeu (upd μ mem.length p) (mem.length+1) base (w.alloc o) p s):
  aes base (upd μ mem.length p) (mem++[s]) (w.alloc o)∧
  Step mem.length μ mem w (upd μ mem.length p) (mem++[s]) (w.alloc o):=by
 have hμ:∀b,b<mem.length→upd μ mem.length p b=μ b:=fun b Z=>wF Z
 constructor
 ·refine⟨by simp;have:=h.aep;omega,fun b t S=>?_,fun b X D Z N M C=>?_⟩
  ·rw[List.length_append,List.length_singleton]
   by_cases L:b<mem.length
   ·rw[List.getElem?_append_left L] at S
    rw[hμ b L];refine(h.slot b t S).mono (Nat.le_succ _) hμ fun M=>?_
    exact gF w o ((h.slot b t S).aeY M)
   ·have R:b=mem.length:=by have:=gL S;simp at this;omega
    subst R;simp at S;subst S;rw[eH];exact I
  ·by_cases V:b<mem.length<;>by_cases K:X <mem.length
   ·rw[hμ b V,hμ X K]
    exact h.sep b X D ((kQ V).1 Z) (by rwa [List.getElem?_append_left K] at N) M C
   ·have R:X =mem.length:=by have:=gL N;simp at this;omega
    subst R;rw[eH,hμ b V,H];have:(μ b).blk<w.heap.size:=by obtain⟨F,U,G⟩:=(kQ V).1 Z;exact(h.slot b _ U).aeY (aek.aeP G)
    omega
   ·have R:b=mem.length:=by obtain⟨F,U,G⟩:=Z;have:=gL U;simp at this;omega
    subst R;rw[eH,hμ X K,H];have:=(h.slot X D (by rwa [List.getElem?_append_left K] at N)).aeY M;omega
   ·have R:X =mem.length:=by have:=gL N;simp at this;omega
    have O:b=mem.length:=by obtain⟨F,U,G⟩:=Z;have:=gL U;simp at this;omega
    omega
 ·refine⟨by simp,hμ,rfl,rfl,rfl,by simp,fun k B _=>gF w o B,fun b Z L=>?_,Nat.le_refl _⟩
  by_cases V:b<mem.length
  ·exact⟨b,(kQ V).1 Z,by rw[hμ b V]⟩
  ·have O:b=mem.length:=by obtain⟨F,U,G⟩:=Z;have:=gL U;simp at this;omega
   subst O;rw[eH,H] at L;omega
theorem aes.write{base μ mem w}(h:aes base μ mem w){b:Nat}{s s' :aek}(I:mem[b]? =some s)(J:dQ mem b)(abp :s' ≠ .qK→dQ (mem.set b s') b){w' :World}(W:w'.drawn=w.drawn)(Y:w'.os=w.os)(aaq:w'.tape=w.tape)(abG:w'.output=w.output)(Yq:w'.heap.size=w.heap.size)(H:∀k,k≠(μ b).blk→w'.heap[k]? =w.heap[k]?)(hs:aeu μ mem.length base w' (μ b) s'):
  aes base μ (mem.set b s') w' ∧Step mem.length μ mem w μ (mem.set b s') w' :=by
 have G:b<mem.length:=gL I;have own:∀x,dQ (mem.set b s') x→dQ mem x:=by
  intro x X;by_cases Z:x=b
  ·subst Z;exact J
  ·obtain⟨L,S,R⟩:=X
   rw[List.getElem?_set_ne (Ne.symm Z)] at S;exact⟨L,S,R⟩
 constructor
 ·refine⟨by rw[Yq];exact h.aep,fun x t V=>?_,fun x O t X K N U=>?_⟩
  ·rw[List.length_set]
   by_cases Z:x=b
   ·subst Z
    rw[List.getElem?_set_self G] at V;cases V;exact hs
   ·rw[List.getElem?_set_ne (Ne.symm Z)] at V
    refine(h.slot x t V).mono (Nat.le_refl _) (fun _ _=>rfl) fun N=>H _ ?_
    exact fun M=>h.sep b x t J V N (Ne.symm Z) M.symm
  ·by_cases Z:O =b
   ·subst Z
    have:=h.sep x O s (own x X) I ?_ U
    ·exact this
    ·obtain⟨L,S,R⟩:=J
     rw[S] at I;cases I;exact aek.aeP R
   ·rw[List.getElem?_set_ne (Ne.symm Z)] at K
    exact h.sep x O t (own x X) K N U
 ·refine⟨by simp,fun _ _=>rfl,Y,aaq,abG,by omega,fun k D F=>H k ?_,fun x X _=>⟨x,own x X,rfl⟩,Nat.le_of_eq W.symm⟩
  exact fun M=>F b J M.symm
structure TyI where
 desc:TypeDesc
 size:Nat
 bytes:Nat
 zero:Value
 afY:Bool
 deriving Inhabited
structure agV (P:Program)(t:TypeId)(i:TyI):Prop where
 desc:P.underlying t=some i.desc
 info:∃f,P.info? t=some f∧f.size=i.size∧f.bytes=i.bytes∧f.zero=some i.zero
 afD:i.zero.cells.size=i.size
 afY:i.afY=true→P.stoodInHeld t=false∧P.eqGuardType P.depth t=false
def TyI.isAgg(i:TyI):Bool:=match i.desc with | .struct _ | .array _ _=>true | _=>false
def cK(P:Program)(T:TypeId→Option TyI):Prop:=∀t i,T t=some i→agV P t i
def jx:Value→AV
 |.bool b=>.bool b
 |.int k n=>.int k n
 |.string s=>.str s.data.toList
 |.pointer none=>.aet
 |.slice none 0 0=>.qF
 |.map none=>.aeF
 |.nilFunc=>.nilFunc
 |.nilIface=>.nilIface
 |_=>.undef
def iU:Value→AV
 |.agg cs=>.agg (cs.toList.map jx)
 |v=>jx v
theorem oI(μ:Nat→Place)(n:Nat)(v:Value):aeg μ n (jx v) v:=by unfold jx;split<;>simp[aeg]
theorem my(μ:Nat→Place)(n:Nat):∀Z:List Value,aeh μ n (Z.map jx) Z
 | []=>by simp[aeh]
 |v::Z=>bE.2 ⟨oI μ n v,my μ n Z⟩
theorem xh(μ:Nat→Place)(n:Nat)(v:Value):aeg μ n (iU v) v:=by
 unfold iU;split
 next cs=>simp only[aeg];exact⟨cs.toList,by simp,my μ n _⟩
 ·exact oI μ n _
def get(env:Env):Operand→AV
 |.tmp t=>ad env t
 |.const v=>iU v
 |.global _=>.undef
 |.func f=>.func f []
def Wk(env:Env)(H:Array Operand):List AV:=H.toList.map (get env)
theorem aZ{μ n env}{a:Act}(h:aeM μ n env a.tmps)(x:Operand):aeg μ n (get env x) (a.eval x):=by
 cases x with
 |tmp t=>exact h t
 |const v=>exact xh μ n v
 |global g=>simp[get,aeg]
 |func f=>simp only[get,aeg,Act.eval];exact⟨[],rfl,by simp[aeh]⟩
theorem zZ{μ n env}{a:Act}(h:aeM μ n env a.tmps)(H:List Operand):aeh μ n (H.map (get env)) (H.map a.eval):=by
 induction H with
 |nil=>simp[aeh]
 |cons x H ih=>exact bE.2 ⟨aZ h x,ih⟩
theorem aeM.put{μ n env}{a:Act}{d:Nat}{v:AV}{V:Value}(h:aeM μ n env a.tmps)(hd:d<a.tmps.size)(H:aeg μ n v V):
  aeM μ n ((d,v)::env) (a.put (some d) V).tmps:=by
 intro t;simp only[ad,Act.put];by_cases Z:d=t
 ·subst Z
  simp only[if_true,Array.getD_eq_getD_getElem?,Array.getElem?_setIfInBounds_self];simpa [hd] using H
 ·simp only[Z,if_false,Array.getD_eq_getD_getElem?,Array.getElem?_setIfInBounds_ne Z]
  simpa [Array.getD_eq_getD_getElem?] using h t
def gb:Nat:=9223372036854775807
def W6(H:BinOp)(k:IntKind)(a b:Int):Option AV:=
 match H with
 |.add=>some (.int k (k.wrap (a+b)))
 |.sub=>some (.int k (k.wrap (a-b)))
 |.mul=>some (.int k (k.wrap (a*b)))
 |.quo=>if b=0 then none else some (.int k (k.wrap (a.tdiv b)))
 |.rem=>if b=0 then none else some (.int k (a.tmod b))
 |.eql=>some (.bool (decide (a=b)))
 |.neq=>some (.bool (!decide (a=b)))
 |.lss=>some (.bool (decide (a<b)))
 |.leq=>some (.bool (decide (a≤b)))
 |.gtr=>some (.bool (decide (b<a)))
 |.geq=>some (.bool (decide (b≤a)))
 |_=>none
def W7(H:BinOp)(s t:List UInt8):Option AV:=
 match H with
 |.add=>if s.length+t.length≤gb then some (.str (s++t)) else none
 |.eql=>some (.bool (s==t))
 |.neq=>some (.bool (!(s==t)))
 |.lss=>some (.bool (Op.bytesLess s t))
 |.leq=>some (.bool (Op.bytesLess s t||s==t))
 |.gtr=>some (.bool (!(Op.bytesLess s t||s==t)))
 |.geq=>some (.bool (!Op.bytesLess s t))
 |_=>none
def iY(i:TyI)(cs:List AV)(off:Nat):Option AV:=
 if i.isAgg then (if off+i.size≤cs.length then some (.agg ((cs.drop off).take i.size)) else none) else cs[off]?
def QD(T:TypeId→Option TyI)(q:TypeId→AV→AV→Option Bool)(H I:List AV):List Field→Option Bool
 | []=>some true
 |f::fs=>
  if f.name = "_" then none else
  match T f.type with
  |none=>none
  |some i=>
   match iY i H f.offset,iY i I f.offset with
   |some a,some b=>
    match q f.type a b,QD T q H I fs with
    |some p,some r=>some (p&&r)
    |_,_=>none
   |_,_=>none
def Vc(q:AV→AV→Option Bool)(i:TyI)(H I:List AV):List Nat→Option Bool
 | []=>some true
 |j::js=>
  match iY i H (j*i.size),iY i I (j*i.size) with
  |some a,some b=>
   match q a b,Vc q i H I js with
   |some p,some r=>some (p&&r)
   |_,_=>none
  |_,_=>none
def jU(T:TypeId→Option TyI):Nat→TypeId→AV→AV→Option Bool
 |0,_,_,_=>none
 |d+1,t,x,y=>
  match T t with
  |none=>none
  |some i=>
   match i.desc,x,y with
   |.bool,.bool a,.bool b=>some (a==b)
   |.int _,.int k a,.int k' b=>if k=k' then some (decide (a=b)) else none
   |.string,.str a,.str b=>some (a==b)
   |.struct fs,.agg xs,.agg ys=>if i.afY then QD T (jU T d) xs ys fs.toList else none
   |.array n e,.agg xs,.agg ys=>if i.afY then (match T e with
    |some j=>Vc (jU T d e) j xs ys (List.range' 0 n)
    |none=>none) else none
   |_,_,_=>none
def rh:Operand→Bool
 |.const _=>true
 |_=>false
def Vy(T:TypeId→Option TyI)(t:TypeId)(r c:Bool)(x y:AV):Option Bool:=
 match T t with
 |none=>none
 |some i=>
  match i.desc,x,y with
  |.slice _,.slice _ _ _ _,.qF=>some false
  |.slice _,.qF,.qF=>some true
  |.pointer _,.aet,.aet=>some true
  |.pointer _,.ptr _ _,.aet=>some false
  |.func _ _ _,.nilFunc,.nilFunc=>some true
  |.func _ _ _,.func _ _,.nilFunc=>some false
  |.interface _,.nilIface,.nilIface=>if r||c then some true else none
  |.interface _,.iface _ _,.nilIface=>some false
  |_,_,_=>none
def W4(T:TypeId→Option TyI)(H:BinOp)(t:TypeId)(r c:Bool)(x y:AV):Option AV:=
 match x,y with
 |.int k a,.int k' b=>if k=k' then W6 H k a b else none
 |.str s,.str t=>W7 H s t
 |.bool a,.bool b=>match T t with
  |some i=>match i.desc,H with
   |.bool,.eql=>some (.bool (a==b))
   |.bool,.neq=>some (.bool (!(a==b)))
   |_,_=>none
  |none=>none
 |.agg xs,.agg ys=>match H with
  |.eql=>(jU T 20 t (.agg xs) (.agg ys)).map .bool
  |.neq=>(jU T 20 t (.agg xs) (.agg ys)).map fun b=>.bool (!b)
  |_=>none
 |x,y=>match H with
  |.eql=>(Vy T t r c x y).map .bool
  |.neq=>(Vy T t r c x y).map fun b=>.bool (!b)
  |_=>none
def pP(H:Nat→Option (Nat×Nat))(cells:List AV):List (Nat×AV)→Option (List AV)
 | []=>some cells
 |(i,v)::rest=>
  match H i with
  |none=>none
  |some (off,size)=>
   if v.known&&decide (v.cells.length=size)&&decide (off+size≤cells.length) then
    pP H (cells.take off++v.cells++cells.drop (off+size)) rest
   else none
def aD(T:TypeId→Option TyI)(H:Array Field)(i:Nat):Option (Nat×Nat):=
 match H[i]? with
 |some f=>match T f.type with
  |some j=>some (f.offset,j.size)
  |none=>none
 |none=>none
def bJ(T:TypeId→Option TyI)(t:TypeId)(parts:List (Nat×AV)):Option AV:=
 match T t with
 |none=>none
 |some i=>
  match i.desc with
  |.struct fs=>if fs.all (fun f=>(T f.type).isSome) then (pP (aD T fs) (iU i.zero).cells parts).map .agg else none
  |.array _ e=>match T e with
   |some j=>(pP (fun k=>some (k*j.size,j.size)) (iU i.zero).cells parts).map .agg
   |none=>none
  |_=>none
def zR(T:TypeId→Option TyI)(s d:TypeId)(x:AV):Option AV:=
 match T s,T d with
 |some i,some j=>
  match i.desc,j.desc,x with
  |.int _,.int k,.int _ n=>some (.int k (k.wrap n))
  |.string,.string,.str s=>some (.str s)
  |_,_,_=>none
 |_,_=>none
def DH(n:Nat):Option AV→Option Int
 |none=>some n
 |some (.int _ h)=>some h
 |_=>none
def Kk:Option AV→Option Int
 |none=>some 0
 |some (.int _ h)=>some h
 |_=>none
def NF(T:TypeId→Option TyI)(mem:Mem)(t:TypeId)(x:AV)(H I:Option AV):Option AV:=
 match T t with
 |none=>none
 |some i=>
  match i.desc,x with
  |.string,.str s=>
   match DH s.length I,Kk H with
   |some h,some l=>if 0≤l∧l≤h∧h≤s.length then some (.str ((s.drop l.toNat).take (h.toNat-l.toNat))) else none
   |_,_=>none
  |.slice e,.slice b o n c=>
   match T e,mem[b]? with
   |some j,some (.cells _ es cs)=>
    match DH n I,Kk H with
    |some h,some l=>
     if 0≤l∧l≤h∧h≤n∧(l=0∨l<n)∧es=j.size∧0<es∧es<1000∧o+n*es≤cs.length∧c=none then
      some (.slice b (o+l.toNat*es) (h.toNat-l.toNat) none) else none
    |_,_=>none
   |_,_=>none
  |.slice e,.qF=>
   match T e with
   |some _=>
    match DH 0 I,Kk H with
    |some h,some l=>if h=0∧l=0 then some .qF else none
    |_,_=>none
   |none=>none
  |.array n e,.ptr b o=>
   match T e with
   |some j=>
    match DH n I,Kk H with
    |some h,some l=>
     if 0≤l∧l≤h∧h≤n∧l<n then some (.slice b (o+l.toNat*j.size) (h.toNat-l.toNat) (some (n-l.toNat))) else none
    |_,_=>none
   |none=>none
  |_,_=>none
def sg(T:TypeId→Option TyI)(t:TypeId)(x i:AV):Option AV:=
 match T t with
 |none=>none
 |some ti=>
  match ti.desc,x,i with
  |.slice e,.slice b o n _,.int _ k=>match T e with
   |some j=>if 0≤k∧k<n then some (.ptr b (o+k.toNat*j.size)) else none
   |none=>none
  |.array n e,.ptr b o,.int _ k=>match T e with
   |some j=>if 0≤k∧k<n then some (.ptr b (o+k.toNat*j.size)) else none
   |none=>none
  |_,_,_=>none
def ND(T:TypeId→Option TyI)(t:TypeId)(x i:AV):Option AV:=
 match T t with
 |none=>none
 |some ti=>
  match ti.desc,x,i with
  |.array n e,.agg cs,.int _ k=>match T e with
   |some j=>if 0≤k∧k<n then iY j cs (k.toNat*j.size) else none
   |none=>none
  |.string,.str s,.int _ k=>if 0≤k then (match s[k.toNat]? with | some c=>some (.int .u8 c.toNat) | none=>none) else none
  |_,_,_=>none
def vw(T:TypeId→Option TyI)(t:TypeId)(x:AV)(f:Nat):Option AV:=
 match T t with
 |none=>none
 |some ti=>
  match ti.desc,x with
  |.struct fs,.agg cs=>match fs[f]? with
   |some fd=>match T fd.type with
    |some j=>iY j cs fd.offset
    |none=>none
   |none=>none
  |_,_=>none
def sf(T:TypeId→Option TyI)(t:TypeId)(x:AV)(f:Nat):Option AV:=
 match T t with
 |none=>none
 |some ti=>
  match ti.desc,x with
  |.struct fs,.ptr b o=>match fs[f]? with
   |some fd=>match T fd.type with
    |some j=>if j.size=0 then none else some (.ptr b (o+fd.offset))
    |none=>none
   |none=>none
  |_,_=>none
def Vx(T:TypeId→Option TyI)(t:TypeId)(mem:Mem)(x:AV):Option AV:=
 match T t with
 |none=>none
 |some ti=>
  match ti.desc,x with
  |.string,.str s=>some (.int .i64 s.length)
  |.slice _,.slice _ _ n _=>some (.int .i64 n)
  |.slice _,.qF=>some (.int .i64 0)
  |.array n _,_=>some (.int .i64 n)
  |.map _ _,.aeF=>some (.int .i64 0)
  |.map _ _,.map b=>match mem[b]? with
   |some (.map es)=>some (.int .i64 es.length)
   |_=>none
  |_,_=>none
def PC(T:TypeId→Option TyI)(mem:Mem)(t:TypeId)(x:AV):Option AV:=
 match T t,x with
 |some i,.ptr b o=>match mem[b]? with
  |some (.cells _ _ cs)=>iY i cs o
  |_=>none
 |_,_=>none
def sW(T:TypeId→Option TyI)(mem:Mem)(t:TypeId)(x v:AV):Option Mem:=
 match T t,x with
 |some i,.ptr b o=>match mem[b]? with
  |some (.cells true es cs)=>
   if v.known&&decide (v.cells.length=i.size)&&decide (o+i.size≤cs.length)&&v.cells.all AV.aei then
    some (mem.set b (.cells true es (cs.take o++v.cells++cs.drop (o+i.size)))) else none
  |_=>none
 |_,_=>none
variable{i:TyI}{k:IntKind}{op:BinOp}{v:AV}{x:Sem Value}
section
variable {P:Program}{T:TypeId→Option TyI}{μ:Nat→Place}{n:Nat}
def Val(P:Program)(x:Sem Value)(w:World) (μ:Nat→Place)(n:Nat)(v:AV):Prop:=∃V,x.run P w=.ok V w∧aeg μ n v V
theorem Val.int{i:Int}(h:x.run P w=.ok (.int k i) w):Val P x w μ n (.int k i):=⟨_,h,by simp[aeg]⟩
theorem Val.bool{b:Bool}(h:x.run P w=.ok (.bool b) w):Val P x w μ n (.bool b):=⟨_,h,by simp[aeg]⟩
theorem Val.str{s:List UInt8}(h:x.run P w=.ok (.string ⟨s.toArray⟩) w):Val P x w μ n (.str s):=⟨_,h,by simp[aeg]⟩
theorem PA{a b:Int}(h:W6 op k a b=some v)(t:TypeId)(w:World):
  Val P (binOp op t (.int k a) (.int k b)) w μ n v:=by
 cases op<;>simp only[W6,Option.some.injEq,reduceCtorEq] at h;case add=>subst h;exact .int (by simp[binOp,Op.intArith])
 case sub=>subst h;exact .int (by simp[binOp,Op.intArith])
 case mul=>subst h;exact .int (by simp[binOp,Op.intArith])
 case quo=>
  split at h
  ·cases h
  next Z=>cases h;exact .int (by simp[binOp,Op.intDiv,Z])
 case rem=>
  split at h
  ·cases h
  next Z=>cases h;exact .int (by simp[binOp,Op.intDiv,Z])
 case eql=>subst h;exact .bool (by simp[binOp,Op.intCmp];try (rw[Bool.eq_iff_iff];simp))
 case neq=>subst h;exact .bool (by simp[binOp,Op.intCmp];try (rw[Bool.eq_iff_iff];simp))
 case lss=>subst h;exact .bool (by simp[binOp,Op.intCmp])
 case leq=>subst h;exact .bool (by simp[binOp,Op.intCmp])
 case gtr=>subst h;exact .bool (by simp[binOp,Op.intCmp])
 case geq=>subst h;exact .bool (by simp[binOp,Op.intCmp])
theorem PE{s u:List UInt8}(h:W7 op s u=some v)(t:TypeId)(w:World):
  Val P (binOp op t (.string ⟨s.toArray⟩) (.string ⟨u.toArray⟩)) w μ n v:=by
 cases op<;>simp only[W7,Option.some.injEq,reduceCtorEq] at h;case add=>
  split at h
  ·rename_i X
   cases h;refine .str ?_;have:¬((9223372036854775807:Int)<((s.length:Int)+(u.length:Int))):=by simp only[gb] at X;omega
   have V:(ByteArray.mk s.toArray).size=s.length:=by simp[ByteArray.size]
   have U:(ByteArray.mk u.toArray).size=u.length:=by simp[ByteArray.size]
   have Z:(ByteArray.mk s.toArray)++(ByteArray.mk u.toArray)=ByteArray.mk (s++u).toArray:=by apply ByteArray.ext;simp
   simp[binOp,Op.stringOp,V,U,this,Z]
  ·cases h
 case eql=>subst h;exact .bool (by simp[binOp,Op.stringOp])
 case neq=>subst h;exact .bool (by simp[binOp,Op.stringOp])
 case lss=>subst h;exact .bool (by simp[binOp,Op.stringOp])
 case leq=>subst h;exact .bool (by simp[binOp,Op.stringOp])
 case gtr=>subst h;exact .bool (by simp[binOp,Op.stringOp])
 case geq=>subst h;exact .bool (by simp[binOp,Op.stringOp])
section
variable (hT:cK P T){t:TypeId}
include hT t
section
variable (h:T t=some i)
include h
theorem vK(w:World):(Go.isAgg t).run P w=.ok i.isAgg w:=by have Z:=(hT t i h).desc;simp only[Go.isAgg,Sem.run_bind,run_underlying Z,Result.andThen_ok,TyI.isAgg];cases i.desc<;>rfl
theorem cD(w:World):(Go.sizeOf t).run P w=.ok i.size w:=by obtain⟨f,Z,X,_,_⟩:=(hT t i h).info;simp[Go.sizeOf,typeInfo,Z,X]
theorem yR(w:World):∃f,(typeInfo t).run P w=.ok f w∧f.size=i.size∧f.bytes=i.bytes∧f.zero=some i.zero:=by obtain⟨f,Z,X,V,U⟩:=(hT t i h).info;exact⟨f,by simp[typeInfo,Z],X,V,U⟩
theorem eJ(w:World):(zeroValue t).run P w=.ok i.zero w:=by obtain⟨f,Z,V,U,X⟩:=yR hT h w;simp[zeroValue,Z,X]
end
theorem iG(I:T t=some i){H:List Value}{off:Nat}(h:iY i cs off=some v)(hr:aeh μ n cs H)(w:World):Val P (part t ⟨H⟩ off) w μ n v:=by
 unfold iY at h;simp only[part,Val];cases hi:i.isAgg with
 |true=>
  simp only[hi,if_true] at h;split at h
  ·rename_i V
   cases h;have S:=hr.length;refine⟨.agg (Array.extract ⟨H⟩ off (off+i.size)),?_,?_⟩
   ·simp[vK hT I,cD hT I,hi]
   ·simp only[aeg]
    refine⟨(H.drop off).take i.size,?_,(hr.drop off).take i.size⟩;congr 1;apply Array.ext';simp[List.extract]
  ·cases h
 |false=>
  simp only[hi,Bool.false_eq_true,if_false] at h;obtain⟨U,Z,X⟩:=hr.get off v h;exact⟨U,by simp[vK hT I,hi,Z],X⟩
end
theorem aeg.bool{b V}(h:aeg μ n (.bool b) V):V=.bool b:=by simpa [aeg] using h
theorem aeg.int{k i V}(h:aeg μ n (.int k i) V):V=.int k i:=by simpa [aeg] using h
theorem aeg.str{s V}(h:aeg μ n (.str s) V):V=.string ⟨s.toArray⟩:=by simpa [aeg] using h
theorem aeg.agg{cs V}(h:aeg μ n (.agg cs) V):∃Z,V=.agg ⟨Z⟩∧aeh μ n cs Z:=by simpa only[aeg] using h
theorem DG(hT:cK P T){d:Nat}{q:TypeId→AV→AV→Option Bool}
  (I:∀{t:TypeId}{x y:AV}{b:Bool}{X Y:Value},q t x y=some b→aeg μ n x X→aeg μ n y Y→∀(w:World),(Op.equalIn d t X Y).run P w=.ok b w)
  {J W:List AV}{Xs Ys:List Value}(hx:aeh μ n J Xs) (hy:aeh μ n W Ys) (w:World):
  ∀{H:List Field}{b:Bool},QD T q J W H=some b→(Op.eqFields d ⟨Xs⟩ ⟨Ys⟩ H).run P w=.ok b w
 | [],b,h=>by simp only[QD,Option.some.injEq] at h;subst h;simp[Op.eqFields]
 |f::H,b,h=>by
  rw[QD] at h;split at h
  ·cases h
  ·rename_i Z
   split at h
   ·cases h
   ·rename_i i S
    split at h
    ·rename_i a c R O
     split at h
     ·rename_i p r N M
      cases h;obtain⟨A,L,V⟩:=iG (P:=P) (μ:=μ) (n:=n) hT S R hx w;obtain⟨C,K,U⟩:=iG (P:=P) (μ:=μ) (n:=n) hT S O hy w;have G:=I N V U w;have F:=DG hT I hx hy w M;simp only[Op.eqFields,Z,ne_eq,not_false_eq_true,if_true,Sem.run_bind,L,K,G,Result.andThen_ok];cases p
      ·simp
      ·simp[F]
     ·cases h
    ·cases h
theorem DF(hT:cK P T){d:Nat}{e:TypeId}{i:TyI}(H:T e=some i){q:AV→AV→Option Bool}
  (J:∀{x y:AV}{b:Bool}{X Y:Value},q x y=some b→aeg μ n x X→aeg μ n y Y→∀(w:World),(Op.equalIn d e X Y).run P w=.ok b w)
  {W ys:List AV}{Xs Ys:List Value}(hx:aeh μ n W Xs) (hy:aeh μ n ys Ys) (w:World):
  ∀{I:List Nat}{b:Bool},Vc q i W ys I=some b→
   ((forIn I ((none,()):Option Bool×Unit) fun j _=>(do
     let a ←part e ⟨Xs⟩ (j*i.size)
     let c ←part e ⟨Ys⟩ (j*i.size)
     let r ←Op.equalIn d e a c
     if (!r)=true then pure (ForInStep.done (some false,())) else pure (ForInStep.yield (none,())):Sem (ForInStep (Option Bool×Unit)))).run P w=
    .ok (if b then none else some false,()) w)
 | [],b,h=>by simp only[Vc,Option.some.injEq] at h;subst h;simp
 |j::I,b,h=>by
  rw[Vc] at h;split at h
  ·rename_i a c U S
   split at h
   ·rename_i p r R O
    cases h;obtain⟨A,N,Z⟩:=iG (P:=P) (μ:=μ) (n:=n) hT H U hx w;obtain⟨C,M,V⟩:=iG (P:=P) (μ:=μ) (n:=n) hT H S hy w;have L:=J R Z V w;have K:=DF hT H J hx hy w O;simp only[List.forIn_cons,Sem.run_bind,N,M,L,Result.andThen_ok];cases p
    ·simp
    ·simp only[Bool.not_true,Bool.false_eq_true,if_false,Sem.run_pure,Result.andThen_ok,Bool.true_and]
     exact K
   ·cases h
  ·cases h
theorem iC(hT:cK P T):∀(d:Nat) {t:TypeId} {x y:AV} {b:Bool} {X Y:Value},jU T d t x y=some b→aeg μ n x X→aeg μ n y Y→
  ∀(k:Nat) (w:World),(Op.equalIn (d+k) t X Y).run P w=.ok b w
 |0,_,_,_,_,_,_,h,_,_,_,_=>by simp[jU] at h
 |d+1,t,x,y,b,X,Y,h,hx,hy,k,w=>by
  rw[jU] at h;rw[show d+1+k=d+k+1 by omega];cases ht:T t with
  |none=>rw[ht] at h;cases h
  |some i=>
   rw[ht] at h;simp only at h;have Z:=(hT t i ht).desc;split at h
   ·rename_i V
    cases h;rw[hx.bool,hy.bool];rw[V] at Z;exact run_equalIn_bool' w _ t _ _ Z
   ·rename_i K o a W J V
    split at h
    ·rename_i G
     cases h;subst G;rw[hx.int,hy.int];rw[V] at Z;rw[run_equalIn_int w _ t _ K _ _ Z];congr 1
    ·cases h
   ·rename_i V
    cases h;rw[hx.str,hy.str];rw[V] at Z;rw[run_equalIn_string w _ t _ _ Z];simp
   ·rename_i F D C V
    split at h
    ·rename_i B
     obtain⟨A,rfl,S⟩:=hx.agg;obtain⟨u,rfl,U⟩:=hy.agg;rw[V] at Z;have M:P.fieldsOf t=F:=by simp[Program.fieldsOf,Z]
     rw[run_equalIn_agg w _ t _ _ (by rw[Z,M]) ((hT t i ht).afY B).1,M];exact DG hT (fun R O h3 w=>iC hT d R O h3 k w) S U w h
    ·cases h
   ·rename_i m e D C V
    split at h
    ·split at h
     ·rename_i j L
      obtain⟨A,rfl,S⟩:=hx.agg;obtain⟨u,rfl,U⟩:=hy.agg;rw[V] at Z;have N:=DF hT L (d:=d+k) (fun R O h3 w=>iC hT d R O h3 k w) S U w h;simp only[Op.equalIn,Sem.run_bind,run_underlying Z,Result.andThen_ok,cD hT L];simp only[Std.Legacy.Range.forIn_eq_forIn_range',Std.Legacy.Range.size,Nat.sub_zero,Nat.add_sub_cancel,Nat.div_one];rw[N];cases b<;>rfl
     ·cases h
    ·cases h
   ·cases h
end
end Go.Eng
namespace Go.Eng
variable{X Y:Value}
section
variable {P:Program}{T:TypeId→Option TyI}{μ:Nat→Place}{n:Nat}
theorem fW(t:TypeId)(X Y:Value):Op.equal t X Y=Op.equalIn (9999+1) t X Y:=rfl
theorem Dy(hT:cK P T){t:TypeId}{x y:AV}{b:Bool}(H:aeg μ n x X)(I:aeg μ n y Y)(J W:Operand)(h:Vy T t (rh J) (rh W) x y=some b)(w:World):
  (∀Z,(eqGuard Z t J W X Y).run P w=.ok () w)∧(Op.equal t X Y).run P w=.ok b w∧(∀Z:BinOp,Z=.eql∨Z=.neq→binOp Z t X Y=(if Z=.eql then (do pure (.bool (←Op.equal t X Y))) else (do pure (.bool (!(←Op.equal t X Y)))))):=by
 unfold Vy at h;cases ht:T t with
 |none=>rw[ht] at h;cases h
 |some i=>
  rw[ht] at h;simp only at h;have V:=(hT t i ht).desc;split at h
  ·rename_i U;cases h;rw[U] at V
   simp only[aeg] at H I;obtain⟨_,rfl⟩:=H;subst I;exact⟨fun Z=>by rw[eqGuard_at_slice];rfl,by rw[fW,Op.equalIn];simp[run_underlying V],by intro Z S;cases S with | inl e=>subst e;rfl | inr e=>subst e;rfl⟩
  ·rename_i U;cases h;rw[U] at V
   simp only[aeg] at H I;subst H;subst I;exact⟨fun Z=>by rw[eqGuard_at_slice];rfl,by rw[fW,Op.equalIn];simp[run_underlying V],by intro Z S;cases S with | inl e=>subst e;rfl | inr e=>subst e;rfl⟩
  ·rename_i U;cases h;rw[U] at V
   simp only[aeg] at H I;subst H;subst I;exact⟨fun Z=>by rw[eqGuard_at_pointer];rfl,by rw[fW,Op.equalIn];simp[run_underlying V],by intro Z S;cases S with | inl e=>subst e;rfl | inr e=>subst e;rfl⟩
  ·rename_i U;cases h;rw[U] at V
   simp only[aeg] at H I;obtain⟨_,rfl⟩:=H;subst I;exact⟨fun Z=>by rw[eqGuard_at_pointer];rfl,by rw[fW,Op.equalIn];simp[run_underlying V],by intro Z S;cases S with | inl e=>subst e;rfl | inr e=>subst e;rfl⟩
  ·rename_i U;cases h;rw[U] at V
   simp only[aeg] at H I;subst H;subst I;exact⟨fun Z=>by rw[eqGuard_at_nilFunc];rfl,by rw[fW,Op.equalIn];simp[run_underlying V],by intro Z S;cases S with | inl e=>subst e;rfl | inr e=>subst e;rfl⟩
  ·rename_i U;cases h;rw[U] at V
   simp only[aeg] at H I;obtain⟨_,rfl,_⟩:=H;subst I;exact⟨fun Z=>by rw[eqGuard_at_func];rfl,by rw[fW,Op.equalIn];simp[run_underlying V],by intro Z S;cases S with | inl e=>subst e;rfl | inr e=>subst e;rfl⟩
  ·rename_i U;rw[U] at V
   simp only[aeg] at H I;subst H;subst I;split at h
   ·rename_i R;cases h
    refine⟨fun Z=>?_,by rw[fW,Op.equalIn];simp[run_underlying V],by intro Z S;cases S with | inl e=>subst e;rfl | inr e=>subst e;rfl⟩;cases J<;>cases W<;>simp[rh] at R<;>first | (rw[eqGuard_nil_constR];rfl) | (rw[eqGuard_nil_constL];rfl)
   ·cases h
  ·rename_i U;cases h;rw[U] at V
   simp only[aeg] at H I;obtain⟨_,rfl,_⟩:=H;subst I;exact⟨fun Z=>by rw[eqGuard_at_iface];rfl,by rw[fW,Op.equalIn];simp[run_underlying V],by intro Z S;cases S with | inl e=>subst e;rfl | inr e=>subst e;rfl⟩
  ·cases h
theorem Pw(hT:cK P T){op:BinOp}{t:TypeId}{x y v:AV}(H:aeg μ n x X)(I:aeg μ n y Y)(J W:Operand)(h:W4 T op t (rh J) (rh W) x y=some v)(w:World):
  Val P (do eqGuard op t J W X Y;binOp op t X Y) w μ n v:=by
 unfold W4 at h;split at h
 ·rename_i k a B b
  split at h
  ·rename_i L
   subst L;rw[H.int,I.int];obtain⟨V,U,S⟩:=PA (P:=P) (μ:=μ) (n:=n) h t w;exact⟨V,by rw[eqGuard_at_int];simpa using U,S⟩
  ·cases h
 ·rw[H.str,I.str]
  obtain⟨V,U,S⟩:=PE (P:=P) (μ:=μ) (n:=n) h t w;exact⟨V,by rw[eqGuard_at_string];simpa using U,S⟩
 ·rename_i a b
  rw[H.bool,I.bool];split at h
  ·rename_i i K
   have O:=(hT t i K).desc;split at h
   ·rename_i N
    cases h;rw[N] at O;refine .bool ?_;rw[eqGuard_at_bool];simp only[binOp,fW,Sem.run_bind,Sem.run_pure,Result.andThen_ok,run_equalIn_bool' w 9999 t a b O]
   ·rename_i N
    cases h;rw[N] at O;refine .bool ?_;rw[eqGuard_at_bool];simp only[binOp,fW,Sem.run_bind,Sem.run_pure,Result.andThen_ok,run_equalIn_bool' w 9999 t a b O]
   ·cases h
  ·cases h
 ·rename_i G F
  have R:∀b,jU T 20 t (.agg G) (.agg F)=some b→P.eqGuardType P.depth t=false:=by
   intro b Z;rw[jU] at Z;cases ht:T t with
   |none=>rw[ht] at Z;cases Z
   |some i=>
    rw[ht] at Z;simp only at Z;split at Z
    next U _=>cases U
    next U _=>cases U
    next U _=>cases U
    ·split at Z
     next M=>exact((hT t i ht).afY M).2
     ·cases Z
    ·split at Z
     next M=>exact((hT t i ht).afY M).2
     ·cases Z
    ·cases Z
  split at h
  ·simp only[Option.map_eq_some_iff] at h
   obtain⟨b,Z,rfl⟩:=h;have U:=iC hT 20 Z H I 9980 w;obtain⟨D,rfl,_⟩:=H.agg;obtain⟨C,rfl,_⟩:=I.agg;refine .bool ?_;simp only[Sem.run_bind,run_eqGuard_agg w _ t J W _ _ (R b Z),Result.andThen_ok,run_eql_struct,U]
  ·simp only[Option.map_eq_some_iff] at h
   obtain⟨b,Z,rfl⟩:=h;have U:=iC hT 20 Z H I 9980 w;obtain⟨D,rfl,_⟩:=H.agg;obtain⟨C,rfl,_⟩:=I.agg;refine .bool ?_;simp only[Sem.run_bind,run_eqGuard_agg w _ t J W _ _ (R b Z),Result.andThen_ok,run_neq_struct,U]
  ·cases h
 ·split at h
  ·simp only[Option.map_eq_some_iff] at h
   obtain⟨b,Z,rfl⟩:=h;obtain⟨U,S,h3⟩:=Dy hT H I J W Z w;refine .bool ?_;rw[Sem.run_bind,U,Result.andThen_ok,h3 _ (.inl rfl)];simp[S]
  ·simp only[Option.map_eq_some_iff] at h
   obtain⟨b,Z,rfl⟩:=h;obtain⟨U,S,h3⟩:=Dy hT H I J W Z w;refine .bool ?_;rw[Sem.run_bind,U,Result.andThen_ok,h3 _ (.inr rfl)];simp[S]
  ·cases h
theorem Db(hT:cK P T){s d:TypeId}{x v:AV}(H:aeg μ n x X)(h:zR T s d x=some v)(w:World):
  Val P (convert s d X) w μ n v:=by
 unfold zR at h;split at h
 ·rename_i i j R O
  have Z:=(hT s i R).desc;have V:=(hT d j O).desc;split at h
  ·rename_i U S;cases h;rw[H.int];rw[U] at Z;rw[S] at V
   exact .int (by simp[convert,run_underlying Z,run_underlying V,Conv.intToInt])
  ·rename_i U S;cases h;rw[H.str];rw[U] at Z;rw[S] at V
   exact .str (by simp[convert,run_underlying Z,run_underlying V])
  ·cases h
 ·cases h
theorem J8(off:Nat):∀(vs:List Value) (k:Nat) (cur:List Value),off+k+vs.length≤cur.length→
  ((vs.zipIdx k).foldl (fun(cs:Array Value) (x:Value×Nat)=>cs.setIfInBounds (off+x.2) x.1) ⟨cur⟩)=⟨cur.take (off+k)++vs++cur.drop (off+k+vs.length)⟩
 | [],k,cur,_=>by simp
 |v::vs,k,cur,h=>by
  simp only[List.zipIdx_cons,List.foldl_cons];have Z:(⟨cur⟩:Array Value).setIfInBounds (off+k) v=⟨cur.set (off+k) v⟩:=by simp
  rw[Z,J8 off vs (k+1) (cur.set (off+k) v) (by simp at h ⊢;omega)];have e:=list_seg_step cur (off+k) v vs (by simp at h ⊢;omega);simp only[List.append_assoc,Array.mk.injEq,List.length_cons] at e ⊢;simpa [Nat.add_assoc,Nat.add_comm 1] using e
theorem so{W:Nat→Option (Nat×Nat)}:∀{parts:List (Nat×AV)}{cells J :List AV} {I:List (Nat×Value)} {H:List Value},
  pP W cells parts=some J →aeh μ n cells H→I.map (·.1)=parts.map (·.1)→aeh μ n (parts.map (·.2)) (I.map (·.2))→
  ∃Z,Instr.fill W ⟨H⟩ I=some ⟨Z⟩∧aeh μ n J Z
 | [],cells,J,I,H,h,hc,R,_=>by
  simp only[pP,Option.some.injEq] at h;subst h;have:I=[]:=by simpa using R
  subst this;exact⟨H,rfl,hc⟩
 |(i,v)::rest,cells,J,I,H,h,hc,R,hv=>by
  cases I with
  |nil=>simp at R
  |cons p Rest=>
   obtain⟨D,V⟩:=p;simp only[List.map_cons,List.cons.injEq] at R;obtain⟨rfl,R⟩:=R;simp only[List.map_cons] at hv;obtain⟨L,K⟩:=bE.1 hv;rw[pP] at h;cases hpl:W D with
   |none=>rw[hpl] at h;cases h
   |some os=>
    obtain⟨U,S⟩:=os;rw[hpl] at h;simp only at h;split at h
    ·rename_i G
     simp only[Bool.and_eq_true,decide_eq_true_eq] at G;obtain⟨⟨C,F⟩,A⟩:=G;have O:=L.cells C;have N:V.cells.size=S:=by rw[←Array.length_toList,O.length,F]
     have M:=hc.length;rw[Instr.fill,hpl];simp only;have B:(V.cells.zipIdx.foldl (fun cs (x:Value×Nat)=>cs.setIfInBounds (U+x.2) x.1) (⟨H⟩:Array Value))=⟨H.take U++V.cells.toList++H.drop (U+S)⟩:=by rw[←Array.foldl_toList,Array.toList_zipIdx,J8 U _ 0 H (by rw[O.length,M,F];omega)];simp[N]
     rw[if_neg (by simp[N,M];omega),B];exact so h (((hc.take U).append O).append (hc.drop _)) R K
    ·cases h
theorem N6{α β:Type}(g:α→Sem β)(hf:α→β)(w:World):∀(l:List α),(∀x∈l,(g x).run P w=.ok (hf x) w)→(l.mapM g).run P w=.ok (l.map hf) w
 | [],_=>by simp
 |x::l,h=>by simp[List.mapM_cons,h x (by simp),N6 g hf w l (fun y Z=>h y (by simp[Z]))]
theorem Nt{μ:Nat→Place}{n:Nat}{v:AV}{V:Value}(h:aeg μ n v V)(H:v.cells=[v])(hV:V.cells= #[V]):aeh μ n v.cells V.cells.toList:=by rw[H,hV];exact bE.2 ⟨h,by simp[aeh]⟩
theorem Dj(v:Value):(jx v).cells=[jx v]:=by unfold jx;split<;>rfl
theorem jg(μ:Nat→Place)(n:Nat)(z:Value):aeh μ n (iU z).cells z.cells.toList:=by
 by_cases h:∃Z,z=.agg Z
 ·obtain⟨Z,rfl⟩:=h;exact my μ n _
 ·have e:iU z=jx z:=by cases z<;>first | rfl | exact absurd ⟨_,rfl⟩ h
  have c:z.cells= #[z]:=by cases z<;>first | rfl | exact absurd ⟨_,rfl⟩ h
  rw[e];exact Nt (oI μ n z) (Dj z) c
theorem JE(hT:cK P T){t:TypeId}{parts:List (Nat×AV)}{H:List (Nat×Value)}{v:AV}(h:bJ T t parts=some v)(I:H.map (·.1)=parts.map (·.1))(J:aeh μ n (parts.map (·.2)) (H.map (·.2)))(w:World):
  Val P (Instr.build t ⟨H⟩) w μ n v:=by
 unfold bJ at h;cases ht:T t with
 |none=>rw[ht] at h;cases h
 |some i=>
  rw[ht] at h;simp only at h;have O:=(hT t i ht).desc;have F:=jg μ n i.zero;split at h
  ·rename_i V N
   split at h
   ·rename_i D
    simp only[Option.map_eq_some_iff] at h;obtain⟨C,U,rfl⟩:=h;obtain⟨Z,M,L⟩:=so U F I J;rw[N] at O;have R :∀f∈V.toList,∃j,T f.type=some j:=by intro f U;rw[Array.all_eq_true'] at D;have:=D f (by simpa using U);exact Option.isSome_iff_exists.1 this
    have K:(V.mapM fun f=>do pure (f.offset,←sizeOf f.type):Sem (Array (Nat×Nat))).run P w=
      .ok (V.map fun f=>(f.offset,((T f.type).map (·.size)).getD 0)) w:=by
     rw[Array.mapM_eq_mapM_toList,Sem.run_map];rw[N6 (P:=P) _ (fun f=>(f.offset,((T f.type).map (·.size)).getD 0)) w V.toList (fun f U=>by obtain⟨j,S⟩:=R f U;simp[cD hT S,S])]
     simp only[Result.andThen_ok,Result.ok.injEq,and_true];apply Array.ext';simp
    have G:(fun k=>(V.map fun f=>(f.offset,((T f.type).map (·.size)).getD 0))[k]?)=aD T V:=by
     funext k;simp only[aD,Array.getElem?_map];cases hk:V[k]? with
     |none=>rfl
     |some f=>
      have B:f∈V.toList:=by have:=Array.mem_of_getElem? hk;simpa using this
      obtain⟨j,S⟩:=R f B;simp[S]
    refine⟨.agg ⟨Z⟩,?_,by simp only[aeg];exact⟨Z,rfl,L⟩⟩;simp only[Instr.build,Sem.run_bind,eJ hT ht,Result.andThen_ok,run_underlying O];erw [K];simp only[Result.andThen_ok,G];rw[show i.zero.cells=⟨i.zero.cells.toList⟩ from rfl,M];rfl
   ·cases h
  ·rename_i m e N
   split at h
   ·rename_i j S
    simp only[Option.map_eq_some_iff] at h;obtain⟨C,U,rfl⟩:=h;obtain⟨Z,M,L⟩:=so U F I J;rw[N] at O;refine⟨.agg ⟨Z⟩,?_,by simp only[aeg];exact⟨Z,rfl,L⟩⟩;simp only[Instr.build,Sem.run_bind,eJ hT ht,Result.andThen_ok,run_underlying O,cD hT S];rw[show i.zero.cells=⟨i.zero.cells.toList⟩ from rfl,M];rfl
   ·cases h
  ·cases h
end
end Go.Eng
namespace Go.Eng
variable{f:Nat}
section
variable {P:Program}{T:TypeId→Option TyI}{μ:Nat→Place}{n:Nat}
theorem aeg.ptr{b o V}(h:aeg μ n (.ptr b o) V):b<n∧V=.pointer (some ⟨(μ b).blk,(μ b).off+o,none⟩):=by simpa only[aeg] using h
theorem aeg.slice{b o l c V}(h:aeg μ n (.slice b o l c) V):b<n∧V=.slice (some ⟨(μ b).blk,(μ b).off+o,none⟩) l (jF (μ b) o c):=by simpa only[aeg] using h
theorem bX{k:IntKind}{i:Int}{y:Nat}(h0:0≤i)(h1:i≤y)(H:BoundsCode)(w:World):
  (Instr.sliceBound (.int k i) y H).run P w=.ok i.toNat w:=by
 simp[Instr.sliceBound,asIntOf,h0,h1]
section
variable (hT:cK P T){t:TypeId}
include hT t
theorem zx{x i v:AV}{X I:Value}(H:aeg μ n x X)(J:aeg μ n i I)(h:sg T t x i=some v)(w:World):
  Val P (Instr.indexAt t X I) w μ n v:=by
 unfold sg at h;cases ht:T t with
 |none=>rw[ht] at h;cases h
 |some ti=>
  rw[ht] at h;simp only at h;have Z:=(hT t ti ht).desc;split at h
  ·rename_i e b o m c k j V
   rw[V] at Z;split at h
   ·rename_i U S
    split at h
    ·rename_i R
     cases h;obtain⟨O,rfl⟩:=H.slice;rw[J.int];refine⟨.pointer (some ⟨(μ b).blk,(μ b).off+(o+j.toNat*U.size),none⟩),?_,by simp only[aeg];exact⟨O,trivial⟩⟩;simp[Instr.indexAt,asIntOf,run_underlying Z,R,cD hT S,Addr.add_lit,Nat.add_assoc]
    ·cases h
   ·cases h
  ·rename_i m e b o k j V
   rw[V] at Z;split at h
   ·rename_i U S
    split at h
    ·rename_i R
     cases h;obtain⟨O,rfl⟩:=H.ptr;rw[J.int];refine⟨.pointer (some ⟨(μ b).blk,(μ b).off+(o+j.toNat*U.size),none⟩),?_,by simp only[aeg];exact⟨O,trivial⟩⟩;simp[Instr.indexAt,asIntOf,run_underlying Z,Instr.sureAddr,R,cD hT S,Addr.add_lit,Nat.add_assoc]
    ·cases h
   ·cases h
  ·cases h
theorem JJ{x i v:AV}{X I:Value}(H:aeg μ n x X)(J:aeg μ n i I)(h:ND T t x i=some v)(w:World):
  Val P (Instr.index t X I) w μ n v:=by
 unfold ND at h;cases ht:T t with
 |none=>rw[ht] at h;cases h
 |some ti=>
  rw[ht] at h;simp only at h;have Z:=(hT t ti ht).desc;split at h
  ·rename_i m e D k j U
   rw[U] at Z;split at h
   ·rename_i C R
    split at h
    ·rename_i N
     obtain⟨B,rfl,M⟩:=H.agg;rw[J.int];obtain⟨V,L,K⟩:=iG (P:=P) (μ:=μ) (n:=n) hT R h M w;exact⟨V,by simp[Instr.index,asIntOf,run_underlying Z,N,cD hT R,L],K⟩
    ·cases h
   ·cases h
  ·rename_i s k j U
   rw[U] at Z;split at h
   ·rename_i G
    split at h
    ·rename_i c O
     cases h;rw[H.str,J.int];have S :(ByteArray.mk s.toArray)[j.toNat]? =some c:=by have F:j.toNat<s.length:=gL O;have A:=(List.getElem?_eq_some_iff.1 O).2;rw[getElem?_pos (ByteArray.mk s.toArray) j.toNat (by simpa [ByteArray.size] using F)];congr 1
     exact .int (by simp[Instr.index,asIntOf,run_underlying Z,G,S])
    ·cases h
   ·cases h
  ·cases h
theorem JI{x v:AV}{X:Value}(H:aeg μ n x X)(h:vw T t x f=some v)(w:World):
  Val P (Instr.field t X f) w μ n v:=by
 unfold vw at h;cases ht:T t with
 |none=>rw[ht] at h;cases h
 |some ti=>
  rw[ht] at h;simp only at h;have U:=(hT t ti ht).desc;split at h
  ·rename_i L K S
   rw[S] at U;split at h
   ·rename_i G Z
    split at h
    ·rename_i j R
     obtain⟨F,rfl,O⟩:=H.agg;obtain⟨V,N,M⟩:=iG (P:=P) (μ:=μ) (n:=n) hT R h O w;exact⟨V,by simp[Instr.field,run_underlying U,Z,asAgg,N],M⟩
    ·cases h
   ·cases h
  ·cases h
theorem zw{x v:AV}{X:Value}(H:aeg μ n x X)(h:sf T t x f=some v)(w:World):
  Val P (Instr.fieldAt t X f) w μ n v:=by
 unfold sf at h;cases ht:T t with
 |none=>rw[ht] at h;cases h
 |some ti=>
  rw[ht] at h;simp only at h;have V:=(hT t ti ht).desc;split at h
  ·rename_i M b o U
   rw[U] at V;split at h
   ·rename_i S Z
    split at h
    ·rename_i j R
     split at h
     ·cases h
     ·rename_i O
      cases h;obtain⟨N,rfl⟩:=H.ptr;refine⟨.pointer (some ⟨(μ b).blk,(μ b).off+(o+S.offset),none⟩),?_,by simp only[aeg];exact⟨N,trivial⟩⟩;simp[Instr.fieldAt,run_underlying V,Z,Instr.sureAddr,fieldPlace,Addr.add_lit,Nat.add_assoc,cD hT R,O]
    ·cases h
   ·cases h
  ·cases h
end
end
end Go.Eng
namespace Go.Eng
section
variable {P:Program}{T:TypeId→Option TyI}{μ:Nat→Place}{mem:Mem}{base:Nat}{w:World}
theorem si(s:List UInt8):(ByteArray.mk s.toArray).size=s.length:=by simp[ByteArray.size]
theorem aes.cell(H:aes base μ mem w){b:Nat}{own es cs}(I:mem[b]? =some (.cells own es cs)){j:Nat}{v:AV}(J:cs[j]? =some v):
  ∃V,w.cell? ⟨(μ b).blk,(μ b).off+j,none⟩=some V∧aeg μ mem.length v V:=by
 have Z:=H.slot b _ I;simp only[aeu] at Z;obtain⟨X,e,O,U,_,_,S,_⟩:=Z;obtain⟨V,hV,R⟩:=S j v J;exact⟨V,by simp[World.cell?,U,hV],R⟩
theorem aes.cells(H:aes base μ mem w){b:Nat}{own es cs}(I:mem[b]? =some (.cells own es cs)){o k:Nat}(hk:o+k≤cs.length):
  ∃Z,aeh μ mem.length ((cs.drop o).take k) Z∧Z.length=k∧∀(j:Nat) u,Z[j]? =some u→w.cell? ((⟨(μ b).blk,(μ b).off+o,none⟩:Addr).add j)=some u:=by
 induction k with
 |zero=>exact⟨[],by simp[aeh],rfl,by simp⟩
 |succ k ih=>
  obtain⟨Z,O,S,h3⟩:=ih (by omega);have R:o+k<cs.length:=by omega
  obtain⟨V,hV,N⟩:=H.cell I (j:=o+k) (v:=cs[o+k]) (by simp[R]);refine⟨Z++[V],?_,by simp[S],fun j u X=>?_⟩
  ·rw[List.take_add_one]
   have:(cs.drop o)[k]? =some cs[o+k]:=by simp[List.getElem?_drop,R]
   rw[this];exact O.append (bE.2 ⟨N,by simp[aeh]⟩)
  ·by_cases M:j<Z.length
   ·rw[List.getElem?_append_left M] at X;exact h3 j u X
   ·have U:j=Z.length:=by have:=gL X;simp at this;omega
    subst U;simp at X;subst X;rw[Addr.add_lit,S,Nat.add_assoc];exact hV
section
variable (hT:cK P T)(hH:aes base μ mem w)
include hT hH
theorem A9{t:TypeId}{x v:AV}{X:Value}(H:aeg μ mem.length x X)(h:PC T mem t x=some v):
  Val P (Instr.loadAt t X) w μ mem.length v:=by
 unfold PC at h;split at h
 ·rename_i i b o Z
  split at h
  ·rename_i own es K S
   obtain⟨G,rfl⟩:=H.ptr;unfold iY at h;cases hi:i.isAgg with
   |true=>
    simp only[hi,if_true] at h;split at h
    ·rename_i O
     cases h;obtain⟨U,N,M,h3⟩:=hH.cells S O;refine⟨.agg U.toArray,?_,by simp only[aeg];exact⟨U,rfl,N⟩⟩;have R:=run_loadCells_list (P:=P) w _ U h3;rw[M] at R;simp[Instr.loadAt,Instr.sureAddr,loadVar,vK hT Z,hi,cD hT Z,R]
    ·cases h
   |false=>
    simp only[hi,Bool.false_eq_true,if_false] at h;obtain⟨V,hV,L⟩:=hH.cell S h;refine⟨V,?_,L⟩;simp[Instr.loadAt,Instr.sureAddr,loadVar,vK hT Z,hi,hV]
  ·cases h
 ·cases h
theorem PB{t ty:TypeId}{x v:AV}{X:Value}(H:aeg μ mem.length x X)(h:Vx T t mem x=some v):
  Val P (Builtin.len_ #[t] ty #[X]) w μ mem.length v:=by
 unfold Vx at h;cases ht:T t with
 |none=>rw[ht] at h;cases h
 |some ti=>
  rw[ht] at h;simp only at h;have Z:=(hT t ti ht).desc;split at h
  ·rename_i s V;cases h;rw[V] at Z;rw[H.str]
   exact .int (by simp[Builtin.len_,run_underlying Z,goInt,si])
  ·rename_i V;cases h;rw[V] at Z;rw[H.slice.2]
   exact .int (by simp[Builtin.len_,run_underlying Z,goInt])
  ·rename_i V;cases h;rw[V] at Z
   simp only[aeg] at H;subst H;exact .int (by simp[Builtin.len_,run_underlying Z,goInt])
  ·rename_i m e V;cases h;rw[V] at Z
   exact .int (by simp[Builtin.len_,run_underlying Z,goInt])
  ·rename_i V;cases h;rw[V] at Z
   simp only[aeg] at H;subst H;exact .int (by simp[Builtin.len_,run_underlying Z,goInt])
  ·rename_i b V;rw[V] at Z
   simp only[aeg] at H;obtain⟨K,rfl⟩:=H;split at h
   ·rename_i es S
    cases h;have U:=hH.slot b _ S;simp only[aeu] at U;obtain⟨R,O,N,_,M,_⟩:=U;refine .int ?_;have L:(getObj (μ b).blk).run P w=.ok (.map R O) w:=by simp[getObj,Sem.run,N]
    simp only[Builtin.len_,List.getElem?_toArray,List.getElem?_cons_zero,Sem.run_bind,run_underlying Z,Result.andThen_ok,L];simp[goInt,M]
   ·cases h
  ·cases h
theorem JL{t:TypeId}{x v:AV}{X:Value}{I J:Option AV}{W Hi:Option Value}(H:aeg μ mem.length x X)(Zh:(I=none∧W=none)∨∃l L,I=some l∧W=some L∧aeg μ mem.length l L)(hhi:(J=none∧Hi=none)∨∃l L,J=some l∧Hi=some L∧aeg μ mem.length l L)(h:NF T mem t x I J=some v):
  Val P (Instr.sliceAt t X W Hi none) w μ mem.length v:=by
 have ZU:∀(G:Bool) (R O:Nat) (V Z:Int),DH R J=some V→
   Kk I=some Z→0≤Z→Z≤V→V≤R→R≤O→
   (Instr.sliceBounds G R O W Hi none).run P w=.ok (Z.toNat,V.toNat,O) w:=by
  intro G R O V Z U S h0 h1 h2 h3;have F :V≤O:=by omega
  have Yz :Z≤((V.toNat:Nat):Int):=by omega
  have D :0≤V:=by omega
  rcases hhi with⟨rfl,rfl⟩ | ⟨a,A,rfl,rfl,hA⟩<;>rcases Zh with⟨rfl,rfl⟩ | ⟨b,B,rfl,rfl,hB⟩
  ·simp only[DH,Kk,Option.some.injEq] at U S;subst U;subst S
   simp[Instr.sliceBounds]
  ·cases b<;>simp only[DH,Kk,reduceCtorEq,Option.some.injEq] at U S
   subst U;subst S;rw[hB.int];simp[Instr.sliceBounds,bX h0 h1]
  ·cases a<;>simp only[DH,Kk,reduceCtorEq,Option.some.injEq] at U S
   subst U;subst S;rw[hA.int];simp[Instr.sliceBounds,bX D F]
  ·cases a<;>simp only[DH,reduceCtorEq,Option.some.injEq] at U
   cases b<;>simp only[Kk,reduceCtorEq,Option.some.injEq] at S;subst U;subst S;rw[hA.int,hB.int];simp[Instr.sliceBounds,bX D F,bX h0 Yz]
 unfold NF at h;cases ht:T t with
 |none=>rw[ht] at h;cases h
 |some ti=>
  rw[ht] at h;simp only at h;have N:=(hT t ti ht).desc;split at h
  ·rename_i s M
   rw[M] at N;split at h
   ·rename_i V Z U S
    split at h
    ·rename_i C
     cases h;rw[H.str];have K:=ZU false s.length s.length V Z U S C.1 C.2.1 C.2.2 (Nat.le_refl _);refine .str ?_;have acZ:(ByteArray.mk s.toArray).extract Z.toNat V.toNat=⟨((s.drop Z.toNat).take (V.toNat-Z.toNat)).toArray⟩:=by apply ByteArray.ext;apply Array.ext';simp[List.extract]
     simp[Instr.sliceAt,Instr.slice,run_underlying N,si,K,acZ]
    ·cases h
   ·cases h
  ·rename_i e b o m c M
   rw[M] at N;split at h
   ·rename_i j own es cs u C
    split at h
    ·rename_i V Z U S
     split at h
     ·rename_i Y
      obtain⟨g1,g2,g3,g4,g5,g6,g6',g7,rfl⟩:=Y;cases h;obtain⟨YS,rfl⟩:=H.slice;have hs:=hH.slot b _ C;simp only[aeu] at hs;obtain⟨cur,el,fr,hs1,hs2,hs3,_,_⟩:=hs;have hs2:=hs2.es g6';subst hs2;have Zz:m≤jF (μ b) o none:=by simp only[jF];rw[Nat.le_div_iff_mul_le g6];omega
      have K:=ZU true m (jF (μ b) o none) V Z U S g1 g2 g3 Zz;refine⟨.slice (some ⟨(μ b).blk,(μ b).off+(o+Z.toNat*(μ b).es),none⟩) (V.toNat-Z.toNat) (jF (μ b) o none-Z.toNat),?_,?_⟩
      ·simp[Instr.sliceAt,Instr.slice,run_underlying N,K,cD hT u]
       by_cases hl0:Z=0
       ·subst hl0;simp[Addr.add_lit]
       ·have:¬jF (μ b) o none=Z.toNat:=by omega
        simp[this,Addr.add_lit,g5,Nat.add_assoc]
      ·simp only[aeg]
       refine⟨YS,?_⟩;congr 1;simp only[jF];have XY:Z.toNat*(μ b).es≤m*(μ b).es:=Nat.mul_le_mul_right _ (by omega);rw[show(μ b).tot-(o+Z.toNat*(μ b).es)=(μ b).tot-o-(μ b).es*Z.toNat by rw[Nat.mul_comm (μ b).es];omega];rw[Nat.sub_mul_div]
     ·cases h
    ·cases h
   ·cases h
  ·rename_i e M
   rw[M] at N;split at h
   ·rename_i j u
    split at h
    ·rename_i V Z U S
     split at h
     ·rename_i Y
      obtain⟨rfl,rfl⟩:=Y;cases h;simp only[aeg] at H;subst H;have K:=ZU true 0 0 0 0 U S (by omega) (by omega) (by omega) (by omega);refine⟨.slice none 0 0,?_,by simp[aeg]⟩;simp[Instr.sliceAt,Instr.slice,run_underlying N,K,cD hT u]
     ·cases h
    ·cases h
   ·cases h
  ·rename_i m e b o M
   rw[M] at N;split at h
   ·rename_i j u
    split at h
    ·rename_i V Z U S
     split at h
     ·rename_i Y
      obtain⟨g1,g2,g3,g4⟩:=Y;cases h;obtain⟨YS,rfl⟩:=H.ptr;have K:=ZU false m m V Z U S g1 g2 g3 (Nat.le_refl _);refine⟨.slice (some ⟨(μ b).blk,(μ b).off+(o+Z.toNat*j.size),none⟩) (V.toNat-Z.toNat) (m-Z.toNat),?_,?_⟩
      ·have:¬m=Z.toNat:=by omega
       simp[Instr.sliceAt,run_underlying N,Instr.sureAddr,K,cD hT u,this,Addr.add_lit,Nat.add_assoc]
      ·simp only[aeg];exact⟨YS,rfl⟩
     ·cases h
    ·cases h
   ·cases h
  ·cases h
end
end
end Go.Eng
