/- See F54. -/
import Derived.Calls
import Derived.Orders
import Derived.Laws.AppendOwn
import Derived.Laws.Cells
import Derived.Laws.CopyRow
import Derived.Tactics
import Derived.Laws.StructEq
import Derived.Laws.Build
set_option linter.all false
namespace Go.Eng
theorem w0:IntKind.i64.wrap 0=0:=rfl
theorem w1:IntKind.i64.wrap 1=1:=rfl
theorem w2:IntKind.i64.wrap 2=2:=rfl
theorem w3:IntKind.i64.wrap 3=3:=rfl
theorem w4:IntKind.i64.wrap 4=4:=rfl
theorem w5:IntKind.i64.wrap 5=5:=rfl
theorem xE{α:Type}(e:α):∃x,x=e:=⟨_,rfl⟩
variable{b:Nat}
theorem gU{α:Type}{M:List α}{x:α}(h:M[b]? =some x)(Z:List α):(M++Z)[b]? =some x:=by rw[List.getElem?_append_left (List.getElem?_eq_some_iff.1 h).1,h]
theorem lM:(∀{α:Type}{a b:α}{l:List α},(a∈b::l)=(a=b∨a∈l))∧(∀{α:Type}{a:α},(a∈([]:List α))=False)∧∀p:Prop,(p∨False)=p:=⟨fun {_ _ _ _}=>by simp,fun {_ _}=>by simp,fun _=>by simp⟩
theorem lA:(∀{α:Type}(l:List α),[]++l=l)∧(∀{α:Type}(l:List α),l++[]=l)∧∀{α:Type}{a:α}{l k:List α},a::l++k=a::(l++k):=⟨fun _=>rfl,fun _=>List.append_nil _,rfl⟩
theorem lB:(∀{α β:Type}{f:α→β}{a:α}{l:List α},List.map f (a::l)=f a::List.map f l)∧(∀{α β:Type}{f:α→β},List.map f []=[])∧(∀{α:Type}{a b:α}{l k:List α},(a::l=b::k)=(a=b∧l=k))∧∀p:Prop,(p∧True)=p:=⟨rfl,rfl,fun {_ _ _ _ _}=>by simp,fun _=>by simp⟩
theorem gL{α:Type}{l:List α}{i:Nat}{a:α}(h:l[i]? =some a):i<l.length:=(List.getElem?_eq_some_iff.1 h).1
theorem gE{α:Type}{l:List α}{i:Nat}{a:α}(h:l[i]? =some a):∀k,l[i]'k=a:=fun k=>(List.getElem?_eq_some_iff.1 h).2
inductive AV where
 |undef
 |bool (b:Bool)
 |int (k:IntKind) (n:Int)
 |str (s:List UInt8)
 |ptr (b off:Nat)
 |afd
 |slice (b off len:Nat) (cap:Option Nat)
 |y9
 |map (b:Nat)
 |afl
 |yield (b:Nat)
 |func (f:FuncId) (caps:List AV)
 |nilFunc
 |iface (t:TypeId) (v:AV)
 |nilIface
 |agg (cs:List AV)
 |tuple (cs:List AV)
 deriving Inhabited
structure Place where
 blk:Nat
 off:Nat
 tot:Nat
 es:Nat
 deriving Inhabited
def jl(p:Place)(o:Nat):Option Nat→Nat
 |some c=>c
 |none=>(p.tot-o) / p.es
mutual
def aeU(μ:Nat→Place)(n:Nat):AV→Value→Prop
 |.undef,_=>True
 |.bool b,V=>V=.bool b
 |.int k i,V=>V=.int k i
 |.str s,V=>V=.string ⟨s.toArray⟩
 |.ptr b o,V=>b<n∧V=.pointer (some ⟨(μ b).blk,(μ b).off+o,none⟩)
 |.afd,V=>V=.pointer none
 |.slice b o l c,V=>b<n∧V=.slice (some ⟨(μ b).blk,(μ b).off+o,none⟩) l (jl (μ b) o c)
 |.y9,V=>V=.slice none 0 0
 |.map b,V=>b<n∧V=.map (some (μ b).blk)
 |.yield b,V=>b<n∧V=.func (.yield (μ b).blk) #[] #[]
 |.afl,V=>V=.map none
 |.func f X,V=>∃Z,V=.func (.func f) #[] ⟨Z⟩∧aeV μ n X Z
 |.nilFunc,V=>V=.nilFunc
 |.iface t v,V=>∃U,V=.iface t U∧aeU μ n v U
 |.nilIface,V=>V=.nilIface
 |.agg X,V=>∃Z,V=.agg ⟨Z⟩∧aeV μ n X Z
 |.tuple X,V=>∃Z,V=.tuple ⟨Z⟩∧aeV μ n X Z
def aeV(μ:Nat→Place)(n:Nat):List AV→List Value→Prop
 | [],Us=>Us=[]
 |v::vs,Us=>∃U Z,Us=U::Z∧aeU μ n v U∧aeV μ n vs Z
end
theorem br{μ n v vs U Us}:aeV μ n (v::vs) (U::Us)↔aeU μ n v U∧aeV μ n vs Us:=by
 simp only[aeV];constructor
 ·rintro ⟨W,V,h,Z,X⟩;cases h;exact⟨Z,X⟩
 ·rintro ⟨Z,X⟩;exact⟨U,Us,rfl,Z,X⟩
theorem aeV.length{μ n}:∀{vs Us},aeV μ n vs Us→Us.length=vs.length
 | [],_,h=>by simp[aeV] at h;simp[h]
 |v::vs,_,h=>by simp only[aeV] at h;obtain⟨U,X,rfl,_,Z⟩:=h;simp[aeV.length Z]
theorem aeV.get{μ n}:∀{vs Us},aeV μ n vs Us→∀(i:Nat) v,vs[i]? =some v→∃U,Us[i]? =some U∧aeU μ n v U
 | [],_,_,i,v,h=>by simp at h
 |w::vs,_,h,i,v,hi=>by
  simp only[aeV] at h;obtain⟨U,W,rfl,Z,X⟩:=h;cases i with
  |zero=>simp at hi;subst hi;exact⟨U,by simp,Z⟩
  |succ i=>simpa using aeV.get X i v (by simpa using hi)
theorem aeV.afV{μ n}:∀{vs Us},Us.length=vs.length→(∀(i:Nat) v,vs[i]? =some v→∃U,Us[i]? =some U∧aeU μ n v U)→aeV μ n vs Us
 | [],Us,hl,_=>by simp[aeV];exact List.eq_nil_of_length_eq_zero hl
 |v::vs,[],hl,_=>by simp at hl
 |v::vs,U::Us,hl,h=>by
  refine br.2 ⟨?_,aeV.afV (by simpa using hl) fun i u hu=>?_⟩
  ·obtain⟨W,Z,X⟩:=h 0 v (by simp)
   simp at Z;subst Z;exact X
  ·simpa using h (i+1) u (by simpa using hu)
theorem aeV.append{μ n}:∀{vs Z ws Ws},aeV μ n vs Z→aeV μ n ws Ws→aeV μ n (vs++ws) (Z++Ws)
 | [],_,ws,Ws,h,h' =>by simp[aeV] at h;subst h;simpa using h'
 |v::vs,_,ws,Ws,h,h' =>by simp only[aeV] at h;obtain⟨U,Z,rfl,X,W⟩:=h;exact br.2 ⟨X,aeV.append W h'⟩
theorem aeV.take{μ n vs Us}(h:aeV μ n vs Us)(k:Nat):aeV μ n (vs.take k) (Us.take k):=by
 refine aeV.afV (by simp[h.length]) fun i v Z=>?_
 rw[List.getElem?_take] at Z;split at Z
 ·obtain⟨U,W,X⟩:=h.get i v Z
  exact⟨U,by rw[List.getElem?_take];simp[*],X⟩
 ·cases Z
theorem aeV.drop{μ n vs Us}(h:aeV μ n vs Us)(k:Nat):aeV μ n (vs.drop k) (Us.drop k):=by
 refine aeV.afV (by simp[h.length]) fun i v Z=>?_
 rw[List.getElem?_drop] at Z;obtain⟨U,X,W⟩:=h.get _ v Z;exact⟨U,by rw[List.getElem?_drop];exact X,W⟩
mutual
theorem aeU.mono{μ μ' :Nat→Place}{n G :Nat}(A:n≤G)(hμ:∀b,b<n→μ' b=μ b):∀{v V},aeU μ n v V→aeU μ' G v V
 |.undef,V,_=>by simp[aeU]
 |.bool b,V,h=>by simpa [aeU] using h
 |.int k i,V,h=>by simpa [aeU] using h
 |.str s,V,h=>by simpa [aeU] using h
 |.ptr b o,V,h=>by simp only[aeU] at h ⊢;exact⟨by omega,by rw[hμ b h.1];exact h.2⟩
 |.afd,V,h=>by simpa [aeU] using h
 |.slice b o l c,V,h=>by simp only[aeU] at h ⊢;exact⟨by omega,by rw[hμ b h.1];exact h.2⟩
 |.y9,V,h=>by simpa [aeU] using h
 |.map b,V,h=>by simp only[aeU] at h ⊢;exact⟨by omega,by rw[hμ b h.1];exact h.2⟩
 |.yield b,V,h=>by simp only[aeU] at h ⊢;exact⟨by omega,by rw[hμ b h.1];exact h.2⟩
 |.afl,V,h=>by simpa [aeU] using h
 |.func f X,V,h=>by simp only[aeU] at h ⊢;obtain⟨Z,rfl,h⟩:=h;exact⟨Z,rfl,aeV.mono A hμ h⟩
 |.nilFunc,V,h=>by simpa [aeU] using h
 |.iface t v,V,h=>by simp only[aeU] at h ⊢;obtain⟨U,rfl,h⟩:=h;exact⟨U,rfl,aeU.mono A hμ h⟩
 |.nilIface,V,h=>by simpa [aeU] using h
 |.agg X,V,h=>by simp only[aeU] at h ⊢;obtain⟨Z,rfl,h⟩:=h;exact⟨Z,rfl,aeV.mono A hμ h⟩
 |.tuple X,V,h=>by simp only[aeU] at h ⊢;obtain⟨Z,rfl,h⟩:=h;exact⟨Z,rfl,aeV.mono A hμ h⟩
theorem aeV.mono{μ μ' :Nat→Place}{n A :Nat}(G:n≤A)(hμ:∀b,b<n→μ' b=μ b):∀{vs Us},aeV μ n vs Us→aeV μ' A vs Us
 | [],Us,h=>by simpa [aeV] using h
 |v::vs,Us,h=>by simp only[aeV] at h ⊢;obtain⟨U,Z,rfl,X,W⟩:=h;exact⟨U,Z,rfl,aeU.mono G hμ X,aeV.mono G hμ W⟩
end
mutual
def AV.ren(ρ:Nat→Option Nat):AV→AV
 |.ptr b o=>match ρ b with | some b' =>.ptr b' o | none=>.undef
 |.slice b o l c=>match ρ b with | some b' =>.slice b' o l c | none=>.undef
 |.map b=>match ρ b with | some b' =>.map b' | none=>.undef
 |.yield b=>match ρ b with | some b' =>.yield b' | none=>.undef
 |.func f Z=>.func f (AV.ae3 ρ Z)
 |.iface t v=>.iface t (AV.ren ρ v)
 |.agg Z=>.agg (AV.ae3 ρ Z)
 |.tuple Z=>.tuple (AV.ae3 ρ Z)
 |v=>v
def AV.ae3(ρ:Nat→Option Nat):List AV→List AV
 | []=>[]
 |v::vs=>AV.ren ρ v::AV.ae3 ρ vs
end
mutual
theorem aeU.ren{μ μ' :Nat→Place}{n A :Nat}{ρ:Nat→Option Nat}(hρ:∀b Z,b<n→ρ b=some Z →Z <A ∧μ' Z =μ b):
  ∀{v V},aeU μ n v V→aeU μ' A (v.ren ρ) V
 |.undef,V,_=>by simp[AV.ren,aeU]
 |.bool b,V,h=>by simpa [AV.ren,aeU] using h
 |.int k i,V,h=>by simpa [AV.ren,aeU] using h
 |.str s,V,h=>by simpa [AV.ren,aeU] using h
 |.ptr b o,V,h=>by
  simp only[aeU] at h;simp only[AV.ren];cases hb:ρ b with
  |none=>simp[aeU]
  |some Z =>obtain⟨X,W⟩:=hρ b Z h.1 hb;simp only[aeU];exact⟨X,by rw[W];exact h.2⟩
 |.afd,V,h=>by simpa [AV.ren,aeU] using h
 |.slice b o l c,V,h=>by
  simp only[aeU] at h;simp only[AV.ren];cases hb:ρ b with
  |none=>simp[aeU]
  |some Z =>obtain⟨X,W⟩:=hρ b Z h.1 hb;simp only[aeU];exact⟨X,by rw[W];exact h.2⟩
 |.y9,V,h=>by simpa [AV.ren,aeU] using h
 |.map b,V,h=>by
  simp only[aeU] at h;simp only[AV.ren];cases hb:ρ b with
  |none=>simp[aeU]
  |some Z =>obtain⟨X,W⟩:=hρ b Z h.1 hb;simp only[aeU];exact⟨X,by rw[W];exact h.2⟩
 |.yield b,V,h=>by
  simp only[aeU] at h;simp only[AV.ren];cases hb:ρ b with
  |none=>simp[aeU]
  |some Z =>obtain⟨X,W⟩:=hρ b Z h.1 hb;simp only[aeU];exact⟨X,by rw[W];exact h.2⟩
 |.afl,V,h=>by simpa [AV.ren,aeU] using h
 |.func f O,V,h=>by simp only[aeU] at h;simp only[AV.ren,aeU];obtain⟨S,rfl,h⟩:=h;exact⟨S,rfl,aeV.ren hρ h⟩
 |.nilFunc,V,h=>by simpa [AV.ren,aeU] using h
 |.iface t v,V,h=>by simp only[aeU] at h;simp only[AV.ren,aeU];obtain⟨U,rfl,h⟩:=h;exact⟨U,rfl,aeU.ren hρ h⟩
 |.nilIface,V,h=>by simpa [AV.ren,aeU] using h
 |.agg O,V,h=>by simp only[aeU] at h;simp only[AV.ren,aeU];obtain⟨S,rfl,h⟩:=h;exact⟨S,rfl,aeV.ren hρ h⟩
 |.tuple O,V,h=>by simp only[aeU] at h;simp only[AV.ren,aeU];obtain⟨S,rfl,h⟩:=h;exact⟨S,rfl,aeV.ren hρ h⟩
theorem aeV.ren{μ μ' :Nat→Place}{n A :Nat}{ρ:Nat→Option Nat}(hρ:∀b Z,b<n→ρ b=some Z →Z <A ∧μ' Z =μ b):
  ∀{vs Us},aeV μ n vs Us→aeV μ' A (AV.ae3 ρ vs) Us
 | [],Us,h=>by simpa [AV.ae3,aeV] using h
 |v::vs,Us,h=>by simp only[aeV] at h;simp only[AV.ae3,aeV];obtain⟨U,X,rfl,W,V⟩:=h;exact⟨U,X,rfl,aeU.ren hρ W,aeV.ren hρ V⟩
end
theorem gb(ρ:Nat→Option Nat):∀Z,AV.ae3 ρ Z=Z.map (AV.ren ρ)
 | []=>rfl
 |v::Z=>by simp[AV.ae3,gb ρ Z]
def AV.aeS:AV→Bool
 |.agg _ | .tuple _ | .undef=>false
 |_=>true
def AV.known:AV→Bool
 |.undef=>false
 |_=>true
def AV.cells:AV→List AV
 |.agg cs=>cs
 |v=>[v]
theorem aeU.agm{μ n v V}(h:aeU μ n v V)(A:v.aeS=true):V.oneCell' =true:=by
 cases v<;>simp[AV.aeS] at A<;>simp only[aeU] at h;case bool=>subst h;rfl
 case int=>subst h;rfl
 case str=>subst h;rfl
 case ptr=>rw[h.2];rfl
 case afd=>subst h;rfl
 case slice=>rw[h.2];rfl
 case y9=>subst h;rfl
 case map=>rw[h.2];rfl
 case yield=>rw[h.2];rfl
 case afl=>subst h;rfl
 case func=>obtain⟨_,rfl,_⟩:=h;rfl
 case nilFunc=>subst h;rfl
 case iface=>obtain⟨_,rfl,_⟩:=h;rfl
 case nilIface=>subst h;rfl
theorem aeU.cells{μ n v V}(h:aeU μ n v V)(A:v.known=true):aeV μ n v.cells V.cells.toList:=by
 cases v<;>simp[AV.known] at A;case agg cs=>
  simp only[aeU] at h;obtain⟨X,rfl,h⟩:=h;simpa [AV.cells,Value.cells] using h
 all_goals
  have Z:=h;simp only[aeU] at h;simp only[AV.cells];first
   |(subst h;simpa [aeV,Value.cells] using Z)
   |(obtain⟨_,rfl⟩:=h;simpa [aeV,Value.cells] using Z)
   |(obtain⟨_,rfl,_⟩:=h;simpa [aeV,Value.cells] using Z)
abbrev Env:=List (Nat×AV)
def ad:Env→Nat→AV
 | [],_=>.undef
 |(k,v)::r,t=>if k=t then v else ad r t
def afo(μ:Nat→Place)(n:Nat)(env:Env)(tmps:Array Value):Prop:=∀t,aeU μ n (ad env t) (tmps.getD t undef)
theorem afo.mono{μ μ' :Nat→Place}{n A :Nat}{env tmps}(G:n≤A)(hμ:∀b,b<n→μ' b=μ b)(h:afo μ n env tmps):afo μ' A env tmps:=
 fun t=>(h t).mono G hμ
structure afT where
 st:LoopState
 afy:Option Code
 env:Env
 N:Nat
 ps:Array Tmp
 assign:Code
 body:Code
inductive aeY where
 |aeP
 |cells (own:Bool) (es:Nat) (cs:List AV)
 |map (es:List (AV×AV))
 |afr (es:List (AV×AV))
 |loop (r:afT)
 deriving Inhabited
abbrev Mem:=List aeY
def aeY.own:aeY→Bool
 |.cells own _ _=>own
 |.map _=>true
 |.afr _=>false
 |.loop _=>true
 |.aeP=>false
variable{s:aeY}
theorem aeY.aft(h:s.own=true):s≠ .aeP:=by cases s<;>simp_all[aeY.own]
def eh(mem:Mem)(b:Nat):Prop:=∃s,mem[b]? =some s∧s.own=true
variable{cs:List AV}{mem:Mem}
theorem jr{es:Nat}(h:mem[b]? =some (.cells true es cs)):eh mem b:=⟨_,h,rfl⟩
theorem Mj{mem:Mem}{b:Nat}{es}(h:mem[b]? =some (.map es)):eh mem b:=⟨_,h,rfl⟩
theorem R3{mem:Mem}{b:Nat}{r}(h:mem[b]? =some (.loop r)):eh mem b:=⟨_,h,rfl⟩
structure agn (μ:Nat→Place)(n:Nat)(r:afT)(L:Loop):Prop where
 st:L.state=r.st
 afy:L.pending=r.afy
 ps:L.params=r.ps
 assign:L.assign=r.assign
 body:L.body=r.body
 size:L.tmps.size=r.N
 tmps:afo μ n r.env L.tmps
def Qg(μ:Nat→Place)(n:Nat)(e:AV×AV)(E:MapEntry):Prop:=aeU μ n e.1 E.key∧aeU μ n e.2 E.val
def ag0(p:Place)(es:Nat)(e:TypeId):Prop:=p.es=es%1000∧(1000≤es→e+1=es / 1000)
variable{p:Place}
theorem ag0.small{es:Nat}{e:TypeId}(h:p.es=es)(hs:es<1000):ag0 p es e:=⟨by rw[h,Nat.mod_eq_of_lt hs],fun Z=>by omega⟩
theorem ag0.es{es:Nat}{e:TypeId}(h:ag0 p es e)(hs:es<1000):p.es=es:=by rw[h.1,Nat.mod_eq_of_lt hs]
def DQ(A:Array MapEntry)(G:Nat):Prop:=G=A.size∧∀(j:Nat) E,A[j]? =some E→E.born=j
def ae7(μ:Nat→Place)(n A:Nat)(w:World)(p:Place):aeY→Prop
 |.aeP=>True
 |.cells own es cs=>∃X e S,w.heap[p.blk]? =some (.cells X e S)∧ag0 p es e∧cs.length≤p.tot∧
   (∀(j:Nat) v,cs[j]? =some v→∃V,X[p.off+j]? =some V∧aeU μ n v V)∧
   (own=true→p.off=0∧S=(0,0)∧X.size=p.tot∧A≤p.blk)
 |.map es=>∃Z W,w.heap[p.blk]? =some (.map Z W)∧(A≤p.blk∧DQ Z W)∧Z.size=es.length∧
   ∀(j:Nat) e,es[j]? =some e→∃E,Z[j]? =some E∧Qg μ n e E
 |.afr es=>∃Z W,w.heap[p.blk]? =some (.map Z W)∧DQ Z W∧Z.size=es.length∧
   ∀(j:Nat) e,es[j]? =some e→∃E,Z[j]? =some E∧Qg μ n e E
 |.loop r=>∃L,w.heap[p.blk]? =some (.loop L)∧A≤p.blk∧agn μ n r L
structure ae5 (base:Nat) (μ:Nat→Place)(mem:Mem)(w:World):Prop where
 ae1:base≤w.heap.size
 slot:∀b s,mem[b]? =some s→ae7 μ mem.length base w (μ b) s
 sep:∀b b' s',eh mem b→mem[b']? =some s' →s' ≠ .aeP→b≠b' →(μ b).blk≠(μ b').blk
structure Step (m0:Nat) (μ:Nat→Place)(mem:Mem)(w:World) (μ' :Nat→Place) (mem' :Mem) (w' :World):Prop where
 len:m0≤mem'.length
 agree:∀b,b<m0→μ' b=μ b
 os:w'.os=w.os
 tape:w'.tape=w.tape
 output:w'.output=w.output
 size:w.heap.size≤w'.heap.size
 frame:∀k,k<w.heap.size→(∀b,eh mem b→(μ b).blk≠k)→w'.heap[k]? =w.heap[k]?
 owner:∀b,eh mem' b→(μ' b).blk<w.heap.size→∃b0,eh mem b0∧(μ b0).blk=(μ' b).blk
 drawn:w.drawn≤w'.drawn
theorem Step.refl{m0 μ mem w}(h:m0≤mem.length):Step m0 μ mem w μ mem w:=
 ⟨h,fun _ _=>rfl,rfl,rfl,rfl,Nat.le_refl _,fun _ _ _=>rfl,fun b Z _=>⟨b,Z,rfl⟩,Nat.le_refl _⟩
theorem Step.trans{m0 μ mem w μ' mem' w' μ'' mem'' w''}(h:Step m0 μ mem w μ' mem' w')(A :Step m0 μ' mem' w' μ'' mem'' w''):
  Step m0 μ mem w μ'' mem'' w'' :=by
 refine⟨A.len,fun b Z=>(A.agree b Z).trans (h.agree b Z),A.os.trans h.os,A.tape.trans h.tape,A.output.trans h.output,
  Nat.le_trans h.size A.size,fun k X S=>?_,fun b Z O=>?_,Nat.le_trans h.drawn A.drawn⟩
 ·rw[A.frame k (Nat.lt_of_lt_of_le X h.size) ?_,h.frame k X S]
  intro b Z he;obtain⟨W,K,V⟩:=h.owner b Z (he▸X);exact S W K (V.trans he)
 ·obtain⟨J,V,M⟩:=A.owner b Z (Nat.lt_of_lt_of_le O h.size)
  obtain⟨W,h3,F⟩:=h.owner J V (M▸O);exact⟨W,h3,F.trans M⟩
theorem Step.mono{m0 m1 μ mem w μ' mem' w'}(h:Step m1 μ mem w μ' mem' w')(A:m0≤m1):Step m0 μ mem w μ' mem' w' :=
 ⟨Nat.le_trans A h.len,fun b Z=>h.agree b (Nat.lt_of_lt_of_le Z A),h.os,h.tape,h.output,h.size,h.frame,h.owner,h.drawn⟩
theorem ae5.afX{base μ mem w w'}(h:ae5 base μ mem w)(A:w'.heap=w.heap):ae5 base μ mem w' :=by
 refine⟨by rw[A];exact h.ae1,fun b s Z=>?_,h.sep⟩;have:=h.slot b s Z;cases s with
 |aeP=>trivial
 |cells own esz cs=>simp only[ae7] at this ⊢;rw[A];exact this
 |map es=>simp only[ae7] at this ⊢;rw[A];exact this
 |afr es=>simp only[ae7] at this ⊢;rw[A];exact this
 |loop r=>simp only[ae7] at this ⊢;rw[A];exact this
theorem Step.drew{m0 μ mem w}(h:m0≤mem.length):Step m0 μ mem w μ mem w.drew:=
 ⟨h,fun _ _=>rfl,rfl,rfl,rfl,Nat.le_refl _,fun _ _ _=>rfl,fun b Z _=>⟨b,Z,rfl⟩,Nat.le_succ _⟩
variable{w:World}
theorem ae7.mono{μ μ' :Nat→Place}{n H base:Nat}{w' :World}(A:n≤H)(hμ:∀b,b<n→μ' b=μ b)(G:s≠ .aeP→w'.heap[p.blk]? =w.heap[p.blk]?)(h:ae7 μ n base w p s):ae7 μ' H base w' p s:=by
 cases s with
 |aeP=>trivial
 |cells own esz cs=>
  simp only[ae7] at h ⊢;obtain⟨O,e,fr,Z,M,K,X,h3⟩:=h;refine⟨O,e,fr,by rw[G (by simp),Z],M,K,fun j v B=>?_,h3⟩;obtain⟨V,z,u⟩:=X j v B;exact⟨V,z,u.mono A hμ⟩
 |map es=>
  simp only[ae7] at h ⊢;obtain⟨J,F,Z,X,h3,D⟩:=h;refine⟨J,F,by rw[G (by simp),Z],X,h3,fun j e he=>?_⟩;obtain⟨E,C,W,S⟩:=D j e he;exact⟨E,C,W.mono A hμ,S.mono A hμ⟩
 |afr es=>
  simp only[ae7] at h ⊢;obtain⟨J,F,Z,X,h3,D⟩:=h;refine⟨J,F,by rw[G (by simp),Z],X,h3,fun j e he=>?_⟩;obtain⟨E,C,W,S⟩:=D j e he;exact⟨E,C,W.mono A hμ,S.mono A hμ⟩
 |loop r=>
  simp only[ae7] at h ⊢;obtain⟨L,Z,X,h3⟩:=h;exact⟨L,by rw[G (by simp),Z],X,{ h3 with tmps:=h3.tmps.mono A hμ }⟩
theorem ae7.afE{μ n base w p s}(h:ae7 μ n base w p s)(hs:s≠ .aeP):p.blk<w.heap.size:=by
 cases s with
 |aeP=>exact absurd rfl hs
 |cells own esz cs=>simp only[ae7] at h;obtain⟨X,e,S,Z,_⟩:=h;exact(Array.getElem?_eq_some_iff.1 Z).1
 |map es=>simp only[ae7] at h;obtain⟨W,V,Z,_⟩:=h;exact(Array.getElem?_eq_some_iff.1 Z).1
 |afr es=>simp only[ae7] at h;obtain⟨W,V,Z,_⟩:=h;exact(Array.getElem?_eq_some_iff.1 Z).1
 |loop r=>simp only[ae7] at h;obtain⟨L,Z,_⟩:=h;exact(Array.getElem?_eq_some_iff.1 Z).1
def upd(μ:Nat→Place)(b:Nat)(p:Place):Nat→Place:=fun x=>if x=b then p else μ x
theorem eX{μ b p}:upd μ b p b=p:=by simp[upd]
theorem wE{μ b p x}(h:x<b):upd μ b p x=μ x:=by simp[upd];intro Z;omega
theorem kW(A:b<mem.length):eh (mem++[s]) b↔eh mem b:=by simp[eh,List.getElem?_append_left A]
theorem gR(w:World)(o:Obj){k:Nat}(h:k<w.heap.size):(w.alloc o).heap[k]? =w.heap[k]? :=heap_alloc_old w o k h
theorem ae5.push{base μ mem w}(h:ae5 base μ mem w)(o:Obj)(s:aeY)(p:Place)(A:p.blk=w.heap.size)(hs:ae7 (upd μ mem.length p) (mem.length+1) base (w.alloc o) p s):
  ae5 base (upd μ mem.length p) (mem++[s]) (w.alloc o)∧
  Step mem.length μ mem w (upd μ mem.length p) (mem++[s]) (w.alloc o):=by
 have hμ:∀b,b<mem.length→upd μ mem.length p b=μ b:=fun b X=>wE X
 constructor
 ·refine⟨by simp;have:=h.ae1;omega,fun b t S=>?_,fun b W z X M K C=>?_⟩
  ·rw[List.length_append,List.length_singleton]
   by_cases J:b<mem.length
   ·rw[List.getElem?_append_left J] at S
    rw[hμ b J];refine(h.slot b t S).mono (Nat.le_succ _) hμ fun K=>?_
    exact gR w o ((h.slot b t S).afE K)
   ·have Z:b=mem.length:=by have:=gL S;simp at this;omega
    subst Z;simp at S;subst S;rw[eX];exact hs
  ·by_cases V:b<mem.length<;>by_cases F:W <mem.length
   ·rw[hμ b V,hμ W F]
    exact h.sep b W z ((kW V).1 X) (by rwa [List.getElem?_append_left F] at M) K C
   ·have Z:W =mem.length:=by have:=gL M;simp at this;omega
    subst Z;rw[eX,hμ b V,A];have:(μ b).blk<w.heap.size:=by obtain⟨B,hc,D⟩:=(kW V).1 X;exact(h.slot b _ hc).afE (aeY.aft D)
    omega
   ·have Z:b=mem.length:=by obtain⟨B,hc,D⟩:=X;have:=gL hc;simp at this;omega
    subst Z;rw[eX,hμ W F,A];have:=(h.slot W z (by rwa [List.getElem?_append_left F] at M)).afE K;omega
   ·have Z:W =mem.length:=by have:=gL M;simp at this;omega
    have O:b=mem.length:=by obtain⟨B,hc,D⟩:=X;have:=gL hc;simp at this;omega
    omega
 ·refine⟨by simp,hμ,rfl,rfl,rfl,by simp,fun k u _=>gR w o u,fun b X J=>?_,Nat.le_refl _⟩
  by_cases V:b<mem.length
  ·exact⟨b,(kW V).1 X,by rw[hμ b V]⟩
  ·have O:b=mem.length:=by obtain⟨B,hc,D⟩:=X;have:=gL hc;simp at this;omega
   subst O;rw[eX,A] at J;omega
theorem ae5.write{base μ mem w}(h:ae5 base μ mem w){b:Nat}{s s' :aeY}(H:mem[b]? =some s)(A:eh mem b)(abV :s' ≠ .aeP→eh (mem.set b s') b){w' :World}(I:w'.drawn=w.drawn)(R:w'.os=w.os)(Y:w'.tape=w.tape)(aaZ:w'.output=w.output)(hsz:w'.heap.size=w.heap.size)(G:∀k,k≠(μ b).blk→w'.heap[k]? =w.heap[k]?)(hs:ae7 μ mem.length base w' (μ b) s'):
  ae5 base μ (mem.set b s') w' ∧Step mem.length μ mem w μ (mem.set b s') w' :=by
 have F:b<mem.length:=gL H;have own:∀x,eh (mem.set b s') x→eh mem x:=by
  intro x X;by_cases Z:x=b
  ·subst Z;exact A
  ·obtain⟨J,hc,O⟩:=X
   rw[List.getElem?_set_ne (Ne.symm Z)] at hc;exact⟨J,hc,O⟩
 constructor
 ·refine⟨by rw[hsz];exact h.ae1,fun x t W=>?_,fun x M t X V K S=>?_⟩
  ·rw[List.length_set]
   by_cases Z:x=b
   ·subst Z
    rw[List.getElem?_set_self F] at W;cases W;exact hs
   ·rw[List.getElem?_set_ne (Ne.symm Z)] at W
    refine(h.slot x t W).mono (Nat.le_refl _) (fun _ _=>rfl) fun K=>G _ ?_
    exact fun he=>h.sep b x t A W K (Ne.symm Z) he.symm
  ·by_cases Z:M =b
   ·subst Z
    have:=h.sep x M s (own x X) H ?_ S
    ·exact this
    ·obtain⟨J,hc,O⟩:=A
     rw[hc] at H;cases H;exact aeY.aft O
   ·rw[List.getElem?_set_ne (Ne.symm Z)] at V
    exact h.sep x M t (own x X) V K S
 ·refine⟨by simp,fun _ _=>rfl,R,Y,aaZ,by omega,fun k C D=>G k ?_,fun x X _=>⟨x,own x X,rfl⟩,Nat.le_of_eq I.symm⟩
  exact fun he=>D b A he.symm
structure TyI where
 desc:TypeDesc
 size:Nat
 bytes:Nat
 zero:Value
 agK:Bool
 deriving Inhabited
structure ahA (P:Program)(t:TypeId)(i:TyI):Prop where
 desc:P.underlying t=some i.desc
 info:∃f,P.info? t=some f∧f.size=i.size∧f.bytes=i.bytes∧f.zero=some i.zero
 ago:i.zero.cells.size=i.size
 agK:i.agK=true→P.stoodInHeld t=false∧P.eqGuardType P.depth t=false
def TyI.isAgg(i:TyI):Bool:=match i.desc with | .struct _ | .array _ _=>true | _=>false
def cW(P:Program)(T:TypeId→Option TyI):Prop:=∀t i,T t=some i→ahA P t i
def jC:Value→AV
 |.bool b=>.bool b
 |.int k n=>.int k n
 |.string s=>.str s.data.toList
 |.pointer none=>.afd
 |.slice none 0 0=>.y9
 |.map none=>.afl
 |.nilFunc=>.nilFunc
 |.nilIface=>.nilIface
 |_=>.undef
def jb:Value→AV
 |.agg cs=>.agg (cs.toList.map jC)
 |v=>jC v
theorem oG(μ:Nat→Place)(n:Nat)(v:Value):aeU μ n (jC v) v:=by unfold jC;split<;>simp[aeU]
theorem mU(μ:Nat→Place)(n:Nat):∀Z:List Value,aeV μ n (Z.map jC) Z
 | []=>by simp[aeV]
 |v::Z=>br.2 ⟨oG μ n v,mU μ n Z⟩
theorem xl(μ:Nat→Place)(n:Nat)(v:Value):aeU μ n (jb v) v:=by
 unfold jb;split
 next cs=>simp only[aeU];exact⟨cs.toList,by simp,mU μ n _⟩
 ·exact oG μ n _
def get(env:Env):Operand→AV
 |.tmp t=>ad env t
 |.const v=>jb v
 |.global _=>.undef
 |.func f=>.func f []
def YI(env:Env)(xs:Array Operand):List AV:=xs.toList.map (get env)
theorem aZ{μ n env}{a:Act}(h:afo μ n env a.tmps)(x:Operand):aeU μ n (get env x) (a.eval x):=by
 cases x with
 |tmp t=>exact h t
 |const v=>exact xl μ n v
 |global g=>simp[get,aeU]
 |func f=>simp only[get,aeU,Act.eval];exact⟨[],rfl,by simp[aeV]⟩
theorem Aj{μ n env}{a:Act}(h:afo μ n env a.tmps)(xs:List Operand):aeV μ n (xs.map (get env)) (xs.map a.eval):=by
 induction xs with
 |nil=>simp[aeV]
 |cons x xs ih=>exact br.2 ⟨aZ h x,ih⟩
theorem afo.put{μ n env}{a:Act}{d:Nat}{v:AV}{V:Value}(h:afo μ n env a.tmps)(A:d<a.tmps.size)(G:aeU μ n v V):
  afo μ n ((d,v)::env) (a.put (some d) V).tmps:=by
 intro t;simp only[ad,Act.put];by_cases Z:d=t
 ·subst Z
  simp only[if_true,Array.getD_eq_getD_getElem?,Array.getElem?_setIfInBounds_self];simpa [A] using G
 ·simp only[Z,if_false,Array.getD_eq_getD_getElem?,Array.getElem?_setIfInBounds_ne Z]
  simpa [Array.getD_eq_getD_getElem?] using h t
def gv:Nat:=9223372036854775807
def Zv(A:BinOp)(k:IntKind)(a b:Int):Option AV:=
 match A with
 |.add=>some (.int k (k.wrap (a+b)))
 |.sub=>some (.int k (k.wrap (a-b)))
 |.mul=>some (.int k (k.wrap (a*b)))
 |.quo=>if b=0 then none else some (.int k (k.wrap (a.tdiv b)))
 |.rem=>if b=0 then none else some (.int k (a.tmod b))
 |.eql=>some (.bool (decide (a=b)))
 |.neq=>some (.bool (!decide (a=b)))
 |.lss=>some (.bool (decide (a<b)))
 |.leq=>some (.bool (decide (a≤b)))
 |.gtr=>some (.bool (decide (b<a)))
 |.geq=>some (.bool (decide (b≤a)))
 |_=>none
def Zw(A:BinOp)(s t:List UInt8):Option AV:=
 match A with
 |.add=>if s.length+t.length≤gv then some (.str (s++t)) else none
 |.eql=>some (.bool (s==t))
 |.neq=>some (.bool (!(s==t)))
 |.lss=>some (.bool (Op.bytesLess s t))
 |.leq=>some (.bool (Op.bytesLess s t||s==t))
 |.gtr=>some (.bool (!(Op.bytesLess s t||s==t)))
 |.geq=>some (.bool (!Op.bytesLess s t))
 |_=>none
def jt(i:TyI)(cs:List AV)(off:Nat):Option AV:=
 if i.isAgg then (if off+i.size≤cs.length then some (.agg ((cs.drop off).take i.size)) else none) else cs[off]?
def Sp(T:TypeId→Option TyI)(q:TypeId→AV→AV→Option Bool)(xs A:List AV):List Field→Option Bool
 | []=>some true
 |f::fs=>
  if f.name = "_" then none else
  match T f.type with
  |none=>none
  |some i=>
   match jt i xs f.offset,jt i A f.offset with
   |some a,some b=>
    match q f.type a b,Sp T q xs A fs with
    |some p,some r=>some (p&&r)
    |_,_=>none
   |_,_=>none
def X8(q:AV→AV→Option Bool)(i:TyI)(xs A:List AV):List Nat→Option Bool
 | []=>some true
 |j::js=>
  match jt i xs (j*i.size),jt i A (j*i.size) with
  |some a,some b=>
   match q a b,X8 q i xs A js with
   |some p,some r=>some (p&&r)
   |_,_=>none
  |_,_=>none
def lz(T:TypeId→Option TyI):Nat→TypeId→AV→AV→Option Bool
 |0,_,_,_=>none
 |d+1,t,x,y=>
  match T t with
  |none=>none
  |some i=>
   match i.desc,x,y with
   |.bool,.bool a,.bool b=>some (a==b)
   |.int _,.int k a,.int k' b=>if k=k' then some (decide (a=b)) else none
   |.string,.str a,.str b=>some (a==b)
   |.struct fs,.agg xs,.agg ys=>if i.agK then Sp T (lz T d) xs ys fs.toList else none
   |.array n e,.agg xs,.agg ys=>if i.agK then (match T e with
    |some j=>X8 (lz T d e) j xs ys (List.range' 0 n)
    |none=>none) else none
   |_,_,_=>none
def ra:Operand→Bool
 |.const _=>true
 |_=>false
def Vx(T:TypeId→Option TyI)(t:TypeId)(r c:Bool)(x y:AV):Option Bool:=
 match T t with
 |none=>none
 |some i=>
  match i.desc,x,y with
  |.slice _,.slice _ _ _ _,.y9=>some false
  |.slice _,.y9,.y9=>some true
  |.pointer _,.afd,.afd=>some true
  |.pointer _,.ptr _ _,.afd=>some false
  |.func _ _ _,.nilFunc,.nilFunc=>some true
  |.func _ _ _,.func _ _,.nilFunc=>some false
  |.interface _,.nilIface,.nilIface=>if r||c then some true else none
  |.interface _,.iface _ _,.nilIface=>some false
  |_,_,_=>none
def Zt(T:TypeId→Option TyI)(A:BinOp)(t:TypeId)(r c:Bool)(x y:AV):Option AV:=
 match x,y with
 |.int k a,.int k' b=>if k=k' then Zv A k a b else none
 |.str s,.str t=>Zw A s t
 |.bool a,.bool b=>match T t with
  |some i=>match i.desc,A with
   |.bool,.eql=>some (.bool (a==b))
   |.bool,.neq=>some (.bool (!(a==b)))
   |_,_=>none
  |none=>none
 |.agg xs,.agg ys=>match A with
  |.eql=>(lz T 20 t (.agg xs) (.agg ys)).map .bool
  |.neq=>(lz T 20 t (.agg xs) (.agg ys)).map fun b=>.bool (!b)
  |_=>none
 |x,y=>match A with
  |.eql=>(Vx T t r c x y).map .bool
  |.neq=>(Vx T t r c x y).map fun b=>.bool (!b)
  |_=>none
def pB(A:Nat→Option (Nat×Nat))(cells:List AV):List (Nat×AV)→Option (List AV)
 | []=>some cells
 |(i,v)::rest=>
  match A i with
  |none=>none
  |some (off,size)=>
   if v.known&&decide (v.cells.length=size)&&decide (off+size≤cells.length) then
    pB A (cells.take off++v.cells++cells.drop (off+size)) rest
   else none
def aE(T:TypeId→Option TyI)(A:Array Field)(i:Nat):Option (Nat×Nat):=
 match A[i]? with
 |some f=>match T f.type with
  |some j=>some (f.offset,j.size)
  |none=>none
 |none=>none
def bW(T:TypeId→Option TyI)(t:TypeId)(parts:List (Nat×AV)):Option AV:=
 match T t with
 |none=>none
 |some i=>
  match i.desc with
  |.struct fs=>if fs.all (fun f=>(T f.type).isSome) then (pB (aE T fs) (jb i.zero).cells parts).map .agg else none
  |.array _ e=>match T e with
   |some j=>(pB (fun k=>some (k*j.size,j.size)) (jb i.zero).cells parts).map .agg
   |none=>none
  |_=>none
def Ad(T:TypeId→Option TyI)(s d:TypeId)(x:AV):Option AV:=
 match T s,T d with
 |some i,some j=>
  match i.desc,j.desc,x with
  |.int _,.int k,.int _ n=>some (.int k (k.wrap n))
  |.string,.string,.str s=>some (.str s)
  |_,_,_=>none
 |_,_=>none
def Et(n:Nat):Option AV→Option Int
 |none=>some n
 |some (.int _ h)=>some h
 |_=>none
def L5:Option AV→Option Int
 |none=>some 0
 |some (.int _ h)=>some h
 |_=>none
def Pw(T:TypeId→Option TyI)(mem:Mem)(t:TypeId)(x:AV)(A G:Option AV):Option AV:=
 match T t with
 |none=>none
 |some i=>
  match i.desc,x with
  |.string,.str s=>
   match Et s.length G,L5 A with
   |some h,some l=>if 0≤l∧l≤h∧h≤s.length then some (.str ((s.drop l.toNat).take (h.toNat-l.toNat))) else none
   |_,_=>none
  |.slice e,.slice b o n c=>
   match T e,mem[b]? with
   |some j,some (.cells _ es cs)=>
    match Et n G,L5 A with
    |some h,some l=>
     if 0≤l∧l≤h∧h≤n∧(l=0∨l<n)∧es=j.size∧0<es∧es<1000∧o+n*es≤cs.length∧c=none then
      some (.slice b (o+l.toNat*es) (h.toNat-l.toNat) none) else none
    |_,_=>none
   |_,_=>none
  |.slice e,.y9=>
   match T e with
   |some _=>
    match Et 0 G,L5 A with
    |some h,some l=>if h=0∧l=0 then some .y9 else none
    |_,_=>none
   |none=>none
  |.array n e,.ptr b o=>
   match T e with
   |some j=>
    match Et n G,L5 A with
    |some h,some l=>
     if 0≤l∧l≤h∧h≤n∧l<n then some (.slice b (o+l.toNat*j.size) (h.toNat-l.toNat) (some (n-l.toNat))) else none
    |_,_=>none
   |none=>none
  |_,_=>none
def sd(T:TypeId→Option TyI)(t:TypeId)(x i:AV):Option AV:=
 match T t with
 |none=>none
 |some ti=>
  match ti.desc,x,i with
  |.slice e,.slice b o n _,.int _ k=>match T e with
   |some j=>if 0≤k∧k<n then some (.ptr b (o+k.toNat*j.size)) else none
   |none=>none
  |.array n e,.ptr b o,.int _ k=>match T e with
   |some j=>if 0≤k∧k<n then some (.ptr b (o+k.toNat*j.size)) else none
   |none=>none
  |_,_,_=>none
def Pv(T:TypeId→Option TyI)(t:TypeId)(x i:AV):Option AV:=
 match T t with
 |none=>none
 |some ti=>
  match ti.desc,x,i with
  |.array n e,.agg cs,.int _ k=>match T e with
   |some j=>if 0≤k∧k<n then jt j cs (k.toNat*j.size) else none
   |none=>none
  |.string,.str s,.int _ k=>if 0≤k then (match s[k.toNat]? with | some c=>some (.int .u8 c.toNat) | none=>none) else none
  |_,_,_=>none
def ns(T:TypeId→Option TyI)(t:TypeId)(x:AV)(f:Nat):Option AV:=
 match T t with
 |none=>none
 |some ti=>
  match ti.desc,x with
  |.struct fs,.agg cs=>match fs[f]? with
   |some fd=>match T fd.type with
    |some j=>jt j cs fd.offset
    |none=>none
   |none=>none
  |_,_=>none
def sa(T:TypeId→Option TyI)(t:TypeId)(x:AV)(f:Nat):Option AV:=
 match T t with
 |none=>none
 |some ti=>
  match ti.desc,x with
  |.struct fs,.ptr b o=>match fs[f]? with
   |some fd=>match T fd.type with
    |some j=>if j.size=0 then none else some (.ptr b (o+fd.offset))
    |none=>none
   |none=>none
  |_,_=>none
def DB(T:TypeId→Option TyI)(t:TypeId)(mem:Mem)(x:AV):Option AV:=
 match T t with
 |none=>none
 |some ti=>
  match ti.desc,x with
  |.string,.str s=>some (.int .i64 s.length)
  |.slice _,.slice _ _ n _=>some (.int .i64 n)
  |.slice _,.y9=>some (.int .i64 0)
  |.array n _,_=>some (.int .i64 n)
  |.map _ _,.afl=>some (.int .i64 0)
  |.map _ _,.map b=>match mem[b]? with
   |some (.map es)=>some (.int .i64 es.length)
   |_=>none
  |_,_=>none
def Rv(T:TypeId→Option TyI)(mem:Mem)(t:TypeId)(x:AV):Option AV:=
 match T t,x with
 |some i,.ptr b o=>match mem[b]? with
  |some (.cells _ _ cs)=>jt i cs o
  |_=>none
 |_,_=>none
def tl(T:TypeId→Option TyI)(mem:Mem)(t:TypeId)(x v:AV):Option Mem:=
 match T t,x with
 |some i,.ptr b o=>match mem[b]? with
  |some (.cells true es cs)=>
   if v.known&&decide (v.cells.length=i.size)&&decide (o+i.size≤cs.length)&&v.cells.all AV.aeS then
    some (mem.set b (.cells true es (cs.take o++v.cells++cs.drop (o+i.size)))) else none
  |_=>none
 |_,_=>none
variable{i:TyI}{k:IntKind}{op:BinOp}{v:AV}{x:Sem Value}
section
variable {P:Program}{T:TypeId→Option TyI}{μ:Nat→Place}{n:Nat}
def Val(P:Program)(x:Sem Value)(w:World) (μ:Nat→Place)(n:Nat)(v:AV):Prop:=∃V,x.run P w=.ok V w∧aeU μ n v V
theorem Val.int{i:Int}(h:x.run P w=.ok (.int k i) w):Val P x w μ n (.int k i):=⟨_,h,by simp[aeU]⟩
theorem Val.bool{b:Bool}(h:x.run P w=.ok (.bool b) w):Val P x w μ n (.bool b):=⟨_,h,by simp[aeU]⟩
theorem Val.str{s:List UInt8}(h:x.run P w=.ok (.string ⟨s.toArray⟩) w):Val P x w μ n (.str s):=⟨_,h,by simp[aeU]⟩
theorem Rt{a b:Int}(h:Zv op k a b=some v)(t:TypeId)(w:World):
  Val P (binOp op t (.int k a) (.int k b)) w μ n v:=by
 cases op<;>simp only[Zv,Option.some.injEq,reduceCtorEq] at h;case add=>subst h;exact .int (by simp[binOp,Op.intArith])
 case sub=>subst h;exact .int (by simp[binOp,Op.intArith])
 case mul=>subst h;exact .int (by simp[binOp,Op.intArith])
 case quo=>
  split at h
  ·cases h
  next Z=>cases h;exact .int (by simp[binOp,Op.intDiv,Z])
 case rem=>
  split at h
  ·cases h
  next Z=>cases h;exact .int (by simp[binOp,Op.intDiv,Z])
 case eql=>subst h;exact .bool (by simp[binOp,Op.intCmp];try (rw[Bool.eq_iff_iff];simp))
 case neq=>subst h;exact .bool (by simp[binOp,Op.intCmp];try (rw[Bool.eq_iff_iff];simp))
 case lss=>subst h;exact .bool (by simp[binOp,Op.intCmp])
 case leq=>subst h;exact .bool (by simp[binOp,Op.intCmp])
 case gtr=>subst h;exact .bool (by simp[binOp,Op.intCmp])
 case geq=>subst h;exact .bool (by simp[binOp,Op.intCmp])
theorem Rx{s u:List UInt8}(h:Zw op s u=some v)(t:TypeId)(w:World):
  Val P (binOp op t (.string ⟨s.toArray⟩) (.string ⟨u.toArray⟩)) w μ n v:=by
 cases op<;>simp only[Zw,Option.some.injEq,reduceCtorEq] at h;case add=>
  split at h
  ·rename_i X
   cases h;refine .str ?_;have:¬((9223372036854775807:Int)<((s.length:Int)+(u.length:Int))):=by simp only[gv] at X;omega
   have W:(ByteArray.mk s.toArray).size=s.length:=by simp[ByteArray.size]
   have hu:(ByteArray.mk u.toArray).size=u.length:=by simp[ByteArray.size]
   have Z:(ByteArray.mk s.toArray)++(ByteArray.mk u.toArray)=ByteArray.mk (s++u).toArray:=by apply ByteArray.ext;simp
   simp[binOp,Op.stringOp,W,hu,this,Z]
  ·cases h
 case eql=>subst h;exact .bool (by simp[binOp,Op.stringOp])
 case neq=>subst h;exact .bool (by simp[binOp,Op.stringOp])
 case lss=>subst h;exact .bool (by simp[binOp,Op.stringOp])
 case leq=>subst h;exact .bool (by simp[binOp,Op.stringOp])
 case gtr=>subst h;exact .bool (by simp[binOp,Op.stringOp])
 case geq=>subst h;exact .bool (by simp[binOp,Op.stringOp])
section
variable (hT:cW P T){t:TypeId}
include hT t
section
variable (h:T t=some i)
include h
theorem vU(w:World):(Go.isAgg t).run P w=.ok i.isAgg w:=by have Z:=(hT t i h).desc;simp only[Go.isAgg,Sem.run_bind,run_underlying Z,Result.andThen_ok,TyI.isAgg];cases i.desc<;>rfl
theorem cP(w:World):(Go.sizeOf t).run P w=.ok i.size w:=by obtain⟨f,Z,X,_,_⟩:=(hT t i h).info;simp[Go.sizeOf,typeInfo,Z,X]
theorem yR(w:World):∃f,(typeInfo t).run P w=.ok f w∧f.size=i.size∧f.bytes=i.bytes∧f.zero=some i.zero:=by obtain⟨f,Z,X,W,V⟩:=(hT t i h).info;exact⟨f,by simp[typeInfo,Z],X,W,V⟩
theorem eY(w:World):(zeroValue t).run P w=.ok i.zero w:=by obtain⟨f,Z,W,V,X⟩:=yR hT h w;simp[zeroValue,Z,X]
end
theorem iQ(G:T t=some i){A:List Value}{off:Nat}(h:jt i cs off=some v)(H:aeV μ n cs A)(w:World):Val P (part t ⟨A⟩ off) w μ n v:=by
 unfold jt at h;simp only[part,Val];cases hi:i.isAgg with
 |true=>
  simp only[hi,if_true] at h;split at h
  ·rename_i Z
   cases h;have V:=H.length;refine⟨.agg (Array.extract ⟨A⟩ off (off+i.size)),?_,?_⟩
   ·simp[vU hT G,cP hT G,hi]
   ·simp only[aeU]
    refine⟨(A.drop off).take i.size,?_,(H.drop off).take i.size⟩;congr 1;apply Array.ext';simp[List.extract]
  ·cases h
 |false=>
  simp only[hi,Bool.false_eq_true,if_false] at h;obtain⟨U,X,W⟩:=H.get off v h;exact⟨U,by simp[vU hT G,hi,X],W⟩
end
theorem aeU.bool{b V}(h:aeU μ n (.bool b) V):V=.bool b:=by simpa [aeU] using h
theorem aeU.int{k i V}(h:aeU μ n (.int k i) V):V=.int k i:=by simpa [aeU] using h
theorem aeU.str{s V}(h:aeU μ n (.str s) V):V=.string ⟨s.toArray⟩:=by simpa [aeU] using h
theorem aeU.agg{cs V}(h:aeU μ n (.agg cs) V):∃Z,V=.agg ⟨Z⟩∧aeV μ n cs Z:=by simpa only[aeU] using h
theorem Em(hT:cW P T){d:Nat}{q:TypeId→AV→AV→Option Bool}
  (H:∀{t:TypeId}{x y:AV}{b:Bool}{X Y:Value},q t x y=some b→aeU μ n x X→aeU μ n y Y→∀(w:World),(Op.equalIn d t X Y).run P w=.ok b w)
  {xs I:List AV}{R Ys:List Value}(hx:aeV μ n xs R) (hy:aeV μ n I Ys) (w:World):
  ∀{G:List Field}{b:Bool},Sp T q xs I G=some b→(Op.eqFields d ⟨R⟩ ⟨Ys⟩ G).run P w=.ok b w
 | [],b,h=>by simp only[Sp,Option.some.injEq] at h;subst h;simp[Op.eqFields]
 |f::G,b,h=>by
  rw[Sp] at h;split at h
  ·cases h
  ·rename_i Z
   split at h
   ·cases h
   ·rename_i i S
    split at h
    ·rename_i a c O hc
     split at h
     ·rename_i p r M K
      cases h;obtain⟨A,J,W⟩:=iQ (P:=P) (μ:=μ) (n:=n) hT S O hx w;obtain⟨C,F,V⟩:=iQ (P:=P) (μ:=μ) (n:=n) hT S hc hy w;have D:=H M W V w;have B:=Em hT H hx hy w K;simp only[Op.eqFields,Z,ne_eq,not_false_eq_true,if_true,Sem.run_bind,J,F,D,Result.andThen_ok];cases p
      ·simp
      ·simp[B]
     ·cases h
    ·cases h
theorem El(hT:cW P T){d:Nat}{e:TypeId}{i:TyI}(G:T e=some i){q:AV→AV→Option Bool}
  (I:∀{x y:AV}{b:Bool}{X Y:Value},q x y=some b→aeU μ n x X→aeU μ n y Y→∀(w:World),(Op.equalIn d e X Y).run P w=.ok b w)
  {xs R:List AV}{Xs Ys:List Value}(hx:aeV μ n xs Xs) (hy:aeV μ n R Ys) (w:World):
  ∀{H:List Nat}{b:Bool},X8 q i xs R H=some b→
   ((forIn H ((none,()):Option Bool×Unit) fun j _=>(do
     let a ←part e ⟨Xs⟩ (j*i.size)
     let c ←part e ⟨Ys⟩ (j*i.size)
     let r ←Op.equalIn d e a c
     if (!r)=true then pure (ForInStep.done (some false,())) else pure (ForInStep.yield (none,())):Sem (ForInStep (Option Bool×Unit)))).run P w=
    .ok (if b then none else some false,()) w)
 | [],b,h=>by simp only[X8,Option.some.injEq] at h;subst h;simp
 |j::H,b,h=>by
  rw[X8] at h;split at h
  ·rename_i a c V hc
   split at h
   ·rename_i p r S O
    cases h;obtain⟨A,M,Z⟩:=iQ (P:=P) (μ:=μ) (n:=n) hT G V hx w;obtain⟨C,K,W⟩:=iQ (P:=P) (μ:=μ) (n:=n) hT G hc hy w;have J:=I S Z W w;have F:=El hT G I hx hy w O;simp only[List.forIn_cons,Sem.run_bind,M,K,J,Result.andThen_ok];cases p
    ·simp
    ·simp only[Bool.not_true,Bool.false_eq_true,if_false,Sem.run_pure,Result.andThen_ok,Bool.true_and]
     exact F
   ·cases h
  ·cases h
theorem iK(hT:cW P T):∀(d:Nat){t:TypeId}{x y:AV}{b:Bool}{X Y:Value},lz T d t x y=some b→aeU μ n x X→aeU μ n y Y→
  ∀(k:Nat) (w:World),(Op.equalIn (d+k) t X Y).run P w=.ok b w
 |0,_,_,_,_,_,_,h,_,_,_,_=>by simp[lz] at h
 |d+1,t,x,y,b,X,Y,h,hx,hy,k,w=>by
  rw[lz] at h;rw[show d+1+k=d+k+1 by omega];cases ht:T t with
  |none=>rw[ht] at h;cases h
  |some i=>
   rw[ht] at h;simp only at h;have Z:=(hT t i ht).desc;split at h
   ·rename_i W
    cases h;rw[hx.bool,hy.bool];rw[W] at Z;exact run_equalIn_bool' w _ t _ _ Z
   ·rename_i C G a A b' W
    split at h
    ·rename_i B
     cases h;subst B;rw[hx.int,hy.int];rw[W] at Z;rw[run_equalIn_int w _ t _ C _ _ Z];congr 1
    ·cases h
   ·rename_i W
    cases h;rw[hx.str,hy.str];rw[W] at Z;rw[run_equalIn_string w _ t _ _ Z];simp
   ·rename_i z u R W
    split at h
    ·rename_i O
     obtain⟨I,rfl,V⟩:=hx.agg;obtain⟨H,rfl,S⟩:=hy.agg;rw[W] at Z;have F:P.fieldsOf t=z:=by simp[Program.fieldsOf,Z]
     rw[run_equalIn_agg w _ t _ _ (by rw[Z,F]) ((hT t i ht).agK O).1,F];exact Em hT (fun M K h3 w=>iK hT d M K h3 k w) V S w h
    ·cases h
   ·rename_i m e u R W
    split at h
    ·split at h
     ·rename_i j D
      obtain⟨I,rfl,V⟩:=hx.agg;obtain⟨H,rfl,S⟩:=hy.agg;rw[W] at Z;have J:=El hT D (d:=d+k) (fun M K h3 w=>iK hT d M K h3 k w) V S w h;simp only[Op.equalIn,Sem.run_bind,run_underlying Z,Result.andThen_ok,cP hT D];simp only[Std.Legacy.Range.forIn_eq_forIn_range',Std.Legacy.Range.size,Nat.sub_zero,Nat.add_sub_cancel,Nat.div_one];rw[J];cases b<;>rfl
     ·cases h
    ·cases h
   ·cases h
end
end Go.Eng
namespace Go.Eng
variable{X Y:Value}
section
variable {P:Program}{T:TypeId→Option TyI}{μ:Nat→Place}{n:Nat}
theorem gk(t:TypeId)(X Y:Value):Op.equal t X Y=Op.equalIn (9999+1) t X Y:=rfl
theorem Ec(hT:cW P T){t:TypeId}{x y:AV}{b:Bool}(A:aeU μ n x X)(G:aeU μ n y Y)(H I:Operand)(h:Vx T t (ra H) (ra I) x y=some b)(w:World):
  (∀Z,(eqGuard Z t H I X Y).run P w=.ok () w)∧(Op.equal t X Y).run P w=.ok b w∧(∀Z:BinOp,Z=.eql∨Z=.neq→binOp Z t X Y=(if Z=.eql then (do pure (.bool (←Op.equal t X Y))) else (do pure (.bool (!(←Op.equal t X Y)))))):=by
 unfold Vx at h;cases ht:T t with
 |none=>rw[ht] at h;cases h
 |some i=>
  rw[ht] at h;simp only at h;have W:=(hT t i ht).desc;split at h
  ·rename_i V;cases h;rw[V] at W
   simp only[aeU] at A G;obtain⟨_,rfl⟩:=A;subst G;exact⟨fun Z=>by rw[eqGuard_at_slice];rfl,by rw[gk,Op.equalIn];simp[run_underlying W],by intro Z S;cases S with | inl e=>subst e;rfl | inr e=>subst e;rfl⟩
  ·rename_i V;cases h;rw[V] at W
   simp only[aeU] at A G;subst A;subst G;exact⟨fun Z=>by rw[eqGuard_at_slice];rfl,by rw[gk,Op.equalIn];simp[run_underlying W],by intro Z S;cases S with | inl e=>subst e;rfl | inr e=>subst e;rfl⟩
  ·rename_i V;cases h;rw[V] at W
   simp only[aeU] at A G;subst A;subst G;exact⟨fun Z=>by rw[eqGuard_at_pointer];rfl,by rw[gk,Op.equalIn];simp[run_underlying W],by intro Z S;cases S with | inl e=>subst e;rfl | inr e=>subst e;rfl⟩
  ·rename_i V;cases h;rw[V] at W
   simp only[aeU] at A G;obtain⟨_,rfl⟩:=A;subst G;exact⟨fun Z=>by rw[eqGuard_at_pointer];rfl,by rw[gk,Op.equalIn];simp[run_underlying W],by intro Z S;cases S with | inl e=>subst e;rfl | inr e=>subst e;rfl⟩
  ·rename_i V;cases h;rw[V] at W
   simp only[aeU] at A G;subst A;subst G;exact⟨fun Z=>by rw[eqGuard_at_nilFunc];rfl,by rw[gk,Op.equalIn];simp[run_underlying W],by intro Z S;cases S with | inl e=>subst e;rfl | inr e=>subst e;rfl⟩
  ·rename_i V;cases h;rw[V] at W
   simp only[aeU] at A G;obtain⟨_,rfl,_⟩:=A;subst G;exact⟨fun Z=>by rw[eqGuard_at_func];rfl,by rw[gk,Op.equalIn];simp[run_underlying W],by intro Z S;cases S with | inl e=>subst e;rfl | inr e=>subst e;rfl⟩
  ·rename_i V;rw[V] at W
   simp only[aeU] at A G;subst A;subst G;split at h
   ·rename_i hc;cases h
    refine⟨fun Z=>?_,by rw[gk,Op.equalIn];simp[run_underlying W],by intro Z S;cases S with | inl e=>subst e;rfl | inr e=>subst e;rfl⟩;cases H<;>cases I<;>simp[ra] at hc<;>first | (rw[eqGuard_nil_constR];rfl) | (rw[eqGuard_nil_constL];rfl)
   ·cases h
  ·rename_i V;cases h;rw[V] at W
   simp only[aeU] at A G;obtain⟨_,rfl,_⟩:=A;subst G;exact⟨fun Z=>by rw[eqGuard_at_iface];rfl,by rw[gk,Op.equalIn];simp[run_underlying W],by intro Z S;cases S with | inl e=>subst e;rfl | inr e=>subst e;rfl⟩
  ·cases h
theorem Rp(hT:cW P T){R:BinOp}{t:TypeId}{x y v:AV}(A:aeU μ n x X)(G:aeU μ n y Y)(H I:Operand)(h:Zt T R t (ra H) (ra I) x y=some v)(w:World):
  Val P (do eqGuard R t H I X Y;binOp R t X Y) w μ n v:=by
 unfold Zt at h;split at h
 ·rename_i k a m b
  split at h
  ·rename_i F
   subst F;rw[A.int,G.int];obtain⟨V,W,S⟩:=Rt (P:=P) (μ:=μ) (n:=n) h t w;exact⟨V,by rw[eqGuard_at_int];simpa using W,S⟩
  ·cases h
 ·rw[A.str,G.str]
  obtain⟨V,W,S⟩:=Rx (P:=P) (μ:=μ) (n:=n) h t w;exact⟨V,by rw[eqGuard_at_string];simpa using W,S⟩
 ·rename_i a b
  rw[A.bool,G.bool];split at h
  ·rename_i i D
   have K:=(hT t i D).desc;split at h
   ·rename_i J
    cases h;rw[J] at K;refine .bool ?_;rw[eqGuard_at_bool];simp only[binOp,gk,Sem.run_bind,Sem.run_pure,Result.andThen_ok,run_equalIn_bool' w 9999 t a b K]
   ·rename_i J
    cases h;rw[J] at K;refine .bool ?_;rw[eqGuard_at_bool];simp only[binOp,gk,Sem.run_bind,Sem.run_pure,Result.andThen_ok,run_equalIn_bool' w 9999 t a b K]
   ·cases h
  ·cases h
 ·rename_i C B
  have M:∀b,lz T 20 t (.agg C) (.agg B)=some b→P.eqGuardType P.depth t=false:=by
   intro b Z;rw[lz] at Z;cases ht:T t with
   |none=>rw[ht] at Z;cases Z
   |some i=>
    rw[ht] at Z;simp only at Z;split at Z
    next W _=>cases W
    next W _=>cases W
    next W _=>cases W
    ·split at Z
     next O=>exact((hT t i ht).agK O).2
     ·cases Z
    ·split at Z
     next O=>exact((hT t i ht).agK O).2
     ·cases Z
    ·cases Z
  split at h
  ·simp only[Option.map_eq_some_iff] at h
   obtain⟨b,Z,rfl⟩:=h;have W:=iK hT 20 Z A G 9980 w;obtain⟨z,rfl,_⟩:=A.agg;obtain⟨u,rfl,_⟩:=G.agg;refine .bool ?_;simp only[Sem.run_bind,run_eqGuard_agg w _ t H I _ _ (M b Z),Result.andThen_ok,run_eql_struct,W]
  ·simp only[Option.map_eq_some_iff] at h
   obtain⟨b,Z,rfl⟩:=h;have W:=iK hT 20 Z A G 9980 w;obtain⟨z,rfl,_⟩:=A.agg;obtain⟨u,rfl,_⟩:=G.agg;refine .bool ?_;simp only[Sem.run_bind,run_eqGuard_agg w _ t H I _ _ (M b Z),Result.andThen_ok,run_neq_struct,W]
  ·cases h
 ·split at h
  ·simp only[Option.map_eq_some_iff] at h
   obtain⟨b,Z,rfl⟩:=h;obtain⟨W,S,h3⟩:=Ec hT A G H I Z w;refine .bool ?_;rw[Sem.run_bind,W,Result.andThen_ok,h3 _ (.inl rfl)];simp[S]
  ·simp only[Option.map_eq_some_iff] at h
   obtain⟨b,Z,rfl⟩:=h;obtain⟨W,S,h3⟩:=Ec hT A G H I Z w;refine .bool ?_;rw[Sem.run_bind,W,Result.andThen_ok,h3 _ (.inr rfl)];simp[S]
  ·cases h
theorem DA(hT:cW P T){s d:TypeId}{x v:AV}(A:aeU μ n x X)(h:Ad T s d x=some v)(w:World):
  Val P (convert s d X) w μ n v:=by
 unfold Ad at h;split at h
 ·rename_i i j O M
  have Z:=(hT s i O).desc;have W:=(hT d j M).desc;split at h
  ·rename_i V S;cases h;rw[A.int];rw[V] at Z;rw[S] at W
   exact .int (by simp[convert,run_underlying Z,run_underlying W,Conv.intToInt])
  ·rename_i V S;cases h;rw[A.str];rw[V] at Z;rw[S] at W
   exact .str (by simp[convert,run_underlying Z,run_underlying W])
  ·cases h
 ·cases h
theorem LQ(off:Nat):∀(vs:List Value)(k:Nat)(cur:List Value),off+k+vs.length≤cur.length→
  ((vs.zipIdx k).foldl (fun(cs:Array Value) (x:Value×Nat)=>cs.setIfInBounds (off+x.2) x.1) ⟨cur⟩)=⟨cur.take (off+k)++vs++cur.drop (off+k+vs.length)⟩
 | [],k,cur,_=>by simp
 |v::vs,k,cur,h=>by
  simp only[List.zipIdx_cons,List.foldl_cons];have Z:(⟨cur⟩:Array Value).setIfInBounds (off+k) v=⟨cur.set (off+k) v⟩:=by simp
  rw[Z,LQ off vs (k+1) (cur.set (off+k) v) (by simp at h ⊢;omega)];have e:=list_seg_step cur (off+k) v vs (by simp at h ⊢;omega);simp only[List.append_assoc,Array.mk.injEq,List.length_cons] at e ⊢;simpa [Nat.add_assoc,Nat.add_comm 1] using e
theorem so{I:Nat→Option (Nat×Nat)}:∀{parts:List (Nat×AV)}{cells H :List AV}{G:List (Nat×Value)}{A:List Value},
  pB I cells parts=some H →aeV μ n cells A→G.map (·.1)=parts.map (·.1)→aeV μ n (parts.map (·.2)) (G.map (·.2))→
  ∃Z,Instr.fill I ⟨A⟩ G=some ⟨Z⟩∧aeV μ n H Z
 | [],cells,H,G,A,h,hc,O,_=>by
  simp only[pB,Option.some.injEq] at h;subst h;have:G=[]:=by simpa using O
  subst this;exact⟨A,rfl,hc⟩
 |(i,v)::rest,cells,H,G,A,h,hc,O,hv=>by
  cases G with
  |nil=>simp at O
  |cons p Rest=>
   obtain⟨z,V⟩:=p;simp only[List.map_cons,List.cons.injEq] at O;obtain⟨rfl,O⟩:=O;simp only[List.map_cons] at hv;obtain⟨D,C⟩:=br.1 hv;rw[pB] at h;cases hpl:I z with
   |none=>rw[hpl] at h;cases h
   |some os=>
    obtain⟨W,S⟩:=os;rw[hpl] at h;simp only at h;split at h
    ·rename_i B
     simp only[Bool.and_eq_true,decide_eq_true_eq] at B;obtain⟨⟨u,K⟩,m⟩:=B;have M:=D.cells u;have J:V.cells.size=S:=by rw[←Array.length_toList,M.length,K]
     have F:=hc.length;rw[Instr.fill,hpl];simp only;have j:(V.cells.zipIdx.foldl (fun cs (x:Value×Nat)=>cs.setIfInBounds (W+x.2) x.1) (⟨A⟩:Array Value))=⟨A.take W++V.cells.toList++A.drop (W+S)⟩:=by rw[←Array.foldl_toList,Array.toList_zipIdx,LQ W _ 0 A (by rw[M.length,F,K];omega)];simp[J]
     rw[if_neg (by simp[J,F];omega),j];exact so h (((hc.take W).append M).append (hc.drop _)) O C
    ·cases h
theorem PQ{α β:Type}(g:α→Sem β)(A:α→β)(w:World):∀(l:List α),(∀x∈l,(g x).run P w=.ok (A x) w)→(l.mapM g).run P w=.ok (l.map A) w
 | [],_=>by simp
 |x::l,h=>by simp[List.mapM_cons,h x (by simp),PQ g A w l (fun y Z=>h y (by simp[Z]))]
theorem Pd{μ:Nat→Place}{n:Nat}{v:AV}{V:Value}(h:aeU μ n v V)(A:v.cells=[v])(G:V.cells= #[V]):aeV μ n v.cells V.cells.toList:=by rw[A,G];exact br.2 ⟨h,by simp[aeV]⟩
theorem DK(v:Value):(jC v).cells=[jC v]:=by unfold jC;split<;>rfl
theorem jq(μ:Nat→Place)(n:Nat)(z:Value):aeV μ n (jb z).cells z.cells.toList:=by
 by_cases h:∃Z,z=.agg Z
 ·obtain⟨Z,rfl⟩:=h;exact mU μ n _
 ·have e:jb z=jC z:=by cases z<;>first | rfl | exact absurd ⟨_,rfl⟩ h
  have c:z.cells= #[z]:=by cases z<;>first | rfl | exact absurd ⟨_,rfl⟩ h
  rw[e];exact Pd (oG μ n z) (DK z) c
theorem Le(hT:cW P T){t:TypeId}{parts:List (Nat×AV)}{A:List (Nat×Value)}{v:AV}(h:bW T t parts=some v)(G:A.map (·.1)=parts.map (·.1))(H:aeV μ n (parts.map (·.2)) (A.map (·.2)))(w:World):
  Val P (Instr.build t ⟨A⟩) w μ n v:=by
 unfold bW at h;cases ht:T t with
 |none=>rw[ht] at h;cases h
 |some i=>
  rw[ht] at h;simp only at h;have M:=(hT t i ht).desc;have u:=jq μ n i.zero;split at h
  ·rename_i W K
   split at h
   ·rename_i R
    simp only[Option.map_eq_some_iff] at h;obtain⟨J,V,rfl⟩:=h;obtain⟨Z,F,D⟩:=so V u G H;rw[K] at M;have O :∀f∈W.toList,∃j,T f.type=some j:=by intro f V;rw[Array.all_eq_true'] at R;have:=R f (by simpa using V);exact Option.isSome_iff_exists.1 this
    have C:(W.mapM fun f=>do pure (f.offset,←sizeOf f.type):Sem (Array (Nat×Nat))).run P w=
      .ok (W.map fun f=>(f.offset,((T f.type).map (·.size)).getD 0)) w:=by
     rw[Array.mapM_eq_mapM_toList,Sem.run_map];rw[PQ (P:=P) _ (fun f=>(f.offset,((T f.type).map (·.size)).getD 0)) w W.toList (fun f V=>by obtain⟨j,S⟩:=O f V;simp[cP hT S,S])]
     simp only[Result.andThen_ok,Result.ok.injEq,and_true];apply Array.ext';simp
    have B:(fun k=>(W.map fun f=>(f.offset,((T f.type).map (·.size)).getD 0))[k]?)=aE T W:=by
     funext k;simp only[aE,Array.getElem?_map];cases hk:W[k]? with
     |none=>rfl
     |some f=>
      have z:f∈W.toList:=by have:=Array.mem_of_getElem? hk;simpa using this
      obtain⟨j,S⟩:=O f z;simp[S]
    refine⟨.agg ⟨Z⟩,?_,by simp only[aeU];exact⟨Z,rfl,D⟩⟩;simp only[Instr.build,Sem.run_bind,eY hT ht,Result.andThen_ok,run_underlying M];erw [C];simp only[Result.andThen_ok,B];rw[show i.zero.cells=⟨i.zero.cells.toList⟩ from rfl,F];rfl
   ·cases h
  ·rename_i m e K
   split at h
   ·rename_i j S
    simp only[Option.map_eq_some_iff] at h;obtain⟨J,V,rfl⟩:=h;obtain⟨Z,F,D⟩:=so V u G H;rw[K] at M;refine⟨.agg ⟨Z⟩,?_,by simp only[aeU];exact⟨Z,rfl,D⟩⟩;simp only[Instr.build,Sem.run_bind,eY hT ht,Result.andThen_ok,run_underlying M,cP hT S];rw[show i.zero.cells=⟨i.zero.cells.toList⟩ from rfl,F];rfl
   ·cases h
  ·cases h
end
end Go.Eng
namespace Go.Eng
variable{f:Nat}
section
variable {P:Program}{T:TypeId→Option TyI}{μ:Nat→Place}{n:Nat}
theorem aeU.ptr{b o V}(h:aeU μ n (.ptr b o) V):b<n∧V=.pointer (some ⟨(μ b).blk,(μ b).off+o,none⟩):=by simpa only[aeU] using h
theorem aeU.slice{b o l c V}(h:aeU μ n (.slice b o l c) V):b<n∧V=.slice (some ⟨(μ b).blk,(μ b).off+o,none⟩) l (jl (μ b) o c):=by simpa only[aeU] using h
theorem cq{k:IntKind}{i:Int}{y:Nat}(h0:0≤i)(G:i≤y)(A:BoundsCode)(w:World):
  (Instr.sliceBound (.int k i) y A).run P w=.ok i.toNat w:=by
 simp[Instr.sliceBound,asIntOf,h0,G]
section
variable (hT:cW P T){t:TypeId}
include hT t
theorem zJ{x i v:AV}{X I:Value}(A:aeU μ n x X)(G:aeU μ n i I)(h:sd T t x i=some v)(w:World):
  Val P (Instr.indexAt t X I) w μ n v:=by
 unfold sd at h;cases ht:T t with
 |none=>rw[ht] at h;cases h
 |some ti=>
  rw[ht] at h;simp only at h;have V:=(hT t ti ht).desc;split at h
  ·rename_i e b o m c k j S
   rw[S] at V;split at h
   ·rename_i O Z
    split at h
    ·rename_i M
     cases h;obtain⟨W,rfl⟩:=A.slice;rw[G.int];refine⟨.pointer (some ⟨(μ b).blk,(μ b).off+(o+j.toNat*O.size),none⟩),?_,by simp only[aeU];exact⟨W,trivial⟩⟩;simp[Instr.indexAt,asIntOf,run_underlying V,M,cP hT Z,Addr.add_lit,Nat.add_assoc]
    ·cases h
   ·cases h
  ·rename_i m e b o k j S
   rw[S] at V;split at h
   ·rename_i O Z
    split at h
    ·rename_i M
     cases h;obtain⟨W,rfl⟩:=A.ptr;rw[G.int];refine⟨.pointer (some ⟨(μ b).blk,(μ b).off+(o+j.toNat*O.size),none⟩),?_,by simp only[aeU];exact⟨W,trivial⟩⟩;simp[Instr.indexAt,asIntOf,run_underlying V,Instr.sureAddr,M,cP hT Z,Addr.add_lit,Nat.add_assoc]
    ·cases h
   ·cases h
  ·cases h
theorem Lj{x i v:AV}{X I:Value}(A:aeU μ n x X)(G:aeU μ n i I)(h:Pv T t x i=some v)(w:World):
  Val P (Instr.index t X I) w μ n v:=by
 unfold Pv at h;cases ht:T t with
 |none=>rw[ht] at h;cases h
 |some ti=>
  rw[ht] at h;simp only at h;have W:=(hT t ti ht).desc;split at h
  ·rename_i m e B k j S
   rw[S] at W;split at h
   ·rename_i z Z
    split at h
    ·rename_i K
     obtain⟨u,rfl,O⟩:=A.agg;rw[G.int];obtain⟨V,J,F⟩:=iQ (P:=P) (μ:=μ) (n:=n) hT Z h O w;exact⟨V,by simp[Instr.index,asIntOf,run_underlying W,K,cP hT Z,J],F⟩
    ·cases h
   ·cases h
  ·rename_i s k j S
   rw[S] at W;split at h
   ·rename_i D
    split at h
    ·rename_i c hc
     cases h;rw[A.str,G.int];have M :(ByteArray.mk s.toArray)[j.toNat]? =some c:=by have C:j.toNat<s.length:=gL hc;have Y:=(List.getElem?_eq_some_iff.1 hc).2;rw[getElem?_pos (ByteArray.mk s.toArray) j.toNat (by simpa [ByteArray.size] using C)];congr 1
     exact .int (by simp[Instr.index,asIntOf,run_underlying W,D,M])
    ·cases h
   ·cases h
  ·cases h
theorem Li{x v:AV}{X:Value}(A:aeU μ n x X)(h:ns T t x f=some v)(w:World):
  Val P (Instr.field t X f) w μ n v:=by
 unfold ns at h;cases ht:T t with
 |none=>rw[ht] at h;cases h
 |some ti=>
  rw[ht] at h;simp only at h;have S:=(hT t ti ht).desc;split at h
  ·rename_i F D O
   rw[O] at S;split at h
   ·rename_i C Z
    split at h
    ·rename_i j M
     obtain⟨B,rfl,W⟩:=A.agg;obtain⟨V,K,J⟩:=iQ (P:=P) (μ:=μ) (n:=n) hT M h W w;exact⟨V,by simp[Instr.field,run_underlying S,Z,asAgg,K],J⟩
    ·cases h
   ·cases h
  ·cases h
theorem zI{x v:AV}{X:Value}(A:aeU μ n x X)(h:sa T t x f=some v)(w:World):
  Val P (Instr.fieldAt t X f) w μ n v:=by
 unfold sa at h;cases ht:T t with
 |none=>rw[ht] at h;cases h
 |some ti=>
  rw[ht] at h;simp only at h;have S:=(hT t ti ht).desc;split at h
  ·rename_i J b o O
   rw[O] at S;split at h
   ·rename_i M Z
    split at h
    ·rename_i j K
     split at h
     ·cases h
     ·rename_i W
      cases h;obtain⟨V,rfl⟩:=A.ptr;refine⟨.pointer (some ⟨(μ b).blk,(μ b).off+(o+M.offset),none⟩),?_,by simp only[aeU];exact⟨V,trivial⟩⟩;simp[Instr.fieldAt,run_underlying S,Z,Instr.sureAddr,fieldPlace,Addr.add_lit,Nat.add_assoc,cP hT K,W]
    ·cases h
   ·cases h
  ·cases h
end
end
end Go.Eng
namespace Go.Eng
section
variable {P:Program}{T:TypeId→Option TyI}{μ:Nat→Place}{mem:Mem}{base:Nat}{w:World}
theorem sf(s:List UInt8):(ByteArray.mk s.toArray).size=s.length:=by simp[ByteArray.size]
theorem ae5.cell(A:ae5 base μ mem w){b:Nat}{own es cs}(G:mem[b]? =some (.cells own es cs)){j:Nat}{v:AV}(H:cs[j]? =some v):
  ∃V,w.cell? ⟨(μ b).blk,(μ b).off+j,none⟩=some V∧aeU μ mem.length v V:=by
 have Z:=A.slot b _ G;simp only[ae7] at Z;obtain⟨X,e,K,W,_,_,S,_⟩:=Z;obtain⟨V,O,M⟩:=S j v H;exact⟨V,by simp[World.cell?,W,O],M⟩
theorem ae5.cells(A:ae5 base μ mem w){b:Nat}{own es cs}(G:mem[b]? =some (.cells own es cs)){o k:Nat}(H:o+k≤cs.length):
  ∃Z,aeV μ mem.length ((cs.drop o).take k) Z∧Z.length=k∧∀(j:Nat) u,Z[j]? =some u→w.cell? ((⟨(μ b).blk,(μ b).off+o,none⟩:Addr).add j)=some u:=by
 induction k with
 |zero=>exact⟨[],by simp[aeV],rfl,by simp⟩
 |succ k ih=>
  obtain⟨Z,O,W,h3⟩:=ih (by omega);have S:o+k<cs.length:=by omega
  obtain⟨V,M,K⟩:=A.cell G (j:=o+k) (v:=cs[o+k]) (by simp[S]);refine⟨Z++[V],?_,by simp[W],fun j u hu=>?_⟩
  ·rw[List.take_add_one]
   have:(cs.drop o)[k]? =some cs[o+k]:=by simp[List.getElem?_drop,S]
   rw[this];exact O.append (br.2 ⟨K,by simp[aeV]⟩)
  ·by_cases J:j<Z.length
   ·rw[List.getElem?_append_left J] at hu;exact h3 j u hu
   ·have X:j=Z.length:=by have:=gL hu;simp at this;omega
    subst X;simp at hu;subst hu;rw[Addr.add_lit,W,Nat.add_assoc];exact M
section
variable (hT:cW P T)(hH:ae5 base μ mem w)
include hT hH
theorem BE{t:TypeId}{x v:AV}{X:Value}(A:aeU μ mem.length x X)(h:Rv T mem t x=some v):
  Val P (Instr.loadAt t X) w μ mem.length v:=by
 unfold Rv at h;split at h
 ·rename_i i b o Z
  split at h
  ·rename_i own es B O
   obtain⟨K,rfl⟩:=A.ptr;unfold jt at h;cases hi:i.isAgg with
   |true=>
    simp only[hi,if_true] at h;split at h
    ·rename_i W
     cases h;obtain⟨S,J,F,h3⟩:=hH.cells O W;refine⟨.agg S.toArray,?_,by simp only[aeU];exact⟨S,rfl,J⟩⟩;have M:=run_loadCells_list (P:=P) w _ S h3;rw[F] at M;simp[Instr.loadAt,Instr.sureAddr,loadVar,vU hT Z,hi,cP hT Z,M]
    ·cases h
   |false=>
    simp only[hi,Bool.false_eq_true,if_false] at h;obtain⟨V,D,C⟩:=hH.cell O h;refine⟨V,?_,C⟩;simp[Instr.loadAt,Instr.sureAddr,loadVar,vU hT Z,hi,D]
  ·cases h
 ·cases h
theorem Ru{t ty:TypeId}{x v:AV}{X:Value}(A:aeU μ mem.length x X)(h:DB T t mem x=some v):
  Val P (Builtin.len_ #[t] ty #[X]) w μ mem.length v:=by
 unfold DB at h;cases ht:T t with
 |none=>rw[ht] at h;cases h
 |some ti=>
  rw[ht] at h;simp only at h;have Z:=(hT t ti ht).desc;split at h
  ·rename_i s W;cases h;rw[W] at Z;rw[A.str]
   exact .int (by simp[Builtin.len_,run_underlying Z,goInt,sf])
  ·rename_i W;cases h;rw[W] at Z;rw[A.slice.2]
   exact .int (by simp[Builtin.len_,run_underlying Z,goInt])
  ·rename_i W;cases h;rw[W] at Z
   simp only[aeU] at A;subst A;exact .int (by simp[Builtin.len_,run_underlying Z,goInt])
  ·rename_i m e W;cases h;rw[W] at Z
   exact .int (by simp[Builtin.len_,run_underlying Z,goInt])
  ·rename_i W;cases h;rw[W] at Z
   simp only[aeU] at A;subst A;exact .int (by simp[Builtin.len_,run_underlying Z,goInt])
  ·rename_i b W;rw[W] at Z
   simp only[aeU] at A;obtain⟨S,rfl⟩:=A;split at h
   ·rename_i es O
    cases h;have V:=hH.slot b _ O;simp only[ae7] at V;obtain⟨M,K,J,_,F,_⟩:=V;refine .int ?_;have D:(getObj (μ b).blk).run P w=.ok (.map M K) w:=by simp[getObj,Sem.run,J]
    simp only[Builtin.len_,List.getElem?_toArray,List.getElem?_cons_zero,Sem.run_bind,run_underlying Z,Result.andThen_ok,D];simp[goInt,F]
   ·cases h
  ·cases h
theorem Ll{t:TypeId}{x v:AV}{X:Value}{lo hi:Option AV}{Lo Hi:Option Value}(G:aeU μ mem.length x X)(hlo:(lo=none∧Lo=none)∨∃l L,lo=some l∧Lo=some L∧aeU μ mem.length l L)(hhi:(hi=none∧Hi=none)∨∃l L,hi=some l∧Hi=some L∧aeU μ mem.length l L)(h:Pw T mem t x lo hi=some v):
  Val P (Instr.sliceAt t X Lo Hi none) w μ mem.length v:=by
 have J:∀(u:Bool) (M K:Nat) (W Z:Int),Et M hi=some W→
   L5 lo=some Z→0≤Z→Z≤W→W≤M→M≤K→
   (Instr.sliceBounds u M K Lo Hi none).run P w=.ok (Z.toNat,W.toNat,K) w:=by
  intro u M K W Z V S h0 h1 h2 h3;have Y :W≤K:=by omega
  have h1' :Z≤((W.toNat:Nat):Int):=by omega
  have R :0≤W:=by omega
  rcases hhi with⟨rfl,rfl⟩ | ⟨a,A,rfl,rfl,hA⟩<;>rcases hlo with⟨rfl,rfl⟩ | ⟨b,B,rfl,rfl,hB⟩
  ·simp only[Et,L5,Option.some.injEq] at V S;subst V;subst S
   simp[Instr.sliceBounds]
  ·cases b<;>simp only[Et,L5,reduceCtorEq,Option.some.injEq] at V S
   subst V;subst S;rw[hB.int];simp[Instr.sliceBounds,cq h0 h1]
  ·cases a<;>simp only[Et,L5,reduceCtorEq,Option.some.injEq] at V S
   subst V;subst S;rw[hA.int];simp[Instr.sliceBounds,cq R Y]
  ·cases a<;>simp only[Et,reduceCtorEq,Option.some.injEq] at V
   cases b<;>simp only[L5,reduceCtorEq,Option.some.injEq] at S;subst V;subst S;rw[hA.int,hB.int];simp[Instr.sliceBounds,cq R Y,cq h0 h1']
 unfold Pw at h;cases ht:T t with
 |none=>rw[ht] at h;cases h
 |some ti=>
  rw[ht] at h;simp only at h;have F:=(hT t ti ht).desc;split at h
  ·rename_i s D
   rw[D] at F;split at h
   ·rename_i W Z V S
    split at h
    ·rename_i I
     cases h;rw[G.str];have O:=J false s.length s.length W Z V S I.1 I.2.1 I.2.2 (Nat.le_refl _);refine .str ?_;have aco:(ByteArray.mk s.toArray).extract Z.toNat W.toNat=⟨((s.drop Z.toNat).take (W.toNat-Z.toNat)).toArray⟩:=by apply ByteArray.ext;apply Array.ext';simp[List.extract]
     simp[Instr.sliceAt,Instr.slice,run_underlying F,sf,O,aco]
    ·cases h
   ·cases h
  ·rename_i e b o m c D
   rw[D] at F;split at h
   ·rename_i j own es cs H I
    split at h
    ·rename_i W Z V S
     split at h
     ·rename_i hc
      obtain⟨g1,g2,g3,g4,g5,g6,g6',g7,rfl⟩:=hc;cases h;obtain⟨C,rfl⟩:=G.slice;have hs:=hH.slot b _ I;simp only[ae7] at hs;obtain⟨cur,el,fr,hs1,z,hs3,_,_⟩:=hs;have z:=z.es g6';subst z;have aa0:m≤jl (μ b) o none:=by simp only[jl];rw[Nat.le_div_iff_mul_le g6];omega
      have O:=J true m (jl (μ b) o none) W Z V S g1 g2 g3 aa0;refine⟨.slice (some ⟨(μ b).blk,(μ b).off+(o+Z.toNat*(μ b).es),none⟩) (W.toNat-Z.toNat) (jl (μ b) o none-Z.toNat),?_,?_⟩
      ·simp[Instr.sliceAt,Instr.slice,run_underlying F,O,cP hT H]
       by_cases hl0:Z=0
       ·subst hl0;simp[Addr.add_lit]
       ·have:¬jl (μ b) o none=Z.toNat:=by omega
        simp[this,Addr.add_lit,g5,Nat.add_assoc]
      ·simp only[aeU]
       refine⟨C,?_⟩;congr 1;simp only[jl];have hle:Z.toNat*(μ b).es≤m*(μ b).es:=Nat.mul_le_mul_right _ (by omega);rw[show(μ b).tot-(o+Z.toNat*(μ b).es)=(μ b).tot-o-(μ b).es*Z.toNat by rw[Nat.mul_comm (μ b).es];omega];rw[Nat.sub_mul_div]
     ·cases h
    ·cases h
   ·cases h
  ·rename_i e D
   rw[D] at F;split at h
   ·rename_i j H
    split at h
    ·rename_i W Z V S
     split at h
     ·rename_i hc
      obtain⟨rfl,rfl⟩:=hc;cases h;simp only[aeU] at G;subst G;have O:=J true 0 0 0 0 V S (by omega) (by omega) (by omega) (by omega);refine⟨.slice none 0 0,?_,by simp[aeU]⟩;simp[Instr.sliceAt,Instr.slice,run_underlying F,O,cP hT H]
     ·cases h
    ·cases h
   ·cases h
  ·rename_i m e b o D
   rw[D] at F;split at h
   ·rename_i j H
    split at h
    ·rename_i W Z V S
     split at h
     ·rename_i hc
      obtain⟨g1,g2,g3,g4⟩:=hc;cases h;obtain⟨C,rfl⟩:=G.ptr;have O:=J false m m W Z V S g1 g2 g3 (Nat.le_refl _);refine⟨.slice (some ⟨(μ b).blk,(μ b).off+(o+Z.toNat*j.size),none⟩) (W.toNat-Z.toNat) (m-Z.toNat),?_,?_⟩
      ·have:¬m=Z.toNat:=by omega
       simp[Instr.sliceAt,run_underlying F,Instr.sureAddr,O,cP hT H,this,Addr.add_lit,Nat.add_assoc]
      ·simp only[aeU];exact⟨C,rfl⟩
     ·cases h
    ·cases h
   ·cases h
  ·cases h
end
end
end Go.Eng
