/- See D38. -/
import Derived.Calls
import Derived.Orders
import Derived.Laws.AppendOwn
import Derived.Laws.Cells
import Derived.Laws.CopyRow
import Derived.Tactics
import Derived.Laws.StructEq
import Derived.Laws.Build
set_option linter.all false
namespace Go.Eng
def B5:=@List.take_of_length_le
def C0:=@Bool.and_eq_true
def Es:=@decide_eq_true_eq
def GE:=@List.getElem?_append_left
def GT:=@List.getElem?_eq_getElem
def J1:=@List.mem_of_getElem?
def L9:=@Nat.le_refl
def Mp:=@List.eq_nil_of_length_eq_zero
def Nm:=@Array.getElem?_eq_some_iff
def Ns:=@List.getElem?_eq_some_iff
def N0:=@List.drop_eq_getElem_cons
def Pi:=@Option.some.injEq
def P1:=@List.take_length
def P3:=@Nat.pow_le_pow_right
def SP:=@List.length_append
def S2:=@List.length_take
def V1:=@List.getElem?_append_right
def Y1:=@List.append_assoc
def Y2:=@Option.map_eq_some_iff
def ZN:=@List.drop_of_length_le
def ZQ:=@Option.some.inj
def ZX:=@Array.getElem?_setIfInBounds_ne
def Zo:=@List.getElem?_map
def Zq:=@Nat.mul_comm
def QQQ:=@List.getElem?_take_of_lt
def QQX:=@Nat.eq_zero_or_pos
def QQY:=@List.getElem?_set_self
def QQZ:=@Nat.zero_add
def QQJ:=@Nat.le_trans
def QQK:=@List.getElem?_set_ne
def QQa:=@List.getElem?_drop
def QQb:=@List.all_cons
def QQc:=@List.length_set
def QQd:=@Int.toNat_of_nonneg
def QQe:=@Nat.mod_eq_of_lt
def QQf:=@Nat.mul_le_mul_right
def QQg:=@Int.natAbs_mul
def QQh:=@List.mem_map
def QQi:=@Nat.sub_zero
def QQj:=@List.length_drop
def QQk:=@List.drop_drop
def QQl:=@Nat.mul_assoc
def QQm:=@Array.length_toList
def QXQ:=@Nat.lt_of_lt_of_le
def QXX:=@Nat.add_assoc
def QXY:=@List.length_map
def QXZ:=@Bool.or_eq_true
def QXJ:=@Nat.add_comm
def QXK:=@List.take_append_of_le_length
def QXa:=@List.getElem?_of_mem
def QXb:=@List.length_replicate
theorem w0:IntKind.i64.wrap 0=0:=rfl
theorem w1:IntKind.i64.wrap 1=1:=rfl
theorem w2:IntKind.i64.wrap 2=2:=rfl
theorem w3:IntKind.i64.wrap 3=3:=rfl
theorem w4:IntKind.i64.wrap 4=4:=rfl
theorem w5:IntKind.i64.wrap 5=5:=rfl
theorem w6:IntKind.i64.wrap 6=6:=rfl
theorem w7:IntKind.i64.wrap 7=7:=rfl
theorem xE{α:Type}(e:α):∃x,x=e:=⟨_,rfl⟩
variable{b:Nat}
theorem gU{α:Type}{M:List α}{x:α}(h:M[b]? =some x)(Z:List α):(M++Z)[b]? =some x:=by rw[GE (Ns.1 h).1,h]
theorem lM:(∀{α:Type} {a b:α} {l:List α},(a∈b::l)=(a=b\/a∈l))/\(∀{α:Type} {a:α},(a∈([]:List α))=False)/\∀p:Prop,(p\/False)=p:=⟨fun {_ _ _ _}=>by simp,fun {_ _}=>by simp,fun _=>by simp⟩
theorem lA:(∀{α:Type} (l:List α),[]++l=l)/\(∀{α:Type} (l:List α),l++[]=l)/\∀{α:Type} {a:α} {l k:List α},a::l++k=a::(l++k):=⟨fun _=>rfl,fun _=>List.append_nil _,rfl⟩
theorem lB:(∀{α β:Type} {f:α->β} {a:α} {l:List α},List.map f (a::l)=f a::List.map f l)/\(∀{α β:Type} {f:α->β},List.map f []=[])/\(∀{α:Type} {a b:α} {l k:List α},(a::l=b::k)=(a=b/\l=k))/\∀p:Prop,(p/\True)=p:=⟨rfl,rfl,fun {_ _ _ _ _}=>by simp,fun _=>by simp⟩
theorem gL{α:Type}{l:List α}{i:Nat}{a:α}(h:l[i]? =some a):i<l.length:=(Ns.1 h).1
inductive AV where
 |undef
 |bool (b:Bool)
 |int (k:IntKind) (n:Int)
 |str (s:List UInt8)
 |ptr (b off:Nat)
 |afw
 |slice (b off len:Nat) (cap:Option Nat)
 |qF
 |map (b:Nat)
 |afG
 |yield (b:Nat)
 |func (f:FuncId) (caps:List AV)
 |nilFunc
 |iface (t:TypeId) (v:AV)
 |nilIface
 |agg (cs:List AV)
 |tuple (cs:List AV)
 deriving Inhabited
structure Place where
 blk:Nat
 off:Nat
 tot:Nat
 es:Nat
 deriving Inhabited
def rK(p:Place)(o:Nat):Option Nat->Nat
 |some c=>c
 |none=>(p.tot-o) / p.es
mutual
def afj(μ:Nat->Place)(n:Nat):AV->Value->Prop
 |.undef,_=>True
 |.bool b,V=>V=.bool b
 |.int k i,V=>V=.int k i
 |.str s,V=>V=.string ⟨s.toArray⟩
 |.ptr b o,V=>b<n/\V=.pointer (some ⟨(μ b).blk,(μ b).off+o,none⟩)
 |.afw,V=>V=.pointer none
 |.slice b o l c,V=>b<n/\V=.slice (some ⟨(μ b).blk,(μ b).off+o,none⟩) l (rK (μ b) o c)
 |.qF,V=>V=.slice none 0 0
 |.map b,V=>b<n/\V=.map (some (μ b).blk)
 |.yield b,V=>b<n/\V=.func (.yield (μ b).blk) #[] #[]
 |.afG,V=>V=.map none
 |.func f X,V=>∃Z,V=.func (.func f) #[] ⟨Z⟩/\afk μ n X Z
 |.nilFunc,V=>V=.nilFunc
 |.iface t v,V=>∃U,V=.iface t U/\afj μ n v U
 |.nilIface,V=>V=.nilIface
 |.agg X,V=>∃Z,V=.agg ⟨Z⟩/\afk μ n X Z
 |.tuple X,V=>∃Z,V=.tuple ⟨Z⟩/\afk μ n X Z
def afk(μ:Nat->Place)(n:Nat):List AV->List Value->Prop
 | [],Us=>Us=[]
 |v::vs,Us=>∃U Z,Us=U::Z/\afj μ n v U/\afk μ n vs Z
end
theorem bV{μ n v vs U Us}:afk μ n (v::vs) (U::Us)↔afj μ n v U/\afk μ n vs Us:=by
 simp only[afk];constructor
 .rintro ⟨V,S,h,Z,X⟩;cases h;exact⟨Z,X⟩
 .rintro ⟨Z,X⟩;exact⟨U,Us,rfl,Z,X⟩
theorem afk.length{μ n}:∀{vs Us},afk μ n vs Us->Us.length=vs.length
 | [],_,h=>by simp[afk] at h;simp[h]
 |v::vs,_,h=>by simp only[afk] at h;obtain⟨U,X,rfl,_,Z⟩:=h;simp[afk.length Z]
theorem afk.get{μ n}:∀{vs Us},afk μ n vs Us->∀(i:Nat) v,vs[i]? =some v->∃U,Us[i]? =some U/\afj μ n v U
 | [],_,_,i,v,h=>by simp at h
 |w::vs,_,h,i,v,hi=>by
  simp only[afk] at h;obtain⟨U,V,rfl,Z,X⟩:=h;cases i with
  |zero=>simp at hi;subst hi;exact⟨U,by simp,Z⟩
  |succ i=>simpa using afk.get X i v (by simpa using hi)
theorem afk.agp{μ n}:∀{vs Us},Us.length=vs.length->(∀(i:Nat) v,vs[i]? =some v->∃U,Us[i]? =some U/\afj μ n v U)->afk μ n vs Us
 | [],Us,hl,_=>by simp[afk];exact Mp hl
 |v::vs,[],hl,_=>by simp at hl
 |v::vs,U::Us,hl,h=>by
  refine bV.2 ⟨?_,afk.agp (by simpa using hl) fun i u X=>?_⟩
  .obtain⟨S,Z,V⟩:=h 0 v (by simp)
   simp at Z;subst Z;exact V
  .simpa using h (i+1) u (by simpa using X)
theorem afk.append{μ n}:∀{vs Z ws Ws},afk μ n vs Z->afk μ n ws Ws->afk μ n (vs++ws) (Z++Ws)
 | [],_,ws,Ws,h,h' =>by simp[afk] at h;subst h;simpa using h'
 |v::vs,_,ws,Ws,h,h' =>by simp only[afk] at h;obtain⟨U,Z,rfl,X,V⟩:=h;exact bV.2 ⟨X,afk.append V h'⟩
theorem afk.take{μ n vs Us}(h:afk μ n vs Us)(k:Nat):afk μ n (vs.take k) (Us.take k):=by
 refine afk.agp (by simp[h.length]) fun i v Z=>?_
 rw[List.getElem?_take] at Z;split at Z
 .obtain⟨U,V,X⟩:=h.get i v Z
  exact⟨U,by rw[List.getElem?_take];simp[*],X⟩
 .cases Z
theorem afk.drop{μ n vs Us}(h:afk μ n vs Us)(k:Nat):afk μ n (vs.drop k) (Us.drop k):=by
 refine afk.agp (by simp[h.length]) fun i v Z=>?_
 rw[QQa] at Z;obtain⟨U,X,V⟩:=h.get _ v Z;exact⟨U,by rw[QQa];exact X,V⟩
mutual
theorem afj.mono{μ μ' :Nat->Place}{n n' :Nat}(H:n<=n')(hμ:∀b,b<n->μ' b=μ b):∀{v V},afj μ n v V->afj μ' n' v V
 |.undef,V,_=>by simp[afj]
 |.bool b,V,h=>by simpa [afj] using h
 |.int k i,V,h=>by simpa [afj] using h
 |.str s,V,h=>by simpa [afj] using h
 |.ptr b o,V,h=>by simp only[afj] at h |-;exact⟨by omega,by rw[hμ b h.1];exact h.2⟩
 |.afw,V,h=>by simpa [afj] using h
 |.slice b o l c,V,h=>by simp only[afj] at h |-;exact⟨by omega,by rw[hμ b h.1];exact h.2⟩
 |.qF,V,h=>by simpa [afj] using h
 |.map b,V,h=>by simp only[afj] at h |-;exact⟨by omega,by rw[hμ b h.1];exact h.2⟩
 |.yield b,V,h=>by simp only[afj] at h |-;exact⟨by omega,by rw[hμ b h.1];exact h.2⟩
 |.afG,V,h=>by simpa [afj] using h
 |.func f X,V,h=>by simp only[afj] at h |-;obtain⟨Z,rfl,h⟩:=h;exact⟨Z,rfl,afk.mono H hμ h⟩
 |.nilFunc,V,h=>by simpa [afj] using h
 |.iface t v,V,h=>by simp only[afj] at h |-;obtain⟨U,rfl,h⟩:=h;exact⟨U,rfl,afj.mono H hμ h⟩
 |.nilIface,V,h=>by simpa [afj] using h
 |.agg X,V,h=>by simp only[afj] at h |-;obtain⟨Z,rfl,h⟩:=h;exact⟨Z,rfl,afk.mono H hμ h⟩
 |.tuple X,V,h=>by simp only[afj] at h |-;obtain⟨Z,rfl,h⟩:=h;exact⟨Z,rfl,afk.mono H hμ h⟩
theorem afk.mono{μ μ' :Nat->Place}{n n' :Nat}(H:n<=n')(hμ:∀b,b<n->μ' b=μ b):∀{vs Us},afk μ n vs Us->afk μ' n' vs Us
 | [],Us,h=>by simpa [afk] using h
 |v::vs,Us,h=>by simp only[afk] at h |-;obtain⟨U,Z,rfl,X,V⟩:=h;exact⟨U,Z,rfl,afj.mono H hμ X,afk.mono H hμ V⟩
end
mutual
def AV.ren(ρ:Nat->Option Nat):AV->AV
 |.ptr b o=>match ρ b with | some b' =>.ptr b' o | none=>.undef
 |.slice b o l c=>match ρ b with | some b' =>.slice b' o l c | none=>.undef
 |.map b=>match ρ b with | some b' =>.map b' | none=>.undef
 |.yield b=>match ρ b with | some b' =>.yield b' | none=>.undef
 |.func f Z=>.func f (AV.afz ρ Z)
 |.iface t v=>.iface t (AV.ren ρ v)
 |.agg Z=>.agg (AV.afz ρ Z)
 |.tuple Z=>.tuple (AV.afz ρ Z)
 |v=>v
def AV.afz(ρ:Nat->Option Nat):List AV->List AV
 | []=>[]
 |v::vs=>AV.ren ρ v::AV.afz ρ vs
end
mutual
theorem afj.ren{μ μ' :Nat->Place}{n n' :Nat}{ρ:Nat->Option Nat}(hρ:∀b Z,b<n->ρ b=some Z ->Z <n' /\μ' Z =μ b):
  ∀{v V},afj μ n v V->afj μ' n' (v.ren ρ) V
 |.undef,V,_=>by simp[AV.ren,afj]
 |.bool b,V,h=>by simpa [AV.ren,afj] using h
 |.int k i,V,h=>by simpa [AV.ren,afj] using h
 |.str s,V,h=>by simpa [AV.ren,afj] using h
 |.ptr b o,V,h=>by
  simp only[afj] at h;simp only[AV.ren];cases hb:ρ b with
  |none=>simp[afj]
  |some Z =>obtain⟨X,S⟩:=hρ b Z h.1 hb;simp only[afj];exact⟨X,by rw[S];exact h.2⟩
 |.afw,V,h=>by simpa [AV.ren,afj] using h
 |.slice b o l c,V,h=>by
  simp only[afj] at h;simp only[AV.ren];cases hb:ρ b with
  |none=>simp[afj]
  |some Z =>obtain⟨X,S⟩:=hρ b Z h.1 hb;simp only[afj];exact⟨X,by rw[S];exact h.2⟩
 |.qF,V,h=>by simpa [AV.ren,afj] using h
 |.map b,V,h=>by
  simp only[afj] at h;simp only[AV.ren];cases hb:ρ b with
  |none=>simp[afj]
  |some Z =>obtain⟨X,S⟩:=hρ b Z h.1 hb;simp only[afj];exact⟨X,by rw[S];exact h.2⟩
 |.yield b,V,h=>by
  simp only[afj] at h;simp only[AV.ren];cases hb:ρ b with
  |none=>simp[afj]
  |some Z =>obtain⟨X,S⟩:=hρ b Z h.1 hb;simp only[afj];exact⟨X,by rw[S];exact h.2⟩
 |.afG,V,h=>by simpa [AV.ren,afj] using h
 |.func f O,V,h=>by simp only[afj] at h;simp only[AV.ren,afj];obtain⟨R,rfl,h⟩:=h;exact⟨R,rfl,afk.ren hρ h⟩
 |.nilFunc,V,h=>by simpa [AV.ren,afj] using h
 |.iface t v,V,h=>by simp only[afj] at h;simp only[AV.ren,afj];obtain⟨U,rfl,h⟩:=h;exact⟨U,rfl,afj.ren hρ h⟩
 |.nilIface,V,h=>by simpa [AV.ren,afj] using h
 |.agg O,V,h=>by simp only[afj] at h;simp only[AV.ren,afj];obtain⟨R,rfl,h⟩:=h;exact⟨R,rfl,afk.ren hρ h⟩
 |.tuple O,V,h=>by simp only[afj] at h;simp only[AV.ren,afj];obtain⟨R,rfl,h⟩:=h;exact⟨R,rfl,afk.ren hρ h⟩
theorem afk.ren{μ μ' :Nat->Place}{n n' :Nat}{ρ:Nat->Option Nat}(hρ:∀b Z,b<n->ρ b=some Z ->Z <n' /\μ' Z =μ b):
  ∀{vs Us},afk μ n vs Us->afk μ' n' (AV.afz ρ vs) Us
 | [],Us,h=>by simpa [AV.afz,afk] using h
 |v::vs,Us,h=>by simp only[afk] at h;simp only[AV.afz,afk];obtain⟨U,X,rfl,V,S⟩:=h;exact⟨U,X,rfl,afj.ren hρ V,afk.ren hρ S⟩
end
theorem ix(ρ:Nat->Option Nat):∀Z,AV.afz ρ Z=Z.map (AV.ren ρ)
 | []=>rfl
 |v::Z=>by simp[AV.afz,ix ρ Z]
def AV.afi:AV->Bool
 |.agg _ | .tuple _ | .undef=>false
 |_=>true
def AV.known:AV->Bool
 |.undef=>false
 |_=>true
def AV.cells:AV->List AV
 |.agg cs=>cs
 |v=>[v]
theorem afj.agG{μ n v V}(h:afj μ n v V)(H:v.afi=true):V.oneCell' =true:=by
 cases v<;>simp[AV.afi] at H<;>simp only[afj] at h;case bool=>subst h;rfl
 case int=>subst h;rfl
 case str=>subst h;rfl
 case ptr=>rw[h.2];rfl
 case afw=>subst h;rfl
 case slice=>rw[h.2];rfl
 case qF=>subst h;rfl
 case map=>rw[h.2];rfl
 case yield=>rw[h.2];rfl
 case afG=>subst h;rfl
 case func=>obtain⟨_,rfl,_⟩:=h;rfl
 case nilFunc=>subst h;rfl
 case iface=>obtain⟨_,rfl,_⟩:=h;rfl
 case nilIface=>subst h;rfl
theorem afj.cells{μ n v V}(h:afj μ n v V)(H:v.known=true):afk μ n v.cells V.cells.toList:=by
 cases v<;>simp[AV.known] at H;case agg cs=>
  simp only[afj] at h;obtain⟨X,rfl,h⟩:=h;simpa [AV.cells,Value.cells] using h
 all_goals
  have Z:=h;simp only[afj] at h;simp only[AV.cells];first
   |(subst h;simpa [afk,Value.cells] using Z)
   |(obtain⟨_,rfl⟩:=h;simpa [afk,Value.cells] using Z)
   |(obtain⟨_,rfl,_⟩:=h;simpa [afk,Value.cells] using Z)
abbrev Env:=List (Nat×AV)
def ae:Env->Nat->AV
 | [],_=>.undef
 |(k,v)::r,t=>if k=t then v else ae r t
def afO(μ:Nat->Place)(n:Nat)(env:Env)(tmps:Array Value):Prop:=∀t,afj μ n (ae env t) (tmps.getD t undef)
theorem afO.mono{μ μ' :Nat->Place}{n n' :Nat}{env tmps}(H:n<=n')(hμ:∀b,b<n->μ' b=μ b)(h:afO μ n env tmps):afO μ' n' env tmps:=
 fun t=>(h t).mono H hμ
structure agq where
 st:LoopState
 ago:Option Code
 env:Env
 N:Nat
 ps:Array Tmp
 assign:Code
 body:Code
inductive afl where
 |qK
 |cells (own:Bool) (es:Nat) (cs:List AV)
 |map (es:List (AV×AV))
 |afS (es:List (AV×AV))
 |loop (r:agq)
 deriving Inhabited
abbrev Mem:=List afl
def afl.own:afl->Bool
 |.cells own _ _=>own
 |.map _=>true
 |.afS _=>false
 |.loop _=>true
 |.qK=>false
variable{s:afl}
theorem afl.afT(h:s.own=true):s≠ .qK:=by cases s<;>simp_all[afl.own]
def eJ(mem:Mem)(b:Nat):Prop:=∃s,mem[b]? =some s/\s.own=true
variable{cs:List AV}{mem:Mem}
theorem pQ{es:Nat}(h:mem[b]? =some (.cells true es cs)):eJ mem b:=⟨_,h,rfl⟩
theorem LR{mem:Mem}{b:Nat}{es}(h:mem[b]? =some (.map es)):eJ mem b:=⟨_,h,rfl⟩
theorem Rv{mem:Mem}{b:Nat}{r}(h:mem[b]? =some (.loop r)):eJ mem b:=⟨_,h,rfl⟩
structure agH (μ:Nat->Place)(n:Nat)(r:agq)(L:Loop):Prop where
 st:L.state=r.st
 ago:L.pending=r.ago
 ps:L.params=r.ps
 assign:L.assign=r.assign
 body:L.body=r.body
 size:L.tmps.size=r.N
 tmps:afO μ n r.env L.tmps
def PE(μ:Nat->Place)(n:Nat)(e:AV×AV)(E:MapEntry):Prop:=afj μ n e.1 E.key/\afj μ n e.2 E.val
def ahi(p:Place)(es:Nat)(e:TypeId):Prop:=p.es=es%1000/\(1000<=es->e+1=es / 1000)
variable{p:Place}
theorem ahi.small{es:Nat}{e:TypeId}(h:p.es=es)(hs:es<1000):ahi p es e:=⟨by rw[h,QQe hs],fun Z=>by omega⟩
theorem ahi.es{es:Nat}{e:TypeId}(h:ahi p es e)(hs:es<1000):p.es=es:=by rw[h.1,QQe hs]
def Ec(H:Array MapEntry)(I:Nat):Prop:=I=H.size/\∀(j:Nat) E,H[j]? =some E->E.born=j
def afx(μ:Nat->Place)(n H:Nat)(w:World)(p:Place):afl->Prop
 |.qK=>True
 |.cells own es cs=>∃X e S,w.heap[p.blk]? =some (.cells X e S)/\ahi p es e/\cs.length<=p.tot/\
   (∀(j:Nat) v,cs[j]? =some v->∃V,X[p.off+j]? =some V/\afj μ n v V)/\
   (own=true->p.off=0/\S=(0,0)/\X.size=p.tot/\H<=p.blk)
 |.map es=>∃Z U,w.heap[p.blk]? =some (.map Z U)/\(H<=p.blk/\Ec Z U)/\Z.size=es.length/\
   ∀(j:Nat) e,es[j]? =some e->∃E,Z[j]? =some E/\PE μ n e E
 |.afS es=>∃Z U,w.heap[p.blk]? =some (.map Z U)/\Ec Z U/\Z.size=es.length/\
   ∀(j:Nat) e,es[j]? =some e->∃E,Z[j]? =some E/\PE μ n e E
 |.loop r=>∃L,w.heap[p.blk]? =some (.loop L)/\H<=p.blk/\agH μ n r L
structure afv (base:Nat) (μ:Nat->Place)(mem:Mem)(w:World):Prop where
 afr:base<=w.heap.size
 slot:∀b s,mem[b]? =some s->afx μ mem.length base w (μ b) s
 sep:∀b b' s',eJ mem b->mem[b']? =some s' ->s' ≠ .qK->b≠b' ->(μ b).blk≠(μ b').blk
structure Step (m0:Nat) (μ:Nat->Place)(mem:Mem)(w:World) (μ' :Nat->Place) (mem' :Mem) (w' :World):Prop where
 len:m0<=mem'.length
 agree:∀b,b<m0->μ' b=μ b
 os:w'.os=w.os
 tape:w'.tape=w.tape
 output:w'.output=w.output
 size:w.heap.size<=w'.heap.size
 frame:∀k,k<w.heap.size->(∀b,eJ mem b->(μ b).blk≠k)->w'.heap[k]? =w.heap[k]?
 owner:∀b,eJ mem' b->(μ' b).blk<w.heap.size->∃b0,eJ mem b0/\(μ b0).blk=(μ' b).blk
 drawn:w.drawn<=w'.drawn
theorem Step.refl{m0 μ mem w}(h:m0<=mem.length):Step m0 μ mem w μ mem w:=
 ⟨h,fun _ _=>rfl,rfl,rfl,rfl,L9 _,fun _ _ _=>rfl,fun b Z _=>⟨b,Z,rfl⟩,L9 _⟩
theorem Step.trans{m0 μ mem w μ' mem' w' μ'' mem'' w''}(h:Step m0 μ mem w μ' mem' w')(h' :Step m0 μ' mem' w' μ'' mem'' w''):
  Step m0 μ mem w μ'' mem'' w'' :=by
 refine⟨h'.len,fun b Z=>(h'.agree b Z).trans (h.agree b Z),h'.os.trans h.os,h'.tape.trans h.tape,h'.output.trans h.output,
  QQJ h.size h'.size,fun k X S=>?_,fun b Z R=>?_,QQJ h.drawn h'.drawn⟩
 .rw[h'.frame k (QXQ X h.size) ?_,h.frame k X S]
  intro b Z O;obtain⟨V,M,U⟩:=h.owner b Z (O▸X);exact S V M (U.trans O)
 .obtain⟨L,U,N⟩:=h'.owner b Z (QXQ R h.size)
  obtain⟨V,h3,K⟩:=h.owner L U (N▸R);exact⟨V,h3,K.trans N⟩
theorem Step.mono{m0 m1 μ mem w μ' mem' w'}(h:Step m1 μ mem w μ' mem' w')(H:m0<=m1):Step m0 μ mem w μ' mem' w' :=
 ⟨QQJ H h.len,fun b Z=>h.agree b (QXQ Z H),h.os,h.tape,h.output,h.size,h.frame,h.owner,h.drawn⟩
theorem afv.agn{base μ mem w w'}(h:afv base μ mem w)(H:w'.heap=w.heap):afv base μ mem w' :=by
 refine⟨by rw[H];exact h.afr,fun b s Z=>?_,h.sep⟩;have:=h.slot b s Z;cases s with
 |qK=>trivial
 |cells own esz cs=>simp only[afx] at this |-;rw[H];exact this
 |map es=>simp only[afx] at this |-;rw[H];exact this
 |afS es=>simp only[afx] at this |-;rw[H];exact this
 |loop r=>simp only[afx] at this |-;rw[H];exact this
theorem Step.drew{m0 μ mem w}(h:m0<=mem.length):Step m0 μ mem w μ mem w.drew:=
 ⟨h,fun _ _=>rfl,rfl,rfl,rfl,L9 _,fun _ _ _=>rfl,fun b Z _=>⟨b,Z,rfl⟩,Nat.le_succ _⟩
variable{w:World}
theorem afx.mono{μ μ' :Nat->Place}{n n' base:Nat}{w' :World}(H:n<=n')(hμ:∀b,b<n->μ' b=μ b)(I:s≠ .qK->w'.heap[p.blk]? =w.heap[p.blk]?)(h:afx μ n base w p s):afx μ' n' base w' p s:=by
 cases s with
 |qK=>trivial
 |cells own esz cs=>
  simp only[afx] at h |-;obtain⟨U,e,fr,Z,S,R,X,h3⟩:=h;refine⟨U,e,fr,by rw[I (by simp),Z],S,R,fun j v C=>?_,h3⟩;obtain⟨V,hV,B⟩:=X j v C;exact⟨V,hV,B.mono H hμ⟩
 |map es=>
  simp only[afx] at h |-;obtain⟨O,N,Z,X,h3,M⟩:=h;refine⟨O,N,by rw[I (by simp),Z],X,h3,fun j e K=>?_⟩;obtain⟨E,G,F,D⟩:=M j e K;exact⟨E,G,F.mono H hμ,D.mono H hμ⟩
 |afS es=>
  simp only[afx] at h |-;obtain⟨O,N,Z,X,h3,M⟩:=h;refine⟨O,N,by rw[I (by simp),Z],X,h3,fun j e K=>?_⟩;obtain⟨E,G,F,D⟩:=M j e K;exact⟨E,G,F.mono H hμ,D.mono H hμ⟩
 |loop r=>
  simp only[afx] at h |-;obtain⟨L,Z,X,h3⟩:=h;exact⟨L,by rw[I (by simp),Z],X,{ h3 with tmps:=h3.tmps.mono H hμ }⟩
theorem afx.af2{μ n base w p s}(h:afx μ n base w p s)(hs:s≠ .qK):p.blk<w.heap.size:=by
 cases s with
 |qK=>exact absurd rfl hs
 |cells own esz cs=>simp only[afx] at h;obtain⟨X,e,S,Z,_⟩:=h;exact(Nm.1 Z).1
 |map es=>simp only[afx] at h;obtain⟨V,U,Z,_⟩:=h;exact(Nm.1 Z).1
 |afS es=>simp only[afx] at h;obtain⟨V,U,Z,_⟩:=h;exact(Nm.1 Z).1
 |loop r=>simp only[afx] at h;obtain⟨L,Z,_⟩:=h;exact(Nm.1 Z).1
def upd(μ:Nat->Place)(b:Nat)(p:Place):Nat->Place:=fun x=>if x=b then p else μ x
theorem fL{μ b p}:upd μ b p b=p:=by simp[upd]
theorem w9{μ b p x}(h:x<b):upd μ b p x=μ x:=by simp[upd];intro Z;omega
theorem mi(H:b<mem.length):eJ (mem++[s]) b↔eJ mem b:=by simp[eJ,GE H]
theorem iF(w:World)(o:Obj){k:Nat}(h:k<w.heap.size):(w.alloc o).heap[k]? =w.heap[k]? :=heap_alloc_old w o k h
theorem afv.push{base μ mem w}(h:afv base μ mem w)(o:Obj)(s:afl)(p:Place)(H:p.blk=w.heap.size)(hs:afx (upd μ mem.length p) (mem.length+1) base (w.alloc o) p s):
  afv base (upd μ mem.length p) (mem++[s]) (w.alloc o)/\
  Step mem.length μ mem w (upd μ mem.length p) (mem++[s]) (w.alloc o):=by
 have hμ:∀b,b<mem.length->upd μ mem.length p b=μ b:=fun b X=>w9 X
 constructor
 .refine⟨by simp;have:=h.afr;omega,fun b t R=>?_,fun b V D X N M C=>?_⟩
  .rw[SP,List.length_singleton]
   by_cases L:b<mem.length
   .rw[GE L] at R
    rw[hμ b L];refine(h.slot b t R).mono (Nat.le_succ _) hμ fun M=>?_
    exact iF w o ((h.slot b t R).af2 M)
   .have Z:b=mem.length:=by have:=gL R;simp at this;omega
    subst Z;simp at R;subst R;rw[fL];exact hs
  .by_cases U:b<mem.length<;>by_cases K:V <mem.length
   .rw[hμ b U,hμ V K]
    exact h.sep b V D ((mi U).1 X) (by rwa [GE K] at N) M C
   .have Z:V =mem.length:=by have:=gL N;simp at this;omega
    subst Z;rw[fL,hμ b U,H];have:(μ b).blk<w.heap.size:=by obtain⟨F,S,G⟩:=(mi U).1 X;exact(h.slot b _ S).af2 (afl.afT G)
    omega
   .have Z:b=mem.length:=by obtain⟨F,S,G⟩:=X;have:=gL S;simp at this;omega
    subst Z;rw[fL,hμ V K,H];have:=(h.slot V D (by rwa [GE K] at N)).af2 M;omega
   .have Z:V =mem.length:=by have:=gL N;simp at this;omega
    have O:b=mem.length:=by obtain⟨F,S,G⟩:=X;have:=gL S;simp at this;omega
    omega
 .refine⟨by simp,hμ,rfl,rfl,rfl,by simp,fun k B _=>iF w o B,fun b X L=>?_,L9 _⟩
  by_cases U:b<mem.length
  .exact⟨b,(mi U).1 X,by rw[hμ b U]⟩
  .have O:b=mem.length:=by obtain⟨F,S,G⟩:=X;have:=gL S;simp at this;omega
   subst O;rw[fL,H] at L;omega
theorem afv.write{base μ mem w}(h:afv base μ mem w){b:Nat}{s s' :afl}(I:mem[b]? =some s)(J:eJ mem b)(abU :s' ≠ .qK->eJ (mem.set b s') b){w' :World}(W:w'.drawn=w.drawn)(Y:w'.os=w.os)(aaX:w'.tape=w.tape)(ace:w'.output=w.output)(ZH:w'.heap.size=w.heap.size)(H:∀k,k≠(μ b).blk->w'.heap[k]? =w.heap[k]?)(hs:afx μ mem.length base w' (μ b) s'):
  afv base μ (mem.set b s') w' /\Step mem.length μ mem w μ (mem.set b s') w' :=by
 have G:b<mem.length:=gL I;have own:∀x,eJ (mem.set b s') x->eJ mem x:=by
  intro x X;by_cases Z:x=b
  .subst Z;exact J
  .obtain⟨L,S,R⟩:=X
   rw[QQK (Ne.symm Z)] at S;exact⟨L,S,R⟩
 constructor
 .refine⟨by rw[ZH];exact h.afr,fun x t V=>?_,fun x O t X K N U=>?_⟩
  .rw[QQc]
   by_cases Z:x=b
   .subst Z
    rw[QQY G] at V;cases V;exact hs
   .rw[QQK (Ne.symm Z)] at V
    refine(h.slot x t V).mono (L9 _) (fun _ _=>rfl) fun N=>H _ ?_
    exact fun M=>h.sep b x t J V N (Ne.symm Z) M.symm
  .by_cases Z:O =b
   .subst Z
    have:=h.sep x O s (own x X) I ?_ U
    .exact this
    .obtain⟨L,S,R⟩:=J
     rw[S] at I;cases I;exact afl.afT R
   .rw[QQK (Ne.symm Z)] at K
    exact h.sep x O t (own x X) K N U
 .refine⟨by simp,fun _ _=>rfl,Y,aaX,ace,by omega,fun k D F=>H k ?_,fun x X _=>⟨x,own x X,rfl⟩,Nat.le_of_eq W.symm⟩
  exact fun M=>F b J M.symm
structure TyI where
 desc:TypeDesc
 size:Nat
 bytes:Nat
 zero:Value
 ag1:Bool
 deriving Inhabited
structure ah0 (P:Program)(t:TypeId)(i:TyI):Prop where
 desc:P.underlying t=some i.desc
 info:∃f,P.info? t=some f/\f.size=i.size/\f.bytes=i.bytes/\f.zero=some i.zero
 ag2:i.zero.cells.size=i.size
 ag1:i.ag1=true->P.stoodInHeld t=false/\P.eqGuardType P.depth t=false
def TyI.isAgg(i:TyI):Bool:=match i.desc with | .struct _ | .array _ _=>true | _=>false
def dN(P:Program)(T:TypeId->Option TyI):Prop:=∀t i,T t=some i->ah0 P t i
def kz:Value->AV
 |.bool b=>.bool b
 |.int k n=>.int k n
 |.string s=>.str s.data.toList
 |.pointer none=>.afw
 |.slice none 0 0=>.qF
 |.map none=>.afG
 |.nilFunc=>.nilFunc
 |.nilIface=>.nilIface
 |_=>.undef
def ot:Value->AV
 |.agg cs=>.agg (cs.toList.map kz)
 |v=>kz v
theorem pr(μ:Nat->Place)(n:Nat)(v:Value):afj μ n (kz v) v:=by unfold kz;split<;>simp[afj]
theorem nq(μ:Nat->Place)(n:Nat):∀Z:List Value,afk μ n (Z.map kz) Z
 | []=>by simp[afk]
 |v::Z=>bV.2 ⟨pr μ n v,nq μ n Z⟩
theorem xG(μ:Nat->Place)(n:Nat)(v:Value):afj μ n (ot v) v:=by
 unfold ot;split
 next cs=>simp only[afj];exact⟨cs.toList,by simp,nq μ n _⟩
 .exact pr μ n _
def get(env:Env):Operand->AV
 |.tmp t=>ae env t
 |.const v=>ot v
 |.global _=>.undef
 |.func f=>.func f []
def Xq(env:Env)(H:Array Operand):List AV:=H.toList.map (get env)
theorem bQ{μ n env}{a:Act}(h:afO μ n env a.tmps)(x:Operand):afj μ n (get env x) (a.eval x):=by
 cases x with
 |tmp t=>exact h t
 |const v=>exact xG μ n v
 |global g=>simp[get,afj]
 |func f=>simp only[get,afj,Act.eval];exact⟨[],rfl,by simp[afk]⟩
theorem AB{μ n env}{a:Act}(h:afO μ n env a.tmps)(H:List Operand):afk μ n (H.map (get env)) (H.map a.eval):=by
 induction H with
 |nil=>simp[afk]
 |cons x H ih=>exact bV.2 ⟨bQ h x,ih⟩
theorem afO.put{μ n env}{a:Act}{d:Nat}{v:AV}{V:Value}(h:afO μ n env a.tmps)(hd:d<a.tmps.size)(H:afj μ n v V):
  afO μ n ((d,v)::env) (a.put (some d) V).tmps:=by
 intro t;simp only[ae,Act.put];by_cases Z:d=t
 .subst Z
  simp only[if_true,Array.getD_eq_getD_getElem?,Array.getElem?_setIfInBounds_self];simpa [hd] using H
 .simp only[Z,if_false,Array.getD_eq_getD_getElem?,ZX Z]
  simpa [Array.getD_eq_getD_getElem?] using h t
def fM:Nat:=9223372036854775807
def Yj(H:BinOp)(k:IntKind)(a b:Int):Option AV:=
 match H with
 |.add=>some (.int k (k.wrap (a+b)))
 |.sub=>some (.int k (k.wrap (a-b)))
 |.mul=>some (.int k (k.wrap (a*b)))
 |.quo=>if b=0 then none else some (.int k (k.wrap (a.tdiv b)))
 |.rem=>if b=0 then none else some (.int k (a.tmod b))
 |.eql=>some (.bool (decide (a=b)))
 |.neq=>some (.bool (!decide (a=b)))
 |.lss=>some (.bool (decide (a<b)))
 |.leq=>some (.bool (decide (a<=b)))
 |.gtr=>some (.bool (decide (b<a)))
 |.geq=>some (.bool (decide (b<=a)))
 |_=>none
def Yk(H:BinOp)(s t:List UInt8):Option AV:=
 match H with
 |.add=>if s.length+t.length<=fM then some (.str (s++t)) else none
 |.eql=>some (.bool (s==t))
 |.neq=>some (.bool (!(s==t)))
 |.lss=>some (.bool (Op.bytesLess s t))
 |.leq=>some (.bool (Op.bytesLess s t||s==t))
 |.gtr=>some (.bool (!(Op.bytesLess s t||s==t)))
 |.geq=>some (.bool (!Op.bytesLess s t))
 |_=>none
def jV(i:TyI)(cs:List AV)(off:Nat):Option AV:=
 if i.isAgg then (if off+i.size<=cs.length then some (.agg ((cs.drop off).take i.size)) else none) else cs[off]?
def RT(T:TypeId->Option TyI)(q:TypeId->AV->AV->Option Bool)(H I:List AV):List Field->Option Bool
 | []=>some true
 |f::fs=>
  if f.name = "_" then none else
  match T f.type with
  |none=>none
  |some i=>
   match jV i H f.offset,jV i I f.offset with
   |some a,some b=>
    match q f.type a b,RT T q H I fs with
    |some p,some r=>some (p&&r)
    |_,_=>none
   |_,_=>none
def Wi(q:AV->AV->Option Bool)(i:TyI)(H I:List AV):List Nat->Option Bool
 | []=>some true
 |j::js=>
  match jV i H (j*i.size),jV i I (j*i.size) with
  |some a,some b=>
   match q a b,Wi q i H I js with
   |some p,some r=>some (p&&r)
   |_,_=>none
  |_,_=>none
def k9(T:TypeId->Option TyI):Nat->TypeId->AV->AV->Option Bool
 |0,_,_,_=>none
 |d+1,t,x,y=>
  match T t with
  |none=>none
  |some i=>
   match i.desc,x,y with
   |.bool,.bool a,.bool b=>some (a==b)
   |.int _,.int k a,.int k' b=>if k=k' then some (decide (a=b)) else none
   |.string,.str a,.str b=>some (a==b)
   |.struct fs,.agg xs,.agg ys=>if i.ag1 then RT T (k9 T d) xs ys fs.toList else none
   |.array n e,.agg xs,.agg ys=>if i.ag1 then (match T e with
    |some j=>Wi (k9 T d e) j xs ys (List.range' 0 n)
    |none=>none) else none
   |_,_,_=>none
def rW:Operand->Bool
 |.const _=>true
 |_=>false
def WJ(T:TypeId->Option TyI)(t:TypeId)(r c:Bool)(x y:AV):Option Bool:=
 match T t with
 |none=>none
 |some i=>
  match i.desc,x,y with
  |.slice _,.slice _ _ _ _,.qF=>some false
  |.slice _,.qF,.qF=>some true
  |.pointer _,.afw,.afw=>some true
  |.pointer _,.ptr _ _,.afw=>some false
  |.func _ _ _,.nilFunc,.nilFunc=>some true
  |.func _ _ _,.func _ _,.nilFunc=>some false
  |.interface _,.nilIface,.nilIface=>if r||c then some true else none
  |.interface _,.iface _ _,.nilIface=>some false
  |_,_,_=>none
def Yi(T:TypeId->Option TyI)(H:BinOp)(t:TypeId)(r c:Bool)(x y:AV):Option AV:=
 match x,y with
 |.int k a,.int k' b=>if k=k' then Yj H k a b else none
 |.str s,.str t=>Yk H s t
 |.bool a,.bool b=>match T t with
  |some i=>match i.desc,H with
   |.bool,.eql=>some (.bool (a==b))
   |.bool,.neq=>some (.bool (!(a==b)))
   |_,_=>none
  |none=>none
 |.agg xs,.agg ys=>match H with
  |.eql=>(k9 T 20 t (.agg xs) (.agg ys)).map .bool
  |.neq=>(k9 T 20 t (.agg xs) (.agg ys)).map fun b=>.bool (!b)
  |_=>none
 |x,y=>match H with
  |.eql=>(WJ T t r c x y).map .bool
  |.neq=>(WJ T t r c x y).map fun b=>.bool (!b)
  |_=>none
def qo(H:Nat->Option (Nat×Nat))(cells:List AV):List (Nat×AV)->Option (List AV)
 | []=>some cells
 |(i,v)::rest=>
  match H i with
  |none=>none
  |some (off,size)=>
   if v.known&&decide (v.cells.length=size)&&decide (off+size<=cells.length) then
    qo H (cells.take off++v.cells++cells.drop (off+size)) rest
   else none
def aH(T:TypeId->Option TyI)(H:Array Field)(i:Nat):Option (Nat×Nat):=
 match H[i]? with
 |some f=>match T f.type with
  |some j=>some (f.offset,j.size)
  |none=>none
 |none=>none
def cv(T:TypeId->Option TyI)(t:TypeId)(parts:List (Nat×AV)):Option AV:=
 match T t with
 |none=>none
 |some i=>
  match i.desc with
  |.struct fs=>if fs.all (fun f=>(T f.type).isSome) then (qo (aH T fs) (ot i.zero).cells parts).map .agg else none
  |.array _ e=>match T e with
   |some j=>(qo (fun k=>some (k*j.size,j.size)) (ot i.zero).cells parts).map .agg
   |none=>none
  |_=>none
def Au(T:TypeId->Option TyI)(s d:TypeId)(x:AV):Option AV:=
 match T s,T d with
 |some i,some j=>
  match i.desc,j.desc,x with
  |.int _,.int k,.int _ n=>some (.int k (k.wrap n))
  |.string,.string,.str s=>some (.str s)
  |_,_,_=>none
 |_,_=>none
def Ut(n:Nat):Option AV->Option Int
 |none=>some n
 |some (.int _ h)=>some h
 |_=>none
def Uu:Option AV->Option Int
 |none=>some 0
 |some (.int _ h)=>some h
 |_=>none
def OU(T:TypeId->Option TyI)(mem:Mem)(t:TypeId)(x:AV)(H I:Option AV):Option AV:=
 match T t with
 |none=>none
 |some i=>
  match i.desc,x with
  |.string,.str s=>
   match Ut s.length I,Uu H with
   |some h,some l=>if 0<=l/\l<=h/\h<=s.length then some (.str ((s.drop l.toNat).take (h.toNat-l.toNat))) else none
   |_,_=>none
  |.slice e,.slice b o n c=>
   match T e,mem[b]? with
   |some j,some (.cells _ es cs)=>
    match Ut n I,Uu H with
    |some h,some l=>
     if 0<=l/\l<=h/\h<=n/\(l=0\/l<n)/\es=j.size/\0<es/\es<1000/\o+n*es<=cs.length/\c=none then
      some (.slice b (o+l.toNat*es) (h.toNat-l.toNat) none) else none
    |_,_=>none
   |_,_=>none
  |.slice e,.qF=>
   match T e with
   |some _=>
    match Ut 0 I,Uu H with
    |some h,some l=>if h=0/\l=0 then some .qF else none
    |_,_=>none
   |none=>none
  |.array n e,.ptr b o=>
   match T e with
   |some j=>
    match Ut n I,Uu H with
    |some h,some l=>
     if 0<=l/\l<=h/\h<=n/\l<n then some (.slice b (o+l.toNat*j.size) (h.toNat-l.toNat) (some (n-l.toNat))) else none
    |_,_=>none
   |none=>none
  |_,_=>none
def sK(T:TypeId->Option TyI)(t:TypeId)(x i:AV):Option AV:=
 match T t with
 |none=>none
 |some ti=>
  match ti.desc,x,i with
  |.slice e,.slice b o n _,.int _ k=>match T e with
   |some j=>if 0<=k/\k<n then some (.ptr b (o+k.toNat*j.size)) else none
   |none=>none
  |.array n e,.ptr b o,.int _ k=>match T e with
   |some j=>if 0<=k/\k<n then some (.ptr b (o+k.toNat*j.size)) else none
   |none=>none
  |_,_,_=>none
def OT(T:TypeId->Option TyI)(t:TypeId)(x i:AV):Option AV:=
 match T t with
 |none=>none
 |some ti=>
  match ti.desc,x,i with
  |.array n e,.agg cs,.int _ k=>match T e with
   |some j=>if 0<=k/\k<n then jV j cs (k.toNat*j.size) else none
   |none=>none
  |.string,.str s,.int _ k=>if 0<=k then (match s[k.toNat]? with | some c=>some (.int .u8 c.toNat) | none=>none) else none
  |_,_,_=>none
def kZ(T:TypeId->Option TyI)(t:TypeId)(x:AV)(f:Nat):Option AV:=
 match T t with
 |none=>none
 |some ti=>
  match ti.desc,x with
  |.struct fs,.agg cs=>match fs[f]? with
   |some fd=>match T fd.type with
    |some j=>jV j cs fd.offset
    |none=>none
   |none=>none
  |_,_=>none
def sJ(T:TypeId->Option TyI)(t:TypeId)(x:AV)(f:Nat):Option AV:=
 match T t with
 |none=>none
 |some ti=>
  match ti.desc,x with
  |.struct fs,.ptr b o=>match fs[f]? with
   |some fd=>match T fd.type with
    |some j=>if j.size=0 then none else some (.ptr b (o+fd.offset))
    |none=>none
   |none=>none
  |_,_=>none
def WI(T:TypeId->Option TyI)(t:TypeId)(mem:Mem)(x:AV):Option AV:=
 match T t with
 |none=>none
 |some ti=>
  match ti.desc,x with
  |.string,.str s=>some (.int .i64 s.length)
  |.slice _,.slice _ _ n _=>some (.int .i64 n)
  |.slice _,.qF=>some (.int .i64 0)
  |.array n _,_=>some (.int .i64 n)
  |.map _ _,.afG=>some (.int .i64 0)
  |.map _ _,.map b=>match mem[b]? with
   |some (.map es)=>some (.int .i64 es.length)
   |_=>none
  |_,_=>none
def Q0(T:TypeId->Option TyI)(mem:Mem)(t:TypeId)(x:AV):Option AV:=
 match T t,x with
 |some i,.ptr b o=>match mem[b]? with
  |some (.cells _ _ cs)=>jV i cs o
  |_=>none
 |_,_=>none
def tP(T:TypeId->Option TyI)(mem:Mem)(t:TypeId)(x v:AV):Option Mem:=
 match T t,x with
 |some i,.ptr b o=>match mem[b]? with
  |some (.cells true es cs)=>
   if v.known&&decide (v.cells.length=i.size)&&decide (o+i.size<=cs.length)&&v.cells.all AV.afi then
    some (mem.set b (.cells true es (cs.take o++v.cells++cs.drop (o+i.size)))) else none
  |_=>none
 |_,_=>none
variable{i:TyI}{k:IntKind}{op:BinOp}{v:AV}{x:Sem Value}
section
variable {P:Program}{T:TypeId->Option TyI}{μ:Nat->Place}{n:Nat}
def Val(P:Program)(x:Sem Value)(w:World) (μ:Nat->Place)(n:Nat)(v:AV):Prop:=∃V,x.run P w=.ok V w/\afj μ n v V
theorem Val.int{i:Int}(h:x.run P w=.ok (.int k i) w):Val P x w μ n (.int k i):=⟨_,h,by simp[afj]⟩
theorem Val.bool{b:Bool}(h:x.run P w=.ok (.bool b) w):Val P x w μ n (.bool b):=⟨_,h,by simp[afj]⟩
theorem Val.str{s:List UInt8}(h:x.run P w=.ok (.string ⟨s.toArray⟩) w):Val P x w μ n (.str s):=⟨_,h,by simp[afj]⟩
theorem QY{a b:Int}(h:Yj op k a b=some v)(t:TypeId)(w:World):
  Val P (binOp op t (.int k a) (.int k b)) w μ n v:=by
 cases op<;>simp only[Yj,Pi,reduceCtorEq] at h;case add=>subst h;exact .int (by simp[binOp,Op.intArith])
 case sub=>subst h;exact .int (by simp[binOp,Op.intArith])
 case mul=>subst h;exact .int (by simp[binOp,Op.intArith])
 case quo=>
  split at h
  .cases h
  next Z=>cases h;exact .int (by simp[binOp,Op.intDiv,Z])
 case rem=>
  split at h
  .cases h
  next Z=>cases h;exact .int (by simp[binOp,Op.intDiv,Z])
 case eql=>subst h;exact .bool (by simp[binOp,Op.intCmp];try (rw[Bool.eq_iff_iff];simp))
 case neq=>subst h;exact .bool (by simp[binOp,Op.intCmp];try (rw[Bool.eq_iff_iff];simp))
 case lss=>subst h;exact .bool (by simp[binOp,Op.intCmp])
 case leq=>subst h;exact .bool (by simp[binOp,Op.intCmp])
 case gtr=>subst h;exact .bool (by simp[binOp,Op.intCmp])
 case geq=>subst h;exact .bool (by simp[binOp,Op.intCmp])
theorem Q4{s u:List UInt8}(h:Yk op s u=some v)(t:TypeId)(w:World):
  Val P (binOp op t (.string ⟨s.toArray⟩) (.string ⟨u.toArray⟩)) w μ n v:=by
 cases op<;>simp only[Yk,Pi,reduceCtorEq] at h;case add=>
  split at h
  .rename_i X
   cases h;refine .str ?_;have:¬((9223372036854775807:Int)<((s.length:Int)+(u.length:Int))):=by simp only[fM] at X;omega
   have V:(ByteArray.mk s.toArray).size=s.length:=by simp[ByteArray.size]
   have U:(ByteArray.mk u.toArray).size=u.length:=by simp[ByteArray.size]
   have Z:(ByteArray.mk s.toArray)++(ByteArray.mk u.toArray)=ByteArray.mk (s++u).toArray:=by apply ByteArray.ext;simp
   simp[binOp,Op.stringOp,V,U,this,Z]
  .cases h
 case eql=>subst h;exact .bool (by simp[binOp,Op.stringOp])
 case neq=>subst h;exact .bool (by simp[binOp,Op.stringOp])
 case lss=>subst h;exact .bool (by simp[binOp,Op.stringOp])
 case leq=>subst h;exact .bool (by simp[binOp,Op.stringOp])
 case gtr=>subst h;exact .bool (by simp[binOp,Op.stringOp])
 case geq=>subst h;exact .bool (by simp[binOp,Op.stringOp])
section
variable (hT:dN P T){t:TypeId}
include hT t
section
variable (h:T t=some i)
include h
theorem wG(w:World):(Go.isAgg t).run P w=.ok i.isAgg w:=by have Z:=(hT t i h).desc;simp only[Go.isAgg,Sem.run_bind,run_underlying Z,Result.andThen_ok,TyI.isAgg];cases i.desc<;>rfl
theorem dJ(w:World):(Go.sizeOf t).run P w=.ok i.size w:=by obtain⟨f,Z,X,_,_⟩:=(hT t i h).info;simp[Go.sizeOf,typeInfo,Z,X]
theorem zk(w:World):∃f,(typeInfo t).run P w=.ok f w/\f.size=i.size/\f.bytes=i.bytes/\f.zero=some i.zero:=by obtain⟨f,Z,X,V,U⟩:=(hT t i h).info;exact⟨f,by simp[typeInfo,Z],X,V,U⟩
theorem fX(w:World):(zeroValue t).run P w=.ok i.zero w:=by obtain⟨f,Z,V,U,X⟩:=zk hT h w;simp[zeroValue,Z,X]
end
theorem jA(I:T t=some i){H:List Value}{off:Nat}(h:jV i cs off=some v)(hr:afk μ n cs H)(w:World):Val P (part t ⟨H⟩ off) w μ n v:=by
 unfold jV at h;simp only[part,Val];cases hi:i.isAgg with
 |true=>
  simp only[hi,if_true] at h;split at h
  .rename_i V
   cases h;have S:=hr.length;refine⟨.agg (Array.extract ⟨H⟩ off (off+i.size)),?_,?_⟩
   .simp[wG hT I,dJ hT I,hi]
   .simp only[afj]
    refine⟨(H.drop off).take i.size,?_,(hr.drop off).take i.size⟩;congr 1;apply Array.ext';simp[List.extract]
  .cases h
 |false=>
  simp only[hi,Bool.false_eq_true,if_false] at h;obtain⟨U,Z,X⟩:=hr.get off v h;exact⟨U,by simp[wG hT I,hi,Z],X⟩
end
theorem afj.bool{b V}(h:afj μ n (.bool b) V):V=.bool b:=by simpa [afj] using h
theorem afj.int{k i V}(h:afj μ n (.int k i) V):V=.int k i:=by simpa [afj] using h
theorem afj.str{s V}(h:afj μ n (.str s) V):V=.string ⟨s.toArray⟩:=by simpa [afj] using h
theorem afj.agg{cs V}(h:afj μ n (.agg cs) V):∃Z,V=.agg ⟨Z⟩/\afk μ n cs Z:=by simpa only[afj] using h
theorem Ez(hT:dN P T){d:Nat}{q:TypeId->AV->AV->Option Bool}
  (I:∀{t:TypeId}{x y:AV}{b:Bool}{X Y:Value},q t x y=some b->afj μ n x X->afj μ n y Y->∀(w:World),(Op.equalIn d t X Y).run P w=.ok b w)
  {J W:List AV}{Xs Ys:List Value}(hx:afk μ n J Xs) (hy:afk μ n W Ys) (w:World):
  ∀{H:List Field}{b:Bool},RT T q J W H=some b->(Op.eqFields d ⟨Xs⟩ ⟨Ys⟩ H).run P w=.ok b w
 | [],b,h=>by simp only[RT,Pi] at h;subst h;simp[Op.eqFields]
 |f::H,b,h=>by
  rw[RT] at h;split at h
  .cases h
  .rename_i Z
   split at h
   .cases h
   .rename_i i S
    split at h
    .rename_i a c R O
     split at h
     .rename_i p r N M
      cases h;obtain⟨A,L,V⟩:=jA (P:=P) (μ:=μ) (n:=n) hT S R hx w;obtain⟨C,K,U⟩:=jA (P:=P) (μ:=μ) (n:=n) hT S O hy w;have G:=I N V U w;have F:=Ez hT I hx hy w M;simp only[Op.eqFields,Z,ne_eq,not_false_eq_true,if_true,Sem.run_bind,L,K,G,Result.andThen_ok];cases p
      .simp
      .simp[F]
     .cases h
    .cases h
theorem Ey(hT:dN P T){d:Nat}{e:TypeId}{i:TyI}(H:T e=some i){q:AV->AV->Option Bool}
  (J:∀{x y:AV}{b:Bool}{X Y:Value},q x y=some b->afj μ n x X->afj μ n y Y->∀(w:World),(Op.equalIn d e X Y).run P w=.ok b w)
  {W ys:List AV}{Xs Ys:List Value}(hx:afk μ n W Xs) (hy:afk μ n ys Ys) (w:World):
  ∀{I:List Nat}{b:Bool},Wi q i W ys I=some b->
   ((forIn I ((none,()):Option Bool×Unit) fun j _=>(do
     let a <-part e ⟨Xs⟩ (j*i.size)
     let c <-part e ⟨Ys⟩ (j*i.size)
     let r <-Op.equalIn d e a c
     if (!r)=true then pure (ForInStep.done (some false,())) else pure (ForInStep.yield (none,())):Sem (ForInStep (Option Bool×Unit)))).run P w=
    .ok (if b then none else some false,()) w)
 | [],b,h=>by simp only[Wi,Pi] at h;subst h;simp
 |j::I,b,h=>by
  rw[Wi] at h;split at h
  .rename_i a c U S
   split at h
   .rename_i p r R O
    cases h;obtain⟨A,N,Z⟩:=jA (P:=P) (μ:=μ) (n:=n) hT H U hx w;obtain⟨C,M,V⟩:=jA (P:=P) (μ:=μ) (n:=n) hT H S hy w;have L:=J R Z V w;have K:=Ey hT H J hx hy w O;simp only[List.forIn_cons,Sem.run_bind,N,M,L,Result.andThen_ok];cases p
    .simp
    .simp only[Bool.not_true,Bool.false_eq_true,if_false,Sem.run_pure,Result.andThen_ok,Bool.true_and]
     exact K
   .cases h
  .cases h
theorem jy(hT:dN P T):∀(d:Nat) {t:TypeId} {x y:AV} {b:Bool} {X Y:Value},k9 T d t x y=some b->afj μ n x X->afj μ n y Y->
  ∀(k:Nat) (w:World),(Op.equalIn (d+k) t X Y).run P w=.ok b w
 |0,_,_,_,_,_,_,h,_,_,_,_=>by simp[k9] at h
 |d+1,t,x,y,b,X,Y,h,hx,hy,k,w=>by
  rw[k9] at h;rw[show d+1+k=d+k+1 by omega];cases ht:T t with
  |none=>rw[ht] at h;cases h
  |some i=>
   rw[ht] at h;simp only at h;have Z:=(hT t i ht).desc;split at h
   .rename_i V
    cases h;rw[hx.bool,hy.bool];rw[V] at Z;exact run_equalIn_bool' w _ t _ _ Z
   .rename_i K W a J I V
    split at h
    .rename_i G
     cases h;subst G;rw[hx.int,hy.int];rw[V] at Z;rw[run_equalIn_int w _ t _ K _ _ Z];congr 1
    .cases h
   .rename_i V
    cases h;rw[hx.str,hy.str];rw[V] at Z;rw[run_equalIn_string w _ t _ _ Z];simp
   .rename_i F D C V
    split at h
    .rename_i B
     obtain⟨u,rfl,U⟩:=hx.agg;obtain⟨o,rfl,S⟩:=hy.agg;rw[V] at Z;have M:P.fieldsOf t=F:=by simp[Program.fieldsOf,Z]
     rw[run_equalIn_agg w _ t _ _ (by rw[Z,M]) ((hT t i ht).ag1 B).1,M];exact Ez hT (fun R O h3 w=>jy hT d R O h3 k w) U S w h
    .cases h
   .rename_i m e D C V
    split at h
    .split at h
     .rename_i j L
      obtain⟨u,rfl,U⟩:=hx.agg;obtain⟨o,rfl,S⟩:=hy.agg;rw[V] at Z;have N:=Ey hT L (d:=d+k) (fun R O h3 w=>jy hT d R O h3 k w) U S w h;simp only[Op.equalIn,Sem.run_bind,run_underlying Z,Result.andThen_ok,dJ hT L];simp only[Std.Legacy.Range.forIn_eq_forIn_range',Std.Legacy.Range.size,QQi,Nat.add_sub_cancel,Nat.div_one];rw[N];cases b<;>rfl
     .cases h
    .cases h
   .cases h
end
end Go.Eng
namespace Go.Eng
variable{X Y:Value}
section
variable {P:Program}{T:TypeId->Option TyI}{μ:Nat->Place}{n:Nat}
theorem gS(t:TypeId)(X Y:Value):Op.equal t X Y=Op.equalIn (9999+1) t X Y:=rfl
theorem Ek(hT:dN P T){t:TypeId}{x y:AV}{b:Bool}(H:afj μ n x X)(I:afj μ n y Y)(J W:Operand)(h:WJ T t (rW J) (rW W) x y=some b)(w:World):
  (∀Z,(eqGuard Z t J W X Y).run P w=.ok () w)/\(Op.equal t X Y).run P w=.ok b w/\(∀Z:BinOp,Z=.eql\/Z=.neq->binOp Z t X Y=(if Z=.eql then (do pure (.bool (<-Op.equal t X Y))) else (do pure (.bool (!(<-Op.equal t X Y)))))):=by
 unfold WJ at h;cases ht:T t with
 |none=>rw[ht] at h;cases h
 |some i=>
  rw[ht] at h;simp only at h;have V:=(hT t i ht).desc;split at h
  .rename_i U;cases h;rw[U] at V
   simp only[afj] at H I;obtain⟨_,rfl⟩:=H;subst I;exact⟨fun Z=>by rw[eqGuard_at_slice];rfl,by rw[gS,Op.equalIn];simp[run_underlying V],by intro Z S;cases S with | inl e=>subst e;rfl | inr e=>subst e;rfl⟩
  .rename_i U;cases h;rw[U] at V
   simp only[afj] at H I;subst H;subst I;exact⟨fun Z=>by rw[eqGuard_at_slice];rfl,by rw[gS,Op.equalIn];simp[run_underlying V],by intro Z S;cases S with | inl e=>subst e;rfl | inr e=>subst e;rfl⟩
  .rename_i U;cases h;rw[U] at V
   simp only[afj] at H I;subst H;subst I;exact⟨fun Z=>by rw[eqGuard_at_pointer];rfl,by rw[gS,Op.equalIn];simp[run_underlying V],by intro Z S;cases S with | inl e=>subst e;rfl | inr e=>subst e;rfl⟩
  .rename_i U;cases h;rw[U] at V
   simp only[afj] at H I;obtain⟨_,rfl⟩:=H;subst I;exact⟨fun Z=>by rw[eqGuard_at_pointer];rfl,by rw[gS,Op.equalIn];simp[run_underlying V],by intro Z S;cases S with | inl e=>subst e;rfl | inr e=>subst e;rfl⟩
  .rename_i U;cases h;rw[U] at V
   simp only[afj] at H I;subst H;subst I;exact⟨fun Z=>by rw[eqGuard_at_nilFunc];rfl,by rw[gS,Op.equalIn];simp[run_underlying V],by intro Z S;cases S with | inl e=>subst e;rfl | inr e=>subst e;rfl⟩
  .rename_i U;cases h;rw[U] at V
   simp only[afj] at H I;obtain⟨_,rfl,_⟩:=H;subst I;exact⟨fun Z=>by rw[eqGuard_at_func];rfl,by rw[gS,Op.equalIn];simp[run_underlying V],by intro Z S;cases S with | inl e=>subst e;rfl | inr e=>subst e;rfl⟩
  .rename_i U;rw[U] at V
   simp only[afj] at H I;subst H;subst I;split at h
   .rename_i R;cases h
    refine⟨fun Z=>?_,by rw[gS,Op.equalIn];simp[run_underlying V],by intro Z S;cases S with | inl e=>subst e;rfl | inr e=>subst e;rfl⟩;cases J<;>cases W<;>simp[rW] at R<;>first | (rw[eqGuard_nil_constR];rfl) | (rw[eqGuard_nil_constL];rfl)
   .cases h
  .rename_i U;cases h;rw[U] at V
   simp only[afj] at H I;obtain⟨_,rfl,_⟩:=H;subst I;exact⟨fun Z=>by rw[eqGuard_at_iface];rfl,by rw[gS,Op.equalIn];simp[run_underlying V],by intro Z S;cases S with | inl e=>subst e;rfl | inr e=>subst e;rfl⟩
  .cases h
theorem QV(hT:dN P T){op:BinOp}{t:TypeId}{x y v:AV}(H:afj μ n x X)(I:afj μ n y Y)(J W:Operand)(h:Yi T op t (rW J) (rW W) x y=some v)(w:World):
  Val P (do eqGuard op t J W X Y;binOp op t X Y) w μ n v:=by
 unfold Yi at h;split at h
 .rename_i k a B b
  split at h
  .rename_i L
   subst L;rw[H.int,I.int];obtain⟨V,U,S⟩:=QY (P:=P) (μ:=μ) (n:=n) h t w;exact⟨V,by rw[eqGuard_at_int];simpa using U,S⟩
  .cases h
 .rw[H.str,I.str]
  obtain⟨V,U,S⟩:=Q4 (P:=P) (μ:=μ) (n:=n) h t w;exact⟨V,by rw[eqGuard_at_string];simpa using U,S⟩
 .rename_i a b
  rw[H.bool,I.bool];split at h
  .rename_i i K
   have O:=(hT t i K).desc;split at h
   .rename_i N
    cases h;rw[N] at O;refine .bool ?_;rw[eqGuard_at_bool];simp only[binOp,gS,Sem.run_bind,Sem.run_pure,Result.andThen_ok,run_equalIn_bool' w 9999 t a b O]
   .rename_i N
    cases h;rw[N] at O;refine .bool ?_;rw[eqGuard_at_bool];simp only[binOp,gS,Sem.run_bind,Sem.run_pure,Result.andThen_ok,run_equalIn_bool' w 9999 t a b O]
   .cases h
  .cases h
 .rename_i G F
  have R:∀b,k9 T 20 t (.agg G) (.agg F)=some b->P.eqGuardType P.depth t=false:=by
   intro b Z;rw[k9] at Z;cases ht:T t with
   |none=>rw[ht] at Z;cases Z
   |some i=>
    rw[ht] at Z;simp only at Z;split at Z
    next U _=>cases U
    next U _=>cases U
    next U _=>cases U
    .split at Z
     next M=>exact((hT t i ht).ag1 M).2
     .cases Z
    .split at Z
     next M=>exact((hT t i ht).ag1 M).2
     .cases Z
    .cases Z
  split at h
  .simp only[Y2] at h
   obtain⟨b,Z,rfl⟩:=h;have U:=jy hT 20 Z H I 9980 w;obtain⟨D,rfl,_⟩:=H.agg;obtain⟨C,rfl,_⟩:=I.agg;refine .bool ?_;simp only[Sem.run_bind,run_eqGuard_agg w _ t J W _ _ (R b Z),Result.andThen_ok,run_eql_struct,U]
  .simp only[Y2] at h
   obtain⟨b,Z,rfl⟩:=h;have U:=jy hT 20 Z H I 9980 w;obtain⟨D,rfl,_⟩:=H.agg;obtain⟨C,rfl,_⟩:=I.agg;refine .bool ?_;simp only[Sem.run_bind,run_eqGuard_agg w _ t J W _ _ (R b Z),Result.andThen_ok,run_neq_struct,U]
  .cases h
 .split at h
  .simp only[Y2] at h
   obtain⟨b,Z,rfl⟩:=h;obtain⟨U,S,h3⟩:=Ek hT H I J W Z w;refine .bool ?_;rw[Sem.run_bind,U,Result.andThen_ok,h3 _ (.inl rfl)];simp[S]
  .simp only[Y2] at h
   obtain⟨b,Z,rfl⟩:=h;obtain⟨U,S,h3⟩:=Ek hT H I J W Z w;refine .bool ?_;rw[Sem.run_bind,U,Result.andThen_ok,h3 _ (.inr rfl)];simp[S]
  .cases h
theorem DP(hT:dN P T){s d:TypeId}{x v:AV}(H:afj μ n x X)(h:Au T s d x=some v)(w:World):
  Val P (convert s d X) w μ n v:=by
 unfold Au at h;split at h
 .rename_i i j R O
  have Z:=(hT s i R).desc;have V:=(hT d j O).desc;split at h
  .rename_i U S;cases h;rw[H.int];rw[U] at Z;rw[S] at V
   exact .int (by simp[convert,run_underlying Z,run_underlying V,Conv.intToInt])
  .rename_i U S;cases h;rw[H.str];rw[U] at Z;rw[S] at V
   exact .str (by simp[convert,run_underlying Z,run_underlying V])
  .cases h
 .cases h
theorem Lr(off:Nat):∀(vs:List Value) (k:Nat) (cur:List Value),off+k+vs.length<=cur.length->
  ((vs.zipIdx k).foldl (fun(cs:Array Value) (x:Value×Nat)=>cs.setIfInBounds (off+x.2) x.1) ⟨cur⟩)=⟨cur.take (off+k)++vs++cur.drop (off+k+vs.length)⟩
 | [],k,cur,_=>by simp
 |v::vs,k,cur,h=>by
  simp only[List.zipIdx_cons,List.foldl_cons];have Z:(⟨cur⟩:Array Value).setIfInBounds (off+k) v=⟨cur.set (off+k) v⟩:=by simp
  rw[Z,Lr off vs (k+1) (cur.set (off+k) v) (by simp at h |-;omega)];have e:=list_seg_step cur (off+k) v vs (by simp at h |-;omega);simp only[Y1,Array.mk.injEq,List.length_cons] at e |-;simpa [QXX,QXJ 1] using e
theorem sR{W:Nat->Option (Nat×Nat)}:∀{parts:List (Nat×AV)}{cells J :List AV} {I:List (Nat×Value)} {H:List Value},
  qo W cells parts=some J ->afk μ n cells H->I.map (·.1)=parts.map (·.1)->afk μ n (parts.map (·.2)) (I.map (·.2))->
  ∃Z,Instr.fill W ⟨H⟩ I=some ⟨Z⟩/\afk μ n J Z
 | [],cells,J,I,H,h,hc,R,_=>by
  simp only[qo,Pi] at h;subst h;have:I=[]:=by simpa using R
  subst this;exact⟨H,rfl,hc⟩
 |(i,v)::rest,cells,J,I,H,h,hc,R,hv=>by
  cases I with
  |nil=>simp at R
  |cons p Rest=>
   obtain⟨D,V⟩:=p;simp only[List.map_cons,List.cons.injEq] at R;obtain⟨rfl,R⟩:=R;simp only[List.map_cons] at hv;obtain⟨L,K⟩:=bV.1 hv;rw[qo] at h;cases hpl:W D with
   |none=>rw[hpl] at h;cases h
   |some os=>
    obtain⟨U,S⟩:=os;rw[hpl] at h;simp only at h;split at h
    .rename_i G
     simp only[C0,Es] at G;obtain⟨⟨C,F⟩,B⟩:=G;have O:=L.cells C;have N:V.cells.size=S:=by rw[<-QQm,O.length,F]
     have M:=hc.length;rw[Instr.fill,hpl];simp only;have u:(V.cells.zipIdx.foldl (fun cs (x:Value×Nat)=>cs.setIfInBounds (U+x.2) x.1) (⟨H⟩:Array Value))=⟨H.take U++V.cells.toList++H.drop (U+S)⟩:=by rw[<-Array.foldl_toList,Array.toList_zipIdx,Lr U _ 0 H (by rw[O.length,M,F];omega)];simp[N]
     rw[if_neg (by simp[N,M];omega),u];exact sR h (((hc.take U).append O).append (hc.drop _)) R K
    .cases h
theorem Pg{α β:Type}(g:α->Sem β)(hf:α->β)(w:World):∀(l:List α),(∀x∈l,(g x).run P w=.ok (hf x) w)->(l.mapM g).run P w=.ok (l.map hf) w
 | [],_=>by simp
 |x::l,h=>by simp[List.mapM_cons,h x (by simp),Pg g hf w l (fun y Z=>h y (by simp[Z]))]
theorem OF{μ:Nat->Place}{n:Nat}{v:AV}{V:Value}(h:afj μ n v V)(H:v.cells=[v])(hV:V.cells= #[V]):afk μ n v.cells V.cells.toList:=by rw[H,hV];exact bV.2 ⟨h,by simp[afk]⟩
theorem DY(v:Value):(kz v).cells=[kz v]:=by unfold kz;split<;>rfl
theorem pP(μ:Nat->Place)(n:Nat)(z:Value):afk μ n (ot z).cells z.cells.toList:=by
 by_cases h:∃Z,z=.agg Z
 .obtain⟨Z,rfl⟩:=h;exact nq μ n _
 .have e:ot z=kz z:=by cases z<;>first | rfl | exact absurd ⟨_,rfl⟩ h
  have c:z.cells= #[z]:=by cases z<;>first | rfl | exact absurd ⟨_,rfl⟩ h
  rw[e];exact OF (pr μ n z) (DY z) c
theorem KK(hT:dN P T){t:TypeId}{parts:List (Nat×AV)}{H:List (Nat×Value)}{v:AV}(h:cv T t parts=some v)(I:H.map (·.1)=parts.map (·.1))(J:afk μ n (parts.map (·.2)) (H.map (·.2)))(w:World):
  Val P (Instr.build t ⟨H⟩) w μ n v:=by
 unfold cv at h;cases ht:T t with
 |none=>rw[ht] at h;cases h
 |some i=>
  rw[ht] at h;simp only at h;have O:=(hT t i ht).desc;have C:=pP μ n i.zero;split at h
  .rename_i V N
   split at h
   .rename_i B
    simp only[Y2] at h;obtain⟨M,U,rfl⟩:=h;obtain⟨Z,L,K⟩:=sR U C I J;rw[N] at O;have R :∀f∈V.toList,∃j,T f.type=some j:=by intro f U;rw[Array.all_eq_true'] at B;have:=B f (by simpa using U);exact Option.isSome_iff_exists.1 this
    have G:(V.mapM fun f=>do pure (f.offset,<-sizeOf f.type):Sem (Array (Nat×Nat))).run P w=
      .ok (V.map fun f=>(f.offset,((T f.type).map (·.size)).getD 0)) w:=by
     rw[Array.mapM_eq_mapM_toList,Sem.run_map];rw[Pg (P:=P) _ (fun f=>(f.offset,((T f.type).map (·.size)).getD 0)) w V.toList (fun f U=>by obtain⟨j,S⟩:=R f U;simp[dJ hT S,S])]
     simp only[Result.andThen_ok,Result.ok.injEq,and_true];apply Array.ext';simp
    have F:(fun k=>(V.map fun f=>(f.offset,((T f.type).map (·.size)).getD 0))[k]?)=aH T V:=by
     funext k;simp only[aH,Array.getElem?_map];cases hk:V[k]? with
     |none=>rfl
     |some f=>
      have D:f∈V.toList:=by have:=Array.mem_of_getElem? hk;simpa using this
      obtain⟨j,S⟩:=R f D;simp[S]
    refine⟨.agg ⟨Z⟩,?_,by simp only[afj];exact⟨Z,rfl,K⟩⟩;simp only[Instr.build,Sem.run_bind,fX hT ht,Result.andThen_ok,run_underlying O];erw [G];simp only[Result.andThen_ok,F];rw[show i.zero.cells=⟨i.zero.cells.toList⟩ from rfl,L];rfl
   .cases h
  .rename_i m e N
   split at h
   .rename_i j S
    simp only[Y2] at h;obtain⟨M,U,rfl⟩:=h;obtain⟨Z,L,K⟩:=sR U C I J;rw[N] at O;refine⟨.agg ⟨Z⟩,?_,by simp only[afj];exact⟨Z,rfl,K⟩⟩;simp only[Instr.build,Sem.run_bind,fX hT ht,Result.andThen_ok,run_underlying O,dJ hT S];rw[show i.zero.cells=⟨i.zero.cells.toList⟩ from rfl,L];rfl
   .cases h
  .cases h
end
end Go.Eng
namespace Go.Eng
variable{f:Nat}
section
variable {P:Program}{T:TypeId->Option TyI}{μ:Nat->Place}{n:Nat}
theorem afj.ptr{b o V}(h:afj μ n (.ptr b o) V):b<n/\V=.pointer (some ⟨(μ b).blk,(μ b).off+o,none⟩):=by simpa only[afj] using h
theorem afj.slice{b o l c V}(h:afj μ n (.slice b o l c) V):b<n/\V=.slice (some ⟨(μ b).blk,(μ b).off+o,none⟩) l (rK (μ b) o c):=by simpa only[afj] using h
theorem kB{k:IntKind}{i:Int}{y:Nat}(h0:0<=i)(h1:i<=y)(H:BoundsCode)(w:World):
  (Instr.sliceBound (.int k i) y H).run P w=.ok i.toNat w:=by
 simp[Instr.sliceBound,asIntOf,h0,h1]
section
variable (hT:dN P T){t:TypeId}
include hT t
theorem zZ{x i v:AV}{X I:Value}(H:afj μ n x X)(J:afj μ n i I)(h:sK T t x i=some v)(w:World):
  Val P (Instr.indexAt t X I) w μ n v:=by
 unfold sK at h;cases ht:T t with
 |none=>rw[ht] at h;cases h
 |some ti=>
  rw[ht] at h;simp only at h;have U:=(hT t ti ht).desc;split at h
  .rename_i e b o m c k j S
   rw[S] at U;split at h
   .rename_i R Z
    split at h
    .rename_i O
     cases h;obtain⟨V,rfl⟩:=H.slice;rw[J.int];refine⟨.pointer (some ⟨(μ b).blk,(μ b).off+(o+j.toNat*R.size),none⟩),?_,by simp only[afj];exact⟨V,trivial⟩⟩;simp[Instr.indexAt,asIntOf,run_underlying U,O,dJ hT Z,Addr.add_lit,QXX]
    .cases h
   .cases h
  .rename_i m e b o k j S
   rw[S] at U;split at h
   .rename_i R Z
    split at h
    .rename_i O
     cases h;obtain⟨V,rfl⟩:=H.ptr;rw[J.int];refine⟨.pointer (some ⟨(μ b).blk,(μ b).off+(o+j.toNat*R.size),none⟩),?_,by simp only[afj];exact⟨V,trivial⟩⟩;simp[Instr.indexAt,asIntOf,run_underlying U,Instr.sureAddr,O,dJ hT Z,Addr.add_lit,QXX]
    .cases h
   .cases h
  .cases h
theorem KM{x i v:AV}{X I:Value}(H:afj μ n x X)(J:afj μ n i I)(h:OT T t x i=some v)(w:World):
  Val P (Instr.index t X I) w μ n v:=by
 unfold OT at h;cases ht:T t with
 |none=>rw[ht] at h;cases h
 |some ti=>
  rw[ht] at h;simp only at h;have U:=(hT t ti ht).desc;split at h
  .rename_i m e D k j S
   rw[S] at U;split at h
   .rename_i C Z
    split at h
    .rename_i M
     obtain⟨B,rfl,R⟩:=H.agg;rw[J.int];obtain⟨V,L,K⟩:=jA (P:=P) (μ:=μ) (n:=n) hT Z h R w;exact⟨V,by simp[Instr.index,asIntOf,run_underlying U,M,dJ hT Z,L],K⟩
    .cases h
   .cases h
  .rename_i s k j S
   rw[S] at U;split at h
   .rename_i G
    split at h
    .rename_i c N
     cases h;rw[H.str,J.int];have O :(ByteArray.mk s.toArray)[j.toNat]? =some c:=by have F:j.toNat<s.length:=gL N;have u:=(Ns.1 N).2;rw[getElem?_pos (ByteArray.mk s.toArray) j.toNat (by simpa [ByteArray.size] using F)];congr 1
     exact .int (by simp[Instr.index,asIntOf,run_underlying U,G,O])
    .cases h
   .cases h
  .cases h
theorem KL{x v:AV}{X:Value}(H:afj μ n x X)(h:kZ T t x f=some v)(w:World):
  Val P (Instr.field t X f) w μ n v:=by
 unfold kZ at h;cases ht:T t with
 |none=>rw[ht] at h;cases h
 |some ti=>
  rw[ht] at h;simp only at h;have S:=(hT t ti ht).desc;split at h
  .rename_i L K R
   rw[R] at S;split at h
   .rename_i G Z
    split at h
    .rename_i j O
     obtain⟨F,rfl,U⟩:=H.agg;obtain⟨V,N,M⟩:=jA (P:=P) (μ:=μ) (n:=n) hT O h U w;exact⟨V,by simp[Instr.field,run_underlying S,Z,asAgg,N],M⟩
    .cases h
   .cases h
  .cases h
theorem zY{x v:AV}{X:Value}(H:afj μ n x X)(h:sJ T t x f=some v)(w:World):
  Val P (Instr.fieldAt t X f) w μ n v:=by
 unfold sJ at h;cases ht:T t with
 |none=>rw[ht] at h;cases h
 |some ti=>
  rw[ht] at h;simp only at h;have U:=(hT t ti ht).desc;split at h
  .rename_i M b o S
   rw[S] at U;split at h
   .rename_i R Z
    split at h
    .rename_i j O
     split at h
     .cases h
     .rename_i N
      cases h;obtain⟨V,rfl⟩:=H.ptr;refine⟨.pointer (some ⟨(μ b).blk,(μ b).off+(o+R.offset),none⟩),?_,by simp only[afj];exact⟨V,trivial⟩⟩;simp[Instr.fieldAt,run_underlying U,Z,Instr.sureAddr,fieldPlace,Addr.add_lit,QXX,dJ hT O,N]
    .cases h
   .cases h
  .cases h
end
end
end Go.Eng
namespace Go.Eng
section
variable {P:Program}{T:TypeId->Option TyI}{μ:Nat->Place}{mem:Mem}{base:Nat}{w:World}
theorem sN(s:List UInt8):(ByteArray.mk s.toArray).size=s.length:=by simp[ByteArray.size]
theorem afv.cell(H:afv base μ mem w){b:Nat}{own es cs}(I:mem[b]? =some (.cells own es cs)){j:Nat}{v:AV}(J:cs[j]? =some v):
  ∃V,w.cell? ⟨(μ b).blk,(μ b).off+j,none⟩=some V/\afj μ mem.length v V:=by
 have Z:=H.slot b _ I;simp only[afx] at Z;obtain⟨X,e,O,U,_,_,S,_⟩:=Z;obtain⟨V,hV,R⟩:=S j v J;exact⟨V,by simp[World.cell?,U,hV],R⟩
theorem afv.cells(H:afv base μ mem w){b:Nat}{own es cs}(I:mem[b]? =some (.cells own es cs)){o k:Nat}(J:o+k<=cs.length):
  ∃Z,afk μ mem.length ((cs.drop o).take k) Z/\Z.length=k/\∀(j:Nat) u,Z[j]? =some u->w.cell? ((⟨(μ b).blk,(μ b).off+o,none⟩:Addr).add j)=some u:=by
 induction k with
 |zero=>exact⟨[],by simp[afk],rfl,by simp⟩
 |succ k ih=>
  obtain⟨Z,O,S,h3⟩:=ih (by omega);have R:o+k<cs.length:=by omega
  obtain⟨V,hV,N⟩:=H.cell I (j:=o+k) (v:=cs[o+k]) (by simp[R]);refine⟨Z++[V],?_,by simp[S],fun j u X=>?_⟩
  .rw[List.take_add_one]
   have:(cs.drop o)[k]? =some cs[o+k]:=by simp[QQa,R]
   rw[this];exact O.append (bV.2 ⟨N,by simp[afk]⟩)
  .by_cases M:j<Z.length
   .rw[GE M] at X;exact h3 j u X
   .have U:j=Z.length:=by have:=gL X;simp at this;omega
    subst U;simp at X;subst X;rw[Addr.add_lit,S,QXX];exact hV
section
variable (hT:dN P T)(hH:afv base μ mem w)
include hT hH
theorem BN{t:TypeId}{x v:AV}{X:Value}(H:afj μ mem.length x X)(h:Q0 T mem t x=some v):
  Val P (Instr.loadAt t X) w μ mem.length v:=by
 unfold Q0 at h;split at h
 .rename_i i b o Z
  split at h
  .rename_i own es G S
   obtain⟨O,rfl⟩:=H.ptr;unfold jV at h;cases hi:i.isAgg with
   |true=>
    simp only[hi,if_true] at h;split at h
    .rename_i N
     cases h;obtain⟨U,M,L,h3⟩:=hH.cells S N;refine⟨.agg U.toArray,?_,by simp only[afj];exact⟨U,rfl,M⟩⟩;have R:=run_loadCells_list (P:=P) w _ U h3;rw[L] at R;simp[Instr.loadAt,Instr.sureAddr,loadVar,wG hT Z,hi,dJ hT Z,R]
    .cases h
   |false=>
    simp only[hi,Bool.false_eq_true,if_false] at h;obtain⟨V,hV,K⟩:=hH.cell S h;refine⟨V,?_,K⟩;simp[Instr.loadAt,Instr.sureAddr,loadVar,wG hT Z,hi,hV]
  .cases h
 .cases h
theorem QZ{t ty:TypeId}{x v:AV}{X:Value}(H:afj μ mem.length x X)(h:WI T t mem x=some v):
  Val P (Builtin.len_ #[t] ty #[X]) w μ mem.length v:=by
 unfold WI at h;cases ht:T t with
 |none=>rw[ht] at h;cases h
 |some ti=>
  rw[ht] at h;simp only at h;have Z:=(hT t ti ht).desc;split at h
  .rename_i s V;cases h;rw[V] at Z;rw[H.str]
   exact .int (by simp[Builtin.len_,run_underlying Z,goInt,sN])
  .rename_i V;cases h;rw[V] at Z;rw[H.slice.2]
   exact .int (by simp[Builtin.len_,run_underlying Z,goInt])
  .rename_i V;cases h;rw[V] at Z
   simp only[afj] at H;subst H;exact .int (by simp[Builtin.len_,run_underlying Z,goInt])
  .rename_i m e V;cases h;rw[V] at Z
   exact .int (by simp[Builtin.len_,run_underlying Z,goInt])
  .rename_i V;cases h;rw[V] at Z
   simp only[afj] at H;subst H;exact .int (by simp[Builtin.len_,run_underlying Z,goInt])
  .rename_i b V;rw[V] at Z
   simp only[afj] at H;obtain⟨S,rfl⟩:=H;split at h
   .rename_i es R
    cases h;have U:=hH.slot b _ R;simp only[afx] at U;obtain⟨O,N,M,_,L,_⟩:=U;refine .int ?_;have K:(getObj (μ b).blk).run P w=.ok (.map O N) w:=by simp[getObj,Sem.run,M]
    simp only[Builtin.len_,List.getElem?_toArray,List.getElem?_cons_zero,Sem.run_bind,run_underlying Z,Result.andThen_ok,K];simp[goInt,L]
   .cases h
  .cases h
theorem KO{t:TypeId}{x v:AV}{X:Value}{I hi:Option AV}{Lo Hi:Option Value}(H:afj μ mem.length x X)(hlo:(I=none/\Lo=none)\/∃l L,I=some l/\Lo=some L/\afj μ mem.length l L)(hhi:(hi=none/\Hi=none)\/∃l L,hi=some l/\Hi=some L/\afj μ mem.length l L)(h:OU T mem t x I hi=some v):
  Val P (Instr.sliceAt t X Lo Hi none) w μ mem.length v:=by
 have N:∀(D:Bool) (R O:Nat) (V Z:Int),Ut R hi=some V->
   Uu I=some Z->0<=Z->Z<=V->V<=R->R<=O->
   (Instr.sliceBounds D R O Lo Hi none).run P w=.ok (Z.toNat,V.toNat,O) w:=by
  intro D R O V Z U S h0 h1 h2 h3;have C :V<=O:=by omega
  have ZK :Z<=((V.toNat:Nat):Int):=by omega
  have u :0<=V:=by omega
  rcases hhi with⟨rfl,rfl⟩ | ⟨a,A,rfl,rfl,hA⟩<;>rcases hlo with⟨rfl,rfl⟩ | ⟨b,B,rfl,rfl,hB⟩
  .simp only[Ut,Uu,Pi] at U S;subst U;subst S
   simp[Instr.sliceBounds]
  .cases b<;>simp only[Ut,Uu,reduceCtorEq,Pi] at U S
   subst U;subst S;rw[hB.int];simp[Instr.sliceBounds,kB h0 h1]
  .cases a<;>simp only[Ut,Uu,reduceCtorEq,Pi] at U S
   subst U;subst S;rw[hA.int];simp[Instr.sliceBounds,kB u C]
  .cases a<;>simp only[Ut,reduceCtorEq,Pi] at U
   cases b<;>simp only[Uu,reduceCtorEq,Pi] at S;subst U;subst S;rw[hA.int,hB.int];simp[Instr.sliceBounds,kB u C,kB h0 ZK]
 unfold OU at h;cases ht:T t with
 |none=>rw[ht] at h;cases h
 |some ti=>
  rw[ht] at h;simp only at h;have M:=(hT t ti ht).desc;split at h
  .rename_i s K
   rw[K] at M;split at h
   .rename_i V Z U S
    split at h
    .rename_i Y
     cases h;rw[H.str];have G:=N false s.length s.length V Z U S Y.1 Y.2.1 Y.2.2 (L9 _);refine .str ?_;have adL:(ByteArray.mk s.toArray).extract Z.toNat V.toNat=⟨((s.drop Z.toNat).take (V.toNat-Z.toNat)).toArray⟩:=by apply ByteArray.ext;apply Array.ext';simp[List.extract]
     simp[Instr.sliceAt,Instr.slice,run_underlying M,sN,G,adL]
    .cases h
   .cases h
  .rename_i e b o m c K
   rw[K] at M;split at h
   .rename_i j own es cs W Y
    split at h
    .rename_i V Z U S
     split at h
     .rename_i J
      obtain⟨g1,g2,g3,g4,g5,g6,g6',g7,rfl⟩:=J;cases h;obtain⟨F,rfl⟩:=H.slice;have hs:=hH.slot b _ Y;simp only[afx] at hs;obtain⟨cur,el,fr,hs1,hs2,hs3,_,_⟩:=hs;have hs2:=hs2.es g6';subst hs2;have aa8:m<=rK (μ b) o none:=by simp only[rK];rw[Nat.le_div_iff_mul_le g6];omega
      have G:=N true m (rK (μ b) o none) V Z U S g1 g2 g3 aa8;refine⟨.slice (some ⟨(μ b).blk,(μ b).off+(o+Z.toNat*(μ b).es),none⟩) (V.toNat-Z.toNat) (rK (μ b) o none-Z.toNat),?_,?_⟩
      .simp[Instr.sliceAt,Instr.slice,run_underlying M,G,dJ hT W]
       by_cases hl0:Z=0
       .subst hl0;simp[Addr.add_lit]
       .have:¬rK (μ b) o none=Z.toNat:=by omega
        simp[this,Addr.add_lit,g5,QXX]
      .simp only[afj]
       refine⟨F,?_⟩;congr 1;simp only[rK];have Zl:Z.toNat*(μ b).es<=m*(μ b).es:=QQf _ (by omega);rw[show(μ b).tot-(o+Z.toNat*(μ b).es)=(μ b).tot-o-(μ b).es*Z.toNat by rw[Zq (μ b).es];omega];rw[Nat.sub_mul_div]
     .cases h
    .cases h
   .cases h
  .rename_i e K
   rw[K] at M;split at h
   .rename_i j W
    split at h
    .rename_i V Z U S
     split at h
     .rename_i J
      obtain⟨rfl,rfl⟩:=J;cases h;simp only[afj] at H;subst H;have G:=N true 0 0 0 0 U S (by omega) (by omega) (by omega) (by omega);refine⟨.slice none 0 0,?_,by simp[afj]⟩;simp[Instr.sliceAt,Instr.slice,run_underlying M,G,dJ hT W]
     .cases h
    .cases h
   .cases h
  .rename_i m e b o K
   rw[K] at M;split at h
   .rename_i j W
    split at h
    .rename_i V Z U S
     split at h
     .rename_i J
      obtain⟨g1,g2,g3,g4⟩:=J;cases h;obtain⟨F,rfl⟩:=H.ptr;have G:=N false m m V Z U S g1 g2 g3 (L9 _);refine⟨.slice (some ⟨(μ b).blk,(μ b).off+(o+Z.toNat*j.size),none⟩) (V.toNat-Z.toNat) (m-Z.toNat),?_,?_⟩
      .have:¬m=Z.toNat:=by omega
       simp[Instr.sliceAt,run_underlying M,Instr.sureAddr,G,dJ hT W,this,Addr.add_lit,QXX]
      .simp only[afj];exact⟨F,rfl⟩
     .cases h
    .cases h
   .cases h
  .cases h
end
end
end Go.Eng
