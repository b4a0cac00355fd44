/- See G38. -/
import Derived.Calls
import Derived.Orders
import Derived.Laws.AppendOwn
import Derived.Laws.Cells
import Derived.Laws.CopyRow
import Derived.Tactics
import Derived.Laws.StructEq
import Derived.Laws.Build
set_option linter.all false
namespace Go.Eng
def B5:=@List.take_of_length_le
def Es:=@Bool.and_eq_true
def GE:=@decide_eq_true_eq
def GT:=@List.getElem?_append_left
def G2:=@List.getElem?_eq_getElem
def J1:=@List.mem_of_getElem?
def L9:=@Nat.le_refl
def Mp:=@List.eq_nil_of_length_eq_zero
def Nm:=@Array.getElem?_eq_some_iff
def N0:=@List.drop_eq_getElem_cons
def O2:=@List.getElem?_eq_some_iff
def Pi:=@Option.some.injEq
def P1:=@List.take_length
def P3:=@Nat.pow_le_pow_right
def Qs:=@List.length_append
def SP:=@List.length_take
def V1:=@List.getElem?_append_right
def Y1:=@Option.map_eq_some_iff
def ZN:=@List.drop_of_length_le
def QQQ:=@List.append_assoc
def QQX:=@Option.some.inj
def QQY:=@Array.getElem?_setIfInBounds_ne
def QQZ:=@Nat.mul_comm
def QQJ:=@List.getElem?_map
def QQK:=@Nat.eq_zero_or_pos
def QQa:=@List.getElem?_take_of_lt
def QQb:=@Nat.zero_add
def QQc:=@List.getElem?_set_self
def QQd:=@Nat.le_trans
def QQe:=@List.getElem?_set_ne
def QQf:=@List.getElem?_drop
def QQg:=@List.all_cons
def QQh:=@List.length_set
def QQi:=@Int.toNat_of_nonneg
def QQj:=@Nat.mod_eq_of_lt
def QQk:=@Nat.mul_le_mul_right
def QQl:=@Int.natAbs_mul
def QQm:=@List.mem_map
def QXQ:=@Nat.sub_zero
def QXX:=@List.length_drop
def QXY:=@List.drop_drop
def QXZ:=@Nat.mul_assoc
def QXJ:=@Array.length_toList
def QXK:=@Nat.lt_of_lt_of_le
def QXa:=@Bool.or_eq_true
def QXb:=@Nat.add_assoc
def QXc:=@Nat.add_comm
def QXd:=@List.take_append_of_le_length
def QXe:=@List.getElem?_of_mem
def QXf:=@List.length_map
def QXg:=@Rat.div_mul_cancel
def QXh:=@List.length_replicate
theorem w0:IntKind.i64.wrap 0=0:=rfl
theorem w1:IntKind.i64.wrap 1=1:=rfl
theorem w2:IntKind.i64.wrap 2=2:=rfl
theorem w3:IntKind.i64.wrap 3=3:=rfl
theorem w4:IntKind.i64.wrap 4=4:=rfl
theorem w5:IntKind.i64.wrap 5=5:=rfl
theorem w6:IntKind.i64.wrap 6=6:=rfl
theorem w7:IntKind.i64.wrap 7=7:=rfl
theorem xE{α:Type}(e:α):∃x,x=e:=⟨_,rfl⟩
variable{b:Nat}
theorem gU{α:Type}{M:List α}{x:α}(h:M[b]? =some x)(Z:List α):(M++Z)[b]? =some x:=by rw[GT (O2.1 h).1,h]
theorem lM:(∀{α:Type} {a b:α} {l:List α},(a∈b::l)=(a=b\/a∈l))/\(∀{α:Type} {a:α},(a∈([]:List α))=False)/\∀p:Prop,(p\/False)=p:=⟨fun {_ _ _ _}=>by simp,fun {_ _}=>by simp,fun _=>by simp⟩
theorem lA:(∀{α:Type} (l:List α),[]++l=l)/\(∀{α:Type} (l:List α),l++[]=l)/\∀{α:Type} {a:α} {l k:List α},a::l++k=a::(l++k):=⟨fun _=>rfl,fun _=>List.append_nil _,rfl⟩
theorem lB:(∀{α β:Type} {f:α->β} {a:α} {l:List α},List.map f (a::l)=f a::List.map f l)/\(∀{α β:Type} {f:α->β},List.map f []=[])/\(∀{α:Type} {a b:α} {l k:List α},(a::l=b::k)=(a=b/\l=k))/\∀p:Prop,(p/\True)=p:=⟨rfl,rfl,fun {_ _ _ _ _}=>by simp,fun _=>by simp⟩
theorem gL{α:Type}{l:List α}{i:Nat}{a:α}(h:l[i]? =some a):i<l.length:=(O2.1 h).1
inductive AV where
 |undef
 |bool (b:Bool)
 |int (k:IntKind) (n:Int)
 |str (s:List UInt8)
 |ptr (b off:Nat)
 |afB
 |slice (b off len:Nat) (cap:Option Nat)
 |qF
 |map (b:Nat)
 |afL
 |yield (b:Nat)
 |func (f:FuncId) (caps:List AV)
 |nilFunc
 |iface (t:TypeId) (v:AV)
 |nilIface
 |agg (cs:List AV)
 |tuple (cs:List AV)
 deriving Inhabited
structure Place where
 blk:Nat
 off:Nat
 tot:Nat
 es:Nat
 deriving Inhabited
def rO(p:Place)(o:Nat):Option Nat->Nat
 |some c=>c
 |none=>(p.tot-o) / p.es
mutual
def afn(μ:Nat->Place)(n:Nat):AV->Value->Prop
 |.undef,_=>True
 |.bool b,V=>V=.bool b
 |.int k i,V=>V=.int k i
 |.str s,V=>V=.string ⟨s.toArray⟩
 |.ptr b o,V=>b<n/\V=.pointer (some ⟨(μ b).blk,(μ b).off+o,none⟩)
 |.afB,V=>V=.pointer none
 |.slice b o l c,V=>b<n/\V=.slice (some ⟨(μ b).blk,(μ b).off+o,none⟩) l (rO (μ b) o c)
 |.qF,V=>V=.slice none 0 0
 |.map b,V=>b<n/\V=.map (some (μ b).blk)
 |.yield b,V=>b<n/\V=.func (.yield (μ b).blk) #[] #[]
 |.afL,V=>V=.map none
 |.func f X,V=>∃Z,V=.func (.func f) #[] ⟨Z⟩/\afo μ n X Z
 |.nilFunc,V=>V=.nilFunc
 |.iface t v,V=>∃U,V=.iface t U/\afn μ n v U
 |.nilIface,V=>V=.nilIface
 |.agg X,V=>∃Z,V=.agg ⟨Z⟩/\afo μ n X Z
 |.tuple X,V=>∃Z,V=.tuple ⟨Z⟩/\afo μ n X Z
def afo(μ:Nat->Place)(n:Nat):List AV->List Value->Prop
 | [],Us=>Us=[]
 |v::vs,Us=>∃U Z,Us=U::Z/\afn μ n v U/\afo μ n vs Z
end
theorem bX{μ n v vs U Us}:afo μ n (v::vs) (U::Us)↔afn μ n v U/\afo μ n vs Us:=by
 simp only[afo];constructor
 .rintro ⟨V,S,h,Z,X⟩;cases h;exact⟨Z,X⟩
 .rintro ⟨Z,X⟩;exact⟨U,Us,rfl,Z,X⟩
theorem afo.length{μ n}:∀{vs Us},afo μ n vs Us->Us.length=vs.length
 | [],_,h=>by simp[afo] at h;simp[h]
 |v::vs,_,h=>by simp only[afo] at h;obtain⟨U,X,rfl,_,Z⟩:=h;simp[afo.length Z]
theorem afo.get{μ n}:∀{vs Us},afo μ n vs Us->∀(i:Nat) v,vs[i]? =some v->∃U,Us[i]? =some U/\afn μ n v U
 | [],_,_,i,v,h=>by simp at h
 |w::vs,_,h,i,v,hi=>by
  simp only[afo] at h;obtain⟨U,V,rfl,Z,X⟩:=h;cases i with
  |zero=>simp at hi;subst hi;exact⟨U,by simp,Z⟩
  |succ i=>simpa using afo.get X i v (by simpa using hi)
theorem afo.agu{μ n}:∀{vs Us},Us.length=vs.length->(∀(i:Nat) v,vs[i]? =some v->∃U,Us[i]? =some U/\afn μ n v U)->afo μ n vs Us
 | [],Us,hl,_=>by simp[afo];exact Mp hl
 |v::vs,[],hl,_=>by simp at hl
 |v::vs,U::Us,hl,h=>by
  refine bX.2 ⟨?_,afo.agu (by simpa using hl) fun i u X=>?_⟩
  .obtain⟨S,Z,V⟩:=h 0 v (by simp)
   simp at Z;subst Z;exact V
  .simpa using h (i+1) u (by simpa using X)
theorem afo.append{μ n}:∀{vs Z ws Ws},afo μ n vs Z->afo μ n ws Ws->afo μ n (vs++ws) (Z++Ws)
 | [],_,ws,Ws,h,h' =>by simp[afo] at h;subst h;simpa using h'
 |v::vs,_,ws,Ws,h,h' =>by simp only[afo] at h;obtain⟨U,Z,rfl,X,V⟩:=h;exact bX.2 ⟨X,afo.append V h'⟩
theorem afo.take{μ n vs Us}(h:afo μ n vs Us)(k:Nat):afo μ n (vs.take k) (Us.take k):=by
 refine afo.agu (by simp[h.length]) fun i v Z=>?_
 rw[List.getElem?_take] at Z;split at Z
 .obtain⟨U,V,X⟩:=h.get i v Z
  exact⟨U,by rw[List.getElem?_take];simp[*],X⟩
 .cases Z
theorem afo.drop{μ n vs Us}(h:afo μ n vs Us)(k:Nat):afo μ n (vs.drop k) (Us.drop k):=by
 refine afo.agu (by simp[h.length]) fun i v Z=>?_
 rw[QQf] at Z;obtain⟨U,X,V⟩:=h.get _ v Z;exact⟨U,by rw[QQf];exact X,V⟩
mutual
theorem afn.mono{μ μ' :Nat->Place}{n n' :Nat}(H:n<=n')(hμ:∀b,b<n->μ' b=μ b):∀{v V},afn μ n v V->afn μ' n' v V
 |.undef,V,_=>by simp[afn]
 |.bool b,V,h=>by simpa [afn] using h
 |.int k i,V,h=>by simpa [afn] using h
 |.str s,V,h=>by simpa [afn] using h
 |.ptr b o,V,h=>by simp only[afn] at h |-;exact⟨by omega,by rw[hμ b h.1];exact h.2⟩
 |.afB,V,h=>by simpa [afn] using h
 |.slice b o l c,V,h=>by simp only[afn] at h |-;exact⟨by omega,by rw[hμ b h.1];exact h.2⟩
 |.qF,V,h=>by simpa [afn] using h
 |.map b,V,h=>by simp only[afn] at h |-;exact⟨by omega,by rw[hμ b h.1];exact h.2⟩
 |.yield b,V,h=>by simp only[afn] at h |-;exact⟨by omega,by rw[hμ b h.1];exact h.2⟩
 |.afL,V,h=>by simpa [afn] using h
 |.func f X,V,h=>by simp only[afn] at h |-;obtain⟨Z,rfl,h⟩:=h;exact⟨Z,rfl,afo.mono H hμ h⟩
 |.nilFunc,V,h=>by simpa [afn] using h
 |.iface t v,V,h=>by simp only[afn] at h |-;obtain⟨U,rfl,h⟩:=h;exact⟨U,rfl,afn.mono H hμ h⟩
 |.nilIface,V,h=>by simpa [afn] using h
 |.agg X,V,h=>by simp only[afn] at h |-;obtain⟨Z,rfl,h⟩:=h;exact⟨Z,rfl,afo.mono H hμ h⟩
 |.tuple X,V,h=>by simp only[afn] at h |-;obtain⟨Z,rfl,h⟩:=h;exact⟨Z,rfl,afo.mono H hμ h⟩
theorem afo.mono{μ μ' :Nat->Place}{n n' :Nat}(H:n<=n')(hμ:∀b,b<n->μ' b=μ b):∀{vs Us},afo μ n vs Us->afo μ' n' vs Us
 | [],Us,h=>by simpa [afo] using h
 |v::vs,Us,h=>by simp only[afo] at h |-;obtain⟨U,Z,rfl,X,V⟩:=h;exact⟨U,Z,rfl,afn.mono H hμ X,afo.mono H hμ V⟩
end
mutual
def AV.ren(ρ:Nat->Option Nat):AV->AV
 |.ptr b o=>match ρ b with | some b' =>.ptr b' o | none=>.undef
 |.slice b o l c=>match ρ b with | some b' =>.slice b' o l c | none=>.undef
 |.map b=>match ρ b with | some b' =>.map b' | none=>.undef
 |.yield b=>match ρ b with | some b' =>.yield b' | none=>.undef
 |.func f Z=>.func f (AV.afI ρ Z)
 |.iface t v=>.iface t (AV.ren ρ v)
 |.agg Z=>.agg (AV.afI ρ Z)
 |.tuple Z=>.tuple (AV.afI ρ Z)
 |v=>v
def AV.afI(ρ:Nat->Option Nat):List AV->List AV
 | []=>[]
 |v::vs=>AV.ren ρ v::AV.afI ρ vs
end
mutual
theorem afn.ren{μ μ' :Nat->Place}{n n' :Nat}{ρ:Nat->Option Nat}(hρ:∀b Z,b<n->ρ b=some Z ->Z <n' /\μ' Z =μ b):
  ∀{v V},afn μ n v V->afn μ' n' (v.ren ρ) V
 |.undef,V,_=>by simp[AV.ren,afn]
 |.bool b,V,h=>by simpa [AV.ren,afn] using h
 |.int k i,V,h=>by simpa [AV.ren,afn] using h
 |.str s,V,h=>by simpa [AV.ren,afn] using h
 |.ptr b o,V,h=>by
  simp only[afn] at h;simp only[AV.ren];cases hb:ρ b with
  |none=>simp[afn]
  |some Z =>obtain⟨X,S⟩:=hρ b Z h.1 hb;simp only[afn];exact⟨X,by rw[S];exact h.2⟩
 |.afB,V,h=>by simpa [AV.ren,afn] using h
 |.slice b o l c,V,h=>by
  simp only[afn] at h;simp only[AV.ren];cases hb:ρ b with
  |none=>simp[afn]
  |some Z =>obtain⟨X,S⟩:=hρ b Z h.1 hb;simp only[afn];exact⟨X,by rw[S];exact h.2⟩
 |.qF,V,h=>by simpa [AV.ren,afn] using h
 |.map b,V,h=>by
  simp only[afn] at h;simp only[AV.ren];cases hb:ρ b with
  |none=>simp[afn]
  |some Z =>obtain⟨X,S⟩:=hρ b Z h.1 hb;simp only[afn];exact⟨X,by rw[S];exact h.2⟩
 |.yield b,V,h=>by
  simp only[afn] at h;simp only[AV.ren];cases hb:ρ b with
  |none=>simp[afn]
  |some Z =>obtain⟨X,S⟩:=hρ b Z h.1 hb;simp only[afn];exact⟨X,by rw[S];exact h.2⟩
 |.afL,V,h=>by simpa [AV.ren,afn] using h
 |.func f O,V,h=>by simp only[afn] at h;simp only[AV.ren,afn];obtain⟨R,rfl,h⟩:=h;exact⟨R,rfl,afo.ren hρ h⟩
 |.nilFunc,V,h=>by simpa [AV.ren,afn] using h
 |.iface t v,V,h=>by simp only[afn] at h;simp only[AV.ren,afn];obtain⟨U,rfl,h⟩:=h;exact⟨U,rfl,afn.ren hρ h⟩
 |.nilIface,V,h=>by simpa [AV.ren,afn] using h
 |.agg O,V,h=>by simp only[afn] at h;simp only[AV.ren,afn];obtain⟨R,rfl,h⟩:=h;exact⟨R,rfl,afo.ren hρ h⟩
 |.tuple O,V,h=>by simp only[afn] at h;simp only[AV.ren,afn];obtain⟨R,rfl,h⟩:=h;exact⟨R,rfl,afo.ren hρ h⟩
theorem afo.ren{μ μ' :Nat->Place}{n n' :Nat}{ρ:Nat->Option Nat}(hρ:∀b Z,b<n->ρ b=some Z ->Z <n' /\μ' Z =μ b):
  ∀{vs Us},afo μ n vs Us->afo μ' n' (AV.afI ρ vs) Us
 | [],Us,h=>by simpa [AV.afI,afo] using h
 |v::vs,Us,h=>by simp only[afo] at h;simp only[AV.afI,afo];obtain⟨U,X,rfl,V,S⟩:=h;exact⟨U,X,rfl,afn.ren hρ V,afo.ren hρ S⟩
end
theorem jm(ρ:Nat->Option Nat):∀Z,AV.afI ρ Z=Z.map (AV.ren ρ)
 | []=>rfl
 |v::Z=>by simp[AV.afI,jm ρ Z]
def AV.afp:AV->Bool
 |.agg _ | .tuple _ | .undef=>false
 |_=>true
def AV.known:AV->Bool
 |.undef=>false
 |_=>true
def AV.cells:AV->List AV
 |.agg cs=>cs
 |v=>[v]
theorem afn.agJ{μ n v V}(h:afn μ n v V)(H:v.afp=true):V.oneCell' =true:=by
 cases v<;>simp[AV.afp] at H<;>simp only[afn] at h;case bool=>subst h;rfl
 case int=>subst h;rfl
 case str=>subst h;rfl
 case ptr=>rw[h.2];rfl
 case afB=>subst h;rfl
 case slice=>rw[h.2];rfl
 case qF=>subst h;rfl
 case map=>rw[h.2];rfl
 case yield=>rw[h.2];rfl
 case afL=>subst h;rfl
 case func=>obtain⟨_,rfl,_⟩:=h;rfl
 case nilFunc=>subst h;rfl
 case iface=>obtain⟨_,rfl,_⟩:=h;rfl
 case nilIface=>subst h;rfl
theorem afn.cells{μ n v V}(h:afn μ n v V)(H:v.known=true):afo μ n v.cells V.cells.toList:=by
 cases v<;>simp[AV.known] at H;case agg cs=>
  simp only[afn] at h;obtain⟨X,rfl,h⟩:=h;simpa [AV.cells,Value.cells] using h
 all_goals
  have Z:=h;simp only[afn] at h;simp only[AV.cells];first
   |(subst h;simpa [afo,Value.cells] using Z)
   |(obtain⟨_,rfl⟩:=h;simpa [afo,Value.cells] using Z)
   |(obtain⟨_,rfl,_⟩:=h;simpa [afo,Value.cells] using Z)
abbrev Env:=List (Nat×AV)
def ad:Env->Nat->AV
 | [],_=>.undef
 |(k,v)::r,t=>if k=t then v else ad r t
def afU(μ:Nat->Place)(n:Nat)(env:Env)(tmps:Array Value):Prop:=∀t,afn μ n (ad env t) (tmps.getD t undef)
theorem afU.mono{μ μ' :Nat->Place}{n n' :Nat}{env tmps}(H:n<=n')(hμ:∀b,b<n->μ' b=μ b)(h:afU μ n env tmps):afU μ' n' env tmps:=
 fun t=>(h t).mono H hμ
structure agv where
 st:LoopState
 agt:Option Code
 env:Env
 N:Nat
 ps:Array Tmp
 assign:Code
 body:Code
inductive afq where
 |qK
 |cells (own:Bool) (es:Nat) (cs:List AV)
 |map (es:List (AV×AV))
 |afX (es:List (AV×AV))
 |loop (r:agv)
 deriving Inhabited
abbrev Mem:=List afq
def afq.own:afq->Bool
 |.cells own _ _=>own
 |.map _=>true
 |.afX _=>false
 |.loop _=>true
 |.qK=>false
variable{s:afq}
theorem afq.afY(h:s.own=true):s≠ .qK:=by cases s<;>simp_all[afq.own]
def eG(mem:Mem)(b:Nat):Prop:=∃s,mem[b]? =some s/\s.own=true
variable{cs:List AV}{mem:Mem}
theorem pR{es:Nat}(h:mem[b]? =some (.cells true es cs)):eG mem b:=⟨_,h,rfl⟩
theorem Mc{mem:Mem}{b:Nat}{es}(h:mem[b]? =some (.map es)):eG mem b:=⟨_,h,rfl⟩
theorem RG{mem:Mem}{b:Nat}{r}(h:mem[b]? =some (.loop r)):eG mem b:=⟨_,h,rfl⟩
structure agK (μ:Nat->Place)(n:Nat)(r:agv)(L:Loop):Prop where
 st:L.state=r.st
 agt:L.pending=r.agt
 ps:L.params=r.ps
 assign:L.assign=r.assign
 body:L.body=r.body
 size:L.tmps.size=r.N
 tmps:afU μ n r.env L.tmps
def PQ(μ:Nat->Place)(n:Nat)(e:AV×AV)(E:MapEntry):Prop:=afn μ n e.1 E.key/\afn μ n e.2 E.val
def ahm(p:Place)(es:Nat)(e:TypeId):Prop:=p.es=es%1000/\(1000<=es->e+1=es / 1000)
variable{p:Place}
theorem ahm.small{es:Nat}{e:TypeId}(h:p.es=es)(hs:es<1000):ahm p es e:=⟨by rw[h,QQj hs],fun Z=>by omega⟩
theorem ahm.es{es:Nat}{e:TypeId}(h:ahm p es e)(hs:es<1000):p.es=es:=by rw[h.1,QQj hs]
def Er(H:Array MapEntry)(I:Nat):Prop:=I=H.size/\∀(j:Nat) E,H[j]? =some E->E.born=j
def afD(μ:Nat->Place)(n H:Nat)(w:World)(p:Place):afq->Prop
 |.qK=>True
 |.cells own es cs=>∃X e S,w.heap[p.blk]? =some (.cells X e S)/\ahm p es e/\cs.length<=p.tot/\
   (∀(j:Nat) v,cs[j]? =some v->∃V,X[p.off+j]? =some V/\afn μ n v V)/\
   (own=true->p.off=0/\S=(0,0)/\X.size=p.tot/\H<=p.blk)
 |.map es=>∃Z U,w.heap[p.blk]? =some (.map Z U)/\(H<=p.blk/\Er Z U)/\Z.size=es.length/\
   ∀(j:Nat) e,es[j]? =some e->∃E,Z[j]? =some E/\PQ μ n e E
 |.afX es=>∃Z U,w.heap[p.blk]? =some (.map Z U)/\Er Z U/\Z.size=es.length/\
   ∀(j:Nat) e,es[j]? =some e->∃E,Z[j]? =some E/\PQ μ n e E
 |.loop r=>∃L,w.heap[p.blk]? =some (.loop L)/\H<=p.blk/\agK μ n r L
structure afA (base:Nat) (μ:Nat->Place)(mem:Mem)(w:World):Prop where
 afx:base<=w.heap.size
 slot:∀b s,mem[b]? =some s->afD μ mem.length base w (μ b) s
 sep:∀b b' s',eG mem b->mem[b']? =some s' ->s' ≠ .qK->b≠b' ->(μ b).blk≠(μ b').blk
structure Step (m0:Nat) (μ:Nat->Place)(mem:Mem)(w:World) (μ' :Nat->Place) (mem' :Mem) (w' :World):Prop where
 len:m0<=mem'.length
 agree:∀b,b<m0->μ' b=μ b
 os:w'.os=w.os
 tape:w'.tape=w.tape
 output:w'.output=w.output
 size:w.heap.size<=w'.heap.size
 frame:∀k,k<w.heap.size->(∀b,eG mem b->(μ b).blk≠k)->w'.heap[k]? =w.heap[k]?
 owner:∀b,eG mem' b->(μ' b).blk<w.heap.size->∃b0,eG mem b0/\(μ b0).blk=(μ' b).blk
 drawn:w.drawn<=w'.drawn
theorem Step.refl{m0 μ mem w}(h:m0<=mem.length):Step m0 μ mem w μ mem w:=
 ⟨h,fun _ _=>rfl,rfl,rfl,rfl,L9 _,fun _ _ _=>rfl,fun b Z _=>⟨b,Z,rfl⟩,L9 _⟩
theorem Step.trans{m0 μ mem w μ' mem' w' μ'' mem'' w''}(h:Step m0 μ mem w μ' mem' w')(h' :Step m0 μ' mem' w' μ'' mem'' w''):
  Step m0 μ mem w μ'' mem'' w'' :=by
 refine⟨h'.len,fun b Z=>(h'.agree b Z).trans (h.agree b Z),h'.os.trans h.os,h'.tape.trans h.tape,h'.output.trans h.output,
  QQd h.size h'.size,fun k X S=>?_,fun b Z R=>?_,QQd h.drawn h'.drawn⟩
 .rw[h'.frame k (QXK X h.size) ?_,h.frame k X S]
  intro b Z O;obtain⟨V,M,U⟩:=h.owner b Z (O▸X);exact S V M (U.trans O)
 .obtain⟨L,U,N⟩:=h'.owner b Z (QXK R h.size)
  obtain⟨V,h3,K⟩:=h.owner L U (N▸R);exact⟨V,h3,K.trans N⟩
theorem Step.mono{m0 m1 μ mem w μ' mem' w'}(h:Step m1 μ mem w μ' mem' w')(H:m0<=m1):Step m0 μ mem w μ' mem' w' :=
 ⟨QQd H h.len,fun b Z=>h.agree b (QXK Z H),h.os,h.tape,h.output,h.size,h.frame,h.owner,h.drawn⟩
theorem afA.ags{base μ mem w w'}(h:afA base μ mem w)(H:w'.heap=w.heap):afA base μ mem w' :=by
 refine⟨by rw[H];exact h.afx,fun b s Z=>?_,h.sep⟩;have:=h.slot b s Z;cases s with
 |qK=>trivial
 |cells own esz cs=>simp only[afD] at this |-;rw[H];exact this
 |map es=>simp only[afD] at this |-;rw[H];exact this
 |afX es=>simp only[afD] at this |-;rw[H];exact this
 |loop r=>simp only[afD] at this |-;rw[H];exact this
theorem Step.drew{m0 μ mem w}(h:m0<=mem.length):Step m0 μ mem w μ mem w.drew:=
 ⟨h,fun _ _=>rfl,rfl,rfl,rfl,L9 _,fun _ _ _=>rfl,fun b Z _=>⟨b,Z,rfl⟩,Nat.le_succ _⟩
variable{w:World}
theorem afD.mono{μ μ' :Nat->Place}{n n' base:Nat}{w' :World}(H:n<=n')(hμ:∀b,b<n->μ' b=μ b)(I:s≠ .qK->w'.heap[p.blk]? =w.heap[p.blk]?)(h:afD μ n base w p s):afD μ' n' base w' p s:=by
 cases s with
 |qK=>trivial
 |cells own esz cs=>
  simp only[afD] at h |-;obtain⟨S,e,fr,Z,R,O,X,h3⟩:=h;refine⟨S,e,fr,by rw[I (by simp),Z],R,O,fun j v B=>?_,h3⟩;obtain⟨V,hV,u⟩:=X j v B;exact⟨V,hV,u.mono H hμ⟩
 |map es=>
  simp only[afD] at h |-;obtain⟨N,M,Z,X,h3,K⟩:=h;refine⟨N,M,by rw[I (by simp),Z],X,h3,fun j e G=>?_⟩;obtain⟨E,F,U,C⟩:=K j e G;exact⟨E,F,U.mono H hμ,C.mono H hμ⟩
 |afX es=>
  simp only[afD] at h |-;obtain⟨N,M,Z,X,h3,K⟩:=h;refine⟨N,M,by rw[I (by simp),Z],X,h3,fun j e G=>?_⟩;obtain⟨E,F,U,C⟩:=K j e G;exact⟨E,F,U.mono H hμ,C.mono H hμ⟩
 |loop r=>
  simp only[afD] at h |-;obtain⟨L,Z,X,h3⟩:=h;exact⟨L,by rw[I (by simp),Z],X,{ h3 with tmps:=h3.tmps.mono H hμ }⟩
theorem afD.af8{μ n base w p s}(h:afD μ n base w p s)(hs:s≠ .qK):p.blk<w.heap.size:=by
 cases s with
 |qK=>exact absurd rfl hs
 |cells own esz cs=>simp only[afD] at h;obtain⟨X,e,S,Z,_⟩:=h;exact(Nm.1 Z).1
 |map es=>simp only[afD] at h;obtain⟨V,U,Z,_⟩:=h;exact(Nm.1 Z).1
 |afX es=>simp only[afD] at h;obtain⟨V,U,Z,_⟩:=h;exact(Nm.1 Z).1
 |loop r=>simp only[afD] at h;obtain⟨L,Z,_⟩:=h;exact(Nm.1 Z).1
def upd(μ:Nat->Place)(b:Nat)(p:Place):Nat->Place:=fun x=>if x=b then p else μ x
theorem fL{μ b p}:upd μ b p b=p:=by simp[upd]
theorem xm{μ b p x}(h:x<b):upd μ b p x=μ x:=by simp[upd];intro Z;omega
theorem mc(H:b<mem.length):eG (mem++[s]) b↔eG mem b:=by simp[eG,GT H]
theorem iC(w:World)(o:Obj){k:Nat}(h:k<w.heap.size):(w.alloc o).heap[k]? =w.heap[k]? :=heap_alloc_old w o k h
theorem afA.push{base μ mem w}(h:afA base μ mem w)(o:Obj)(s:afq)(p:Place)(H:p.blk=w.heap.size)(hs:afD (upd μ mem.length p) (mem.length+1) base (w.alloc o) p s):
  afA base (upd μ mem.length p) (mem++[s]) (w.alloc o)/\
  Step mem.length μ mem w (upd μ mem.length p) (mem++[s]) (w.alloc o):=by
 have hμ:∀b,b<mem.length->upd μ mem.length p b=μ b:=fun b X=>xm X
 constructor
 .refine⟨by simp;have:=h.afx;omega,fun b t R=>?_,fun b V C X N M B=>?_⟩
  .rw[Qs,List.length_singleton]
   by_cases L:b<mem.length
   .rw[GT L] at R
    rw[hμ b L];refine(h.slot b t R).mono (Nat.le_succ _) hμ fun M=>?_
    exact iC w o ((h.slot b t R).af8 M)
   .have Z:b=mem.length:=by have:=gL R;simp at this;omega
    subst Z;simp at R;subst R;rw[fL];exact hs
  .by_cases U:b<mem.length<;>by_cases K:V <mem.length
   .rw[hμ b U,hμ V K]
    exact h.sep b V C ((mc U).1 X) (by rwa [GT K] at N) M B
   .have Z:V =mem.length:=by have:=gL N;simp at this;omega
    subst Z;rw[fL,hμ b U,H];have:(μ b).blk<w.heap.size:=by obtain⟨F,S,G⟩:=(mc U).1 X;exact(h.slot b _ S).af8 (afq.afY G)
    omega
   .have Z:b=mem.length:=by obtain⟨F,S,G⟩:=X;have:=gL S;simp at this;omega
    subst Z;rw[fL,hμ V K,H];have:=(h.slot V C (by rwa [GT K] at N)).af8 M;omega
   .have Z:V =mem.length:=by have:=gL N;simp at this;omega
    have O:b=mem.length:=by obtain⟨F,S,G⟩:=X;have:=gL S;simp at this;omega
    omega
 .refine⟨by simp,hμ,rfl,rfl,rfl,by simp,fun k u _=>iC w o u,fun b X L=>?_,L9 _⟩
  by_cases U:b<mem.length
  .exact⟨b,(mc U).1 X,by rw[hμ b U]⟩
  .have O:b=mem.length:=by obtain⟨F,S,G⟩:=X;have:=gL S;simp at this;omega
   subst O;rw[fL,H] at L;omega
theorem afA.write{base μ mem w}(h:afA base μ mem w){b:Nat}{s s' :afq}(I:mem[b]? =some s)(J:eG mem b)(ab0 :s' ≠ .qK->eG (mem.set b s') b){w' :World}(Y:w'.drawn=w.drawn)(hos:w'.os=w.os)(aa3:w'.tape=w.tape)(acj:w'.output=w.output)(Z6:w'.heap.size=w.heap.size)(H:∀k,k≠(μ b).blk->w'.heap[k]? =w.heap[k]?)(hs:afD μ mem.length base w' (μ b) s'):
  afA base μ (mem.set b s') w' /\Step mem.length μ mem w μ (mem.set b s') w' :=by
 have G:b<mem.length:=gL I;have own:∀x,eG (mem.set b s') x->eG mem x:=by
  intro x X;by_cases Z:x=b
  .subst Z;exact J
  .obtain⟨L,S,R⟩:=X
   rw[QQe (Ne.symm Z)] at S;exact⟨L,S,R⟩
 constructor
 .refine⟨by rw[Z6];exact h.afx,fun x t V=>?_,fun x O t X K N U=>?_⟩
  .rw[QQh]
   by_cases Z:x=b
   .subst Z
    rw[QQc G] at V;cases V;exact hs
   .rw[QQe (Ne.symm Z)] at V
    refine(h.slot x t V).mono (L9 _) (fun _ _=>rfl) fun N=>H _ ?_
    exact fun M=>h.sep b x t J V N (Ne.symm Z) M.symm
  .by_cases Z:O =b
   .subst Z
    have:=h.sep x O s (own x X) I ?_ U
    .exact this
    .obtain⟨L,S,R⟩:=J
     rw[S] at I;cases I;exact afq.afY R
   .rw[QQe (Ne.symm Z)] at K
    exact h.sep x O t (own x X) K N U
 .refine⟨by simp,fun _ _=>rfl,hos,aa3,acj,by omega,fun k C F=>H k ?_,fun x X _=>⟨x,own x X,rfl⟩,Nat.le_of_eq Y.symm⟩
  exact fun M=>F b J M.symm
structure TyI where
 desc:TypeDesc
 size:Nat
 bytes:Nat
 zero:Value
 ag5:Bool
 deriving Inhabited
structure ah5 (P:Program)(t:TypeId)(i:TyI):Prop where
 desc:P.underlying t=some i.desc
 info:∃f,P.info? t=some f/\f.size=i.size/\f.bytes=i.bytes/\f.zero=some i.zero
 ag6:i.zero.cells.size=i.size
 ag5:i.ag5=true->P.stoodInHeld t=false/\P.eqGuardType P.depth t=false
def TyI.isAgg(i:TyI):Bool:=match i.desc with | .struct _ | .array _ _=>true | _=>false
def dQ(P:Program)(T:TypeId->Option TyI):Prop:=∀t i,T t=some i->ah5 P t i
def kz:Value->AV
 |.bool b=>.bool b
 |.int k n=>.int k n
 |.string s=>.str s.data.toList
 |.pointer none=>.afB
 |.slice none 0 0=>.qF
 |.map none=>.afL
 |.nilFunc=>.nilFunc
 |.nilIface=>.nilIface
 |_=>.undef
def oh:Value->AV
 |.agg cs=>.agg (cs.toList.map kz)
 |v=>kz v
theorem pq(μ:Nat->Place)(n:Nat)(v:Value):afn μ n (kz v) v:=by unfold kz;split<;>simp[afn]
theorem ni(μ:Nat->Place)(n:Nat):∀Z:List Value,afo μ n (Z.map kz) Z
 | []=>by simp[afo]
 |v::Z=>bX.2 ⟨pq μ n v,ni μ n Z⟩
theorem xR(μ:Nat->Place)(n:Nat)(v:Value):afn μ n (oh v) v:=by
 unfold oh;split
 next cs=>simp only[afn];exact⟨cs.toList,by simp,ni μ n _⟩
 .exact pq μ n _
def get(env:Env):Operand->AV
 |.tmp t=>ad env t
 |.const v=>oh v
 |.global _=>.undef
 |.func f=>.func f []
def XN(env:Env)(H:Array Operand):List AV:=H.toList.map (get env)
theorem bN{μ n env}{a:Act}(h:afU μ n env a.tmps)(x:Operand):afn μ n (get env x) (a.eval x):=by
 cases x with
 |tmp t=>exact h t
 |const v=>exact xR μ n v
 |global g=>simp[get,afn]
 |func f=>simp only[get,afn,Act.eval];exact⟨[],rfl,by simp[afo]⟩
theorem AP{μ n env}{a:Act}(h:afU μ n env a.tmps)(H:List Operand):afo μ n (H.map (get env)) (H.map a.eval):=by
 induction H with
 |nil=>simp[afo]
 |cons x H ih=>exact bX.2 ⟨bN h x,ih⟩
theorem afU.put{μ n env}{a:Act}{d:Nat}{v:AV}{V:Value}(h:afU μ n env a.tmps)(hd:d<a.tmps.size)(H:afn μ n v V):
  afU μ n ((d,v)::env) (a.put (some d) V).tmps:=by
 intro t;simp only[ad,Act.put];by_cases Z:d=t
 .subst Z
  simp only[if_true,Array.getD_eq_getD_getElem?,Array.getElem?_setIfInBounds_self];simpa [hd] using H
 .simp only[Z,if_false,Array.getD_eq_getD_getElem?,QQY Z]
  simpa [Array.getD_eq_getD_getElem?] using h t
def fM:Nat:=9223372036854775807
def YI(H:BinOp)(k:IntKind)(a b:Int):Option AV:=
 match H with
 |.add=>some (.int k (k.wrap (a+b)))
 |.sub=>some (.int k (k.wrap (a-b)))
 |.mul=>some (.int k (k.wrap (a*b)))
 |.quo=>if b=0 then none else some (.int k (k.wrap (a.tdiv b)))
 |.rem=>if b=0 then none else some (.int k (a.tmod b))
 |.eql=>some (.bool (decide (a=b)))
 |.neq=>some (.bool (!decide (a=b)))
 |.lss=>some (.bool (decide (a<b)))
 |.leq=>some (.bool (decide (a<=b)))
 |.gtr=>some (.bool (decide (b<a)))
 |.geq=>some (.bool (decide (b<=a)))
 |_=>none
def YJ(H:BinOp)(s t:List UInt8):Option AV:=
 match H with
 |.add=>if s.length+t.length<=fM then some (.str (s++t)) else none
 |.eql=>some (.bool (s==t))
 |.neq=>some (.bool (!(s==t)))
 |.lss=>some (.bool (Op.bytesLess s t))
 |.leq=>some (.bool (Op.bytesLess s t||s==t))
 |.gtr=>some (.bool (!(Op.bytesLess s t||s==t)))
 |.geq=>some (.bool (!Op.bytesLess s t))
 |_=>none
def jU(i:TyI)(cs:List AV)(off:Nat):Option AV:=
 if i.isAgg then (if off+i.size<=cs.length then some (.agg ((cs.drop off).take i.size)) else none) else cs[off]?
def R3(T:TypeId->Option TyI)(q:TypeId->AV->AV->Option Bool)(H I:List AV):List Field->Option Bool
 | []=>some true
 |f::fs=>
  if f.name = "_" then none else
  match T f.type with
  |none=>none
  |some i=>
   match jU i H f.offset,jU i I f.offset with
   |some a,some b=>
    match q f.type a b,R3 T q H I fs with
    |some p,some r=>some (p&&r)
    |_,_=>none
   |_,_=>none
def Wq(q:AV->AV->Option Bool)(i:TyI)(H I:List AV):List Nat->Option Bool
 | []=>some true
 |j::js=>
  match jU i H (j*i.size),jU i I (j*i.size) with
  |some a,some b=>
   match q a b,Wq q i H I js with
   |some p,some r=>some (p&&r)
   |_,_=>none
  |_,_=>none
def lg(T:TypeId->Option TyI):Nat->TypeId->AV->AV->Option Bool
 |0,_,_,_=>none
 |d+1,t,x,y=>
  match T t with
  |none=>none
  |some i=>
   match i.desc,x,y with
   |.bool,.bool a,.bool b=>some (a==b)
   |.int _,.int k a,.int k' b=>if k=k' then some (decide (a=b)) else none
   |.string,.str a,.str b=>some (a==b)
   |.struct fs,.agg xs,.agg ys=>if i.ag5 then R3 T (lg T d) xs ys fs.toList else none
   |.array n e,.agg xs,.agg ys=>if i.ag5 then (match T e with
    |some j=>Wq (lg T d e) j xs ys (List.range' 0 n)
    |none=>none) else none
   |_,_,_=>none
def rX:Operand->Bool
 |.const _=>true
 |_=>false
def WT(T:TypeId->Option TyI)(t:TypeId)(r c:Bool)(x y:AV):Option Bool:=
 match T t with
 |none=>none
 |some i=>
  match i.desc,x,y with
  |.slice _,.slice _ _ _ _,.qF=>some false
  |.slice _,.qF,.qF=>some true
  |.pointer _,.afB,.afB=>some true
  |.pointer _,.ptr _ _,.afB=>some false
  |.func _ _ _,.nilFunc,.nilFunc=>some true
  |.func _ _ _,.func _ _,.nilFunc=>some false
  |.interface _,.nilIface,.nilIface=>if r||c then some true else none
  |.interface _,.iface _ _,.nilIface=>some false
  |_,_,_=>none
def YH(T:TypeId->Option TyI)(H:BinOp)(t:TypeId)(r c:Bool)(x y:AV):Option AV:=
 match x,y with
 |.int k a,.int k' b=>if k=k' then YI H k a b else none
 |.str s,.str t=>YJ H s t
 |.bool a,.bool b=>match T t with
  |some i=>match i.desc,H with
   |.bool,.eql=>some (.bool (a==b))
   |.bool,.neq=>some (.bool (!(a==b)))
   |_,_=>none
  |none=>none
 |.agg xs,.agg ys=>match H with
  |.eql=>(lg T 20 t (.agg xs) (.agg ys)).map .bool
  |.neq=>(lg T 20 t (.agg xs) (.agg ys)).map fun b=>.bool (!b)
  |_=>none
 |x,y=>match H with
  |.eql=>(WT T t r c x y).map .bool
  |.neq=>(WT T t r c x y).map fun b=>.bool (!b)
  |_=>none
def qs(H:Nat->Option (Nat×Nat))(cells:List AV):List (Nat×AV)->Option (List AV)
 | []=>some cells
 |(i,v)::rest=>
  match H i with
  |none=>none
  |some (off,size)=>
   if v.known&&decide (v.cells.length=size)&&decide (off+size<=cells.length) then
    qs H (cells.take off++v.cells++cells.drop (off+size)) rest
   else none
def aH(T:TypeId->Option TyI)(H:Array Field)(i:Nat):Option (Nat×Nat):=
 match H[i]? with
 |some f=>match T f.type with
  |some j=>some (f.offset,j.size)
  |none=>none
 |none=>none
def cj(T:TypeId->Option TyI)(t:TypeId)(parts:List (Nat×AV)):Option AV:=
 match T t with
 |none=>none
 |some i=>
  match i.desc with
  |.struct fs=>if fs.all (fun f=>(T f.type).isSome) then (qs (aH T fs) (oh i.zero).cells parts).map .agg else none
  |.array _ e=>match T e with
   |some j=>(qs (fun k=>some (k*j.size,j.size)) (oh i.zero).cells parts).map .agg
   |none=>none
  |_=>none
def AH(T:TypeId->Option TyI)(s d:TypeId)(x:AV):Option AV:=
 match T s,T d with
 |some i,some j=>
  match i.desc,j.desc,x with
  |.int _,.int k,.int _ n=>some (.int k (k.wrap n))
  |.string,.string,.str s=>some (.str s)
  |_,_,_=>none
 |_,_=>none
def UE(n:Nat):Option AV->Option Int
 |none=>some n
 |some (.int _ h)=>some h
 |_=>none
def UF:Option AV->Option Int
 |none=>some 0
 |some (.int _ h)=>some h
 |_=>none
def O3(T:TypeId->Option TyI)(mem:Mem)(t:TypeId)(x:AV)(H I:Option AV):Option AV:=
 match T t with
 |none=>none
 |some i=>
  match i.desc,x with
  |.string,.str s=>
   match UE s.length I,UF H with
   |some h,some l=>if 0<=l/\l<=h/\h<=s.length then some (.str ((s.drop l.toNat).take (h.toNat-l.toNat))) else none
   |_,_=>none
  |.slice e,.slice b o n c=>
   match T e,mem[b]? with
   |some j,some (.cells _ es cs)=>
    match UE n I,UF H with
    |some h,some l=>
     if 0<=l/\l<=h/\h<=n/\(l=0\/l<n)/\es=j.size/\0<es/\es<1000/\o+n*es<=cs.length/\c=none then
      some (.slice b (o+l.toNat*es) (h.toNat-l.toNat) none) else none
    |_,_=>none
   |_,_=>none
  |.slice e,.qF=>
   match T e with
   |some _=>
    match UE 0 I,UF H with
    |some h,some l=>if h=0/\l=0 then some .qF else none
    |_,_=>none
   |none=>none
  |.array n e,.ptr b o=>
   match T e with
   |some j=>
    match UE n I,UF H with
    |some h,some l=>
     if 0<=l/\l<=h/\h<=n/\l<n then some (.slice b (o+l.toNat*j.size) (h.toNat-l.toNat) (some (n-l.toNat))) else none
    |_,_=>none
   |none=>none
  |_,_=>none
def sP(T:TypeId->Option TyI)(t:TypeId)(x i:AV):Option AV:=
 match T t with
 |none=>none
 |some ti=>
  match ti.desc,x,i with
  |.slice e,.slice b o n _,.int _ k=>match T e with
   |some j=>if 0<=k/\k<n then some (.ptr b (o+k.toNat*j.size)) else none
   |none=>none
  |.array n e,.ptr b o,.int _ k=>match T e with
   |some j=>if 0<=k/\k<n then some (.ptr b (o+k.toNat*j.size)) else none
   |none=>none
  |_,_,_=>none
def O1(T:TypeId->Option TyI)(t:TypeId)(x i:AV):Option AV:=
 match T t with
 |none=>none
 |some ti=>
  match ti.desc,x,i with
  |.array n e,.agg cs,.int _ k=>match T e with
   |some j=>if 0<=k/\k<n then jU j cs (k.toNat*j.size) else none
   |none=>none
  |.string,.str s,.int _ k=>if 0<=k then (match s[k.toNat]? with | some c=>some (.int .u8 c.toNat) | none=>none) else none
  |_,_,_=>none
def tP(T:TypeId->Option TyI)(t:TypeId)(x:AV)(f:Nat):Option AV:=
 match T t with
 |none=>none
 |some ti=>
  match ti.desc,x with
  |.struct fs,.agg cs=>match fs[f]? with
   |some fd=>match T fd.type with
    |some j=>jU j cs fd.offset
    |none=>none
   |none=>none
  |_,_=>none
def sO(T:TypeId->Option TyI)(t:TypeId)(x:AV)(f:Nat):Option AV:=
 match T t with
 |none=>none
 |some ti=>
  match ti.desc,x with
  |.struct fs,.ptr b o=>match fs[f]? with
   |some fd=>match T fd.type with
    |some j=>if j.size=0 then none else some (.ptr b (o+fd.offset))
    |none=>none
   |none=>none
  |_,_=>none
def WS(T:TypeId->Option TyI)(t:TypeId)(mem:Mem)(x:AV):Option AV:=
 match T t with
 |none=>none
 |some ti=>
  match ti.desc,x with
  |.string,.str s=>some (.int .i64 s.length)
  |.slice _,.slice _ _ n _=>some (.int .i64 n)
  |.slice _,.qF=>some (.int .i64 0)
  |.array n _,_=>some (.int .i64 n)
  |.map _ _,.afL=>some (.int .i64 0)
  |.map _ _,.map b=>match mem[b]? with
   |some (.map es)=>some (.int .i64 es.length)
   |_=>none
  |_,_=>none
def Ra(T:TypeId->Option TyI)(mem:Mem)(t:TypeId)(x:AV):Option AV:=
 match T t,x with
 |some i,.ptr b o=>match mem[b]? with
  |some (.cells _ _ cs)=>jU i cs o
  |_=>none
 |_,_=>none
def tQ(T:TypeId->Option TyI)(mem:Mem)(t:TypeId)(x v:AV):Option Mem:=
 match T t,x with
 |some i,.ptr b o=>match mem[b]? with
  |some (.cells true es cs)=>
   if v.known&&decide (v.cells.length=i.size)&&decide (o+i.size<=cs.length)&&v.cells.all AV.afp then
    some (mem.set b (.cells true es (cs.take o++v.cells++cs.drop (o+i.size)))) else none
  |_=>none
 |_,_=>none
variable{i:TyI}{k:IntKind}{op:BinOp}{v:AV}{x:Sem Value}
section
variable {P:Program}{T:TypeId->Option TyI}{μ:Nat->Place}{n:Nat}
def Val(P:Program)(x:Sem Value)(w:World) (μ:Nat->Place)(n:Nat)(v:AV):Prop:=∃V,x.run P w=.ok V w/\afn μ n v V
theorem Val.int{i:Int}(h:x.run P w=.ok (.int k i) w):Val P x w μ n (.int k i):=⟨_,h,by simp[afn]⟩
theorem Val.bool{b:Bool}(h:x.run P w=.ok (.bool b) w):Val P x w μ n (.bool b):=⟨_,h,by simp[afn]⟩
theorem Val.str{s:List UInt8}(h:x.run P w=.ok (.string ⟨s.toArray⟩) w):Val P x w μ n (.str s):=⟨_,h,by simp[afn]⟩
theorem Q8{a b:Int}(h:YI op k a b=some v)(t:TypeId)(w:World):
  Val P (binOp op t (.int k a) (.int k b)) w μ n v:=by
 cases op<;>simp only[YI,Pi,reduceCtorEq] at h;case add=>subst h;exact .int (by simp[binOp,Op.intArith])
 case sub=>subst h;exact .int (by simp[binOp,Op.intArith])
 case mul=>subst h;exact .int (by simp[binOp,Op.intArith])
 case quo=>
  split at h
  .cases h
  next Z=>cases h;exact .int (by simp[binOp,Op.intDiv,Z])
 case rem=>
  split at h
  .cases h
  next Z=>cases h;exact .int (by simp[binOp,Op.intDiv,Z])
 case eql=>subst h;exact .bool (by simp[binOp,Op.intCmp];try (rw[Bool.eq_iff_iff];simp))
 case neq=>subst h;exact .bool (by simp[binOp,Op.intCmp];try (rw[Bool.eq_iff_iff];simp))
 case lss=>subst h;exact .bool (by simp[binOp,Op.intCmp])
 case leq=>subst h;exact .bool (by simp[binOp,Op.intCmp])
 case gtr=>subst h;exact .bool (by simp[binOp,Op.intCmp])
 case geq=>subst h;exact .bool (by simp[binOp,Op.intCmp])
theorem Rc{s u:List UInt8}(h:YJ op s u=some v)(t:TypeId)(w:World):
  Val P (binOp op t (.string ⟨s.toArray⟩) (.string ⟨u.toArray⟩)) w μ n v:=by
 cases op<;>simp only[YJ,Pi,reduceCtorEq] at h;case add=>
  split at h
  .rename_i X
   cases h;refine .str ?_;have:¬((9223372036854775807:Int)<((s.length:Int)+(u.length:Int))):=by simp only[fM] at X;omega
   have V:(ByteArray.mk s.toArray).size=s.length:=by simp[ByteArray.size]
   have U:(ByteArray.mk u.toArray).size=u.length:=by simp[ByteArray.size]
   have Z:(ByteArray.mk s.toArray)++(ByteArray.mk u.toArray)=ByteArray.mk (s++u).toArray:=by apply ByteArray.ext;simp
   simp[binOp,Op.stringOp,V,U,this,Z]
  .cases h
 case eql=>subst h;exact .bool (by simp[binOp,Op.stringOp])
 case neq=>subst h;exact .bool (by simp[binOp,Op.stringOp])
 case lss=>subst h;exact .bool (by simp[binOp,Op.stringOp])
 case leq=>subst h;exact .bool (by simp[binOp,Op.stringOp])
 case gtr=>subst h;exact .bool (by simp[binOp,Op.stringOp])
 case geq=>subst h;exact .bool (by simp[binOp,Op.stringOp])
section
variable (hT:dQ P T){t:TypeId}
include hT t
section
variable (h:T t=some i)
include h
theorem wQ(w:World):(Go.isAgg t).run P w=.ok i.isAgg w:=by have Z:=(hT t i h).desc;simp only[Go.isAgg,Sem.run_bind,run_underlying Z,Result.andThen_ok,TyI.isAgg];cases i.desc<;>rfl
theorem dK(w:World):(Go.sizeOf t).run P w=.ok i.size w:=by obtain⟨f,Z,X,_,_⟩:=(hT t i h).info;simp[Go.sizeOf,typeInfo,Z,X]
theorem zF(w:World):∃f,(typeInfo t).run P w=.ok f w/\f.size=i.size/\f.bytes=i.bytes/\f.zero=some i.zero:=by obtain⟨f,Z,X,V,U⟩:=(hT t i h).info;exact⟨f,by simp[typeInfo,Z],X,V,U⟩
theorem fZ(w:World):(zeroValue t).run P w=.ok i.zero w:=by obtain⟨f,Z,V,U,X⟩:=zF hT h w;simp[zeroValue,Z,X]
end
theorem jy(I:T t=some i){H:List Value}{off:Nat}(h:jU i cs off=some v)(hr:afo μ n cs H)(w:World):Val P (part t ⟨H⟩ off) w μ n v:=by
 unfold jU at h;simp only[part,Val];cases hi:i.isAgg with
 |true=>
  simp only[hi,if_true] at h;split at h
  .rename_i V
   cases h;have S:=hr.length;refine⟨.agg (Array.extract ⟨H⟩ off (off+i.size)),?_,?_⟩
   .simp[wQ hT I,dK hT I,hi]
   .simp only[afn]
    refine⟨(H.drop off).take i.size,?_,(hr.drop off).take i.size⟩;congr 1;apply Array.ext';simp[List.extract]
  .cases h
 |false=>
  simp only[hi,Bool.false_eq_true,if_false] at h;obtain⟨U,Z,X⟩:=hr.get off v h;exact⟨U,by simp[wQ hT I,hi,Z],X⟩
end
theorem afn.bool{b V}(h:afn μ n (.bool b) V):V=.bool b:=by simpa [afn] using h
theorem afn.int{k i V}(h:afn μ n (.int k i) V):V=.int k i:=by simpa [afn] using h
theorem afn.str{s V}(h:afn μ n (.str s) V):V=.string ⟨s.toArray⟩:=by simpa [afn] using h
theorem afn.agg{cs V}(h:afn μ n (.agg cs) V):∃Z,V=.agg ⟨Z⟩/\afo μ n cs Z:=by simpa only[afn] using h
theorem EM(hT:dQ P T){d:Nat}{q:TypeId->AV->AV->Option Bool}
  (I:∀{t:TypeId}{x y:AV}{b:Bool}{X Y:Value},q t x y=some b->afn μ n x X->afn μ n y Y->∀(w:World),(Op.equalIn d t X Y).run P w=.ok b w)
  {J ys:List AV}{Xs Ys:List Value}(hx:afo μ n J Xs) (hy:afo μ n ys Ys) (w:World):
  ∀{H:List Field}{b:Bool},R3 T q J ys H=some b->(Op.eqFields d ⟨Xs⟩ ⟨Ys⟩ H).run P w=.ok b w
 | [],b,h=>by simp only[R3,Pi] at h;subst h;simp[Op.eqFields]
 |f::H,b,h=>by
  rw[R3] at h;split at h
  .cases h
  .rename_i Z
   split at h
   .cases h
   .rename_i i S
    split at h
    .rename_i a c R O
     split at h
     .rename_i p r N M
      cases h;obtain⟨A,L,V⟩:=jy (P:=P) (μ:=μ) (n:=n) hT S R hx w;obtain⟨C,K,U⟩:=jy (P:=P) (μ:=μ) (n:=n) hT S O hy w;have G:=I N V U w;have F:=EM hT I hx hy w M;simp only[Op.eqFields,Z,ne_eq,not_false_eq_true,if_true,Sem.run_bind,L,K,G,Result.andThen_ok];cases p
      .simp
      .simp[F]
     .cases h
    .cases h
theorem EL(hT:dQ P T){d:Nat}{e:TypeId}{i:TyI}(H:T e=some i){q:AV->AV->Option Bool}
  (J:∀{x y:AV}{b:Bool}{X Y:Value},q x y=some b->afn μ n x X->afn μ n y Y->∀(w:World),(Op.equalIn d e X Y).run P w=.ok b w)
  {xs ys:List AV}{Xs Ys:List Value}(hx:afo μ n xs Xs) (hy:afo μ n ys Ys) (w:World):
  ∀{I:List Nat}{b:Bool},Wq q i xs ys I=some b->
   ((forIn I ((none,()):Option Bool×Unit) fun j _=>(do
     let a <-part e ⟨Xs⟩ (j*i.size)
     let c <-part e ⟨Ys⟩ (j*i.size)
     let r <-Op.equalIn d e a c
     if (!r)=true then pure (ForInStep.done (some false,())) else pure (ForInStep.yield (none,())):Sem (ForInStep (Option Bool×Unit)))).run P w=
    .ok (if b then none else some false,()) w)
 | [],b,h=>by simp only[Wq,Pi] at h;subst h;simp
 |j::I,b,h=>by
  rw[Wq] at h;split at h
  .rename_i a c U S
   split at h
   .rename_i p r R O
    cases h;obtain⟨A,N,Z⟩:=jy (P:=P) (μ:=μ) (n:=n) hT H U hx w;obtain⟨C,M,V⟩:=jy (P:=P) (μ:=μ) (n:=n) hT H S hy w;have L:=J R Z V w;have K:=EL hT H J hx hy w O;simp only[List.forIn_cons,Sem.run_bind,N,M,L,Result.andThen_ok];cases p
    .simp
    .simp only[Bool.not_true,Bool.false_eq_true,if_false,Sem.run_pure,Result.andThen_ok,Bool.true_and]
     exact K
   .cases h
  .cases h
theorem jv(hT:dQ P T):∀(d:Nat) {t:TypeId} {x y:AV} {b:Bool} {X Y:Value},lg T d t x y=some b->afn μ n x X->afn μ n y Y->
  ∀(k:Nat) (w:World),(Op.equalIn (d+k) t X Y).run P w=.ok b w
 |0,_,_,_,_,_,_,h,_,_,_,_=>by simp[lg] at h
 |d+1,t,x,y,b,X,Y,h,hx,hy,k,w=>by
  rw[lg] at h;rw[show d+1+k=d+k+1 by omega];cases ht:T t with
  |none=>rw[ht] at h;cases h
  |some i=>
   rw[ht] at h;simp only at h;have Z:=(hT t i ht).desc;split at h
   .rename_i V
    cases h;rw[hx.bool,hy.bool];rw[V] at Z;exact run_equalIn_bool' w _ t _ _ Z
   .rename_i K I a H b' V
    split at h
    .rename_i G
     cases h;subst G;rw[hx.int,hy.int];rw[V] at Z;rw[run_equalIn_int w _ t _ K _ _ Z];congr 1
    .cases h
   .rename_i V
    cases h;rw[hx.str,hy.str];rw[V] at Z;rw[run_equalIn_string w _ t _ _ Z];simp
   .rename_i F C B V
    split at h
    .rename_i u
     obtain⟨o,rfl,U⟩:=hx.agg;obtain⟨J,rfl,S⟩:=hy.agg;rw[V] at Z;have M:P.fieldsOf t=F:=by simp[Program.fieldsOf,Z]
     rw[run_equalIn_agg w _ t _ _ (by rw[Z,M]) ((hT t i ht).ag5 u).1,M];exact EM hT (fun R O h3 w=>jv hT d R O h3 k w) U S w h
    .cases h
   .rename_i m e C B V
    split at h
    .split at h
     .rename_i j L
      obtain⟨o,rfl,U⟩:=hx.agg;obtain⟨J,rfl,S⟩:=hy.agg;rw[V] at Z;have N:=EL hT L (d:=d+k) (fun R O h3 w=>jv hT d R O h3 k w) U S w h;simp only[Op.equalIn,Sem.run_bind,run_underlying Z,Result.andThen_ok,dK hT L];simp only[Std.Legacy.Range.forIn_eq_forIn_range',Std.Legacy.Range.size,QXQ,Nat.add_sub_cancel,Nat.div_one];rw[N];cases b<;>rfl
     .cases h
    .cases h
   .cases h
end
end Go.Eng
namespace Go.Eng
variable{X Y:Value}
section
variable {P:Program}{T:TypeId->Option TyI}{μ:Nat->Place}{n:Nat}
theorem gR(t:TypeId)(X Y:Value):Op.equal t X Y=Op.equalIn (9999+1) t X Y:=rfl
theorem Ez(hT:dQ P T){t:TypeId}{x y:AV}{b:Bool}(H:afn μ n x X)(I:afn μ n y Y)(J oy:Operand)(h:WT T t (rX J) (rX oy) x y=some b)(w:World):
  (∀Z,(eqGuard Z t J oy X Y).run P w=.ok () w)/\(Op.equal t X Y).run P w=.ok b w/\(∀Z:BinOp,Z=.eql\/Z=.neq->binOp Z t X Y=(if Z=.eql then (do pure (.bool (<-Op.equal t X Y))) else (do pure (.bool (!(<-Op.equal t X Y)))))):=by
 unfold WT at h;cases ht:T t with
 |none=>rw[ht] at h;cases h
 |some i=>
  rw[ht] at h;simp only at h;have V:=(hT t i ht).desc;split at h
  .rename_i U;cases h;rw[U] at V
   simp only[afn] at H I;obtain⟨_,rfl⟩:=H;subst I;exact⟨fun Z=>by rw[eqGuard_at_slice];rfl,by rw[gR,Op.equalIn];simp[run_underlying V],by intro Z S;cases S with | inl e=>subst e;rfl | inr e=>subst e;rfl⟩
  .rename_i U;cases h;rw[U] at V
   simp only[afn] at H I;subst H;subst I;exact⟨fun Z=>by rw[eqGuard_at_slice];rfl,by rw[gR,Op.equalIn];simp[run_underlying V],by intro Z S;cases S with | inl e=>subst e;rfl | inr e=>subst e;rfl⟩
  .rename_i U;cases h;rw[U] at V
   simp only[afn] at H I;subst H;subst I;exact⟨fun Z=>by rw[eqGuard_at_pointer];rfl,by rw[gR,Op.equalIn];simp[run_underlying V],by intro Z S;cases S with | inl e=>subst e;rfl | inr e=>subst e;rfl⟩
  .rename_i U;cases h;rw[U] at V
   simp only[afn] at H I;obtain⟨_,rfl⟩:=H;subst I;exact⟨fun Z=>by rw[eqGuard_at_pointer];rfl,by rw[gR,Op.equalIn];simp[run_underlying V],by intro Z S;cases S with | inl e=>subst e;rfl | inr e=>subst e;rfl⟩
  .rename_i U;cases h;rw[U] at V
   simp only[afn] at H I;subst H;subst I;exact⟨fun Z=>by rw[eqGuard_at_nilFunc];rfl,by rw[gR,Op.equalIn];simp[run_underlying V],by intro Z S;cases S with | inl e=>subst e;rfl | inr e=>subst e;rfl⟩
  .rename_i U;cases h;rw[U] at V
   simp only[afn] at H I;obtain⟨_,rfl,_⟩:=H;subst I;exact⟨fun Z=>by rw[eqGuard_at_func];rfl,by rw[gR,Op.equalIn];simp[run_underlying V],by intro Z S;cases S with | inl e=>subst e;rfl | inr e=>subst e;rfl⟩
  .rename_i U;rw[U] at V
   simp only[afn] at H I;subst H;subst I;split at h
   .rename_i R;cases h
    refine⟨fun Z=>?_,by rw[gR,Op.equalIn];simp[run_underlying V],by intro Z S;cases S with | inl e=>subst e;rfl | inr e=>subst e;rfl⟩;cases J<;>cases oy<;>simp[rX] at R<;>first | (rw[eqGuard_nil_constR];rfl) | (rw[eqGuard_nil_constL];rfl)
   .cases h
  .rename_i U;cases h;rw[U] at V
   simp only[afn] at H I;obtain⟨_,rfl,_⟩:=H;subst I;exact⟨fun Z=>by rw[eqGuard_at_iface];rfl,by rw[gR,Op.equalIn];simp[run_underlying V],by intro Z S;cases S with | inl e=>subst e;rfl | inr e=>subst e;rfl⟩
  .cases h
theorem Q5(hT:dQ P T){op:BinOp}{t:TypeId}{x y v:AV}(H:afn μ n x X)(I:afn μ n y Y)(J oy:Operand)(h:YH T op t (rX J) (rX oy) x y=some v)(w:World):
  Val P (do eqGuard op t J oy X Y;binOp op t X Y) w μ n v:=by
 unfold YH at h;split at h
 .rename_i k a u b
  split at h
  .rename_i L
   subst L;rw[H.int,I.int];obtain⟨V,U,S⟩:=Q8 (P:=P) (μ:=μ) (n:=n) h t w;exact⟨V,by rw[eqGuard_at_int];simpa using U,S⟩
  .cases h
 .rw[H.str,I.str]
  obtain⟨V,U,S⟩:=Rc (P:=P) (μ:=μ) (n:=n) h t w;exact⟨V,by rw[eqGuard_at_string];simpa using U,S⟩
 .rename_i a b
  rw[H.bool,I.bool];split at h
  .rename_i i K
   have O:=(hT t i K).desc;split at h
   .rename_i N
    cases h;rw[N] at O;refine .bool ?_;rw[eqGuard_at_bool];simp only[binOp,gR,Sem.run_bind,Sem.run_pure,Result.andThen_ok,run_equalIn_bool' w 9999 t a b O]
   .rename_i N
    cases h;rw[N] at O;refine .bool ?_;rw[eqGuard_at_bool];simp only[binOp,gR,Sem.run_bind,Sem.run_pure,Result.andThen_ok,run_equalIn_bool' w 9999 t a b O]
   .cases h
  .cases h
 .rename_i G F
  have R:∀b,lg T 20 t (.agg G) (.agg F)=some b->P.eqGuardType P.depth t=false:=by
   intro b Z;rw[lg] at Z;cases ht:T t with
   |none=>rw[ht] at Z;cases Z
   |some i=>
    rw[ht] at Z;simp only at Z;split at Z
    next U _=>cases U
    next U _=>cases U
    next U _=>cases U
    .split at Z
     next M=>exact((hT t i ht).ag5 M).2
     .cases Z
    .split at Z
     next M=>exact((hT t i ht).ag5 M).2
     .cases Z
    .cases Z
  split at h
  .simp only[Y1] at h
   obtain⟨b,Z,rfl⟩:=h;have U:=jv hT 20 Z H I 9980 w;obtain⟨C,rfl,_⟩:=H.agg;obtain⟨B,rfl,_⟩:=I.agg;refine .bool ?_;simp only[Sem.run_bind,run_eqGuard_agg w _ t J oy _ _ (R b Z),Result.andThen_ok,run_eql_struct,U]
  .simp only[Y1] at h
   obtain⟨b,Z,rfl⟩:=h;have U:=jv hT 20 Z H I 9980 w;obtain⟨C,rfl,_⟩:=H.agg;obtain⟨B,rfl,_⟩:=I.agg;refine .bool ?_;simp only[Sem.run_bind,run_eqGuard_agg w _ t J oy _ _ (R b Z),Result.andThen_ok,run_neq_struct,U]
  .cases h
 .split at h
  .simp only[Y1] at h
   obtain⟨b,Z,rfl⟩:=h;obtain⟨U,S,h3⟩:=Ez hT H I J oy Z w;refine .bool ?_;rw[Sem.run_bind,U,Result.andThen_ok,h3 _ (.inl rfl)];simp[S]
  .simp only[Y1] at h
   obtain⟨b,Z,rfl⟩:=h;obtain⟨U,S,h3⟩:=Ez hT H I J oy Z w;refine .bool ?_;rw[Sem.run_bind,U,Result.andThen_ok,h3 _ (.inr rfl)];simp[S]
  .cases h
theorem Eb(hT:dQ P T){s d:TypeId}{x v:AV}(H:afn μ n x X)(h:AH T s d x=some v)(w:World):
  Val P (convert s d X) w μ n v:=by
 unfold AH at h;split at h
 .rename_i i j R O
  have Z:=(hT s i R).desc;have V:=(hT d j O).desc;split at h
  .rename_i U S;cases h;rw[H.int];rw[U] at Z;rw[S] at V
   exact .int (by simp[convert,run_underlying Z,run_underlying V,Conv.intToInt])
  .rename_i U S;cases h;rw[H.str];rw[U] at Z;rw[S] at V
   exact .str (by simp[convert,run_underlying Z,run_underlying V])
  .cases h
 .cases h
theorem LM(off:Nat):∀(vs:List Value) (k:Nat) (cur:List Value),off+k+vs.length<=cur.length->
  ((vs.zipIdx k).foldl (fun(cs:Array Value) (x:Value×Nat)=>cs.setIfInBounds (off+x.2) x.1) ⟨cur⟩)=⟨cur.take (off+k)++vs++cur.drop (off+k+vs.length)⟩
 | [],k,cur,_=>by simp
 |v::vs,k,cur,h=>by
  simp only[List.zipIdx_cons,List.foldl_cons];have Z:(⟨cur⟩:Array Value).setIfInBounds (off+k) v=⟨cur.set (off+k) v⟩:=by simp
  rw[Z,LM off vs (k+1) (cur.set (off+k) v) (by simp at h |-;omega)];have e:=list_seg_step cur (off+k) v vs (by simp at h |-;omega);simp only[QQQ,Array.mk.injEq,List.length_cons] at e |-;simpa [QXb,QXc 1] using e
theorem sW{aaz:Nat->Option (Nat×Nat)}:∀{parts:List (Nat×AV)}{cells J :List AV} {I:List (Nat×Value)} {H:List Value},
  qs aaz cells parts=some J ->afo μ n cells H->I.map (·.1)=parts.map (·.1)->afo μ n (parts.map (·.2)) (I.map (·.2))->
  ∃Z,Instr.fill aaz ⟨H⟩ I=some ⟨Z⟩/\afo μ n J Z
 | [],cells,J,I,H,h,hc,R,_=>by
  simp only[qs,Pi] at h;subst h;have:I=[]:=by simpa using R
  subst this;exact⟨H,rfl,hc⟩
 |(i,v)::rest,cells,J,I,H,h,hc,R,hv=>by
  cases I with
  |nil=>simp at R
  |cons p Rest=>
   obtain⟨C,V⟩:=p;simp only[List.map_cons,List.cons.injEq] at R;obtain⟨rfl,R⟩:=R;simp only[List.map_cons] at hv;obtain⟨L,K⟩:=bX.1 hv;rw[qs] at h;cases hpl:aaz C with
   |none=>rw[hpl] at h;cases h
   |some os=>
    obtain⟨U,S⟩:=os;rw[hpl] at h;simp only at h;split at h
    .rename_i G
     simp only[Es,GE] at G;obtain⟨⟨B,F⟩,u⟩:=G;have O:=L.cells B;have N:V.cells.size=S:=by rw[<-QXJ,O.length,F]
     have M:=hc.length;rw[Instr.fill,hpl];simp only;have o:(V.cells.zipIdx.foldl (fun cs (x:Value×Nat)=>cs.setIfInBounds (U+x.2) x.1) (⟨H⟩:Array Value))=⟨H.take U++V.cells.toList++H.drop (U+S)⟩:=by rw[<-Array.foldl_toList,Array.toList_zipIdx,LM U _ 0 H (by rw[O.length,M,F];omega)];simp[N]
     rw[if_neg (by simp[N,M];omega),o];exact sW h (((hc.take U).append O).append (hc.drop _)) R K
    .cases h
theorem Pt{α β:Type}(g:α->Sem β)(hf:α->β)(w:World):∀(l:List α),(∀x∈l,(g x).run P w=.ok (hf x) w)->(l.mapM g).run P w=.ok (l.map hf) w
 | [],_=>by simp
 |x::l,h=>by simp[List.mapM_cons,h x (by simp),Pt g hf w l (fun y Z=>h y (by simp[Z]))]
theorem OO{μ:Nat->Place}{n:Nat}{v:AV}{V:Value}(h:afn μ n v V)(H:v.cells=[v])(hV:V.cells= #[V]):afo μ n v.cells V.cells.toList:=by rw[H,hV];exact bX.2 ⟨h,by simp[afo]⟩
theorem Ej(v:Value):(kz v).cells=[kz v]:=by unfold kz;split<;>rfl
theorem pQ(μ:Nat->Place)(n:Nat)(z:Value):afo μ n (oh z).cells z.cells.toList:=by
 by_cases h:∃Z,z=.agg Z
 .obtain⟨Z,rfl⟩:=h;exact ni μ n _
 .have e:oh z=kz z:=by cases z<;>first | rfl | exact absurd ⟨_,rfl⟩ h
  have c:z.cells= #[z]:=by cases z<;>first | rfl | exact absurd ⟨_,rfl⟩ h
  rw[e];exact OO (pq μ n z) (Ej z) c
theorem KY(hT:dQ P T){t:TypeId}{parts:List (Nat×AV)}{H:List (Nat×Value)}{v:AV}(h:cj T t parts=some v)(I:H.map (·.1)=parts.map (·.1))(J:afo μ n (parts.map (·.2)) (H.map (·.2)))(w:World):
  Val P (Instr.build t ⟨H⟩) w μ n v:=by
 unfold cj at h;cases ht:T t with
 |none=>rw[ht] at h;cases h
 |some i=>
  rw[ht] at h;simp only at h;have O:=(hT t i ht).desc;have B:=pQ μ n i.zero;split at h
  .rename_i V N
   split at h
   .rename_i u
    simp only[Y1] at h;obtain⟨M,U,rfl⟩:=h;obtain⟨Z,L,K⟩:=sW U B I J;rw[N] at O;have R :∀f∈V.toList,∃j,T f.type=some j:=by intro f U;rw[Array.all_eq_true'] at u;have:=u f (by simpa using U);exact Option.isSome_iff_exists.1 this
    have G:(V.mapM fun f=>do pure (f.offset,<-sizeOf f.type):Sem (Array (Nat×Nat))).run P w=
      .ok (V.map fun f=>(f.offset,((T f.type).map (·.size)).getD 0)) w:=by
     rw[Array.mapM_eq_mapM_toList,Sem.run_map];rw[Pt (P:=P) _ (fun f=>(f.offset,((T f.type).map (·.size)).getD 0)) w V.toList (fun f U=>by obtain⟨j,S⟩:=R f U;simp[dK hT S,S])]
     simp only[Result.andThen_ok,Result.ok.injEq,and_true];apply Array.ext';simp
    have F:(fun k=>(V.map fun f=>(f.offset,((T f.type).map (·.size)).getD 0))[k]?)=aH T V:=by
     funext k;simp only[aH,Array.getElem?_map];cases hk:V[k]? with
     |none=>rfl
     |some f=>
      have C:f∈V.toList:=by have:=Array.mem_of_getElem? hk;simpa using this
      obtain⟨j,S⟩:=R f C;simp[S]
    refine⟨.agg ⟨Z⟩,?_,by simp only[afn];exact⟨Z,rfl,K⟩⟩;simp only[Instr.build,Sem.run_bind,fZ hT ht,Result.andThen_ok,run_underlying O];erw [G];simp only[Result.andThen_ok,F];rw[show i.zero.cells=⟨i.zero.cells.toList⟩ from rfl,L];rfl
   .cases h
  .rename_i m e N
   split at h
   .rename_i j S
    simp only[Y1] at h;obtain⟨M,U,rfl⟩:=h;obtain⟨Z,L,K⟩:=sW U B I J;rw[N] at O;refine⟨.agg ⟨Z⟩,?_,by simp only[afn];exact⟨Z,rfl,K⟩⟩;simp only[Instr.build,Sem.run_bind,fZ hT ht,Result.andThen_ok,run_underlying O,dK hT S];rw[show i.zero.cells=⟨i.zero.cells.toList⟩ from rfl,L];rfl
   .cases h
  .cases h
end
end Go.Eng
namespace Go.Eng
variable{f:Nat}
section
variable {P:Program}{T:TypeId->Option TyI}{μ:Nat->Place}{n:Nat}
theorem afn.ptr{b o V}(h:afn μ n (.ptr b o) V):b<n/\V=.pointer (some ⟨(μ b).blk,(μ b).off+o,none⟩):=by simpa only[afn] using h
theorem afn.slice{b o l c V}(h:afn μ n (.slice b o l c) V):b<n/\V=.slice (some ⟨(μ b).blk,(μ b).off+o,none⟩) l (rO (μ b) o c):=by simpa only[afn] using h
theorem kB{k:IntKind}{i:Int}{y:Nat}(h0:0<=i)(h1:i<=y)(H:BoundsCode)(w:World):
  (Instr.sliceBound (.int k i) y H).run P w=.ok i.toNat w:=by
 simp[Instr.sliceBound,asIntOf,h0,h1]
section
variable (hT:dQ P T){t:TypeId}
include hT t
theorem Ap{x i v:AV}{X I:Value}(H:afn μ n x X)(J:afn μ n i I)(h:sP T t x i=some v)(w:World):
  Val P (Instr.indexAt t X I) w μ n v:=by
 unfold sP at h;cases ht:T t with
 |none=>rw[ht] at h;cases h
 |some ti=>
  rw[ht] at h;simp only at h;have U:=(hT t ti ht).desc;split at h
  .rename_i e b o m c k j S
   rw[S] at U;split at h
   .rename_i R Z
    split at h
    .rename_i O
     cases h;obtain⟨V,rfl⟩:=H.slice;rw[J.int];refine⟨.pointer (some ⟨(μ b).blk,(μ b).off+(o+j.toNat*R.size),none⟩),?_,by simp only[afn];exact⟨V,trivial⟩⟩;simp[Instr.indexAt,asIntOf,run_underlying U,O,dK hT Z,Addr.add_lit,QXb]
    .cases h
   .cases h
  .rename_i m e b o k j S
   rw[S] at U;split at h
   .rename_i R Z
    split at h
    .rename_i O
     cases h;obtain⟨V,rfl⟩:=H.ptr;rw[J.int];refine⟨.pointer (some ⟨(μ b).blk,(μ b).off+(o+j.toNat*R.size),none⟩),?_,by simp only[afn];exact⟨V,trivial⟩⟩;simp[Instr.indexAt,asIntOf,run_underlying U,Instr.sureAddr,O,dK hT Z,Addr.add_lit,QXb]
    .cases h
   .cases h
  .cases h
theorem La{x i v:AV}{X I:Value}(H:afn μ n x X)(J:afn μ n i I)(h:O1 T t x i=some v)(w:World):
  Val P (Instr.index t X I) w μ n v:=by
 unfold O1 at h;cases ht:T t with
 |none=>rw[ht] at h;cases h
 |some ti=>
  rw[ht] at h;simp only at h;have U:=(hT t ti ht).desc;split at h
  .rename_i m e C k j S
   rw[S] at U;split at h
   .rename_i B Z
    split at h
    .rename_i M
     obtain⟨u,rfl,R⟩:=H.agg;rw[J.int];obtain⟨V,L,K⟩:=jy (P:=P) (μ:=μ) (n:=n) hT Z h R w;exact⟨V,by simp[Instr.index,asIntOf,run_underlying U,M,dK hT Z,L],K⟩
    .cases h
   .cases h
  .rename_i s k j S
   rw[S] at U;split at h
   .rename_i G
    split at h
    .rename_i c N
     cases h;rw[H.str,J.int];have O :(ByteArray.mk s.toArray)[j.toNat]? =some c:=by have F:j.toNat<s.length:=gL N;have o:=(O2.1 N).2;rw[getElem?_pos (ByteArray.mk s.toArray) j.toNat (by simpa [ByteArray.size] using F)];congr 1
     exact .int (by simp[Instr.index,asIntOf,run_underlying U,G,O])
    .cases h
   .cases h
  .cases h
theorem KZ{x v:AV}{X:Value}(H:afn μ n x X)(h:tP T t x f=some v)(w:World):
  Val P (Instr.field t X f) w μ n v:=by
 unfold tP at h;cases ht:T t with
 |none=>rw[ht] at h;cases h
 |some ti=>
  rw[ht] at h;simp only at h;have S:=(hT t ti ht).desc;split at h
  .rename_i L K R
   rw[R] at S;split at h
   .rename_i G Z
    split at h
    .rename_i j O
     obtain⟨F,rfl,U⟩:=H.agg;obtain⟨V,N,M⟩:=jy (P:=P) (μ:=μ) (n:=n) hT O h U w;exact⟨V,by simp[Instr.field,run_underlying S,Z,asAgg,N],M⟩
    .cases h
   .cases h
  .cases h
theorem Ao{x v:AV}{X:Value}(H:afn μ n x X)(h:sO T t x f=some v)(w:World):
  Val P (Instr.fieldAt t X f) w μ n v:=by
 unfold sO at h;cases ht:T t with
 |none=>rw[ht] at h;cases h
 |some ti=>
  rw[ht] at h;simp only at h;have U:=(hT t ti ht).desc;split at h
  .rename_i M b o S
   rw[S] at U;split at h
   .rename_i R Z
    split at h
    .rename_i j O
     split at h
     .cases h
     .rename_i N
      cases h;obtain⟨V,rfl⟩:=H.ptr;refine⟨.pointer (some ⟨(μ b).blk,(μ b).off+(o+R.offset),none⟩),?_,by simp only[afn];exact⟨V,trivial⟩⟩;simp[Instr.fieldAt,run_underlying U,Z,Instr.sureAddr,fieldPlace,Addr.add_lit,QXb,dK hT O,N]
    .cases h
   .cases h
  .cases h
end
end
end Go.Eng
namespace Go.Eng
section
variable {P:Program}{T:TypeId->Option TyI}{μ:Nat->Place}{mem:Mem}{base:Nat}{w:World}
theorem sS(s:List UInt8):(ByteArray.mk s.toArray).size=s.length:=by simp[ByteArray.size]
theorem afA.cell(H:afA base μ mem w){b:Nat}{own es cs}(I:mem[b]? =some (.cells own es cs)){j:Nat}{v:AV}(J:cs[j]? =some v):
  ∃V,w.cell? ⟨(μ b).blk,(μ b).off+j,none⟩=some V/\afn μ mem.length v V:=by
 have Z:=H.slot b _ I;simp only[afD] at Z;obtain⟨X,e,O,U,_,_,S,_⟩:=Z;obtain⟨V,hV,R⟩:=S j v J;exact⟨V,by simp[World.cell?,U,hV],R⟩
theorem afA.cells(H:afA base μ mem w){b:Nat}{own es cs}(I:mem[b]? =some (.cells own es cs)){o k:Nat}(J:o+k<=cs.length):
  ∃Z,afo μ mem.length ((cs.drop o).take k) Z/\Z.length=k/\∀(j:Nat) u,Z[j]? =some u->w.cell? ((⟨(μ b).blk,(μ b).off+o,none⟩:Addr).add j)=some u:=by
 induction k with
 |zero=>exact⟨[],by simp[afo],rfl,by simp⟩
 |succ k ih=>
  obtain⟨Z,O,S,h3⟩:=ih (by omega);have R:o+k<cs.length:=by omega
  obtain⟨V,hV,N⟩:=H.cell I (j:=o+k) (v:=cs[o+k]) (by simp[R]);refine⟨Z++[V],?_,by simp[S],fun j u X=>?_⟩
  .rw[List.take_add_one]
   have:(cs.drop o)[k]? =some cs[o+k]:=by simp[QQf,R]
   rw[this];exact O.append (bX.2 ⟨N,by simp[afo]⟩)
  .by_cases M:j<Z.length
   .rw[GT M] at X;exact h3 j u X
   .have U:j=Z.length:=by have:=gL X;simp at this;omega
    subst U;simp at X;subst X;rw[Addr.add_lit,S,QXb];exact hV
section
variable (hT:dQ P T)(hH:afA base μ mem w)
include hT hH
theorem BY{t:TypeId}{x v:AV}{X:Value}(H:afn μ mem.length x X)(h:Ra T mem t x=some v):
  Val P (Instr.loadAt t X) w μ mem.length v:=by
 unfold Ra at h;split at h
 .rename_i i b o Z
  split at h
  .rename_i own es G S
   obtain⟨O,rfl⟩:=H.ptr;unfold jU at h;cases hi:i.isAgg with
   |true=>
    simp only[hi,if_true] at h;split at h
    .rename_i N
     cases h;obtain⟨U,M,L,h3⟩:=hH.cells S N;refine⟨.agg U.toArray,?_,by simp only[afn];exact⟨U,rfl,M⟩⟩;have R:=run_loadCells_list (P:=P) w _ U h3;rw[L] at R;simp[Instr.loadAt,Instr.sureAddr,loadVar,wQ hT Z,hi,dK hT Z,R]
    .cases h
   |false=>
    simp only[hi,Bool.false_eq_true,if_false] at h;obtain⟨V,hV,K⟩:=hH.cell S h;refine⟨V,?_,K⟩;simp[Instr.loadAt,Instr.sureAddr,loadVar,wQ hT Z,hi,hV]
  .cases h
 .cases h
theorem Q9{t ty:TypeId}{x v:AV}{X:Value}(H:afn μ mem.length x X)(h:WS T t mem x=some v):
  Val P (Builtin.len_ #[t] ty #[X]) w μ mem.length v:=by
 unfold WS at h;cases ht:T t with
 |none=>rw[ht] at h;cases h
 |some ti=>
  rw[ht] at h;simp only at h;have Z:=(hT t ti ht).desc;split at h
  .rename_i s V;cases h;rw[V] at Z;rw[H.str]
   exact .int (by simp[Builtin.len_,run_underlying Z,goInt,sS])
  .rename_i V;cases h;rw[V] at Z;rw[H.slice.2]
   exact .int (by simp[Builtin.len_,run_underlying Z,goInt])
  .rename_i V;cases h;rw[V] at Z
   simp only[afn] at H;subst H;exact .int (by simp[Builtin.len_,run_underlying Z,goInt])
  .rename_i m e V;cases h;rw[V] at Z
   exact .int (by simp[Builtin.len_,run_underlying Z,goInt])
  .rename_i V;cases h;rw[V] at Z
   simp only[afn] at H;subst H;exact .int (by simp[Builtin.len_,run_underlying Z,goInt])
  .rename_i b V;rw[V] at Z
   simp only[afn] at H;obtain⟨S,rfl⟩:=H;split at h
   .rename_i es R
    cases h;have U:=hH.slot b _ R;simp only[afD] at U;obtain⟨O,N,M,_,L,_⟩:=U;refine .int ?_;have K:(getObj (μ b).blk).run P w=.ok (.map O N) w:=by simp[getObj,Sem.run,M]
    simp only[Builtin.len_,List.getElem?_toArray,List.getElem?_cons_zero,Sem.run_bind,run_underlying Z,Result.andThen_ok,K];simp[goInt,L]
   .cases h
  .cases h
theorem Lc{t:TypeId}{x v:AV}{X:Value}{lo hi:Option AV}{Lo Hi:Option Value}(H:afn μ mem.length x X)(hlo:(lo=none/\Lo=none)\/∃l L,lo=some l/\Lo=some L/\afn μ mem.length l L)(hhi:(hi=none/\Hi=none)\/∃l L,hi=some l/\Hi=some L/\afn μ mem.length l L)(h:O3 T mem t x lo hi=some v):
  Val P (Instr.sliceAt t X Lo Hi none) w μ mem.length v:=by
 have N:∀(C:Bool) (R O:Nat) (V Z:Int),UE R hi=some V->
   UF lo=some Z->0<=Z->Z<=V->V<=R->R<=O->
   (Instr.sliceBounds C R O Lo Hi none).run P w=.ok (Z.toNat,V.toNat,O) w:=by
  intro C R O V Z U S h0 h1 h2 h3;have u :V<=O:=by omega
  have h1' :Z<=((V.toNat:Nat):Int):=by omega
  have Y :0<=V:=by omega
  rcases hhi with⟨rfl,rfl⟩ | ⟨a,A,rfl,rfl,hA⟩<;>rcases hlo with⟨rfl,rfl⟩ | ⟨b,B,rfl,rfl,hB⟩
  .simp only[UE,UF,Pi] at U S;subst U;subst S
   simp[Instr.sliceBounds]
  .cases b<;>simp only[UE,UF,reduceCtorEq,Pi] at U S
   subst U;subst S;rw[hB.int];simp[Instr.sliceBounds,kB h0 h1]
  .cases a<;>simp only[UE,UF,reduceCtorEq,Pi] at U S
   subst U;subst S;rw[hA.int];simp[Instr.sliceBounds,kB Y u]
  .cases a<;>simp only[UE,reduceCtorEq,Pi] at U
   cases b<;>simp only[UF,reduceCtorEq,Pi] at S;subst U;subst S;rw[hA.int,hB.int];simp[Instr.sliceBounds,kB Y u,kB h0 h1']
 unfold O3 at h;cases ht:T t with
 |none=>rw[ht] at h;cases h
 |some ti=>
  rw[ht] at h;simp only at h;have M:=(hT t ti ht).desc;split at h
  .rename_i s K
   rw[K] at M;split at h
   .rename_i V Z U S
    split at h
    .rename_i J
     cases h;rw[H.str];have G:=N false s.length s.length V Z U S J.1 J.2.1 J.2.2 (L9 _);refine .str ?_;have adP:(ByteArray.mk s.toArray).extract Z.toNat V.toNat=⟨((s.drop Z.toNat).take (V.toNat-Z.toNat)).toArray⟩:=by apply ByteArray.ext;apply Array.ext';simp[List.extract]
     simp[Instr.sliceAt,Instr.slice,run_underlying M,sS,G,adP]
    .cases h
   .cases h
  .rename_i e b o m c K
   rw[K] at M;split at h
   .rename_i j own es cs I J
    split at h
    .rename_i V Z U S
     split at h
     .rename_i hc
      obtain⟨g1,g2,g3,g4,g5,g6,g6',g7,rfl⟩:=hc;cases h;obtain⟨F,rfl⟩:=H.slice;have hs:=hH.slot b _ J;simp only[afD] at hs;obtain⟨cur,el,fr,hs1,hs2,hs3,_,_⟩:=hs;have hs2:=hs2.es g6';subst hs2;have abd:m<=rO (μ b) o none:=by simp only[rO];rw[Nat.le_div_iff_mul_le g6];omega
      have G:=N true m (rO (μ b) o none) V Z U S g1 g2 g3 abd;refine⟨.slice (some ⟨(μ b).blk,(μ b).off+(o+Z.toNat*(μ b).es),none⟩) (V.toNat-Z.toNat) (rO (μ b) o none-Z.toNat),?_,?_⟩
      .simp[Instr.sliceAt,Instr.slice,run_underlying M,G,dK hT I]
       by_cases hl0:Z=0
       .subst hl0;simp[Addr.add_lit]
       .have:¬rO (μ b) o none=Z.toNat:=by omega
        simp[this,Addr.add_lit,g5,QXb]
      .simp only[afn]
       refine⟨F,?_⟩;congr 1;simp only[rO];have ZJ:Z.toNat*(μ b).es<=m*(μ b).es:=QQk _ (by omega);rw[show(μ b).tot-(o+Z.toNat*(μ b).es)=(μ b).tot-o-(μ b).es*Z.toNat by rw[QQZ (μ b).es];omega];rw[Nat.sub_mul_div]
     .cases h
    .cases h
   .cases h
  .rename_i e K
   rw[K] at M;split at h
   .rename_i j I
    split at h
    .rename_i V Z U S
     split at h
     .rename_i hc
      obtain⟨rfl,rfl⟩:=hc;cases h;simp only[afn] at H;subst H;have G:=N true 0 0 0 0 U S (by omega) (by omega) (by omega) (by omega);refine⟨.slice none 0 0,?_,by simp[afn]⟩;simp[Instr.sliceAt,Instr.slice,run_underlying M,G,dK hT I]
     .cases h
    .cases h
   .cases h
  .rename_i m e b o K
   rw[K] at M;split at h
   .rename_i j I
    split at h
    .rename_i V Z U S
     split at h
     .rename_i hc
      obtain⟨g1,g2,g3,g4⟩:=hc;cases h;obtain⟨F,rfl⟩:=H.ptr;have G:=N false m m V Z U S g1 g2 g3 (L9 _);refine⟨.slice (some ⟨(μ b).blk,(μ b).off+(o+Z.toNat*j.size),none⟩) (V.toNat-Z.toNat) (m-Z.toNat),?_,?_⟩
      .have:¬m=Z.toNat:=by omega
       simp[Instr.sliceAt,run_underlying M,Instr.sureAddr,G,dK hT I,this,Addr.add_lit,QXb]
      .simp only[afn];exact⟨F,rfl⟩
     .cases h
    .cases h
   .cases h
  .cases h
end
end
end Go.Eng
