/- See I36. -/
import Derived.Calls
import Derived.Orders
import Derived.Laws.AppendOwn
import Derived.Laws.Cells
import Derived.Laws.CopyRow
import Derived.Tactics
import Derived.Laws.StructEq
import Derived.Laws.Build
set_option linter.all false
namespace Go.Eng
def Es:=@Bool.and_eq_true
def GE:=@List.take_of_length_le
def GT:=@List.getElem?_eq_getElem
def Hi:=@List.getElem?_append_left
def Lo:=@List.mem_of_getElem?
def L0:=@decide_eq_true_eq
def L9:=@Nat.le_refl
def Mp:=@List.drop_of_length_le
def M0:=@List.eq_nil_of_length_eq_zero
def Nm:=@List.length_append
def Ns:=@Array.getElem?_eq_some_iff
def N2:=@List.drop_eq_getElem_cons
def N3:=@Option.some.injEq
def N4:=@List.getElem?_eq_some_iff
def O1:=@List.take_length
def Pi:=@List.getElem?_append_right
def Pl:=@Option.map_eq_some_iff
def P1:=@Nat.pow_le_pow_right
def P3:=@List.length_take
def SP:=@List.append_assoc
def V1:=@Nat.mul_comm
def X1:=@List.getElem?_set_self
def X2:=@Array.getElem?_setIfInBounds_ne
def X3:=@List.length_set
def X4:=@List.getElem?_set_ne
def QQQ:=@List.getElem?_take_of_lt
def QQX:=@List.getElem?_map
def QQY:=@Nat.eq_zero_or_pos
def QQZ:=@Nat.zero_add
def QQJ:=@Nat.le_trans
def QQK:=@List.all_cons
def QQa:=@List.take_append_of_le_length
def QQb:=@Option.some.inj
def QQc:=@List.getElem?_drop
def QQd:=@Nat.mod_eq_of_lt
def QQe:=@Int.toNat_of_nonneg
def QQf:=@Nat.mul_le_mul_right
def QQg:=@List.getElem?_of_mem
def QQh:=@Nat.mul_assoc
def QQi:=@List.length_map
def QQj:=@List.mem_map
def QQk:=@Bool.or_eq_true
def QQl:=@Nat.lt_of_lt_of_le
def QQm:=@Array.length_toList
def QXQ:=@Int.natAbs_mul
def QXX:=@Nat.sub_zero
def QXY:=@Nat.add_assoc
def QXZ:=@List.length_drop
def QXJ:=@Nat.add_comm
def QXK:=@Rat.div_mul_cancel
def QXa:=@List.length_replicate
theorem w0:IntKind.i64.wrap 0=0:=rfl
theorem w1:IntKind.i64.wrap 1=1:=rfl
theorem w2:IntKind.i64.wrap 2=2:=rfl
theorem w3:IntKind.i64.wrap 3=3:=rfl
theorem w4:IntKind.i64.wrap 4=4:=rfl
theorem w5:IntKind.i64.wrap 5=5:=rfl
theorem w6:IntKind.i64.wrap 6=6:=rfl
theorem w7:IntKind.i64.wrap 7=7:=rfl
theorem xE{α:Type}(e:α):∃x,x=e:=⟨_,rfl⟩
variable{b:Nat}
theorem gU{α:Type}{M:List α}{x:α}(h:M[b]? =some x)(Z:List α):(M++Z)[b]? =some x:=by rw[Hi (N4.1 h).1,h]
theorem lM:(∀{α:Type} {a b:α} {l:List α},(a∈b::l)=(a=b\/a∈l))/\(∀{α:Type} {a:α},(a∈([]:List α))=False)/\∀p:Prop,(p\/False)=p:=⟨fun {_ _ _ _}=>by simp,fun {_ _}=>by simp,fun _=>by simp⟩
theorem lA:(∀{α:Type} (l:List α),[]++l=l)/\(∀{α:Type} (l:List α),l++[]=l)/\∀{α:Type} {a:α} {l k:List α},a::l++k=a::(l++k):=⟨fun _=>rfl,fun _=>List.append_nil _,rfl⟩
theorem lB:(∀{α β:Type} {f:α->β} {a:α} {l:List α},List.map f (a::l)=f a::List.map f l)/\(∀{α β:Type} {f:α->β},List.map f []=[])/\(∀{α:Type} {a b:α} {l k:List α},(a::l=b::k)=(a=b/\l=k))/\∀p:Prop,(p/\True)=p:=⟨rfl,rfl,fun {_ _ _ _ _}=>by simp,fun _=>by simp⟩
theorem gL{α:Type}{l:List α}{i:Nat}{a:α}(h:l[i]? =some a):i<l.length:=(N4.1 h).1
theorem gE{α:Type}{l:List α}{i:Nat}{a:α}(h:l[i]? =some a):∀k,l[i]'k=a:=fun k=>(N4.1 h).2
inductive AV where
 |undef
 |bool (b:Bool)
 |int (k:IntKind) (n:Int)
 |str (s:List UInt8)
 |ptr (b off:Nat)
 |agk
 |slice (b off len:Nat) (cap:Option Nat)
 |y9
 |map (b:Nat)
 |agu
 |yield (b:Nat)
 |func (f:FuncId) (caps:List AV)
 |nilFunc
 |iface (t:TypeId) (v:AV)
 |nilIface
 |agg (cs:List AV)
 |tuple (cs:List AV)
 deriving Inhabited
structure Place where
 blk:Nat
 off:Nat
 tot:Nat
 es:Nat
 deriving Inhabited
def qQ(p:Place)(o:Nat):Option Nat->Nat
 |some c=>c
 |none=>(p.tot-o) / p.es
mutual
def af4(μ:Nat->Place)(n:Nat):AV->Value->Prop
 |.undef,_=>True
 |.bool b,V=>V=.bool b
 |.int k i,V=>V=.int k i
 |.str s,V=>V=.string ⟨s.toArray⟩
 |.ptr b o,V=>b<n/\V=.pointer (some ⟨(μ b).blk,(μ b).off+o,none⟩)
 |.agk,V=>V=.pointer none
 |.slice b o l c,V=>b<n/\V=.slice (some ⟨(μ b).blk,(μ b).off+o,none⟩) l (qQ (μ b) o c)
 |.y9,V=>V=.slice none 0 0
 |.map b,V=>b<n/\V=.map (some (μ b).blk)
 |.yield b,V=>b<n/\V=.func (.yield (μ b).blk) #[] #[]
 |.agu,V=>V=.map none
 |.func f X,V=>∃Z,V=.func (.func f) #[] ⟨Z⟩/\af5 μ n X Z
 |.nilFunc,V=>V=.nilFunc
 |.iface t v,V=>∃U,V=.iface t U/\af4 μ n v U
 |.nilIface,V=>V=.nilIface
 |.agg X,V=>∃Z,V=.agg ⟨Z⟩/\af5 μ n X Z
 |.tuple X,V=>∃Z,V=.tuple ⟨Z⟩/\af5 μ n X Z
def af5(μ:Nat->Place)(n:Nat):List AV->List Value->Prop
 | [],Us=>Us=[]
 |v::vs,Us=>∃U Z,Us=U::Z/\af4 μ n v U/\af5 μ n vs Z
end
theorem br{μ n v vs U Us}:af5 μ n (v::vs) (U::Us)↔af4 μ n v U/\af5 μ n vs Us:=by
 simp only[af5];constructor
 .rintro ⟨W,V,h,Z,X⟩;cases h;exact⟨Z,X⟩
 .rintro ⟨Z,X⟩;exact⟨U,Us,rfl,Z,X⟩
theorem af5.length{μ n}:∀{vs Us},af5 μ n vs Us->Us.length=vs.length
 | [],_,h=>by simp[af5] at h;simp[h]
 |v::vs,_,h=>by simp only[af5] at h;obtain⟨U,X,rfl,_,Z⟩:=h;simp[af5.length Z]
theorem af5.get{μ n}:∀{vs Us},af5 μ n vs Us->∀(i:Nat) v,vs[i]? =some v->∃U,Us[i]? =some U/\af4 μ n v U
 | [],_,_,i,v,h=>by simp at h
 |w::vs,_,h,i,v,hi=>by
  simp only[af5] at h;obtain⟨U,W,rfl,Z,X⟩:=h;cases i with
  |zero=>simp at hi;subst hi;exact⟨U,by simp,Z⟩
  |succ i=>simpa using af5.get X i v (by simpa using hi)
theorem af5.ag5{μ n}:∀{vs Us},Us.length=vs.length->(∀(i:Nat) v,vs[i]? =some v->∃U,Us[i]? =some U/\af4 μ n v U)->af5 μ n vs Us
 | [],Us,hl,_=>by simp[af5];exact M0 hl
 |v::vs,[],hl,_=>by simp at hl
 |v::vs,U::Us,hl,h=>by
  refine br.2 ⟨?_,af5.ag5 (by simpa using hl) fun i u hu=>?_⟩
  .obtain⟨W,Z,X⟩:=h 0 v (by simp)
   simp at Z;subst Z;exact X
  .simpa using h (i+1) u (by simpa using hu)
theorem af5.append{μ n}:∀{vs Z ws Ws},af5 μ n vs Z->af5 μ n ws Ws->af5 μ n (vs++ws) (Z++Ws)
 | [],_,ws,Ws,h,h' =>by simp[af5] at h;subst h;simpa using h'
 |v::vs,_,ws,Ws,h,h' =>by simp only[af5] at h;obtain⟨U,Z,rfl,X,W⟩:=h;exact br.2 ⟨X,af5.append W h'⟩
theorem af5.take{μ n vs Us}(h:af5 μ n vs Us)(k:Nat):af5 μ n (vs.take k) (Us.take k):=by
 refine af5.ag5 (by simp[h.length]) fun i v Z=>?_
 rw[List.getElem?_take] at Z;split at Z
 .obtain⟨U,W,X⟩:=h.get i v Z
  exact⟨U,by rw[List.getElem?_take];simp[*],X⟩
 .cases Z
theorem af5.drop{μ n vs Us}(h:af5 μ n vs Us)(k:Nat):af5 μ n (vs.drop k) (Us.drop k):=by
 refine af5.ag5 (by simp[h.length]) fun i v Z=>?_
 rw[QQc] at Z;obtain⟨U,X,W⟩:=h.get _ v Z;exact⟨U,by rw[QQc];exact X,W⟩
mutual
theorem af4.mono{μ μ' :Nat->Place}{n H :Nat}(y:n<=H)(hμ:∀b,b<n->μ' b=μ b):∀{v V},af4 μ n v V->af4 μ' H v V
 |.undef,V,_=>by simp[af4]
 |.bool b,V,h=>by simpa [af4] using h
 |.int k i,V,h=>by simpa [af4] using h
 |.str s,V,h=>by simpa [af4] using h
 |.ptr b o,V,h=>by simp only[af4] at h |-;exact⟨by omega,by rw[hμ b h.1];exact h.2⟩
 |.agk,V,h=>by simpa [af4] using h
 |.slice b o l c,V,h=>by simp only[af4] at h |-;exact⟨by omega,by rw[hμ b h.1];exact h.2⟩
 |.y9,V,h=>by simpa [af4] using h
 |.map b,V,h=>by simp only[af4] at h |-;exact⟨by omega,by rw[hμ b h.1];exact h.2⟩
 |.yield b,V,h=>by simp only[af4] at h |-;exact⟨by omega,by rw[hμ b h.1];exact h.2⟩
 |.agu,V,h=>by simpa [af4] using h
 |.func f X,V,h=>by simp only[af4] at h |-;obtain⟨Z,rfl,h⟩:=h;exact⟨Z,rfl,af5.mono y hμ h⟩
 |.nilFunc,V,h=>by simpa [af4] using h
 |.iface t v,V,h=>by simp only[af4] at h |-;obtain⟨U,rfl,h⟩:=h;exact⟨U,rfl,af4.mono y hμ h⟩
 |.nilIface,V,h=>by simpa [af4] using h
 |.agg X,V,h=>by simp only[af4] at h |-;obtain⟨Z,rfl,h⟩:=h;exact⟨Z,rfl,af5.mono y hμ h⟩
 |.tuple X,V,h=>by simp only[af4] at h |-;obtain⟨Z,rfl,h⟩:=h;exact⟨Z,rfl,af5.mono y hμ h⟩
theorem af5.mono{μ μ' :Nat->Place}{n y :Nat}(H:n<=y)(hμ:∀b,b<n->μ' b=μ b):∀{vs Us},af5 μ n vs Us->af5 μ' y vs Us
 | [],Us,h=>by simpa [af5] using h
 |v::vs,Us,h=>by simp only[af5] at h |-;obtain⟨U,Z,rfl,X,W⟩:=h;exact⟨U,Z,rfl,af4.mono H hμ X,af5.mono H hμ W⟩
end
mutual
def AV.ren(ρ:Nat->Option Nat):AV->AV
 |.ptr b o=>match ρ b with | some b' =>.ptr b' o | none=>.undef
 |.slice b o l c=>match ρ b with | some b' =>.slice b' o l c | none=>.undef
 |.map b=>match ρ b with | some b' =>.map b' | none=>.undef
 |.yield b=>match ρ b with | some b' =>.yield b' | none=>.undef
 |.func f Z=>.func f (AV.agd ρ Z)
 |.iface t v=>.iface t (AV.ren ρ v)
 |.agg Z=>.agg (AV.agd ρ Z)
 |.tuple Z=>.tuple (AV.agd ρ Z)
 |v=>v
def AV.agd(ρ:Nat->Option Nat):List AV->List AV
 | []=>[]
 |v::vs=>AV.ren ρ v::AV.agd ρ vs
end
mutual
theorem af4.ren{μ μ' :Nat->Place}{n y :Nat}{ρ:Nat->Option Nat}(hρ:∀b Z,b<n->ρ b=some Z ->Z <y /\μ' Z =μ b):
  ∀{v V},af4 μ n v V->af4 μ' y (v.ren ρ) V
 |.undef,V,_=>by simp[AV.ren,af4]
 |.bool b,V,h=>by simpa [AV.ren,af4] using h
 |.int k i,V,h=>by simpa [AV.ren,af4] using h
 |.str s,V,h=>by simpa [AV.ren,af4] using h
 |.ptr b o,V,h=>by
  simp only[af4] at h;simp only[AV.ren];cases hb:ρ b with
  |none=>simp[af4]
  |some Z =>obtain⟨X,W⟩:=hρ b Z h.1 hb;simp only[af4];exact⟨X,by rw[W];exact h.2⟩
 |.agk,V,h=>by simpa [AV.ren,af4] using h
 |.slice b o l c,V,h=>by
  simp only[af4] at h;simp only[AV.ren];cases hb:ρ b with
  |none=>simp[af4]
  |some Z =>obtain⟨X,W⟩:=hρ b Z h.1 hb;simp only[af4];exact⟨X,by rw[W];exact h.2⟩
 |.y9,V,h=>by simpa [AV.ren,af4] using h
 |.map b,V,h=>by
  simp only[af4] at h;simp only[AV.ren];cases hb:ρ b with
  |none=>simp[af4]
  |some Z =>obtain⟨X,W⟩:=hρ b Z h.1 hb;simp only[af4];exact⟨X,by rw[W];exact h.2⟩
 |.yield b,V,h=>by
  simp only[af4] at h;simp only[AV.ren];cases hb:ρ b with
  |none=>simp[af4]
  |some Z =>obtain⟨X,W⟩:=hρ b Z h.1 hb;simp only[af4];exact⟨X,by rw[W];exact h.2⟩
 |.agu,V,h=>by simpa [AV.ren,af4] using h
 |.func f O,V,h=>by simp only[af4] at h;simp only[AV.ren,af4];obtain⟨S,rfl,h⟩:=h;exact⟨S,rfl,af5.ren hρ h⟩
 |.nilFunc,V,h=>by simpa [AV.ren,af4] using h
 |.iface t v,V,h=>by simp only[af4] at h;simp only[AV.ren,af4];obtain⟨U,rfl,h⟩:=h;exact⟨U,rfl,af4.ren hρ h⟩
 |.nilIface,V,h=>by simpa [AV.ren,af4] using h
 |.agg O,V,h=>by simp only[af4] at h;simp only[AV.ren,af4];obtain⟨S,rfl,h⟩:=h;exact⟨S,rfl,af5.ren hρ h⟩
 |.tuple O,V,h=>by simp only[af4] at h;simp only[AV.ren,af4];obtain⟨S,rfl,h⟩:=h;exact⟨S,rfl,af5.ren hρ h⟩
theorem af5.ren{μ μ' :Nat->Place}{n y :Nat}{ρ:Nat->Option Nat}(hρ:∀b Z,b<n->ρ b=some Z ->Z <y /\μ' Z =μ b):
  ∀{vs Us},af5 μ n vs Us->af5 μ' y (AV.agd ρ vs) Us
 | [],Us,h=>by simpa [AV.agd,af5] using h
 |v::vs,Us,h=>by simp only[af5] at h;simp only[AV.agd,af5];obtain⟨U,X,rfl,W,V⟩:=h;exact⟨U,X,rfl,af4.ren hρ W,af5.ren hρ V⟩
end
theorem gT(ρ:Nat->Option Nat):∀Z,AV.agd ρ Z=Z.map (AV.ren ρ)
 | []=>rfl
 |v::Z=>by simp[AV.agd,gT ρ Z]
def AV.af2:AV->Bool
 |.agg _ | .tuple _ | .undef=>false
 |_=>true
def AV.known:AV->Bool
 |.undef=>false
 |_=>true
def AV.cells:AV->List AV
 |.agg cs=>cs
 |v=>[v]
theorem af4.ahr{μ n v V}(h:af4 μ n v V)(y:v.af2=true):V.oneCell' =true:=by
 cases v<;>simp[AV.af2] at y<;>simp only[af4] at h;case bool=>subst h;rfl
 case int=>subst h;rfl
 case str=>subst h;rfl
 case ptr=>rw[h.2];rfl
 case agk=>subst h;rfl
 case slice=>rw[h.2];rfl
 case y9=>subst h;rfl
 case map=>rw[h.2];rfl
 case yield=>rw[h.2];rfl
 case agu=>subst h;rfl
 case func=>obtain⟨_,rfl,_⟩:=h;rfl
 case nilFunc=>subst h;rfl
 case iface=>obtain⟨_,rfl,_⟩:=h;rfl
 case nilIface=>subst h;rfl
theorem af4.cells{μ n v V}(h:af4 μ n v V)(y:v.known=true):af5 μ n v.cells V.cells.toList:=by
 cases v<;>simp[AV.known] at y;case agg cs=>
  simp only[af4] at h;obtain⟨X,rfl,h⟩:=h;simpa [AV.cells,Value.cells] using h
 all_goals
  have Z:=h;simp only[af4] at h;simp only[AV.cells];first
   |(subst h;simpa [af5,Value.cells] using Z)
   |(obtain⟨_,rfl⟩:=h;simpa [af5,Value.cells] using Z)
   |(obtain⟨_,rfl,_⟩:=h;simpa [af5,Value.cells] using Z)
abbrev Env:=List (Nat×AV)
def ad:Env->Nat->AV
 | [],_=>.undef
 |(k,v)::r,t=>if k=t then v else ad r t
def agy(μ:Nat->Place)(n:Nat)(env:Env)(tmps:Array Value):Prop:=∀t,af4 μ n (ad env t) (tmps.getD t undef)
theorem agy.mono{μ μ' :Nat->Place}{n y :Nat}{env tmps}(H:n<=y)(hμ:∀b,b<n->μ' b=μ b)(h:agy μ n env tmps):agy μ' y env tmps:=
 fun t=>(h t).mono H hμ
structure agV where
 st:LoopState
 agI:Option Code
 env:Env
 N:Nat
 ps:Array Tmp
 assign:Code
 body:Code
inductive af6 where
 |HS
 |cells (own:Bool) (es:Nat) (cs:List AV)
 |map (es:List (AV×AV))
 |agC (es:List (AV×AV))
 |loop (r:agV)
 deriving Inhabited
abbrev Mem:=List af6
def af6.own:af6->Bool
 |.cells own _ _=>own
 |.map _=>true
 |.agC _=>false
 |.loop _=>true
 |.HS=>false
variable{s:af6}
theorem af6.agE(h:s.own=true):s≠ .HS:=by cases s<;>simp_all[af6.own]
def fJ(mem:Mem)(b:Nat):Prop:=∃s,mem[b]? =some s/\s.own=true
variable{cs:List AV}{mem:Mem}
theorem qi{es:Nat}(h:mem[b]? =some (.cells true es cs)):fJ mem b:=⟨_,h,rfl⟩
theorem MZ{mem:Mem}{b:Nat}{es}(h:mem[b]? =some (.map es)):fJ mem b:=⟨_,h,rfl⟩
theorem SR{mem:Mem}{b:Nat}{r}(h:mem[b]? =some (.loop r)):fJ mem b:=⟨_,h,rfl⟩
structure ahs (μ:Nat->Place)(n:Nat)(r:agV)(L:Loop):Prop where
 st:L.state=r.st
 agI:L.pending=r.agI
 ps:L.params=r.ps
 assign:L.assign=r.assign
 body:L.body=r.body
 size:L.tmps.size=r.N
 tmps:agy μ n r.env L.tmps
def QJ(μ:Nat->Place)(n:Nat)(e:AV×AV)(E:MapEntry):Prop:=af4 μ n e.1 E.key/\af4 μ n e.2 E.val
def aih(p:Place)(es:Nat)(e:TypeId):Prop:=p.es=es%1000/\(1000<=es->e+1=es / 1000)
variable{p:Place}
theorem aih.small{es:Nat}{e:TypeId}(h:p.es=es)(hs:es<1000):aih p es e:=⟨by rw[h,QQd hs],fun Z=>by omega⟩
theorem aih.es{es:Nat}{e:TypeId}(h:aih p es e)(hs:es<1000):p.es=es:=by rw[h.1,QQd hs]
def Fe(y:Array MapEntry)(H:Nat):Prop:=H=y.size/\∀(j:Nat) E,y[j]? =some E->E.born=j
def agj(μ:Nat->Place)(n y:Nat)(w:World)(p:Place):af6->Prop
 |.HS=>True
 |.cells own es cs=>∃X e S,w.heap[p.blk]? =some (.cells X e S)/\aih p es e/\cs.length<=p.tot/\
   (∀(j:Nat) v,cs[j]? =some v->∃V,X[p.off+j]? =some V/\af4 μ n v V)/\
   (own=true->p.off=0/\S=(0,0)/\X.size=p.tot/\y<=p.blk)
 |.map es=>∃Z W,w.heap[p.blk]? =some (.map Z W)/\(y<=p.blk/\Fe Z W)/\Z.size=es.length/\
   ∀(j:Nat) e,es[j]? =some e->∃E,Z[j]? =some E/\QJ μ n e E
 |.agC es=>∃Z W,w.heap[p.blk]? =some (.map Z W)/\Fe Z W/\Z.size=es.length/\
   ∀(j:Nat) e,es[j]? =some e->∃E,Z[j]? =some E/\QJ μ n e E
 |.loop r=>∃L,w.heap[p.blk]? =some (.loop L)/\y<=p.blk/\ahs μ n r L
structure agh (base:Nat) (μ:Nat->Place)(mem:Mem)(w:World):Prop where
 agb:base<=w.heap.size
 slot:∀b s,mem[b]? =some s->agj μ mem.length base w (μ b) s
 sep:∀b b' s',fJ mem b->mem[b']? =some s' ->s' ≠ .HS->b≠b' ->(μ b).blk≠(μ b').blk
structure Step (m0:Nat) (μ:Nat->Place)(mem:Mem)(w:World) (μ' :Nat->Place) (mem' :Mem) (w' :World):Prop where
 len:m0<=mem'.length
 agree:∀b,b<m0->μ' b=μ b
 os:w'.os=w.os
 tape:w'.tape=w.tape
 output:w'.output=w.output
 size:w.heap.size<=w'.heap.size
 frame:∀k,k<w.heap.size->(∀b,fJ mem b->(μ b).blk≠k)->w'.heap[k]? =w.heap[k]?
 owner:∀b,fJ mem' b->(μ' b).blk<w.heap.size->∃b0,fJ mem b0/\(μ b0).blk=(μ' b).blk
 drawn:w.drawn<=w'.drawn
theorem Step.refl{m0 μ mem w}(h:m0<=mem.length):Step m0 μ mem w μ mem w:=
 ⟨h,fun _ _=>rfl,rfl,rfl,rfl,L9 _,fun _ _ _=>rfl,fun b Z _=>⟨b,Z,rfl⟩,L9 _⟩
theorem Step.trans{m0 μ mem w μ' mem' w' μ'' mem'' w''}(h:Step m0 μ mem w μ' mem' w')(h' :Step m0 μ' mem' w' μ'' mem'' w''):
  Step m0 μ mem w μ'' mem'' w'' :=by
 refine⟨h'.len,fun b Z=>(h'.agree b Z).trans (h.agree b Z),h'.os.trans h.os,h'.tape.trans h.tape,h'.output.trans h.output,
  QQJ h.size h'.size,fun k X S=>?_,fun b Z O=>?_,QQJ h.drawn h'.drawn⟩
 .rw[h'.frame k (QQl X h.size) ?_,h.frame k X S]
  intro b Z he;obtain⟨W,K,V⟩:=h.owner b Z (he▸X);exact S W K (V.trans he)
 .obtain⟨J,V,M⟩:=h'.owner b Z (QQl O h.size)
  obtain⟨W,h3,G⟩:=h.owner J V (M▸O);exact⟨W,h3,G.trans M⟩
theorem Step.mono{m0 m1 μ mem w μ' mem' w'}(h:Step m1 μ mem w μ' mem' w')(y:m0<=m1):Step m0 μ mem w μ' mem' w' :=
 ⟨QQJ y h.len,fun b Z=>h.agree b (QQl Z y),h.os,h.tape,h.output,h.size,h.frame,h.owner,h.drawn⟩
theorem agh.ag4{base μ mem w w'}(h:agh base μ mem w)(y:w'.heap=w.heap):agh base μ mem w' :=by
 refine⟨by rw[y];exact h.agb,fun b s Z=>?_,h.sep⟩;have:=h.slot b s Z;cases s with
 |HS=>trivial
 |cells own esz cs=>simp only[agj] at this |-;rw[y];exact this
 |map es=>simp only[agj] at this |-;rw[y];exact this
 |agC es=>simp only[agj] at this |-;rw[y];exact this
 |loop r=>simp only[agj] at this |-;rw[y];exact this
theorem Step.drew{m0 μ mem w}(h:m0<=mem.length):Step m0 μ mem w μ mem w.drew:=
 ⟨h,fun _ _=>rfl,rfl,rfl,rfl,L9 _,fun _ _ _=>rfl,fun b Z _=>⟨b,Z,rfl⟩,Nat.le_succ _⟩
variable{w:World}
theorem agj.mono{μ μ' :Nat->Place}{n I base:Nat}{w' :World}(y:n<=I)(hμ:∀b,b<n->μ' b=μ b)(H:s≠ .HS->w'.heap[p.blk]? =w.heap[p.blk]?)(h:agj μ n base w p s):agj μ' I base w' p s:=by
 cases s with
 |HS=>trivial
 |cells own esz cs=>
  simp only[agj] at h |-;obtain⟨O,e,C,Z,M,K,X,h3⟩:=h;refine⟨O,e,C,by rw[H (by simp),Z],M,K,fun j v B=>?_,h3⟩;obtain⟨V,A,z⟩:=X j v B;exact⟨V,A,z.mono y hμ⟩
 |map es=>
  simp only[agj] at h |-;obtain⟨J,G,Z,X,h3,F⟩:=h;refine⟨J,G,by rw[H (by simp),Z],X,h3,fun j e he=>?_⟩;obtain⟨E,D,W,S⟩:=F j e he;exact⟨E,D,W.mono y hμ,S.mono y hμ⟩
 |agC es=>
  simp only[agj] at h |-;obtain⟨J,G,Z,X,h3,F⟩:=h;refine⟨J,G,by rw[H (by simp),Z],X,h3,fun j e he=>?_⟩;obtain⟨E,D,W,S⟩:=F j e he;exact⟨E,D,W.mono y hμ,S.mono y hμ⟩
 |loop r=>
  simp only[agj] at h |-;obtain⟨L,Z,X,h3⟩:=h;exact⟨L,by rw[H (by simp),Z],X,{ h3 with tmps:=h3.tmps.mono y hμ }⟩
theorem agj.agN{μ n base w p s}(h:agj μ n base w p s)(hs:s≠ .HS):p.blk<w.heap.size:=by
 cases s with
 |HS=>exact absurd rfl hs
 |cells own esz cs=>simp only[agj] at h;obtain⟨X,e,S,Z,_⟩:=h;exact(Ns.1 Z).1
 |map es=>simp only[agj] at h;obtain⟨W,V,Z,_⟩:=h;exact(Ns.1 Z).1
 |agC es=>simp only[agj] at h;obtain⟨W,V,Z,_⟩:=h;exact(Ns.1 Z).1
 |loop r=>simp only[agj] at h;obtain⟨L,Z,_⟩:=h;exact(Ns.1 Z).1
def upd(μ:Nat->Place)(b:Nat)(p:Place):Nat->Place:=fun x=>if x=b then p else μ x
theorem fT{μ b p}:upd μ b p b=p:=by simp[upd]
theorem yg{μ b p x}(h:x<b):upd μ b p x=μ x:=by simp[upd];intro Z;omega
theorem mN(y:b<mem.length):fJ (mem++[s]) b↔fJ mem b:=by simp[fJ,Hi y]
theorem iQ(w:World)(o:Obj){k:Nat}(h:k<w.heap.size):(w.alloc o).heap[k]? =w.heap[k]? :=heap_alloc_old w o k h
theorem agh.push{base μ mem w}(h:agh base μ mem w)(o:Obj)(s:af6)(p:Place)(y:p.blk=w.heap.size)(hs:agj (upd μ mem.length p) (mem.length+1) base (w.alloc o) p s):
  agh base (upd μ mem.length p) (mem++[s]) (w.alloc o)/\
  Step mem.length μ mem w (upd μ mem.length p) (mem++[s]) (w.alloc o):=by
 have hμ:∀b,b<mem.length->upd μ mem.length p b=μ b:=fun b X=>yg X
 constructor
 .refine⟨by simp;have:=h.agb;omega,fun b t S=>?_,fun b W B X M K D=>?_⟩
  .rw[Nm,List.length_singleton]
   by_cases J:b<mem.length
   .rw[Hi J] at S
    rw[hμ b J];refine(h.slot b t S).mono (Nat.le_succ _) hμ fun K=>?_
    exact iQ w o ((h.slot b t S).agN K)
   .have Z:b=mem.length:=by have:=gL S;simp at this;omega
    subst Z;simp at S;subst S;rw[fT];exact hs
  .by_cases V:b<mem.length<;>by_cases G:W <mem.length
   .rw[hμ b V,hμ W G]
    exact h.sep b W B ((mN V).1 X) (by rwa [Hi G] at M) K D
   .have Z:W =mem.length:=by have:=(gL M);simp at this;omega
    subst Z;rw[fT,hμ b V,y];have:(μ b).blk<w.heap.size:=by obtain⟨C,hc,F⟩:=(mN V).1 X;exact(h.slot b _ hc).agN (af6.agE F)
    omega
   .have Z:b=mem.length:=by obtain⟨C,hc,F⟩:=X;have:=gL hc;simp at this;omega
    subst Z;rw[fT,hμ W G,y];have:=(h.slot W B (by rwa [Hi G] at M)).agN K;omega
   .have Z:W =mem.length:=by have:=(gL M);simp at this;omega
    have O:b=mem.length:=by obtain⟨C,hc,F⟩:=X;have:=gL hc;simp at this;omega
    omega
 .refine⟨by simp,hμ,rfl,rfl,rfl,by simp,fun k A _=>iQ w o A,fun b X J=>?_,L9 _⟩
  by_cases V:b<mem.length
  .exact⟨b,(mN V).1 X,by rw[hμ b V]⟩
  .have O:b=mem.length:=by obtain⟨C,hc,F⟩:=X;have:=gL hc;simp at this;omega
   subst O;rw[fT,y] at J;omega
theorem agh.write{base μ mem w}(h:agh base μ mem w){b:Nat}{s s' :af6}(I:mem[b]? =some s)(y:fJ mem b)(acB :s' ≠ .HS->fJ (mem.set b s') b){w' :World}(Q:w'.drawn=w.drawn)(R:w'.os=w.os)(Y:w'.tape=w.tape)(abJ:w'.output=w.output)(hsz:w'.heap.size=w.heap.size)(H:∀k,k≠(μ b).blk->w'.heap[k]? =w.heap[k]?)(hs:agj μ mem.length base w' (μ b) s'):
  agh base μ (mem.set b s') w' /\Step mem.length μ mem w μ (mem.set b s') w' :=by
 have G:b<mem.length:=gL I;have own:∀x,fJ (mem.set b s') x->fJ mem x:=by
  intro x X;by_cases Z:x=b
  .subst Z;exact y
  .obtain⟨J,hc,O⟩:=X
   rw[X4 (Ne.symm Z)] at hc;exact⟨J,hc,O⟩
 constructor
 .refine⟨by rw[hsz];exact h.agb,fun x t W=>?_,fun x M t X V K S=>?_⟩
  .rw[X3]
   by_cases Z:x=b
   .subst Z
    rw[X1 G] at W;cases W;exact hs
   .rw[X4 (Ne.symm Z)] at W
    refine(h.slot x t W).mono (L9 _) (fun _ _=>rfl) fun K=>H _ ?_
    exact fun he=>h.sep b x t y W K (Ne.symm Z) he.symm
  .by_cases Z:M =b
   .subst Z
    have:=h.sep x M s (own x X) I ?_ S
    .exact this
    .obtain⟨J,hc,O⟩:=y
     rw[hc] at I;cases I;exact af6.agE O
   .rw[X4 (Ne.symm Z)] at V
    exact h.sep x M t (own x X) V K S
 .refine⟨by simp,fun _ _=>rfl,R,Y,abJ,by omega,fun k D F=>H k ?_,fun x X _=>⟨x,own x X,rfl⟩,Nat.le_of_eq Q.symm⟩
  exact fun he=>F b y he.symm
structure TyI where
 desc:TypeDesc
 size:Nat
 bytes:Nat
 zero:Value
 ahR:Bool
 deriving Inhabited
structure aiO (P:Program)(t:TypeId)(i:TyI):Prop where
 desc:P.underlying t=some i.desc
 info:∃f,P.info? t=some f/\f.size=i.size/\f.bytes=i.bytes/\f.zero=some i.zero
 ahS:i.zero.cells.size=i.size
 ahR:i.ahR=true->P.stoodInHeld t=false/\P.eqGuardType P.depth t=false
def TyI.isAgg(i:TyI):Bool:=match i.desc with | .struct _ | .array _ _=>true | _=>false
def dW(P:Program)(T:TypeId->Option TyI):Prop:=∀t i,T t=some i->aiO P t i
def kV:Value->AV
 |.bool b=>.bool b
 |.int k n=>.int k n
 |.string s=>.str s.data.toList
 |.pointer none=>.agk
 |.slice none 0 0=>.y9
 |.map none=>.agu
 |.nilFunc=>.nilFunc
 |.nilIface=>.nilIface
 |_=>.undef
def pe:Value->AV
 |.agg cs=>.agg (cs.toList.map kV)
 |v=>kV v
theorem pY(μ:Nat->Place)(n:Nat)(v:Value):af4 μ n (kV v) v:=by unfold kV;split<;>simp[af4]
theorem n9(μ:Nat->Place)(n:Nat):∀Z:List Value,af5 μ n (Z.map kV) Z
 | []=>by simp[af5]
 |v::Z=>br.2 ⟨pY μ n v,n9 μ n Z⟩
theorem yQ(μ:Nat->Place)(n:Nat)(v:Value):af4 μ n (pe v) v:=by
 unfold pe;split
 next cs=>simp only[af4];exact⟨cs.toList,by simp,n9 μ n _⟩
 .exact pY μ n _
def get(env:Env):Operand->AV
 |.tmp t=>ad env t
 |.const v=>pe v
 |.global _=>.undef
 |.func f=>.func f []
def Y3(env:Env)(xs:Array Operand):List AV:=xs.toList.map (get env)
theorem bk{μ n env}{a:Act}(h:agy μ n env a.tmps)(x:Operand):af4 μ n (get env x) (a.eval x):=by
 cases x with
 |tmp t=>exact h t
 |const v=>exact yQ μ n v
 |global g=>simp[get,af4]
 |func f=>simp only[get,af4,Act.eval];exact⟨[],rfl,by simp[af5]⟩
theorem Bs{μ n env}{a:Act}(h:agy μ n env a.tmps)(xs:List Operand):af5 μ n (xs.map (get env)) (xs.map a.eval):=by
 induction xs with
 |nil=>simp[af5]
 |cons x xs ih=>exact br.2 ⟨bk h x,ih⟩
theorem agy.put{μ n env}{a:Act}{d:Nat}{v:AV}{V:Value}(h:agy μ n env a.tmps)(hd:d<a.tmps.size)(y:af4 μ n v V):
  agy μ n ((d,v)::env) (a.put (some d) V).tmps:=by
 intro t;simp only[ad,Act.put];by_cases Z:d=t
 .subst Z
  simp only[if_true,Array.getD_eq_getD_getElem?,Array.getElem?_setIfInBounds_self];simpa [hd] using y
 .simp only[Z,if_false,Array.getD_eq_getD_getElem?,X2 Z]
  simpa [Array.getD_eq_getD_getElem?] using h t
def ix:Nat:=9223372036854775807
def ZO(y:BinOp)(k:IntKind)(a b:Int):Option AV:=
 match y with
 |.add=>some (.int k (k.wrap (a+b)))
 |.sub=>some (.int k (k.wrap (a-b)))
 |.mul=>some (.int k (k.wrap (a*b)))
 |.quo=>if b=0 then none else some (.int k (k.wrap (a.tdiv b)))
 |.rem=>if b=0 then none else some (.int k (a.tmod b))
 |.eql=>some (.bool (decide (a=b)))
 |.neq=>some (.bool (!decide (a=b)))
 |.lss=>some (.bool (decide (a<b)))
 |.leq=>some (.bool (decide (a<=b)))
 |.gtr=>some (.bool (decide (b<a)))
 |.geq=>some (.bool (decide (b<=a)))
 |_=>none
def ZP(y:BinOp)(s t:List UInt8):Option AV:=
 match y with
 |.add=>if s.length+t.length<=ix then some (.str (s++t)) else none
 |.eql=>some (.bool (s==t))
 |.neq=>some (.bool (!(s==t)))
 |.lss=>some (.bool (Op.bytesLess s t))
 |.leq=>some (.bool (Op.bytesLess s t||s==t))
 |.gtr=>some (.bool (!(Op.bytesLess s t||s==t)))
 |.geq=>some (.bool (!Op.bytesLess s t))
 |_=>none
def kJ(i:TyI)(cs:List AV)(y:Nat):Option AV:=
 if i.isAgg then (if y+i.size<=cs.length then some (.agg ((cs.drop y).take i.size)) else none) else cs[y]?
def Tj(T:TypeId->Option TyI)(q:TypeId->AV->AV->Option Bool)(xs y:List AV):List Field->Option Bool
 | []=>some true
 |f::fs=>
  if f.name = "_" then none else
  match T f.type with
  |none=>none
  |some i=>
   match kJ i xs f.offset,kJ i y f.offset with
   |some a,some b=>
    match q f.type a b,Tj T q xs y fs with
    |some p,some r=>some (p&&r)
    |_,_=>none
   |_,_=>none
def Yr(q:AV->AV->Option Bool)(i:TyI)(xs y:List AV):List Nat->Option Bool
 | []=>some true
 |j::js=>
  match kJ i xs (j*i.size),kJ i y (j*i.size) with
  |some a,some b=>
   match q a b,Yr q i xs y js with
   |some p,some r=>some (p&&r)
   |_,_=>none
  |_,_=>none
def mI(T:TypeId->Option TyI):Nat->TypeId->AV->AV->Option Bool
 |0,_,_,_=>none
 |d+1,t,x,y=>
  match T t with
  |none=>none
  |some i=>
   match i.desc,x,y with
   |.bool,.bool a,.bool b=>some (a==b)
   |.int _,.int k a,.int k' b=>if k=k' then some (decide (a=b)) else none
   |.string,.str a,.str b=>some (a==b)
   |.struct fs,.agg xs,.agg ys=>if i.ahR then Tj T (mI T d) xs ys fs.toList else none
   |.array n e,.agg xs,.agg ys=>if i.ahR then (match T e with
    |some j=>Yr (mI T d e) j xs ys (List.range' 0 n)
    |none=>none) else none
   |_,_,_=>none
def sP:Operand->Bool
 |.const _=>true
 |_=>false
def R7(T:TypeId->Option TyI)(t:TypeId)(r c:Bool)(x y:AV):Option Bool:=
 match T t with
 |none=>none
 |some i=>
  match i.desc,x,y with
  |.slice _,.slice _ _ _ _,.y9=>some false
  |.slice _,.y9,.y9=>some true
  |.pointer _,.agk,.agk=>some true
  |.pointer _,.ptr _ _,.agk=>some false
  |.func _ _ _,.nilFunc,.nilFunc=>some true
  |.func _ _ _,.func _ _,.nilFunc=>some false
  |.interface _,.nilIface,.nilIface=>if r||c then some true else none
  |.interface _,.iface _ _,.nilIface=>some false
  |_,_,_=>none
def ZN(T:TypeId->Option TyI)(H:BinOp)(t:TypeId)(r c:Bool)(x y:AV):Option AV:=
 match x,y with
 |.int k a,.int k' b=>if k=k' then ZO H k a b else none
 |.str s,.str t=>ZP H s t
 |.bool a,.bool b=>match T t with
  |some i=>match i.desc,H with
   |.bool,.eql=>some (.bool (a==b))
   |.bool,.neq=>some (.bool (!(a==b)))
   |_,_=>none
  |none=>none
 |.agg xs,.agg ys=>match H with
  |.eql=>(mI T 20 t (.agg xs) (.agg ys)).map .bool
  |.neq=>(mI T 20 t (.agg xs) (.agg ys)).map fun b=>.bool (!b)
  |_=>none
 |x,y=>match H with
  |.eql=>(R7 T t r c x y).map .bool
  |.neq=>(R7 T t r c x y).map fun b=>.bool (!b)
  |_=>none
def qR(y:Nat->Option (Nat×Nat))(cells:List AV):List (Nat×AV)->Option (List AV)
 | []=>some cells
 |(i,v)::rest=>
  match y i with
  |none=>none
  |some (off,size)=>
   if v.known&&decide (v.cells.length=size)&&decide (off+size<=cells.length) then
    qR y (cells.take off++v.cells++cells.drop (off+size)) rest
   else none
def aF(T:TypeId->Option TyI)(y:Array Field)(i:Nat):Option (Nat×Nat):=
 match y[i]? with
 |some f=>match T f.type with
  |some j=>some (f.offset,j.size)
  |none=>none
 |none=>none
def bZ(T:TypeId->Option TyI)(t:TypeId)(parts:List (Nat×AV)):Option AV:=
 match T t with
 |none=>none
 |some i=>
  match i.desc with
  |.struct fs=>if fs.all (fun f=>(T f.type).isSome) then (qR (aF T fs) (pe i.zero).cells parts).map .agg else none
  |.array _ e=>match T e with
   |some j=>(qR (fun k=>some (k*j.size,j.size)) (pe i.zero).cells parts).map .agg
   |none=>none
  |_=>none
def Bk(T:TypeId->Option TyI)(s d:TypeId)(x:AV):Option AV:=
 match T s,T d with
 |some i,some j=>
  match i.desc,j.desc,x with
  |.int _,.int k,.int _ n=>some (.int k (k.wrap n))
  |.string,.string,.str s=>some (.str s)
  |_,_,_=>none
 |_,_=>none
def VX(n:Nat):Option AV->Option Int
 |none=>some n
 |some (.int _ h)=>some h
 |_=>none
def VZ:Option AV->Option Int
 |none=>some 0
 |some (.int _ h)=>some h
 |_=>none
def PT(T:TypeId->Option TyI)(mem:Mem)(t:TypeId)(x:AV)(y H:Option AV):Option AV:=
 match T t with
 |none=>none
 |some i=>
  match i.desc,x with
  |.string,.str s=>
   match VX s.length H,VZ y with
   |some h,some l=>if 0<=l/\l<=h/\h<=s.length then some (.str ((s.drop l.toNat).take (h.toNat-l.toNat))) else none
   |_,_=>none
  |.slice e,.slice b o n c=>
   match T e,mem[b]? with
   |some j,some (.cells _ es cs)=>
    match VX n H,VZ y with
    |some h,some l=>
     if 0<=l/\l<=h/\h<=n/\(l=0\/l<n)/\es=j.size/\0<es/\es<1000/\o+n*es<=cs.length/\c=none then
      some (.slice b (o+l.toNat*es) (h.toNat-l.toNat) none) else none
    |_,_=>none
   |_,_=>none
  |.slice e,.y9=>
   match T e with
   |some _=>
    match VX 0 H,VZ y with
    |some h,some l=>if h=0/\l=0 then some .y9 else none
    |_,_=>none
   |none=>none
  |.array n e,.ptr b o=>
   match T e with
   |some j=>
    match VX n H,VZ y with
    |some h,some l=>
     if 0<=l/\l<=h/\h<=n/\l<n then some (.slice b (o+l.toNat*j.size) (h.toNat-l.toNat) (some (n-l.toNat))) else none
    |_,_=>none
   |none=>none
  |_,_=>none
def tN(T:TypeId->Option TyI)(t:TypeId)(x i:AV):Option AV:=
 match T t with
 |none=>none
 |some ti=>
  match ti.desc,x,i with
  |.slice e,.slice b o n _,.int _ k=>match T e with
   |some j=>if 0<=k/\k<n then some (.ptr b (o+k.toNat*j.size)) else none
   |none=>none
  |.array n e,.ptr b o,.int _ k=>match T e with
   |some j=>if 0<=k/\k<n then some (.ptr b (o+k.toNat*j.size)) else none
   |none=>none
  |_,_,_=>none
def PR(T:TypeId->Option TyI)(t:TypeId)(x i:AV):Option AV:=
 match T t with
 |none=>none
 |some ti=>
  match ti.desc,x,i with
  |.array n e,.agg cs,.int _ k=>match T e with
   |some j=>if 0<=k/\k<n then kJ j cs (k.toNat*j.size) else none
   |none=>none
  |.string,.str s,.int _ k=>if 0<=k then (match s[k.toNat]? with | some c=>some (.int .u8 c.toNat) | none=>none) else none
  |_,_,_=>none
def oQ(T:TypeId->Option TyI)(t:TypeId)(x:AV)(f:Nat):Option AV:=
 match T t with
 |none=>none
 |some ti=>
  match ti.desc,x with
  |.struct fs,.agg cs=>match fs[f]? with
   |some fd=>match T fd.type with
    |some j=>kJ j cs fd.offset
    |none=>none
   |none=>none
  |_,_=>none
def tM(T:TypeId->Option TyI)(t:TypeId)(x:AV)(f:Nat):Option AV:=
 match T t with
 |none=>none
 |some ti=>
  match ti.desc,x with
  |.struct fs,.ptr b o=>match fs[f]? with
   |some fd=>match T fd.type with
    |some j=>if j.size=0 then none else some (.ptr b (o+fd.offset))
    |none=>none
   |none=>none
  |_,_=>none
def CO(T:TypeId->Option TyI)(t:TypeId)(mem:Mem)(x:AV):Option AV:=
 match T t with
 |none=>none
 |some ti=>
  match ti.desc,x with
  |.string,.str s=>some (.int .i64 s.length)
  |.slice _,.slice _ _ n _=>some (.int .i64 n)
  |.slice _,.y9=>some (.int .i64 0)
  |.array n _,_=>some (.int .i64 n)
  |.map _ _,.agu=>some (.int .i64 0)
  |.map _ _,.map b=>match mem[b]? with
   |some (.map es)=>some (.int .i64 es.length)
   |_=>none
  |_,_=>none
def R6(T:TypeId->Option TyI)(mem:Mem)(t:TypeId)(x:AV):Option AV:=
 match T t,x with
 |some i,.ptr b o=>match mem[b]? with
  |some (.cells _ _ cs)=>kJ i cs o
  |_=>none
 |_,_=>none
def uL(T:TypeId->Option TyI)(mem:Mem)(t:TypeId)(x v:AV):Option Mem:=
 match T t,x with
 |some i,.ptr b o=>match mem[b]? with
  |some (.cells true es cs)=>
   if v.known&&decide (v.cells.length=i.size)&&decide (o+i.size<=cs.length)&&v.cells.all AV.af2 then
    some (mem.set b (.cells true es (cs.take o++v.cells++cs.drop (o+i.size)))) else none
  |_=>none
 |_,_=>none
variable{i:TyI}{k:IntKind}{op:BinOp}{v:AV}{x:Sem Value}
section
variable {P:Program}{T:TypeId->Option TyI}{μ:Nat->Place}{n:Nat}
def Val(P:Program)(x:Sem Value)(w:World) (μ:Nat->Place)(n:Nat)(v:AV):Prop:=∃V,x.run P w=.ok V w/\af4 μ n v V
theorem Val.int{i:Int}(h:x.run P w=.ok (.int k i) w):Val P x w μ n (.int k i):=⟨_,h,by simp[af4]⟩
theorem Val.bool{b:Bool}(h:x.run P w=.ok (.bool b) w):Val P x w μ n (.bool b):=⟨_,h,by simp[af4]⟩
theorem Val.str{s:List UInt8}(h:x.run P w=.ok (.string ⟨s.toArray⟩) w):Val P x w μ n (.str s):=⟨_,h,by simp[af4]⟩
theorem R4{a b:Int}(h:ZO op k a b=some v)(t:TypeId)(w:World):
  Val P (binOp op t (.int k a) (.int k b)) w μ n v:=by
 cases op<;>simp only[ZO,N3,reduceCtorEq] at h;case add=>subst h;exact .int (by simp[binOp,Op.intArith])
 case sub=>subst h;exact .int (by simp[binOp,Op.intArith])
 case mul=>subst h;exact .int (by simp[binOp,Op.intArith])
 case quo=>
  split at h
  .cases h
  next Z=>cases h;exact .int (by simp[binOp,Op.intDiv,Z])
 case rem=>
  split at h
  .cases h
  next Z=>cases h;exact .int (by simp[binOp,Op.intDiv,Z])
 case eql=>subst h;exact .bool (by simp[binOp,Op.intCmp];try (rw[Bool.eq_iff_iff];simp))
 case neq=>subst h;exact .bool (by simp[binOp,Op.intCmp];try (rw[Bool.eq_iff_iff];simp))
 case lss=>subst h;exact .bool (by simp[binOp,Op.intCmp])
 case leq=>subst h;exact .bool (by simp[binOp,Op.intCmp])
 case gtr=>subst h;exact .bool (by simp[binOp,Op.intCmp])
 case geq=>subst h;exact .bool (by simp[binOp,Op.intCmp])
theorem R9{s u:List UInt8}(h:ZP op s u=some v)(t:TypeId)(w:World):
  Val P (binOp op t (.string ⟨s.toArray⟩) (.string ⟨u.toArray⟩)) w μ n v:=by
 cases op<;>simp only[ZP,N3,reduceCtorEq] at h;case add=>
  split at h
  .rename_i X
   cases h;refine .str ?_;have:¬((9223372036854775807:Int)<((s.length:Int)+(u.length:Int))):=by simp only[ix] at X;omega
   have W:(ByteArray.mk s.toArray).size=s.length:=by simp[ByteArray.size]
   have hu:(ByteArray.mk u.toArray).size=u.length:=by simp[ByteArray.size]
   have Z:(ByteArray.mk s.toArray)++(ByteArray.mk u.toArray)=ByteArray.mk (s++u).toArray:=by apply ByteArray.ext;simp
   simp[binOp,Op.stringOp,W,hu,this,Z]
  .cases h
 case eql=>subst h;exact .bool (by simp[binOp,Op.stringOp])
 case neq=>subst h;exact .bool (by simp[binOp,Op.stringOp])
 case lss=>subst h;exact .bool (by simp[binOp,Op.stringOp])
 case leq=>subst h;exact .bool (by simp[binOp,Op.stringOp])
 case gtr=>subst h;exact .bool (by simp[binOp,Op.stringOp])
 case geq=>subst h;exact .bool (by simp[binOp,Op.stringOp])
section
variable (hT:dW P T){t:TypeId}
include hT t
section
variable (h:T t=some i)
include h
theorem xI(w:World):(Go.isAgg t).run P w=.ok i.isAgg w:=by have Z:=(hT t i h).desc;simp only[Go.isAgg,Sem.run_bind,run_underlying Z,Result.andThen_ok,TyI.isAgg];cases i.desc<;>rfl
theorem dU(w:World):(Go.sizeOf t).run P w=.ok i.size w:=by obtain⟨f,Z,X,_,_⟩:=(hT t i h).info;simp[Go.sizeOf,typeInfo,Z,X]
theorem Ac(w:World):∃f,(typeInfo t).run P w=.ok f w/\f.size=i.size/\f.bytes=i.bytes/\f.zero=some i.zero:=by obtain⟨f,Z,X,W,V⟩:=(hT t i h).info;exact⟨f,by simp[typeInfo,Z],X,W,V⟩
theorem gj(w:World):(zeroValue t).run P w=.ok i.zero w:=by obtain⟨f,Z,W,V,X⟩:=Ac hT h w;simp[zeroValue,Z,X]
end
theorem jR(I:T t=some i){H:List Value}{y:Nat}(h:kJ i cs y=some v)(hr:af5 μ n cs H)(w:World):Val P (part t ⟨H⟩ y) w μ n v:=by
 unfold kJ at h;simp only[part,Val];cases hi:i.isAgg with
 |true=>
  simp only[hi,if_true] at h;split at h
  .rename_i Z
   cases h;have V:=hr.length;refine⟨.agg (Array.extract ⟨H⟩ y (y+i.size)),?_,?_⟩
   .simp[xI hT I,dU hT I,hi]
   .simp only[af4]
    refine⟨(H.drop y).take i.size,?_,(hr.drop y).take i.size⟩;congr 1;apply Array.ext';simp[List.extract]
  .cases h
 |false=>
  simp only[hi,Bool.false_eq_true,if_false] at h;obtain⟨U,X,W⟩:=hr.get y v h;exact⟨U,by simp[xI hT I,hi,X],W⟩
end
theorem af4.bool{b V}(h:af4 μ n (.bool b) V):V=.bool b:=by simpa [af4] using h
theorem af4.int{k i V}(h:af4 μ n (.int k i) V):V=.int k i:=by simpa [af4] using h
theorem af4.str{s V}(h:af4 μ n (.str s) V):V=.string ⟨s.toArray⟩:=by simpa [af4] using h
theorem af4.agg{cs V}(h:af4 μ n (.agg cs) V):∃Z,V=.agg ⟨Z⟩/\af5 μ n cs Z:=by simpa only[af4] using h
theorem FV(hT:dW P T){d:Nat}{q:TypeId->AV->AV->Option Bool}
  (I:∀{t:TypeId}{x y:AV}{b:Bool}{X Y:Value},q t x y=some b->af4 μ n x X->af4 μ n y Y->∀(w:World),(Op.equalIn d t X Y).run P w=.ok b w)
  {xs Q:List AV}{R Ys:List Value}(hx:af5 μ n xs R) (hy:af5 μ n Q Ys) (w:World):
  ∀{H:List Field}{b:Bool},Tj T q xs Q H=some b->(Op.eqFields d ⟨R⟩ ⟨Ys⟩ H).run P w=.ok b w
 | [],b,h=>by simp only[Tj,N3] at h;subst h;simp[Op.eqFields]
 |f::H,b,h=>by
  rw[Tj] at h;split at h
  .cases h
  .rename_i Z
   split at h
   .cases h
   .rename_i i S
    split at h
    .rename_i a c O hc
     split at h
     .rename_i p r M K
      cases h;obtain⟨A,J,W⟩:=jR (P:=P) (μ:=μ) (n:=n) hT S O hx w;obtain⟨C,G,V⟩:=jR (P:=P) (μ:=μ) (n:=n) hT S hc hy w;have F:=I M W V w;have D:=FV hT I hx hy w K;simp only[Op.eqFields,Z,ne_eq,not_false_eq_true,if_true,Sem.run_bind,J,G,F,Result.andThen_ok];cases p
      .simp
      .simp[D]
     .cases h
    .cases h
theorem FU(hT:dW P T){d:Nat}{e:TypeId}{i:TyI}(H:T e=some i){q:AV->AV->Option Bool}
  (Q:∀{x y:AV}{b:Bool}{X Y:Value},q x y=some b->af4 μ n x X->af4 μ n y Y->∀(w:World),(Op.equalIn d e X Y).run P w=.ok b w)
  {xs R:List AV}{Xs Ys:List Value}(hx:af5 μ n xs Xs) (hy:af5 μ n R Ys) (w:World):
  ∀{I:List Nat}{b:Bool},Yr q i xs R I=some b->
   ((forIn I ((none,()):Option Bool×Unit) fun j _=>(do
     let a <-part e ⟨Xs⟩ (j*i.size)
     let c <-part e ⟨Ys⟩ (j*i.size)
     let r <-Op.equalIn d e a c
     if (!r)=true then pure (ForInStep.done (some false,())) else pure (ForInStep.yield (none,())):Sem (ForInStep (Option Bool×Unit)))).run P w=
    .ok (if b then none else some false,()) w)
 | [],b,h=>by simp only[Yr,N3] at h;subst h;simp
 |j::I,b,h=>by
  rw[Yr] at h;split at h
  .rename_i a c V hc
   split at h
   .rename_i p r S O
    cases h;obtain⟨A,M,Z⟩:=jR (P:=P) (μ:=μ) (n:=n) hT H V hx w;obtain⟨C,K,W⟩:=jR (P:=P) (μ:=μ) (n:=n) hT H hc hy w;have J:=Q S Z W w;have G:=FU hT H Q hx hy w O;simp only[List.forIn_cons,Sem.run_bind,M,K,J,Result.andThen_ok];cases p
    .simp
    .simp only[Bool.not_true,Bool.false_eq_true,if_false,Sem.run_pure,Result.andThen_ok,Bool.true_and]
     exact G
   .cases h
  .cases h
theorem jP(hT:dW P T):∀(d:Nat) {t:TypeId} {x y:AV} {b:Bool} {X Y:Value},mI T d t x y=some b->af4 μ n x X->af4 μ n y Y->
  ∀(k:Nat) (w:World),(Op.equalIn (d+k) t X Y).run P w=.ok b w
 |0,_,_,_,_,_,_,h,_,_,_,_=>by simp[mI] at h
 |d+1,t,x,y,b,X,Y,h,hx,hy,k,w=>by
  rw[mI] at h;rw[show d+1+k=d+k+1 by omega];cases ht:T t with
  |none=>rw[ht] at h;cases h
  |some i=>
   rw[ht] at h;simp only at h;have Z:=(hT t i ht).desc;split at h
   .rename_i W
    cases h;rw[hx.bool,hy.bool];rw[W] at Z;exact run_equalIn_bool' w _ t _ _ Z
   .rename_i D Q a I H W
    split at h
    .rename_i C
     cases h;subst C;rw[hx.int,hy.int];rw[W] at Z;rw[run_equalIn_int w _ t _ D _ _ Z];congr 1
    .cases h
   .rename_i W
    cases h;rw[hx.str,hy.str];rw[W] at Z;rw[run_equalIn_string w _ t _ _ Z];simp
   .rename_i B A z W
    split at h
    .rename_i O
     obtain⟨u,rfl,V⟩:=hx.agg;obtain⟨R,rfl,S⟩:=hy.agg;rw[W] at Z;have G:P.fieldsOf t=B:=by simp[Program.fieldsOf,Z]
     rw[run_equalIn_agg w _ t _ _ (by rw[Z,G]) ((hT t i ht).ahR O).1,G];exact FV hT (fun M K h3 w=>jP hT d M K h3 k w) V S w h
    .cases h
   .rename_i m e A z W
    split at h
    .split at h
     .rename_i j F
      obtain⟨u,rfl,V⟩:=hx.agg;obtain⟨R,rfl,S⟩:=hy.agg;rw[W] at Z;have J:=FU hT F (d:=d+k) (fun M K h3 w=>jP hT d M K h3 k w) V S w h;simp only[Op.equalIn,Sem.run_bind,run_underlying Z,Result.andThen_ok,dU hT F];simp only[Std.Legacy.Range.forIn_eq_forIn_range',Std.Legacy.Range.size,QXX,Nat.add_sub_cancel,Nat.div_one];rw[J];cases b<;>rfl
     .cases h
    .cases h
   .cases h
end
end Go.Eng
namespace Go.Eng
variable{X Y:Value}
section
variable {P:Program}{T:TypeId->Option TyI}{μ:Nat->Place}{n:Nat}
theorem ig(t:TypeId)(X Y:Value):Op.equal t X Y=Op.equalIn (9999+1) t X Y:=rfl
theorem FH(hT:dW P T){t:TypeId}{x y:AV}{b:Bool}(hx:af4 μ n x X)(H:af4 μ n y Y)(I Q:Operand)(h:R7 T t (sP I) (sP Q) x y=some b)(w:World):
  (∀Z,(eqGuard Z t I Q X Y).run P w=.ok () w)/\(Op.equal t X Y).run P w=.ok b w/\(∀Z:BinOp,Z=.eql\/Z=.neq->binOp Z t X Y=(if Z=.eql then (do pure (.bool (<-Op.equal t X Y))) else (do pure (.bool (!(<-Op.equal t X Y)))))):=by
 unfold R7 at h;cases ht:T t with
 |none=>rw[ht] at h;cases h
 |some i=>
  rw[ht] at h;simp only at h;have W:=(hT t i ht).desc;split at h
  .rename_i V;cases h;rw[V] at W
   simp only[af4] at hx H;obtain⟨_,rfl⟩:=hx;subst H;exact⟨fun Z=>by rw[eqGuard_at_slice];rfl,by rw[ig,Op.equalIn];simp[run_underlying W],by intro Z S;cases S with | inl e=>subst e;rfl | inr e=>subst e;rfl⟩
  .rename_i V;cases h;rw[V] at W
   simp only[af4] at hx H;subst hx;subst H;exact⟨fun Z=>by rw[eqGuard_at_slice];rfl,by rw[ig,Op.equalIn];simp[run_underlying W],by intro Z S;cases S with | inl e=>subst e;rfl | inr e=>subst e;rfl⟩
  .rename_i V;cases h;rw[V] at W
   simp only[af4] at hx H;subst hx;subst H;exact⟨fun Z=>by rw[eqGuard_at_pointer];rfl,by rw[ig,Op.equalIn];simp[run_underlying W],by intro Z S;cases S with | inl e=>subst e;rfl | inr e=>subst e;rfl⟩
  .rename_i V;cases h;rw[V] at W
   simp only[af4] at hx H;obtain⟨_,rfl⟩:=hx;subst H;exact⟨fun Z=>by rw[eqGuard_at_pointer];rfl,by rw[ig,Op.equalIn];simp[run_underlying W],by intro Z S;cases S with | inl e=>subst e;rfl | inr e=>subst e;rfl⟩
  .rename_i V;cases h;rw[V] at W
   simp only[af4] at hx H;subst hx;subst H;exact⟨fun Z=>by rw[eqGuard_at_nilFunc];rfl,by rw[ig,Op.equalIn];simp[run_underlying W],by intro Z S;cases S with | inl e=>subst e;rfl | inr e=>subst e;rfl⟩
  .rename_i V;cases h;rw[V] at W
   simp only[af4] at hx H;obtain⟨_,rfl,_⟩:=hx;subst H;exact⟨fun Z=>by rw[eqGuard_at_func];rfl,by rw[ig,Op.equalIn];simp[run_underlying W],by intro Z S;cases S with | inl e=>subst e;rfl | inr e=>subst e;rfl⟩
  .rename_i V;rw[V] at W
   simp only[af4] at hx H;subst hx;subst H;split at h
   .rename_i hc;cases h
    refine⟨fun Z=>?_,by rw[ig,Op.equalIn];simp[run_underlying W],by intro Z S;cases S with | inl e=>subst e;rfl | inr e=>subst e;rfl⟩;cases I<;>cases Q<;>simp[sP] at hc<;>first | (rw[eqGuard_nil_constR];rfl) | (rw[eqGuard_nil_constL];rfl)
   .cases h
  .rename_i V;cases h;rw[V] at W
   simp only[af4] at hx H;obtain⟨_,rfl,_⟩:=hx;subst H;exact⟨fun Z=>by rw[eqGuard_at_iface];rfl,by rw[ig,Op.equalIn];simp[run_underlying W],by intro Z S;cases S with | inl e=>subst e;rfl | inr e=>subst e;rfl⟩
  .cases h
theorem R1(hT:dW P T){R:BinOp}{t:TypeId}{x y v:AV}(hx:af4 μ n x X)(H:af4 μ n y Y)(I Q:Operand)(h:ZN T R t (sP I) (sP Q) x y=some v)(w:World):
  Val P (do eqGuard R t I Q X Y;binOp R t X Y) w μ n v:=by
 unfold ZN at h;split at h
 .rename_i k a z b
  split at h
  .rename_i G
   subst G;rw[hx.int,H.int];obtain⟨V,W,S⟩:=R4 (P:=P) (μ:=μ) (n:=n) h t w;exact⟨V,by rw[eqGuard_at_int];simpa using W,S⟩
  .cases h
 .rw[hx.str,H.str]
  obtain⟨V,W,S⟩:=R9 (P:=P) (μ:=μ) (n:=n) h t w;exact⟨V,by rw[eqGuard_at_string];simpa using W,S⟩
 .rename_i a b
  rw[hx.bool,H.bool];split at h
  .rename_i i F
   have K:=(hT t i F).desc;split at h
   .rename_i J
    cases h;rw[J] at K;refine .bool ?_;rw[eqGuard_at_bool];simp only[binOp,ig,Sem.run_bind,Sem.run_pure,Result.andThen_ok,run_equalIn_bool' w 9999 t a b K]
   .rename_i J
    cases h;rw[J] at K;refine .bool ?_;rw[eqGuard_at_bool];simp only[binOp,ig,Sem.run_bind,Sem.run_pure,Result.andThen_ok,run_equalIn_bool' w 9999 t a b K]
   .cases h
  .cases h
 .rename_i D C
  have M:∀b,mI T 20 t (.agg D) (.agg C)=some b->P.eqGuardType P.depth t=false:=by
   intro b Z;rw[mI] at Z;cases ht:T t with
   |none=>rw[ht] at Z;cases Z
   |some i=>
    rw[ht] at Z;simp only at Z;split at Z
    next W _=>cases W
    next W _=>cases W
    next W _=>cases W
    .split at Z
     next O=>exact((hT t i ht).ahR O).2
     .cases Z
    .split at Z
     next O=>exact((hT t i ht).ahR O).2
     .cases Z
    .cases Z
  split at h
  .simp only[Pl] at h
   obtain⟨b,Z,rfl⟩:=h;have W:=jP hT 20 Z hx H 9980 w;obtain⟨B,rfl,_⟩:=hx.agg;obtain⟨A,rfl,_⟩:=H.agg;refine .bool ?_;simp only[Sem.run_bind,run_eqGuard_agg w _ t I Q _ _ (M b Z),Result.andThen_ok,run_eql_struct,W]
  .simp only[Pl] at h
   obtain⟨b,Z,rfl⟩:=h;have W:=jP hT 20 Z hx H 9980 w;obtain⟨B,rfl,_⟩:=hx.agg;obtain⟨A,rfl,_⟩:=H.agg;refine .bool ?_;simp only[Sem.run_bind,run_eqGuard_agg w _ t I Q _ _ (M b Z),Result.andThen_ok,run_neq_struct,W]
  .cases h
 .split at h
  .simp only[Pl] at h
   obtain⟨b,Z,rfl⟩:=h;obtain⟨W,S,h3⟩:=FH hT hx H I Q Z w;refine .bool ?_;rw[Sem.run_bind,W,Result.andThen_ok,h3 _ (.inl rfl)];simp[S]
  .simp only[Pl] at h
   obtain⟨b,Z,rfl⟩:=h;obtain⟨W,S,h3⟩:=FH hT hx H I Q Z w;refine .bool ?_;rw[Sem.run_bind,W,Result.andThen_ok,h3 _ (.inr rfl)];simp[S]
  .cases h
theorem EW(hT:dW P T){s d:TypeId}{x v:AV}(hx:af4 μ n x X)(h:Bk T s d x=some v)(w:World):
  Val P (convert s d X) w μ n v:=by
 unfold Bk at h;split at h
 .rename_i i j O M
  have Z:=(hT s i O).desc;have W:=(hT d j M).desc;split at h
  .rename_i V S;cases h;rw[hx.int];rw[V] at Z;rw[S] at W
   exact .int (by simp[convert,run_underlying Z,run_underlying W,Conv.intToInt])
  .rename_i V S;cases h;rw[hx.str];rw[V] at Z;rw[S] at W
   exact .str (by simp[convert,run_underlying Z,run_underlying W])
  .cases h
 .cases h
theorem MA(y:Nat):∀(vs:List Value) (k:Nat) (cur:List Value),y+k+vs.length<=cur.length->
  ((vs.zipIdx k).foldl (fun(cs:Array Value) (x:Value×Nat)=>cs.setIfInBounds (y+x.2) x.1) ⟨cur⟩)=⟨cur.take (y+k)++vs++cur.drop (y+k+vs.length)⟩
 | [],k,cur,_=>by simp
 |v::vs,k,cur,h=>by
  simp only[List.zipIdx_cons,List.foldl_cons];have Z:(⟨cur⟩:Array Value).setIfInBounds (y+k) v=⟨cur.set (y+k) v⟩:=by simp
  rw[Z,MA y vs (k+1) (cur.set (y+k) v) (by simp at h |-;omega)];have e:=list_seg_step cur (y+k) v vs (by simp at h |-;omega);simp only[SP,Array.mk.injEq,List.length_cons] at e |-;simpa [QXY,QXJ 1] using e
theorem tX{Q:Nat->Option (Nat×Nat)}:∀{parts:List (Nat×AV)}{cells I :List AV} {H:List (Nat×Value)} {y:List Value},
  qR Q cells parts=some I ->af5 μ n cells y->H.map (·.1)=parts.map (·.1)->af5 μ n (parts.map (·.2)) (H.map (·.2))->
  ∃Z,Instr.fill Q ⟨y⟩ H=some ⟨Z⟩/\af5 μ n I Z
 | [],cells,I,H,y,h,hc,O,_=>by
  simp only[qR,N3] at h;subst h;have:H=[]:=by simpa using O
  subst this;exact⟨y,rfl,hc⟩
 |(i,v)::rest,cells,I,H,y,h,hc,O,hv=>by
  cases H with
  |nil=>simp at O
  |cons p Rest=>
   obtain⟨B,V⟩:=p;simp only[List.map_cons,List.cons.injEq] at O;obtain⟨rfl,O⟩:=O;simp only[List.map_cons] at hv;obtain⟨F,D⟩:=br.1 hv;rw[qR] at h;cases hpl:Q B with
   |none=>rw[hpl] at h;cases h
   |some os=>
    obtain⟨W,S⟩:=os;rw[hpl] at h;simp only at h;split at h
    .rename_i C
     simp only[Es,L0] at C;obtain⟨⟨A,K⟩,z⟩:=C;have M:=F.cells A;have J:V.cells.size=S:=by rw[<-QQm,M.length,K]
     have G:=hc.length;rw[Instr.fill,hpl];simp only;have u:(V.cells.zipIdx.foldl (fun cs (x:Value×Nat)=>cs.setIfInBounds (W+x.2) x.1) (⟨y⟩:Array Value))=⟨y.take W++V.cells.toList++y.drop (W+S)⟩:=by rw[<-Array.foldl_toList,Array.toList_zipIdx,MA W _ 0 y (by rw[M.length,G,K];omega)];simp[J]
     rw[if_neg (by simp[J,G];omega),u];exact tX h (((hc.take W).append M).append (hc.drop _)) O D
    .cases h
theorem Qm{α β:Type}(g:α->Sem β)(hf:α->β)(w:World):∀(l:List α),(∀x∈l,(g x).run P w=.ok (hf x) w)->(l.mapM g).run P w=.ok (l.map hf) w
 | [],_=>by simp
 |x::l,h=>by simp[List.mapM_cons,h x (by simp),Qm g hf w l (fun y Z=>h y (by simp[Z]))]
theorem PC{μ:Nat->Place}{n:Nat}{v:AV}{V:Value}(h:af4 μ n v V)(y:v.cells=[v])(H:V.cells= #[V]):af5 μ n v.cells V.cells.toList:=by rw[y,H];exact br.2 ⟨h,by simp[af5]⟩
theorem E6(v:Value):(kV v).cells=[kV v]:=by unfold kV;split<;>rfl
theorem qh(μ:Nat->Place)(n:Nat)(z:Value):af5 μ n (pe z).cells z.cells.toList:=by
 by_cases h:∃Z,z=.agg Z
 .obtain⟨Z,rfl⟩:=h;exact n9 μ n _
 .have e:pe z=kV z:=by cases z<;>first | rfl | exact absurd ⟨_,rfl⟩ h
  have c:z.cells= #[z]:=by cases z<;>first | rfl | exact absurd ⟨_,rfl⟩ h
  rw[e];exact PC (pY μ n z) (E6 z) c
theorem L3(hT:dW P T){t:TypeId}{parts:List (Nat×AV)}{y:List (Nat×Value)}{v:AV}(h:bZ T t parts=some v)(H:y.map (·.1)=parts.map (·.1))(I:af5 μ n (parts.map (·.2)) (y.map (·.2)))(w:World):
  Val P (Instr.build t ⟨y⟩) w μ n v:=by
 unfold bZ at h;cases ht:T t with
 |none=>rw[ht] at h;cases h
 |some i=>
  rw[ht] at h;simp only at h;have M:=(hT t i ht).desc;have A:=qh μ n i.zero;split at h
  .rename_i W K
   split at h
   .rename_i z
    simp only[Pl] at h;obtain⟨J,V,rfl⟩:=h;obtain⟨Z,G,F⟩:=tX V A H I;rw[K] at M;have O :∀f∈W.toList,∃j,T f.type=some j:=by intro f V;rw[Array.all_eq_true'] at z;have:=z f (by simpa using V);exact Option.isSome_iff_exists.1 this
    have D:(W.mapM fun f=>do pure (f.offset,<-sizeOf f.type):Sem (Array (Nat×Nat))).run P w=
      .ok (W.map fun f=>(f.offset,((T f.type).map (·.size)).getD 0)) w:=by
     rw[Array.mapM_eq_mapM_toList,Sem.run_map];rw[Qm (P:=P) _ (fun f=>(f.offset,((T f.type).map (·.size)).getD 0)) w W.toList (fun f V=>by obtain⟨j,S⟩:=O f V;simp[dU hT S,S])]
     simp only[Result.andThen_ok,Result.ok.injEq,and_true];apply Array.ext';simp
    have C:(fun k=>(W.map fun f=>(f.offset,((T f.type).map (·.size)).getD 0))[k]?)=aF T W:=by
     funext k;simp only[aF,Array.getElem?_map];cases hk:W[k]? with
     |none=>rfl
     |some f=>
      have B:f∈W.toList:=by have:=Array.mem_of_getElem? hk;simpa using this
      obtain⟨j,S⟩:=O f B;simp[S]
    refine⟨.agg ⟨Z⟩,?_,by simp only[af4];exact⟨Z,rfl,F⟩⟩;simp only[Instr.build,Sem.run_bind,gj hT ht,Result.andThen_ok,run_underlying M];erw [D];simp only[Result.andThen_ok,C];rw[show i.zero.cells=⟨i.zero.cells.toList⟩ from rfl,G];rfl
   .cases h
  .rename_i m e K
   split at h
   .rename_i j S
    simp only[Pl] at h;obtain⟨J,V,rfl⟩:=h;obtain⟨Z,G,F⟩:=tX V A H I;rw[K] at M;refine⟨.agg ⟨Z⟩,?_,by simp only[af4];exact⟨Z,rfl,F⟩⟩;simp only[Instr.build,Sem.run_bind,gj hT ht,Result.andThen_ok,run_underlying M,dU hT S];rw[show i.zero.cells=⟨i.zero.cells.toList⟩ from rfl,G];rfl
   .cases h
  .cases h
end
end Go.Eng
namespace Go.Eng
variable{f:Nat}
section
variable {P:Program}{T:TypeId->Option TyI}{μ:Nat->Place}{n:Nat}
theorem af4.ptr{b o V}(h:af4 μ n (.ptr b o) V):b<n/\V=.pointer (some ⟨(μ b).blk,(μ b).off+o,none⟩):=by simpa only[af4] using h
theorem af4.slice{b o l c V}(h:af4 μ n (.slice b o l c) V):b<n/\V=.slice (some ⟨(μ b).blk,(μ b).off+o,none⟩) l (qQ (μ b) o c):=by simpa only[af4] using h
theorem kY{k:IntKind}{i:Int}{y:Nat}(h0:0<=i)(h1:i<=y)(H:BoundsCode)(w:World):
  (Instr.sliceBound (.int k i) y H).run P w=.ok i.toNat w:=by
 simp[Instr.sliceBound,asIntOf,h0,h1]
section
variable (hT:dW P T){t:TypeId}
include hT t
theorem AY{x i v:AV}{X I:Value}(hx:af4 μ n x X)(y:af4 μ n i I)(h:tN T t x i=some v)(w:World):
  Val P (Instr.indexAt t X I) w μ n v:=by
 unfold tN at h;cases ht:T t with
 |none=>rw[ht] at h;cases h
 |some ti=>
  rw[ht] at h;simp only at h;have V:=(hT t ti ht).desc;split at h
  .rename_i e b o m c k j S
   rw[S] at V;split at h
   .rename_i O Z
    split at h
    .rename_i M
     cases h;obtain⟨W,rfl⟩:=hx.slice;rw[y.int];refine⟨.pointer (some ⟨(μ b).blk,(μ b).off+(o+j.toNat*O.size),none⟩),?_,by simp only[af4];exact⟨W,trivial⟩⟩;simp[Instr.indexAt,asIntOf,run_underlying V,M,dU hT Z,Addr.add_lit,QXY]
    .cases h
   .cases h
  .rename_i m e b o k j S
   rw[S] at V;split at h
   .rename_i O Z
    split at h
    .rename_i M
     cases h;obtain⟨W,rfl⟩:=hx.ptr;rw[y.int];refine⟨.pointer (some ⟨(μ b).blk,(μ b).off+(o+j.toNat*O.size),none⟩),?_,by simp only[af4];exact⟨W,trivial⟩⟩;simp[Instr.indexAt,asIntOf,run_underlying V,Instr.sureAddr,M,dU hT Z,Addr.add_lit,QXY]
    .cases h
   .cases h
  .cases h
theorem L5{x i v:AV}{X I:Value}(hx:af4 μ n x X)(y:af4 μ n i I)(h:PR T t x i=some v)(w:World):
  Val P (Instr.index t X I) w μ n v:=by
 unfold PR at h;cases ht:T t with
 |none=>rw[ht] at h;cases h
 |some ti=>
  rw[ht] at h;simp only at h;have W:=(hT t ti ht).desc;split at h
  .rename_i m e C k j S
   rw[S] at W;split at h
   .rename_i B Z
    split at h
    .rename_i K
     obtain⟨A,rfl,O⟩:=hx.agg;rw[y.int];obtain⟨V,J,G⟩:=jR (P:=P) (μ:=μ) (n:=n) hT Z h O w;exact⟨V,by simp[Instr.index,asIntOf,run_underlying W,K,dU hT Z,J],G⟩
    .cases h
   .cases h
  .rename_i s k j S
   rw[S] at W;split at h
   .rename_i F
    split at h
    .rename_i c hc
     cases h;rw[hx.str,y.int];have M :(ByteArray.mk s.toArray)[j.toNat]? =some c:=by have D:j.toNat<s.length:=gL hc;have z:=(N4.1 hc).2;rw[getElem?_pos (ByteArray.mk s.toArray) j.toNat (by simpa [ByteArray.size] using D)];congr 1
     exact .int (by simp[Instr.index,asIntOf,run_underlying W,F,M])
    .cases h
   .cases h
  .cases h
theorem L4{x v:AV}{X:Value}(hx:af4 μ n x X)(h:oQ T t x f=some v)(w:World):
  Val P (Instr.field t X f) w μ n v:=by
 unfold oQ at h;cases ht:T t with
 |none=>rw[ht] at h;cases h
 |some ti=>
  rw[ht] at h;simp only at h;have S:=(hT t ti ht).desc;split at h
  .rename_i G F O
   rw[O] at S;split at h
   .rename_i D Z
    split at h
    .rename_i j M
     obtain⟨C,rfl,W⟩:=hx.agg;obtain⟨V,K,J⟩:=jR (P:=P) (μ:=μ) (n:=n) hT M h W w;exact⟨V,by simp[Instr.field,run_underlying S,Z,asAgg,K],J⟩
    .cases h
   .cases h
  .cases h
theorem AX{x v:AV}{X:Value}(hx:af4 μ n x X)(h:tM T t x f=some v)(w:World):
  Val P (Instr.fieldAt t X f) w μ n v:=by
 unfold tM at h;cases ht:T t with
 |none=>rw[ht] at h;cases h
 |some ti=>
  rw[ht] at h;simp only at h;have S:=(hT t ti ht).desc;split at h
  .rename_i J b o O
   rw[O] at S;split at h
   .rename_i M Z
    split at h
    .rename_i j K
     split at h
     .cases h
     .rename_i W
      cases h;obtain⟨V,rfl⟩:=hx.ptr;refine⟨.pointer (some ⟨(μ b).blk,(μ b).off+(o+M.offset),none⟩),?_,by simp only[af4];exact⟨V,trivial⟩⟩;simp[Instr.fieldAt,run_underlying S,Z,Instr.sureAddr,fieldPlace,Addr.add_lit,QXY,dU hT K,W]
    .cases h
   .cases h
  .cases h
end
end
end Go.Eng
namespace Go.Eng
section
variable {P:Program}{T:TypeId->Option TyI}{μ:Nat->Place}{mem:Mem}{base:Nat}{w:World}
theorem tP(s:List UInt8):(ByteArray.mk s.toArray).size=s.length:=by simp[ByteArray.size]
theorem agh.cell(y:agh base μ mem w){b:Nat}{own es cs}(H:mem[b]? =some (.cells own es cs)){j:Nat}{v:AV}(I:cs[j]? =some v):
  ∃V,w.cell? ⟨(μ b).blk,(μ b).off+j,none⟩=some V/\af4 μ mem.length v V:=by
 have Z:=y.slot b _ H;simp only[agj] at Z;obtain⟨X,e,K,W,_,_,S,_⟩:=Z;obtain⟨V,O,M⟩:=S j v I;exact⟨V,by simp[World.cell?,W,O],M⟩
theorem agh.cells(y:agh base μ mem w){b:Nat}{own es cs}(H:mem[b]? =some (.cells own es cs)){o k:Nat}(hk:o+k<=cs.length):
  ∃Z,af5 μ mem.length ((cs.drop o).take k) Z/\Z.length=k/\∀(j:Nat) u,Z[j]? =some u->w.cell? ((⟨(μ b).blk,(μ b).off+o,none⟩:Addr).add j)=some u:=by
 induction k with
 |zero=>exact⟨[],by simp[af5],rfl,by simp⟩
 |succ k ih=>
  obtain⟨Z,O,W,h3⟩:=ih (by omega);have S:o+k<cs.length:=by omega
  obtain⟨V,M,K⟩:=y.cell H (j:=o+k) (v:=cs[o+k]) (by simp[S]);refine⟨Z++[V],?_,by simp[W],fun j u hu=>?_⟩
  .rw[List.take_add_one]
   have:(cs.drop o)[k]? =some cs[o+k]:=by simp[QQc,S]
   rw[this];exact O.append (br.2 ⟨K,by simp[af5]⟩)
  .by_cases J:j<Z.length
   .rw[Hi J] at hu;exact h3 j u hu
   .have X:j=Z.length:=by have:=gL hu;simp at this;omega
    subst X;simp at hu;subst hu;rw[Addr.add_lit,W,QXY];exact M
section
variable (hT:dW P T)(hH:agh base μ mem w)
include hT hH
theorem CP{t:TypeId}{x v:AV}{X:Value}(hx:af4 μ mem.length x X)(h:R6 T mem t x=some v):
  Val P (Instr.loadAt t X) w μ mem.length v:=by
 unfold R6 at h;split at h
 .rename_i i b o Z
  split at h
  .rename_i own es C O
   obtain⟨K,rfl⟩:=hx.ptr;unfold kJ at h;cases hi:i.isAgg with
   |true=>
    simp only[hi,if_true] at h;split at h
    .rename_i W
     cases h;obtain⟨S,J,G,h3⟩:=hH.cells O W;refine⟨.agg S.toArray,?_,by simp only[af4];exact⟨S,rfl,J⟩⟩;have M:=run_loadCells_list (P:=P) w _ S h3;rw[G] at M;simp[Instr.loadAt,Instr.sureAddr,loadVar,xI hT Z,hi,dU hT Z,M]
    .cases h
   |false=>
    simp only[hi,Bool.false_eq_true,if_false] at h;obtain⟨V,F,D⟩:=hH.cell O h;refine⟨V,?_,D⟩;simp[Instr.loadAt,Instr.sureAddr,loadVar,xI hT Z,hi,F]
  .cases h
 .cases h
theorem R5{t ty:TypeId}{x v:AV}{X:Value}(hx:af4 μ mem.length x X)(h:CO T t mem x=some v):
  Val P (Builtin.len_ #[t] ty #[X]) w μ mem.length v:=by
 unfold CO at h;cases ht:T t with
 |none=>rw[ht] at h;cases h
 |some ti=>
  rw[ht] at h;simp only at h;have Z:=(hT t ti ht).desc;split at h
  .rename_i s W;cases h;rw[W] at Z;rw[hx.str]
   exact .int (by simp[Builtin.len_,run_underlying Z,goInt,tP])
  .rename_i W;cases h;rw[W] at Z;rw[hx.slice.2]
   exact .int (by simp[Builtin.len_,run_underlying Z,goInt])
  .rename_i W;cases h;rw[W] at Z
   simp only[af4] at hx;subst hx;exact .int (by simp[Builtin.len_,run_underlying Z,goInt])
  .rename_i m e W;cases h;rw[W] at Z
   exact .int (by simp[Builtin.len_,run_underlying Z,goInt])
  .rename_i W;cases h;rw[W] at Z
   simp only[af4] at hx;subst hx;exact .int (by simp[Builtin.len_,run_underlying Z,goInt])
  .rename_i b W;rw[W] at Z
   simp only[af4] at hx;obtain⟨S,rfl⟩:=hx;split at h
   .rename_i es O
    cases h;have V:=hH.slot b _ O;simp only[agj] at V;obtain⟨M,K,J,_,G,_⟩:=V;refine .int ?_;have F:(getObj (μ b).blk).run P w=.ok (.map M K) w:=by simp[getObj,Sem.run,J]
    simp only[Builtin.len_,List.getElem?_toArray,List.getElem?_cons_zero,Sem.run_bind,run_underlying Z,Result.andThen_ok,F];simp[goInt,G]
   .cases h
  .cases h
theorem L7{t:TypeId}{x v:AV}{X:Value}{y H:Option AV}{I Q:Option Value}(hx:af4 μ mem.length x X)(hlo:(y=none/\I=none)\/∃l L,y=some l/\I=some L/\af4 μ mem.length l L)(hhi:(H=none/\Q=none)\/∃l L,H=some l/\Q=some L/\af4 μ mem.length l L)(h:PT T mem t x y H=some v):
  Val P (Instr.sliceAt t X I Q none) w μ mem.length v:=by
 have J:∀(C:Bool) (M K:Nat) (W Z:Int),VX M H=some W->
   VZ y=some Z->0<=Z->Z<=W->W<=M->M<=K->
   (Instr.sliceBounds C M K I Q none).run P w=.ok (Z.toNat,W.toNat,K) w:=by
  intro C M K W Z V S h0 h1 h2 h3;have z :W<=K:=by omega
  have h1' :Z<=((W.toNat:Nat):Int):=by omega
  have u :0<=W:=by omega
  rcases hhi with⟨rfl,rfl⟩ | ⟨a,A,rfl,rfl,hA⟩<;>rcases hlo with⟨rfl,rfl⟩ | ⟨b,B,rfl,rfl,hB⟩
  .simp only[VX,VZ,N3] at V S;subst V;subst S
   simp[Instr.sliceBounds]
  .cases b<;>simp only[VX,VZ,reduceCtorEq,N3] at V S
   subst V;subst S;rw[hB.int];simp[Instr.sliceBounds,kY h0 h1]
  .cases a<;>simp only[VX,VZ,reduceCtorEq,N3] at V S
   subst V;subst S;rw[hA.int];simp[Instr.sliceBounds,kY u z]
  .cases a<;>simp only[VX,reduceCtorEq,N3] at V
   cases b<;>simp only[VZ,reduceCtorEq,N3] at S;subst V;subst S;rw[hA.int,hB.int];simp[Instr.sliceBounds,kY u z,kY h0 h1']
 unfold PT at h;cases ht:T t with
 |none=>rw[ht] at h;cases h
 |some ti=>
  rw[ht] at h;simp only at h;have G:=(hT t ti ht).desc;split at h
  .rename_i s F
   rw[F] at G;split at h
   .rename_i W Z V S
    split at h
    .rename_i Y
     cases h;rw[hx.str];have O:=J false s.length s.length W Z V S Y.1 Y.2.1 Y.2.2 (L9 _);refine .str ?_;have ac8:(ByteArray.mk s.toArray).extract Z.toNat W.toNat=⟨((s.drop Z.toNat).take (W.toNat-Z.toNat)).toArray⟩:=by apply ByteArray.ext;apply Array.ext';simp[List.extract]
     simp[Instr.sliceAt,Instr.slice,run_underlying G,tP,O,ac8]
    .cases h
   .cases h
  .rename_i e b o m c F
   rw[F] at G;split at h
   .rename_i j own es cs R Y
    split at h
    .rename_i W Z V S
     split at h
     .rename_i hc
      obtain⟨g1,g2,g3,g4,g5,g6,g6',g7,rfl⟩:=hc;cases h;obtain⟨D,rfl⟩:=hx.slice;have hs:=hH.slot b _ Y;simp only[agj] at hs;obtain⟨cur,el,fr,hs1,hs2,hs3,_,_⟩:=hs;have hs2:=hs2.es g6';subst hs2;have abm:m<=qQ (μ b) o none:=by simp only[qQ];rw[Nat.le_div_iff_mul_le g6];omega
      have O:=J true m (qQ (μ b) o none) W Z V S g1 g2 g3 abm;refine⟨.slice (some ⟨(μ b).blk,(μ b).off+(o+Z.toNat*(μ b).es),none⟩) (W.toNat-Z.toNat) (qQ (μ b) o none-Z.toNat),?_,?_⟩
      .simp[Instr.sliceAt,Instr.slice,run_underlying G,O,dU hT R]
       by_cases hl0:Z=0
       .subst hl0;simp[Addr.add_lit]
       .have:¬qQ (μ b) o none=Z.toNat:=by omega
        simp[this,Addr.add_lit,g5,QXY]
      .simp only[af4]
       refine⟨D,?_⟩;congr 1;simp only[qQ];have hle:Z.toNat*(μ b).es<=m*(μ b).es:=QQf _ (by omega);rw[show(μ b).tot-(o+Z.toNat*(μ b).es)=(μ b).tot-o-(μ b).es*Z.toNat by rw[V1 (μ b).es];omega];rw[Nat.sub_mul_div]
     .cases h
    .cases h
   .cases h
  .rename_i e F
   rw[F] at G;split at h
   .rename_i j R
    split at h
    .rename_i W Z V S
     split at h
     .rename_i hc
      obtain⟨rfl,rfl⟩:=hc;cases h;simp only[af4] at hx;subst hx;have O:=J true 0 0 0 0 V S (by omega) (by omega) (by omega) (by omega);refine⟨.slice none 0 0,?_,by simp[af4]⟩;simp[Instr.sliceAt,Instr.slice,run_underlying G,O,dU hT R]
     .cases h
    .cases h
   .cases h
  .rename_i m e b o F
   rw[F] at G;split at h
   .rename_i j R
    split at h
    .rename_i W Z V S
     split at h
     .rename_i hc
      obtain⟨g1,g2,g3,g4⟩:=hc;cases h;obtain⟨D,rfl⟩:=hx.ptr;have O:=J false m m W Z V S g1 g2 g3 (L9 _);refine⟨.slice (some ⟨(μ b).blk,(μ b).off+(o+Z.toNat*j.size),none⟩) (W.toNat-Z.toNat) (m-Z.toNat),?_,?_⟩
      .have:¬m=Z.toNat:=by omega
       simp[Instr.sliceAt,run_underlying G,Instr.sureAddr,O,dU hT R,this,Addr.add_lit,QXY]
      .simp only[af4];exact⟨D,rfl⟩
     .cases h
    .cases h
   .cases h
  .cases h
end
end
end Go.Eng
