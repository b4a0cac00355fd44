/- See H38. -/
import Derived.Calls
import Derived.Orders
import Derived.Laws.AppendOwn
import Derived.Laws.Cells
import Derived.Laws.CopyRow
import Derived.Tactics
import Derived.Laws.StructEq
import Derived.Laws.Build
set_option linter.all false
namespace Go.Eng
def An:=@List.take_of_length_le
def Ar:=@Bool.and_eq_true
def Cs:=@decide_eq_true_eq
def Es:=@Nat.le_refl
def GE:=@List.getElem?_append_left
def GT:=@List.eq_nil_of_length_eq_zero
def Hi:=@List.getElem?_eq_some_iff
def J1:=@Array.getElem?_eq_some_iff
def LB:=@List.getElem?_eq_getElem
def LU:=@List.drop_eq_getElem_cons
def Lo:=@List.mem_of_getElem?
def L9:=@Nat.pow_le_pow_right
def Mp:=@Option.some.injEq
def M0:=@List.length_take
def M6:=@List.drop_of_length_le
def Nm:=@List.length_append
def Ns:=@List.getElem?_append_right
def Pi:=@Option.map_eq_some_iff
def P1:=@Nat.eq_zero_or_pos
def P3:=@Array.getElem?_setIfInBounds_ne
def SP:=@Nat.mul_comm
def S2:=@List.append_assoc
def V1:=@List.take_length
def V2:=@List.getElem?_take_of_lt
def Y1:=@List.getElem?_map
def Y2:=@Nat.le_trans
def QQQ:=@List.getElem?_set_self
def QQX:=@List.all_cons
def QQY:=@Nat.zero_add
def QQZ:=@List.length_set
def QQJ:=@List.getElem?_drop
def QQK:=@List.getElem?_set_ne
def QQa:=@Nat.mod_eq_of_lt
def QQb:=@Int.toNat_of_nonneg
def QQc:=@Option.some.inj
def QQd:=@List.mem_map
def QQe:=@Nat.mul_le_mul_right
def QQf:=@Int.natAbs_mul
def QQg:=@Nat.sub_zero
def QQh:=@List.length_drop
def QQi:=@Nat.lt_of_lt_of_le
def QQj:=@Bool.or_eq_true
def QQk:=@Nat.mul_assoc
def QQl:=@Array.length_toList
def QQm:=@List.length_map
def QXQ:=@List.drop_drop
def QXX:=@Nat.add_comm
def QXY:=@List.take_append_of_le_length
def QXZ:=@Nat.add_assoc
def QXJ:=@List.getElem?_of_mem
def QXK:=@List.mem_append
def QXa:=@List.length_replicate
theorem w0:IntKind.i64.wrap 0=0:=rfl
theorem w1:IntKind.i64.wrap 1=1:=rfl
theorem w2:IntKind.i64.wrap 2=2:=rfl
theorem w3:IntKind.i64.wrap 3=3:=rfl
theorem w4:IntKind.i64.wrap 4=4:=rfl
theorem w5:IntKind.i64.wrap 5=5:=rfl
theorem w6:IntKind.i64.wrap 6=6:=rfl
theorem w7:IntKind.i64.wrap 7=7:=rfl
theorem xE{α:Type}(e:α):∃x,x=e:=⟨_,rfl⟩
variable{b:Nat}
theorem gU{α:Type}{M:List α}{x:α}(h:M[b]? =some x)(Z:List α):(M++Z)[b]? =some x:=by rw[GE (Hi.1 h).1,h]
theorem lM:(∀{α:Type} {a b:α} {l:List α},(a∈b::l)=(a=b\/a∈l))/\(∀{α:Type} {a:α},(a∈([]:List α))=False)/\∀p:Prop,(p\/False)=p:=⟨fun {_ _ _ _}=>by simp,fun {_ _}=>by simp,fun _=>by simp⟩
theorem lA:(∀{α:Type} (l:List α),[]++l=l)/\(∀{α:Type} (l:List α),l++[]=l)/\∀{α:Type} {a:α} {l k:List α},a::l++k=a::(l++k):=⟨fun _=>rfl,fun _=>List.append_nil _,rfl⟩
theorem lB:(∀{α β:Type} {f:α->β} {a:α} {l:List α},List.map f (a::l)=f a::List.map f l)/\(∀{α β:Type} {f:α->β},List.map f []=[])/\(∀{α:Type} {a b:α} {l k:List α},(a::l=b::k)=(a=b/\l=k))/\∀p:Prop,(p/\True)=p:=⟨rfl,rfl,fun {_ _ _ _ _}=>by simp,fun _=>by simp⟩
theorem gL{α:Type}{l:List α}{i:Nat}{a:α}(h:l[i]? =some a):i<l.length:=(Hi.1 h).1
inductive AV where
 |undef
 |bool (b:Bool)
 |int (k:IntKind) (n:Int)
 |str (s:List UInt8)
 |ptr (b off:Nat)
 |afL
 |slice (b off len:Nat) (cap:Option Nat)
 |kO
 |map (b:Nat)
 |afV
 |yield (b:Nat)
 |func (f:FuncId) (caps:List AV)
 |nilFunc
 |iface (t:TypeId) (v:AV)
 |nilIface
 |agg (cs:List AV)
 |tuple (cs:List AV)
 deriving Inhabited
structure Place where
 blk:Nat
 off:Nat
 tot:Nat
 es:Nat
 deriving Inhabited
def od(p:Place)(o:Nat):Option Nat->Nat
 |some c=>c
 |none=>(p.tot-o) / p.es
mutual
def afx(μ:Nat->Place)(n:Nat):AV->Value->Prop
 |.undef,_=>True
 |.bool b,V=>V=.bool b
 |.int k i,V=>V=.int k i
 |.str s,V=>V=.string ⟨s.toArray⟩
 |.ptr b o,V=>b<n/\V=.pointer (some ⟨(μ b).blk,(μ b).off+o,none⟩)
 |.afL,V=>V=.pointer none
 |.slice b o l c,V=>b<n/\V=.slice (some ⟨(μ b).blk,(μ b).off+o,none⟩) l (od (μ b) o c)
 |.kO,V=>V=.slice none 0 0
 |.map b,V=>b<n/\V=.map (some (μ b).blk)
 |.yield b,V=>b<n/\V=.func (.yield (μ b).blk) #[] #[]
 |.afV,V=>V=.map none
 |.func f X,V=>∃Z,V=.func (.func f) #[] ⟨Z⟩/\afy μ n X Z
 |.nilFunc,V=>V=.nilFunc
 |.iface t v,V=>∃U,V=.iface t U/\afx μ n v U
 |.nilIface,V=>V=.nilIface
 |.agg X,V=>∃Z,V=.agg ⟨Z⟩/\afy μ n X Z
 |.tuple X,V=>∃Z,V=.tuple ⟨Z⟩/\afy μ n X Z
def afy(μ:Nat->Place)(n:Nat):List AV->List Value->Prop
 | [],Us=>Us=[]
 |v::vs,Us=>∃U Z,Us=U::Z/\afx μ n v U/\afy μ n vs Z
end
theorem bW{μ n v vs U Us}:afy μ n (v::vs) (U::Us)↔afx μ n v U/\afy μ n vs Us:=by
 simp only[afy];constructor
 .rintro ⟨V,S,h,Z,X⟩;cases h;exact⟨Z,X⟩
 .rintro ⟨Z,X⟩;exact⟨U,Us,rfl,Z,X⟩
theorem TM{μ n Us}:afy μ n [] Us↔Us=[]:=by simp[afy]
theorem afy.length{μ n}:∀{vs Us},afy μ n vs Us->Us.length=vs.length
 | [],_,h=>by simp[afy] at h;simp[h]
 |v::vs,_,h=>by simp only[afy] at h;obtain⟨U,X,rfl,_,Z⟩:=h;simp[afy.length Z]
theorem afy.get{μ n}:∀{vs Us},afy μ n vs Us->∀(i:Nat) v,vs[i]? =some v->∃U,Us[i]? =some U/\afx μ n v U
 | [],_,_,i,v,h=>by simp at h
 |w::vs,_,h,i,v,hi=>by
  simp only[afy] at h;obtain⟨U,V,rfl,Z,X⟩:=h;cases i with
  |zero=>simp at hi;subst hi;exact⟨U,by simp,Z⟩
  |succ i=>simpa using afy.get X i v (by simpa using hi)
theorem afy.agy{μ n}:∀{vs Us},Us.length=vs.length->(∀(i:Nat) v,vs[i]? =some v->∃U,Us[i]? =some U/\afx μ n v U)->afy μ n vs Us
 | [],Us,hl,_=>by simp[afy];exact GT hl
 |v::vs,[],hl,_=>by simp at hl
 |v::vs,U::Us,hl,h=>by
  refine bW.2 ⟨?_,afy.agy (by simpa using hl) fun i u X=>?_⟩
  .obtain⟨S,Z,V⟩:=h 0 v (by simp)
   simp at Z;subst Z;exact V
  .simpa using h (i+1) u (by simpa using X)
theorem afy.append{μ n}:∀{vs Z ws Ws},afy μ n vs Z->afy μ n ws Ws->afy μ n (vs++ws) (Z++Ws)
 | [],_,ws,Ws,h,h' =>by simp[afy] at h;subst h;simpa using h'
 |v::vs,_,ws,Ws,h,h' =>by simp only[afy] at h;obtain⟨U,Z,rfl,X,V⟩:=h;exact bW.2 ⟨X,afy.append V h'⟩
theorem afy.take{μ n vs Us}(h:afy μ n vs Us)(k:Nat):afy μ n (vs.take k) (Us.take k):=by
 refine afy.agy (by simp[h.length]) fun i v Z=>?_
 rw[List.getElem?_take] at Z;split at Z
 .obtain⟨U,V,X⟩:=h.get i v Z
  exact⟨U,by rw[List.getElem?_take];simp[*],X⟩
 .cases Z
theorem afy.drop{μ n vs Us}(h:afy μ n vs Us)(k:Nat):afy μ n (vs.drop k) (Us.drop k):=by
 refine afy.agy (by simp[h.length]) fun i v Z=>?_
 rw[QQJ] at Z;obtain⟨U,X,V⟩:=h.get _ v Z;exact⟨U,by rw[QQJ];exact X,V⟩
mutual
theorem afx.mono{μ μ' :Nat->Place}{n n' :Nat}(H:n<=n')(hμ:∀b,b<n->μ' b=μ b):∀{v V},afx μ n v V->afx μ' n' v V
 |.undef,V,_=>by simp[afx]
 |.bool b,V,h=>by simpa [afx] using h
 |.int k i,V,h=>by simpa [afx] using h
 |.str s,V,h=>by simpa [afx] using h
 |.ptr b o,V,h=>by simp only[afx] at h |-;exact⟨by omega,by rw[hμ b h.1];exact h.2⟩
 |.afL,V,h=>by simpa [afx] using h
 |.slice b o l c,V,h=>by simp only[afx] at h |-;exact⟨by omega,by rw[hμ b h.1];exact h.2⟩
 |.kO,V,h=>by simpa [afx] using h
 |.map b,V,h=>by simp only[afx] at h |-;exact⟨by omega,by rw[hμ b h.1];exact h.2⟩
 |.yield b,V,h=>by simp only[afx] at h |-;exact⟨by omega,by rw[hμ b h.1];exact h.2⟩
 |.afV,V,h=>by simpa [afx] using h
 |.func f X,V,h=>by simp only[afx] at h |-;obtain⟨Z,rfl,h⟩:=h;exact⟨Z,rfl,afy.mono H hμ h⟩
 |.nilFunc,V,h=>by simpa [afx] using h
 |.iface t v,V,h=>by simp only[afx] at h |-;obtain⟨U,rfl,h⟩:=h;exact⟨U,rfl,afx.mono H hμ h⟩
 |.nilIface,V,h=>by simpa [afx] using h
 |.agg X,V,h=>by simp only[afx] at h |-;obtain⟨Z,rfl,h⟩:=h;exact⟨Z,rfl,afy.mono H hμ h⟩
 |.tuple X,V,h=>by simp only[afx] at h |-;obtain⟨Z,rfl,h⟩:=h;exact⟨Z,rfl,afy.mono H hμ h⟩
theorem afy.mono{μ μ' :Nat->Place}{n n' :Nat}(H:n<=n')(hμ:∀b,b<n->μ' b=μ b):∀{vs Us},afy μ n vs Us->afy μ' n' vs Us
 | [],Us,h=>by simpa [afy] using h
 |v::vs,Us,h=>by simp only[afy] at h |-;obtain⟨U,Z,rfl,X,V⟩:=h;exact⟨U,Z,rfl,afx.mono H hμ X,afy.mono H hμ V⟩
end
mutual
def AV.ren(ρ:Nat->Option Nat):AV->AV
 |.ptr b o=>match ρ b with | some b' =>.ptr b' o | none=>.undef
 |.slice b o l c=>match ρ b with | some b' =>.slice b' o l c | none=>.undef
 |.map b=>match ρ b with | some b' =>.map b' | none=>.undef
 |.yield b=>match ρ b with | some b' =>.yield b' | none=>.undef
 |.func f Z=>.func f (AV.afR ρ Z)
 |.iface t v=>.iface t (AV.ren ρ v)
 |.agg Z=>.agg (AV.afR ρ Z)
 |.tuple Z=>.tuple (AV.afR ρ Z)
 |v=>v
def AV.afR(ρ:Nat->Option Nat):List AV->List AV
 | []=>[]
 |v::vs=>AV.ren ρ v::AV.afR ρ vs
end
mutual
theorem afx.ren{μ μ' :Nat->Place}{n n' :Nat}{ρ:Nat->Option Nat}(hρ:∀b Z,b<n->ρ b=some Z ->Z <n' /\μ' Z =μ b):
  ∀{v V},afx μ n v V->afx μ' n' (v.ren ρ) V
 |.undef,V,_=>by simp[AV.ren,afx]
 |.bool b,V,h=>by simpa [AV.ren,afx] using h
 |.int k i,V,h=>by simpa [AV.ren,afx] using h
 |.str s,V,h=>by simpa [AV.ren,afx] using h
 |.ptr b o,V,h=>by
  simp only[afx] at h;simp only[AV.ren];cases hb:ρ b with
  |none=>simp[afx]
  |some Z =>obtain⟨X,S⟩:=hρ b Z h.1 hb;simp only[afx];exact⟨X,by rw[S];exact h.2⟩
 |.afL,V,h=>by simpa [AV.ren,afx] using h
 |.slice b o l c,V,h=>by
  simp only[afx] at h;simp only[AV.ren];cases hb:ρ b with
  |none=>simp[afx]
  |some Z =>obtain⟨X,S⟩:=hρ b Z h.1 hb;simp only[afx];exact⟨X,by rw[S];exact h.2⟩
 |.kO,V,h=>by simpa [AV.ren,afx] using h
 |.map b,V,h=>by
  simp only[afx] at h;simp only[AV.ren];cases hb:ρ b with
  |none=>simp[afx]
  |some Z =>obtain⟨X,S⟩:=hρ b Z h.1 hb;simp only[afx];exact⟨X,by rw[S];exact h.2⟩
 |.yield b,V,h=>by
  simp only[afx] at h;simp only[AV.ren];cases hb:ρ b with
  |none=>simp[afx]
  |some Z =>obtain⟨X,S⟩:=hρ b Z h.1 hb;simp only[afx];exact⟨X,by rw[S];exact h.2⟩
 |.afV,V,h=>by simpa [AV.ren,afx] using h
 |.func f Q,V,h=>by simp only[afx] at h;simp only[AV.ren,afx];obtain⟨R,rfl,h⟩:=h;exact⟨R,rfl,afy.ren hρ h⟩
 |.nilFunc,V,h=>by simpa [AV.ren,afx] using h
 |.iface t v,V,h=>by simp only[afx] at h;simp only[AV.ren,afx];obtain⟨U,rfl,h⟩:=h;exact⟨U,rfl,afx.ren hρ h⟩
 |.nilIface,V,h=>by simpa [AV.ren,afx] using h
 |.agg Q,V,h=>by simp only[afx] at h;simp only[AV.ren,afx];obtain⟨R,rfl,h⟩:=h;exact⟨R,rfl,afy.ren hρ h⟩
 |.tuple Q,V,h=>by simp only[afx] at h;simp only[AV.ren,afx];obtain⟨R,rfl,h⟩:=h;exact⟨R,rfl,afy.ren hρ h⟩
theorem afy.ren{μ μ' :Nat->Place}{n n' :Nat}{ρ:Nat->Option Nat}(hρ:∀b Z,b<n->ρ b=some Z ->Z <n' /\μ' Z =μ b):
  ∀{vs Us},afy μ n vs Us->afy μ' n' (AV.afR ρ vs) Us
 | [],Us,h=>by simpa [AV.afR,afy] using h
 |v::vs,Us,h=>by simp only[afy] at h;simp only[AV.afR,afy];obtain⟨U,X,rfl,V,S⟩:=h;exact⟨U,X,rfl,afx.ren hρ V,afy.ren hρ S⟩
end
theorem gZ(ρ:Nat->Option Nat):∀Z,AV.afR ρ Z=Z.map (AV.ren ρ)
 | []=>rfl
 |v::Z=>by simp[AV.afR,gZ ρ Z]
def AV.adM:AV->Bool
 |.agg _ | .tuple _ | .undef=>false
 |_=>true
def AV.known:AV->Bool
 |.undef=>false
 |_=>true
def AV.cells:AV->List AV
 |.agg cs=>cs
 |v=>[v]
theorem afx.agS{μ n v V}(h:afx μ n v V)(H:v.adM=true):V.oneCell' =true:=by
 cases v<;>simp[AV.adM] at H<;>simp only[afx] at h;case bool=>subst h;rfl
 case int=>subst h;rfl
 case str=>subst h;rfl
 case ptr=>rw[h.2];rfl
 case afL=>subst h;rfl
 case slice=>rw[h.2];rfl
 case kO=>subst h;rfl
 case map=>rw[h.2];rfl
 case yield=>rw[h.2];rfl
 case afV=>subst h;rfl
 case func=>obtain⟨_,rfl,_⟩:=h;rfl
 case nilFunc=>subst h;rfl
 case iface=>obtain⟨_,rfl,_⟩:=h;rfl
 case nilIface=>subst h;rfl
theorem afx.cells{μ n v V}(h:afx μ n v V)(H:v.known=true):afy μ n v.cells V.cells.toList:=by
 cases v<;>simp[AV.known] at H;case agg cs=>
  simp only[afx] at h;obtain⟨X,rfl,h⟩:=h;simpa [AV.cells,Value.cells] using h
 all_goals
  have Z:=h;simp only[afx] at h;simp only[AV.cells];first
   |(subst h;simpa [afy,Value.cells] using Z)
   |(obtain⟨_,rfl⟩:=h;simpa [afy,Value.cells] using Z)
   |(obtain⟨_,rfl,_⟩:=h;simpa [afy,Value.cells] using Z)
abbrev Env:=List (Nat×AV)
def aa:Env->Nat->AV
 | [],_=>.undef
 |(k,v)::r,t=>if k=t then v else aa r t
def af2(μ:Nat->Place)(n:Nat)(env:Env)(tmps:Array Value):Prop:=∀t,afx μ n (aa env t) (tmps.getD t undef)
theorem af2.mono{μ μ' :Nat->Place}{n n' :Nat}{env tmps}(H:n<=n')(hμ:∀b,b<n->μ' b=μ b)(h:af2 μ n env tmps):af2 μ' n' env tmps:=
 fun t=>(h t).mono H hμ
structure agz where
 st:LoopState
 agx:Option Code
 env:Env
 N:Nat
 ps:Array Tmp
 assign:Code
 body:Code
inductive afz where
 |y9
 |cells (own:Bool) (es:Nat) (cs:List AV)
 |map (es:List (AV×AV))
 |af6 (es:List (AV×AV))
 |loop (r:agz)
 deriving Inhabited
abbrev Mem:=List afz
def afz.own:afz->Bool
 |.cells own _ _=>own
 |.map _=>true
 |.af6 _=>false
 |.loop _=>true
 |.y9=>false
variable{s:afz}
theorem afz.af7(h:s.own=true):s≠ .y9:=by cases s<;>simp_all[afz.own]
def eH(mem:Mem)(b:Nat):Prop:=∃s,mem[b]? =some s/\s.own=true
variable{cs:List AV}{mem:Mem}
theorem qg{es:Nat}(h:mem[b]? =some (.cells true es cs)):eH mem b:=⟨_,h,rfl⟩
theorem LP{mem:Mem}{b:Nat}{es}(h:mem[b]? =some (.map es)):eH mem b:=⟨_,h,rfl⟩
theorem Rv{mem:Mem}{b:Nat}{r}(h:mem[b]? =some (.loop r)):eH mem b:=⟨_,h,rfl⟩
structure agT (μ:Nat->Place)(n:Nat)(r:agz)(L:Loop):Prop where
 st:L.state=r.st
 agx:L.pending=r.agx
 ps:L.params=r.ps
 assign:L.assign=r.assign
 body:L.body=r.body
 size:L.tmps.size=r.N
 tmps:af2 μ n r.env L.tmps
def Ph(μ:Nat->Place)(n:Nat)(e:AV×AV)(E:MapEntry):Prop:=afx μ n e.1 E.key/\afx μ n e.2 E.val
def ahB(p:Place)(es:Nat)(e:TypeId):Prop:=p.es=es%1000/\(1000<=es->e+1=es / 1000)
variable{p:Place}
theorem ahB.small{es:Nat}{e:TypeId}(h:p.es=es)(hs:es<1000):ahB p es e:=⟨by rw[h,QQa hs],fun Z=>by omega⟩
theorem ahB.es{es:Nat}{e:TypeId}(h:ahB p es e)(hs:es<1000):p.es=es:=by rw[h.1,QQa hs]
def ER(H:Array MapEntry)(I:Nat):Prop:=I=H.size/\∀(j:Nat) E,H[j]? =some E->E.born=j
def afM(μ:Nat->Place)(n H:Nat)(w:World)(p:Place):afz->Prop
 |.y9=>True
 |.cells own es cs=>∃X e S,w.heap[p.blk]? =some (.cells X e S)/\ahB p es e/\cs.length<=p.tot/\
   (∀(j:Nat) v,cs[j]? =some v->∃V,X[p.off+j]? =some V/\afx μ n v V)/\
   (own=true->p.off=0/\S=(0,0)/\X.size=p.tot/\H<=p.blk)
 |.map es=>∃Z U,w.heap[p.blk]? =some (.map Z U)/\(H<=p.blk/\ER Z U)/\Z.size=es.length/\
   ∀(j:Nat) e,es[j]? =some e->∃E,Z[j]? =some E/\Ph μ n e E
 |.af6 es=>∃Z U,w.heap[p.blk]? =some (.map Z U)/\ER Z U/\Z.size=es.length/\
   ∀(j:Nat) e,es[j]? =some e->∃E,Z[j]? =some E/\Ph μ n e E
 |.loop r=>∃L,w.heap[p.blk]? =some (.loop L)/\H<=p.blk/\agT μ n r L
structure afJ (base:Nat) (μ:Nat->Place)(mem:Mem)(w:World):Prop where
 afF:base<=w.heap.size
 slot:∀b s,mem[b]? =some s->afM μ mem.length base w (μ b) s
 sep:∀b b' s',eH mem b->mem[b']? =some s' ->s' ≠ .y9->b≠b' ->(μ b).blk≠(μ b').blk
structure Step (m0:Nat) (μ:Nat->Place)(mem:Mem)(w:World) (μ' :Nat->Place) (mem' :Mem) (w' :World):Prop where
 len:m0<=mem'.length
 agree:∀b,b<m0->μ' b=μ b
 os:w'.os=w.os
 tape:w'.tape=w.tape
 output:w'.output=w.output
 size:w.heap.size<=w'.heap.size
 frame:∀k,k<w.heap.size->(∀b,eH mem b->(μ b).blk≠k)->w'.heap[k]? =w.heap[k]?
 owner:∀b,eH mem' b->(μ' b).blk<w.heap.size->∃b0,eH mem b0/\(μ b0).blk=(μ' b).blk
 drawn:w.drawn<=w'.drawn
theorem Step.refl{m0 μ mem w}(h:m0<=mem.length):Step m0 μ mem w μ mem w:=
 ⟨h,fun _ _=>rfl,rfl,rfl,rfl,Es _,fun _ _ _=>rfl,fun b Z _=>⟨b,Z,rfl⟩,Es _⟩
theorem Step.trans{m0 μ mem w μ' mem' w' μ'' mem'' w''}(h:Step m0 μ mem w μ' mem' w')(h' :Step m0 μ' mem' w' μ'' mem'' w''):
  Step m0 μ mem w μ'' mem'' w'' :=by
 refine⟨h'.len,fun b Z=>(h'.agree b Z).trans (h.agree b Z),h'.os.trans h.os,h'.tape.trans h.tape,h'.output.trans h.output,
  Y2 h.size h'.size,fun k X S=>?_,fun b Z R=>?_,Y2 h.drawn h'.drawn⟩
 .rw[h'.frame k (QQi X h.size) ?_,h.frame k X S]
  intro b Z Q;obtain⟨V,N,U⟩:=h.owner b Z (Q▸X);exact S V N (U.trans Q)
 .obtain⟨M,U,O⟩:=h'.owner b Z (QQi R h.size)
  obtain⟨V,h3,K⟩:=h.owner M U (O▸R);exact⟨V,h3,K.trans O⟩
theorem Step.mono{m0 m1 μ mem w μ' mem' w'}(h:Step m1 μ mem w μ' mem' w')(H:m0<=m1):Step m0 μ mem w μ' mem' w' :=
 ⟨Y2 H h.len,fun b Z=>h.agree b (QQi Z H),h.os,h.tape,h.output,h.size,h.frame,h.owner,h.drawn⟩
theorem afJ.agL{base μ mem w w'}(h:afJ base μ mem w)(H:w'.heap=w.heap):afJ base μ mem w' :=by
 refine⟨by rw[H];exact h.afF,fun b s Z=>?_,h.sep⟩;have:=h.slot b s Z;cases s with
 |y9=>trivial
 |cells own esz cs=>simp only[afM] at this |-;rw[H];exact this
 |map es=>simp only[afM] at this |-;rw[H];exact this
 |af6 es=>simp only[afM] at this |-;rw[H];exact this
 |loop r=>simp only[afM] at this |-;rw[H];exact this
theorem Step.drew{m0 μ mem w}(h:m0<=mem.length):Step m0 μ mem w μ mem w.drew:=
 ⟨h,fun _ _=>rfl,rfl,rfl,rfl,Es _,fun _ _ _=>rfl,fun b Z _=>⟨b,Z,rfl⟩,Nat.le_succ _⟩
variable{w:World}
theorem afM.mono{μ μ' :Nat->Place}{n n' base:Nat}{w' :World}(H:n<=n')(hμ:∀b,b<n->μ' b=μ b)(I:s≠ .y9->w'.heap[p.blk]? =w.heap[p.blk]?)(h:afM μ n base w p s):afM μ' n' base w' p s:=by
 cases s with
 |y9=>trivial
 |cells own esz cs=>
  simp only[afM] at h |-;obtain⟨R,e,fr,Z,Q,O,X,h3⟩:=h;refine⟨R,e,fr,by rw[I (by simp),Z],Q,O,fun j v D=>?_,h3⟩;obtain⟨V,hV,C⟩:=X j v D;exact⟨V,hV,C.mono H hμ⟩
 |map es=>
  simp only[afM] at h |-;obtain⟨N,M,Z,X,h3,K⟩:=h;refine⟨N,M,by rw[I (by simp),Z],X,h3,fun j e G=>?_⟩;obtain⟨E,F,U,S⟩:=K j e G;exact⟨E,F,U.mono H hμ,S.mono H hμ⟩
 |af6 es=>
  simp only[afM] at h |-;obtain⟨N,M,Z,X,h3,K⟩:=h;refine⟨N,M,by rw[I (by simp),Z],X,h3,fun j e G=>?_⟩;obtain⟨E,F,U,S⟩:=K j e G;exact⟨E,F,U.mono H hμ,S.mono H hμ⟩
 |loop r=>
  simp only[afM] at h |-;obtain⟨L,Z,X,h3⟩:=h;exact⟨L,by rw[I (by simp),Z],X,{ h3 with tmps:=h3.tmps.mono H hμ }⟩
theorem afM.agi{μ n base w p s}(h:afM μ n base w p s)(hs:s≠ .y9):p.blk<w.heap.size:=by
 cases s with
 |y9=>exact absurd rfl hs
 |cells own esz cs=>simp only[afM] at h;obtain⟨X,e,S,Z,_⟩:=h;exact(J1.1 Z).1
 |map es=>simp only[afM] at h;obtain⟨V,U,Z,_⟩:=h;exact(J1.1 Z).1
 |af6 es=>simp only[afM] at h;obtain⟨V,U,Z,_⟩:=h;exact(J1.1 Z).1
 |loop r=>simp only[afM] at h;obtain⟨L,Z,_⟩:=h;exact(J1.1 Z).1
def upd(μ:Nat->Place)(b:Nat)(p:Place):Nat->Place:=fun x=>if x=b then p else μ x
theorem fq{μ b p}:upd μ b p b=p:=by simp[upd]
theorem xz{μ b p x}(h:x<b):upd μ b p x=μ x:=by simp[upd];intro Z;omega
theorem mh(H:b<mem.length):eH (mem++[s]) b↔eH mem b:=by simp[eH,GE H]
theorem ij(w:World)(o:Obj){k:Nat}(h:k<w.heap.size):(w.alloc o).heap[k]? =w.heap[k]? :=heap_alloc_old w o k h
theorem afJ.push{base μ mem w}(h:afJ base μ mem w)(o:Obj)(s:afz)(p:Place)(H:p.blk=w.heap.size)(hs:afM (upd μ mem.length p) (mem.length+1) base (w.alloc o) p s):
  afJ base (upd μ mem.length p) (mem++[s]) (w.alloc o)/\
  Step mem.length μ mem w (upd μ mem.length p) (mem++[s]) (w.alloc o):=by
 have hμ:∀b,b<mem.length->upd μ mem.length p b=μ b:=fun b X=>xz X
 constructor
 .refine⟨by simp;have:=h.afF;omega,fun b t Q=>?_,fun b U C X V N F=>?_⟩
  .rw[Nm,List.length_singleton]
   by_cases M:b<mem.length
   .rw[GE M] at Q
    rw[hμ b M];refine(h.slot b t Q).mono (Nat.le_succ _) hμ fun N=>?_
    exact ij w o ((h.slot b t Q).agi N)
   .have Z:b=mem.length:=by have:=gL Q;simp at this;omega
    subst Z;simp at Q;subst Q;rw[fq];exact hs
  .by_cases S:b<mem.length<;>by_cases K:U <mem.length
   .rw[hμ b S,hμ U K]
    exact h.sep b U C ((mh S).1 X) (by rwa [GE K] at V) N F
   .have Z:U =mem.length:=by have:=(gL V);simp at this;omega
    subst Z;rw[fq,hμ b S,H];have:(μ b).blk<w.heap.size:=by obtain⟨D,R,G⟩:=(mh S).1 X;exact(h.slot b _ R).agi (afz.af7 G)
    omega
   .have Z:b=mem.length:=by obtain⟨D,R,G⟩:=X;have:=gL R;simp at this;omega
    subst Z;rw[fq,hμ U K,H];have:=(h.slot U C (by rwa [GE K] at V)).agi N;omega
   .have Z:U =mem.length:=by have:=(gL V);simp at this;omega
    have O:b=mem.length:=by obtain⟨D,R,G⟩:=X;have:=gL R;simp at this;omega
    omega
 .refine⟨by simp,hμ,rfl,rfl,rfl,by simp,fun k B _=>ij w o B,fun b X M=>?_,Es _⟩
  by_cases S:b<mem.length
  .exact⟨b,(mh S).1 X,by rw[hμ b S]⟩
  .have O:b=mem.length:=by obtain⟨D,R,G⟩:=X;have:=gL R;simp at this;omega
   subst O;rw[fq,H] at M;omega
theorem afJ.write{base μ mem w}(h:afJ base μ mem w){b:Nat}{s s' :afz}(J:mem[b]? =some s)(H:eH mem b)(acv :s' ≠ .y9->eH (mem.set b s') b){w' :World}(W:w'.drawn=w.drawn)(Y:w'.os=w.os)(abv:w'.tape=w.tape)(acO:w'.output=w.output)(hsz:w'.heap.size=w.heap.size)(I:∀k,k≠(μ b).blk->w'.heap[k]? =w.heap[k]?)(hs:afM μ mem.length base w' (μ b) s'):
  afJ base μ (mem.set b s') w' /\Step mem.length μ mem w μ (mem.set b s') w' :=by
 have G:b<mem.length:=gL J;have own:∀x,eH (mem.set b s') x->eH mem x:=by
  intro x X;by_cases Z:x=b
  .subst Z;exact H
  .obtain⟨K,R,Q⟩:=X
   rw[QQK (Ne.symm Z)] at R;exact⟨K,R,Q⟩
 constructor
 .refine⟨by rw[hsz];exact h.afF,fun x t V=>?_,fun x O t X U N S=>?_⟩
  .rw[QQZ]
   by_cases Z:x=b
   .subst Z
    rw[QQQ G] at V;cases V;exact hs
   .rw[QQK (Ne.symm Z)] at V
    refine(h.slot x t V).mono (Es _) (fun _ _=>rfl) fun N=>I _ ?_
    exact fun M=>h.sep b x t H V N (Ne.symm Z) M.symm
  .by_cases Z:O =b
   .subst Z
    have:=h.sep x O s (own x X) J ?_ S
    .exact this
    .obtain⟨K,R,Q⟩:=H
     rw[R] at J;cases J;exact afz.af7 Q
   .rw[QQK (Ne.symm Z)] at U
    exact h.sep x O t (own x X) U N S
 .refine⟨by simp,fun _ _=>rfl,Y,abv,acO,by omega,fun k D F=>I k ?_,fun x X _=>⟨x,own x X,rfl⟩,Nat.le_of_eq W.symm⟩
  exact fun M=>F b H M.symm
structure TyI where
 desc:TypeDesc
 size:Nat
 bytes:Nat
 zero:Value
 ahf:Bool
 deriving Inhabited
structure aib (P:Program)(t:TypeId)(i:TyI):Prop where
 desc:P.underlying t=some i.desc
 info:∃f,P.info? t=some f/\f.size=i.size/\f.bytes=i.bytes/\f.zero=some i.zero
 ahg:i.zero.cells.size=i.size
 ahf:i.ahf=true->P.stoodInHeld t=false/\P.eqGuardType P.depth t=false
def TyI.isAgg(i:TyI):Bool:=match i.desc with | .struct _ | .array _ _=>true | _=>false
def dS(P:Program)(T:TypeId->Option TyI):Prop:=∀t i,T t=some i->aib P t i
def kc:Value->AV
 |.bool b=>.bool b
 |.int k n=>.int k n
 |.string s=>.str s.data.toList
 |.pointer none=>.afL
 |.slice none 0 0=>.kO
 |.map none=>.afV
 |.nilFunc=>.nilFunc
 |.nilIface=>.nilIface
 |_=>.undef
def oK:Value->AV
 |.agg cs=>.agg (cs.toList.map kc)
 |v=>kc v
theorem pO(μ:Nat->Place)(n:Nat)(v:Value):afx μ n (kc v) v:=by unfold kc;split<;>simp[afx]
theorem nt(μ:Nat->Place)(n:Nat):∀Z:List Value,afy μ n (Z.map kc) Z
 | []=>by simp[afy]
 |v::Z=>bW.2 ⟨pO μ n v,nt μ n Z⟩
theorem yh(μ:Nat->Place)(n:Nat)(v:Value):afx μ n (oK v) v:=by
 unfold oK;split
 next cs=>simp only[afx];exact⟨cs.toList,by simp,nt μ n _⟩
 .exact pO μ n _
def get(env:Env):Operand->AV
 |.tmp t=>aa env t
 |.const v=>oK v
 |.global _=>.undef
 |.func f=>.func f []
def Yx(env:Env)(H:Array Operand):List AV:=H.toList.map (get env)
theorem bY{μ n env}{a:Act}(h:af2 μ n env a.tmps)(x:Operand):afx μ n (get env x) (a.eval x):=by
 cases x with
 |tmp t=>exact h t
 |const v=>exact yh μ n v
 |global g=>simp[get,afx]
 |func f=>simp only[get,afx,Act.eval];exact⟨[],rfl,by simp[afy]⟩
theorem AR{μ n env}{a:Act}(h:af2 μ n env a.tmps)(H:List Operand):afy μ n (H.map (get env)) (H.map a.eval):=by
 induction H with
 |nil=>simp[afy]
 |cons x H ih=>exact bW.2 ⟨bY h x,ih⟩
theorem af2.put{μ n env}{a:Act}{d:Nat}{v:AV}{V:Value}(h:af2 μ n env a.tmps)(hd:d<a.tmps.size)(H:afx μ n v V):
  af2 μ n ((d,v)::env) (a.put (some d) V).tmps:=by
 intro t;simp only[aa,Act.put];by_cases Z:d=t
 .subst Z
  simp only[if_true,Array.getD_eq_getD_getElem?,Array.getElem?_setIfInBounds_self];simpa [hd] using H
 .simp only[Z,if_false,Array.getD_eq_getD_getElem?,P3 Z]
  simpa [Array.getD_eq_getD_getElem?] using h t
def ft:Nat:=9223372036854775807
def Zn(H:BinOp)(k:IntKind)(a b:Int):Option AV:=
 match H with
 |.add=>some (.int k (k.wrap (a+b)))
 |.sub=>some (.int k (k.wrap (a-b)))
 |.mul=>some (.int k (k.wrap (a*b)))
 |.quo=>if b=0 then none else some (.int k (k.wrap (a.tdiv b)))
 |.rem=>if b=0 then none else some (.int k (a.tmod b))
 |.eql=>some (.bool (decide (a=b)))
 |.neq=>some (.bool (!decide (a=b)))
 |.lss=>some (.bool (decide (a<b)))
 |.leq=>some (.bool (decide (a<=b)))
 |.gtr=>some (.bool (decide (b<a)))
 |.geq=>some (.bool (decide (b<=a)))
 |_=>none
def Zo(H:BinOp)(s t:List UInt8):Option AV:=
 match H with
 |.add=>if s.length+t.length<=ft then some (.str (s++t)) else none
 |.eql=>some (.bool (s==t))
 |.neq=>some (.bool (!(s==t)))
 |.lss=>some (.bool (Op.bytesLess s t))
 |.leq=>some (.bool (Op.bytesLess s t||s==t))
 |.gtr=>some (.bool (!(Op.bytesLess s t||s==t)))
 |.geq=>some (.bool (!Op.bytesLess s t))
 |_=>none
def jJ(i:TyI)(cs:List AV)(H:Nat):Option AV:=
 if i.isAgg then (if H+i.size<=cs.length then some (.agg ((cs.drop H).take i.size)) else none) else cs[H]?
def RV(T:TypeId->Option TyI)(q:TypeId->AV->AV->Option Bool)(H I:List AV):List Field->Option Bool
 | []=>some true
 |f::fs=>
  if f.name = "_" then none else
  match T f.type with
  |none=>none
  |some i=>
   match jJ i H f.offset,jJ i I f.offset with
   |some a,some b=>
    match q f.type a b,RV T q H I fs with
    |some p,some r=>some (p&&r)
    |_,_=>none
   |_,_=>none
def Xb(q:AV->AV->Option Bool)(i:TyI)(H I:List AV):List Nat->Option Bool
 | []=>some true
 |j::js=>
  match jJ i H (j*i.size),jJ i I (j*i.size) with
  |some a,some b=>
   match q a b,Xb q i H I js with
   |some p,some r=>some (p&&r)
   |_,_=>none
  |_,_=>none
def kS(T:TypeId->Option TyI):Nat->TypeId->AV->AV->Option Bool
 |0,_,_,_=>none
 |d+1,t,x,y=>
  match T t with
  |none=>none
  |some i=>
   match i.desc,x,y with
   |.bool,.bool a,.bool b=>some (a==b)
   |.int _,.int k a,.int k' b=>if k=k' then some (decide (a=b)) else none
   |.string,.str a,.str b=>some (a==b)
   |.struct fs,.agg xs,.agg ys=>if i.ahf then RV T (kS T d) xs ys fs.toList else none
   |.array n e,.agg xs,.agg ys=>if i.ahf then (match T e with
    |some j=>Xb (kS T d e) j xs ys (List.range' 0 n)
    |none=>none) else none
   |_,_,_=>none
def rZ:Operand->Bool
 |.const _=>true
 |_=>false
def Wk(T:TypeId->Option TyI)(t:TypeId)(r c:Bool)(x y:AV):Option Bool:=
 match T t with
 |none=>none
 |some i=>
  match i.desc,x,y with
  |.slice _,.slice _ _ _ _,.kO=>some false
  |.slice _,.kO,.kO=>some true
  |.pointer _,.afL,.afL=>some true
  |.pointer _,.ptr _ _,.afL=>some false
  |.func _ _ _,.nilFunc,.nilFunc=>some true
  |.func _ _ _,.func _ _,.nilFunc=>some false
  |.interface _,.nilIface,.nilIface=>if r||c then some true else none
  |.interface _,.iface _ _,.nilIface=>some false
  |_,_,_=>none
def Zm(T:TypeId->Option TyI)(H:BinOp)(t:TypeId)(r c:Bool)(x y:AV):Option AV:=
 match x,y with
 |.int k a,.int k' b=>if k=k' then Zn H k a b else none
 |.str s,.str t=>Zo H s t
 |.bool a,.bool b=>match T t with
  |some i=>match i.desc,H with
   |.bool,.eql=>some (.bool (a==b))
   |.bool,.neq=>some (.bool (!(a==b)))
   |_,_=>none
  |none=>none
 |.agg xs,.agg ys=>match H with
  |.eql=>(kS T 20 t (.agg xs) (.agg ys)).map .bool
  |.neq=>(kS T 20 t (.agg xs) (.agg ys)).map fun b=>.bool (!b)
  |_=>none
 |x,y=>match H with
  |.eql=>(Wk T t r c x y).map .bool
  |.neq=>(Wk T t r c x y).map fun b=>.bool (!b)
  |_=>none
def qG(H:Nat->Option (Nat×Nat))(cells:List AV):List (Nat×AV)->Option (List AV)
 | []=>some cells
 |(i,v)::rest=>
  match H i with
  |none=>none
  |some (off,size)=>
   if v.known&&decide (v.cells.length=size)&&decide (off+size<=cells.length) then
    qG H (cells.take off++v.cells++cells.drop (off+size)) rest
   else none
def ag(T:TypeId->Option TyI)(H:Array Field)(i:Nat):Option (Nat×Nat):=
 match H[i]? with
 |some f=>match T f.type with
  |some j=>some (f.offset,j.size)
  |none=>none
 |none=>none
def aD(T:TypeId->Option TyI)(t:TypeId)(parts:List (Nat×AV)):Option AV:=
 match T t with
 |none=>none
 |some i=>
  match i.desc with
  |.struct fs=>if fs.all (fun f=>(T f.type).isSome) then (qG (ag T fs) (oK i.zero).cells parts).map .agg else none
  |.array _ e=>match T e with
   |some j=>(qG (fun k=>some (k*j.size,j.size)) (oK i.zero).cells parts).map .agg
   |none=>none
  |_=>none
def AJ(T:TypeId->Option TyI)(s d:TypeId)(x:AV):Option AV:=
 match T s,T d with
 |some i,some j=>
  match i.desc,j.desc,x with
  |.int _,.int k,.int _ n=>some (.int k (k.wrap n))
  |.string,.string,.str s=>some (.str s)
  |_,_,_=>none
 |_,_=>none
def Vp(n:Nat):Option AV->Option Int
 |none=>some n
 |some (.int _ h)=>some h
 |_=>none
def Vq:Option AV->Option Int
 |none=>some 0
 |some (.int _ h)=>some h
 |_=>none
def Oz(T:TypeId->Option TyI)(mem:Mem)(t:TypeId)(x:AV)(H I:Option AV):Option AV:=
 match T t with
 |none=>none
 |some i=>
  match i.desc,x with
  |.string,.str s=>
   match Vp s.length I,Vq H with
   |some h,some l=>if 0<=l/\l<=h/\h<=s.length then some (.str ((s.drop l.toNat).take (h.toNat-l.toNat))) else none
   |_,_=>none
  |.slice e,.slice b o n c=>
   match T e,mem[b]? with
   |some j,some (.cells _ es cs)=>
    match Vp n I,Vq H with
    |some h,some l=>
     if 0<=l/\l<=h/\h<=n/\(l=0\/l<n)/\es=j.size/\0<es/\es<1000/\o+n*es<=cs.length/\c=none then
      some (.slice b (o+l.toNat*es) (h.toNat-l.toNat) none) else none
    |_,_=>none
   |_,_=>none
  |.slice e,.kO=>
   match T e with
   |some _=>
    match Vp 0 I,Vq H with
    |some h,some l=>if h=0/\l=0 then some .kO else none
    |_,_=>none
   |none=>none
  |.array n e,.ptr b o=>
   match T e with
   |some j=>
    match Vp n I,Vq H with
    |some h,some l=>
     if 0<=l/\l<=h/\h<=n/\l<n then some (.slice b (o+l.toNat*j.size) (h.toNat-l.toNat) (some (n-l.toNat))) else none
    |_,_=>none
   |none=>none
  |_,_=>none
def sO(T:TypeId->Option TyI)(t:TypeId)(x i:AV):Option AV:=
 match T t with
 |none=>none
 |some ti=>
  match ti.desc,x,i with
  |.slice e,.slice b o n _,.int _ k=>match T e with
   |some j=>if 0<=k/\k<n then some (.ptr b (o+k.toNat*j.size)) else none
   |none=>none
  |.array n e,.ptr b o,.int _ k=>match T e with
   |some j=>if 0<=k/\k<n then some (.ptr b (o+k.toNat*j.size)) else none
   |none=>none
  |_,_,_=>none
def Oy(T:TypeId->Option TyI)(t:TypeId)(x i:AV):Option AV:=
 match T t with
 |none=>none
 |some ti=>
  match ti.desc,x,i with
  |.array n e,.agg cs,.int _ k=>match T e with
   |some j=>if 0<=k/\k<n then jJ j cs (k.toNat*j.size) else none
   |none=>none
  |.string,.str s,.int _ k=>if 0<=k then (match s[k.toNat]? with | some c=>some (.int .u8 c.toNat) | none=>none) else none
  |_,_,_=>none
def Cr(T:TypeId->Option TyI)(t:TypeId)(x:AV)(f:Nat):Option AV:=
 match T t with
 |none=>none
 |some ti=>
  match ti.desc,x with
  |.struct fs,.agg cs=>match fs[f]? with
   |some fd=>match T fd.type with
    |some j=>jJ j cs fd.offset
    |none=>none
   |none=>none
  |_,_=>none
def sN(T:TypeId->Option TyI)(t:TypeId)(x:AV)(f:Nat):Option AV:=
 match T t with
 |none=>none
 |some ti=>
  match ti.desc,x with
  |.struct fs,.ptr b o=>match fs[f]? with
   |some fd=>match T fd.type with
    |some j=>if j.size=0 then none else some (.ptr b (o+fd.offset))
    |none=>none
   |none=>none
  |_,_=>none
def ym(T:TypeId->Option TyI)(t:TypeId)(mem:Mem)(x:AV):Option AV:=
 match T t with
 |none=>none
 |some ti=>
  match ti.desc,x with
  |.string,.str s=>some (.int .i64 s.length)
  |.slice _,.slice _ _ n _=>some (.int .i64 n)
  |.slice _,.kO=>some (.int .i64 0)
  |.array n _,_=>some (.int .i64 n)
  |.map _ _,.afV=>some (.int .i64 0)
  |.map _ _,.map b=>match mem[b]? with
   |some (.map es)=>some (.int .i64 es.length)
   |_=>none
  |_,_=>none
def Q1(T:TypeId->Option TyI)(mem:Mem)(t:TypeId)(x:AV):Option AV:=
 match T t,x with
 |some i,.ptr b o=>match mem[b]? with
  |some (.cells _ _ cs)=>jJ i cs o
  |_=>none
 |_,_=>none
def tT(T:TypeId->Option TyI)(mem:Mem)(t:TypeId)(x v:AV):Option Mem:=
 match T t,x with
 |some i,.ptr b o=>match mem[b]? with
  |some (.cells true es cs)=>
   if v.known&&decide (v.cells.length=i.size)&&decide (o+i.size<=cs.length)&&v.cells.all AV.adM then
    some (mem.set b (.cells true es (cs.take o++v.cells++cs.drop (o+i.size)))) else none
  |_=>none
 |_,_=>none
variable{i:TyI}{k:IntKind}{op:BinOp}{v:AV}{x:Sem Value}
section
variable {P:Program}{T:TypeId->Option TyI}{μ:Nat->Place}{n:Nat}
def Val(P:Program)(x:Sem Value)(w:World) (μ:Nat->Place)(n:Nat)(v:AV):Prop:=∃V,x.run P w=.ok V w/\afx μ n v V
theorem Val.int{i:Int}(h:x.run P w=.ok (.int k i) w):Val P x w μ n (.int k i):=⟨_,h,by simp[afx]⟩
theorem Val.bool{b:Bool}(h:x.run P w=.ok (.bool b) w):Val P x w μ n (.bool b):=⟨_,h,by simp[afx]⟩
theorem Val.str{s:List UInt8}(h:x.run P w=.ok (.string ⟨s.toArray⟩) w):Val P x w μ n (.str s):=⟨_,h,by simp[afx]⟩
theorem QZ{a b:Int}(h:Zn op k a b=some v)(t:TypeId)(w:World):
  Val P (binOp op t (.int k a) (.int k b)) w μ n v:=by
 cases op<;>simp only[Zn,Mp,reduceCtorEq] at h;case add=>subst h;exact .int (by simp[binOp,Op.intArith])
 case sub=>subst h;exact .int (by simp[binOp,Op.intArith])
 case mul=>subst h;exact .int (by simp[binOp,Op.intArith])
 case quo=>
  split at h
  .cases h
  next Z=>cases h;exact .int (by simp[binOp,Op.intDiv,Z])
 case rem=>
  split at h
  .cases h
  next Z=>cases h;exact .int (by simp[binOp,Op.intDiv,Z])
 case eql=>subst h;exact .bool (by simp[binOp,Op.intCmp];try (rw[Bool.eq_iff_iff];simp))
 case neq=>subst h;exact .bool (by simp[binOp,Op.intCmp];try (rw[Bool.eq_iff_iff];simp))
 case lss=>subst h;exact .bool (by simp[binOp,Op.intCmp])
 case leq=>subst h;exact .bool (by simp[binOp,Op.intCmp])
 case gtr=>subst h;exact .bool (by simp[binOp,Op.intCmp])
 case geq=>subst h;exact .bool (by simp[binOp,Op.intCmp])
theorem Q3{s u:List UInt8}(h:Zo op s u=some v)(t:TypeId)(w:World):
  Val P (binOp op t (.string ⟨s.toArray⟩) (.string ⟨u.toArray⟩)) w μ n v:=by
 cases op<;>simp only[Zo,Mp,reduceCtorEq] at h;case add=>
  split at h
  .rename_i X
   cases h;refine .str ?_;have:¬((9223372036854775807:Int)<((s.length:Int)+(u.length:Int))):=by simp only[ft] at X;omega
   have V:(ByteArray.mk s.toArray).size=s.length:=by simp[ByteArray.size]
   have U:(ByteArray.mk u.toArray).size=u.length:=by simp[ByteArray.size]
   have Z:(ByteArray.mk s.toArray)++(ByteArray.mk u.toArray)=ByteArray.mk (s++u).toArray:=by apply ByteArray.ext;simp
   simp[binOp,Op.stringOp,V,U,this,Z]
  .cases h
 case eql=>subst h;exact .bool (by simp[binOp,Op.stringOp])
 case neq=>subst h;exact .bool (by simp[binOp,Op.stringOp])
 case lss=>subst h;exact .bool (by simp[binOp,Op.stringOp])
 case leq=>subst h;exact .bool (by simp[binOp,Op.stringOp])
 case gtr=>subst h;exact .bool (by simp[binOp,Op.stringOp])
 case geq=>subst h;exact .bool (by simp[binOp,Op.stringOp])
section
variable (hT:dS P T){t:TypeId}
include hT t
section
variable (h:T t=some i)
include h
theorem wY(w:World):(Go.isAgg t).run P w=.ok i.isAgg w:=by have Z:=(hT t i h).desc;simp only[Go.isAgg,Sem.run_bind,run_underlying Z,Result.andThen_ok,TyI.isAgg];cases i.desc<;>rfl
theorem dI(w:World):(Go.sizeOf t).run P w=.ok i.size w:=by obtain⟨f,Z,X,_,_⟩:=(hT t i h).info;simp[Go.sizeOf,typeInfo,Z,X]
theorem zJ(w:World):∃f,(typeInfo t).run P w=.ok f w/\f.size=i.size/\f.bytes=i.bytes/\f.zero=some i.zero:=by obtain⟨f,Z,X,V,U⟩:=(hT t i h).info;exact⟨f,by simp[typeInfo,Z],X,V,U⟩
theorem fG(w:World):(zeroValue t).run P w=.ok i.zero w:=by obtain⟨f,Z,V,U,X⟩:=zJ hT h w;simp[zeroValue,Z,X]
end
theorem jh(J:T t=some i){I:List Value}{H:Nat}(h:jJ i cs H=some v)(hr:afy μ n cs I)(w:World):Val P (part t ⟨I⟩ H) w μ n v:=by
 unfold jJ at h;simp only[part,Val];cases hi:i.isAgg with
 |true=>
  simp only[hi,if_true] at h;split at h
  .rename_i Z
   cases h;have S:=hr.length;refine⟨.agg (Array.extract ⟨I⟩ H (H+i.size)),?_,?_⟩
   .simp[wY hT J,dI hT J,hi]
   .simp only[afx]
    refine⟨(I.drop H).take i.size,?_,(hr.drop H).take i.size⟩;congr 1;apply Array.ext';simp[List.extract]
  .cases h
 |false=>
  simp only[hi,Bool.false_eq_true,if_false] at h;obtain⟨U,X,V⟩:=hr.get H v h;exact⟨U,by simp[wY hT J,hi,X],V⟩
end
theorem afx.bool{b V}(h:afx μ n (.bool b) V):V=.bool b:=by simpa [afx] using h
theorem afx.int{k i V}(h:afx μ n (.int k i) V):V=.int k i:=by simpa [afx] using h
theorem afx.str{s V}(h:afx μ n (.str s) V):V=.string ⟨s.toArray⟩:=by simpa [afx] using h
theorem afx.agg{cs V}(h:afx μ n (.agg cs) V):∃Z,V=.agg ⟨Z⟩/\afy μ n cs Z:=by simpa only[afx] using h
theorem Fl(hT:dS P T){d:Nat}{q:TypeId->AV->AV->Option Bool}
  (I:∀{t:TypeId}{x y:AV}{b:Bool}{X Y:Value},q t x y=some b->afx μ n x X->afx μ n y Y->∀(w:World),(Op.equalIn d t X Y).run P w=.ok b w)
  {J W:List AV}{Xs Ys:List Value}(hx:afy μ n J Xs) (hy:afy μ n W Ys) (w:World):
  ∀{H:List Field}{b:Bool},RV T q J W H=some b->(Op.eqFields d ⟨Xs⟩ ⟨Ys⟩ H).run P w=.ok b w
 | [],b,h=>by simp only[RV,Mp] at h;subst h;simp[Op.eqFields]
 |f::H,b,h=>by
  rw[RV] at h;split at h
  .cases h
  .rename_i Z
   split at h
   .cases h
   .rename_i i S
    split at h
    .rename_i a c R Q
     split at h
     .rename_i p r O N
      cases h;obtain⟨A,M,V⟩:=jh (P:=P) (μ:=μ) (n:=n) hT S R hx w;obtain⟨C,K,U⟩:=jh (P:=P) (μ:=μ) (n:=n) hT S Q hy w;have G:=I O V U w;have F:=Fl hT I hx hy w N;simp only[Op.eqFields,Z,ne_eq,not_false_eq_true,if_true,Sem.run_bind,M,K,G,Result.andThen_ok];cases p
      .simp
      .simp[F]
     .cases h
    .cases h
theorem Fk(hT:dS P T){d:Nat}{e:TypeId}{i:TyI}(H:T e=some i){q:AV->AV->Option Bool}
  (J:∀{x y:AV}{b:Bool}{X Y:Value},q x y=some b->afx μ n x X->afx μ n y Y->∀(w:World),(Op.equalIn d e X Y).run P w=.ok b w)
  {W ys:List AV}{Xs Ys:List Value}(hx:afy μ n W Xs) (hy:afy μ n ys Ys) (w:World):
  ∀{I:List Nat}{b:Bool},Xb q i W ys I=some b->
   ((forIn I ((none,()):Option Bool×Unit) fun j _=>(do
     let a <-part e ⟨Xs⟩ (j*i.size)
     let c <-part e ⟨Ys⟩ (j*i.size)
     let r <-Op.equalIn d e a c
     if (!r)=true then pure (ForInStep.done (some false,())) else pure (ForInStep.yield (none,())):Sem (ForInStep (Option Bool×Unit)))).run P w=
    .ok (if b then none else some false,()) w)
 | [],b,h=>by simp only[Xb,Mp] at h;subst h;simp
 |j::I,b,h=>by
  rw[Xb] at h;split at h
  .rename_i a c U S
   split at h
   .rename_i p r R Q
    cases h;obtain⟨A,O,Z⟩:=jh (P:=P) (μ:=μ) (n:=n) hT H U hx w;obtain⟨C,N,V⟩:=jh (P:=P) (μ:=μ) (n:=n) hT H S hy w;have M:=J R Z V w;have K:=Fk hT H J hx hy w Q;simp only[List.forIn_cons,Sem.run_bind,O,N,M,Result.andThen_ok];cases p
    .simp
    .simp only[Bool.not_true,Bool.false_eq_true,if_false,Sem.run_pure,Result.andThen_ok,Bool.true_and]
     exact K
   .cases h
  .cases h
theorem jg(hT:dS P T):∀(d:Nat) {t:TypeId} {x y:AV} {b:Bool} {X Y:Value},kS T d t x y=some b->afx μ n x X->afx μ n y Y->
  ∀(k:Nat) (w:World),(Op.equalIn (d+k) t X Y).run P w=.ok b w
 |0,_,_,_,_,_,_,h,_,_,_,_=>by simp[kS] at h
 |d+1,t,x,y,b,X,Y,h,hx,hy,k,w=>by
  rw[kS] at h;rw[show d+1+k=d+k+1 by omega];cases ht:T t with
  |none=>rw[ht] at h;cases h
  |some i=>
   rw[ht] at h;simp only at h;have Z:=(hT t i ht).desc;split at h
   .rename_i V
    cases h;rw[hx.bool,hy.bool];rw[V] at Z;exact run_equalIn_bool' w _ t _ _ Z
   .rename_i G W a J I V
    split at h
    .rename_i F
     cases h;subst F;rw[hx.int,hy.int];rw[V] at Z;rw[run_equalIn_int w _ t _ G _ _ Z];congr 1
    .cases h
   .rename_i V
    cases h;rw[hx.str,hy.str];rw[V] at Z;rw[run_equalIn_string w _ t _ _ Z];simp
   .rename_i D C B V
    split at h
    .rename_i R
     obtain⟨u,rfl,U⟩:=hx.agg;obtain⟨o,rfl,S⟩:=hy.agg;rw[V] at Z;have M:P.fieldsOf t=D:=by simp[Program.fieldsOf,Z]
     rw[run_equalIn_agg w _ t _ _ (by rw[Z,M]) ((hT t i ht).ahf R).1,M];exact Fl hT (fun Q O h3 w=>jg hT d Q O h3 k w) U S w h
    .cases h
   .rename_i m e C B V
    split at h
    .split at h
     .rename_i j K
      obtain⟨u,rfl,U⟩:=hx.agg;obtain⟨o,rfl,S⟩:=hy.agg;rw[V] at Z;have N:=Fk hT K (d:=d+k) (fun Q O h3 w=>jg hT d Q O h3 k w) U S w h;simp only[Op.equalIn,Sem.run_bind,run_underlying Z,Result.andThen_ok,dI hT K];simp only[Std.Legacy.Range.forIn_eq_forIn_range',Std.Legacy.Range.size,QQg,Nat.add_sub_cancel,Nat.div_one];rw[N];cases b<;>rfl
     .cases h
    .cases h
   .cases h
end
end Go.Eng
namespace Go.Eng
variable{X Y:Value}
section
variable {P:Program}{T:TypeId->Option TyI}{μ:Nat->Place}{n:Nat}
theorem gG(t:TypeId)(X Y:Value):Op.equal t X Y=Op.equalIn (9999+1) t X Y:=rfl
theorem E8(hT:dS P T){t:TypeId}{x y:AV}{b:Bool}(hx:afx μ n x X)(H:afx μ n y Y)(I J:Operand)(h:Wk T t (rZ I) (rZ J) x y=some b)(w:World):
  (∀Z,(eqGuard Z t I J X Y).run P w=.ok () w)/\(Op.equal t X Y).run P w=.ok b w/\(∀Z:BinOp,Z=.eql\/Z=.neq->binOp Z t X Y=(if Z=.eql then (do pure (.bool (<-Op.equal t X Y))) else (do pure (.bool (!(<-Op.equal t X Y)))))):=by
 unfold Wk at h;cases ht:T t with
 |none=>rw[ht] at h;cases h
 |some i=>
  rw[ht] at h;simp only at h;have V:=(hT t i ht).desc;split at h
  .rename_i U;cases h;rw[U] at V
   simp only[afx] at hx H;obtain⟨_,rfl⟩:=hx;subst H;exact⟨fun Z=>by rw[eqGuard_at_slice];rfl,by rw[gG,Op.equalIn];simp[run_underlying V],by intro Z S;cases S with | inl e=>subst e;rfl | inr e=>subst e;rfl⟩
  .rename_i U;cases h;rw[U] at V
   simp only[afx] at hx H;subst hx;subst H;exact⟨fun Z=>by rw[eqGuard_at_slice];rfl,by rw[gG,Op.equalIn];simp[run_underlying V],by intro Z S;cases S with | inl e=>subst e;rfl | inr e=>subst e;rfl⟩
  .rename_i U;cases h;rw[U] at V
   simp only[afx] at hx H;subst hx;subst H;exact⟨fun Z=>by rw[eqGuard_at_pointer];rfl,by rw[gG,Op.equalIn];simp[run_underlying V],by intro Z S;cases S with | inl e=>subst e;rfl | inr e=>subst e;rfl⟩
  .rename_i U;cases h;rw[U] at V
   simp only[afx] at hx H;obtain⟨_,rfl⟩:=hx;subst H;exact⟨fun Z=>by rw[eqGuard_at_pointer];rfl,by rw[gG,Op.equalIn];simp[run_underlying V],by intro Z S;cases S with | inl e=>subst e;rfl | inr e=>subst e;rfl⟩
  .rename_i U;cases h;rw[U] at V
   simp only[afx] at hx H;subst hx;subst H;exact⟨fun Z=>by rw[eqGuard_at_nilFunc];rfl,by rw[gG,Op.equalIn];simp[run_underlying V],by intro Z S;cases S with | inl e=>subst e;rfl | inr e=>subst e;rfl⟩
  .rename_i U;cases h;rw[U] at V
   simp only[afx] at hx H;obtain⟨_,rfl,_⟩:=hx;subst H;exact⟨fun Z=>by rw[eqGuard_at_func];rfl,by rw[gG,Op.equalIn];simp[run_underlying V],by intro Z S;cases S with | inl e=>subst e;rfl | inr e=>subst e;rfl⟩
  .rename_i U;rw[U] at V
   simp only[afx] at hx H;subst hx;subst H;split at h
   .rename_i R;cases h
    refine⟨fun Z=>?_,by rw[gG,Op.equalIn];simp[run_underlying V],by intro Z S;cases S with | inl e=>subst e;rfl | inr e=>subst e;rfl⟩;cases I<;>cases J<;>simp[rZ] at R<;>first | (rw[eqGuard_nil_constR];rfl) | (rw[eqGuard_nil_constL];rfl)
   .cases h
  .rename_i U;cases h;rw[U] at V
   simp only[afx] at hx H;obtain⟨_,rfl,_⟩:=hx;subst H;exact⟨fun Z=>by rw[eqGuard_at_iface];rfl,by rw[gG,Op.equalIn];simp[run_underlying V],by intro Z S;cases S with | inl e=>subst e;rfl | inr e=>subst e;rfl⟩
  .cases h
theorem QW(hT:dS P T){W:BinOp}{t:TypeId}{x y v:AV}(hx:afx μ n x X)(H:afx μ n y Y)(I J:Operand)(h:Zm T W t (rZ I) (rZ J) x y=some v)(w:World):
  Val P (do eqGuard W t I J X Y;binOp W t X Y) w μ n v:=by
 unfold Zm at h;split at h
 .rename_i k a B b
  split at h
  .rename_i M
   subst M;rw[hx.int,H.int];obtain⟨V,U,S⟩:=QZ (P:=P) (μ:=μ) (n:=n) h t w;exact⟨V,by rw[eqGuard_at_int];simpa using U,S⟩
  .cases h
 .rw[hx.str,H.str]
  obtain⟨V,U,S⟩:=Q3 (P:=P) (μ:=μ) (n:=n) h t w;exact⟨V,by rw[eqGuard_at_string];simpa using U,S⟩
 .rename_i a b
  rw[hx.bool,H.bool];split at h
  .rename_i i K
   have O:=(hT t i K).desc;split at h
   .rename_i N
    cases h;rw[N] at O;refine .bool ?_;rw[eqGuard_at_bool];simp only[binOp,gG,Sem.run_bind,Sem.run_pure,Result.andThen_ok,run_equalIn_bool' w 9999 t a b O]
   .rename_i N
    cases h;rw[N] at O;refine .bool ?_;rw[eqGuard_at_bool];simp only[binOp,gG,Sem.run_bind,Sem.run_pure,Result.andThen_ok,run_equalIn_bool' w 9999 t a b O]
   .cases h
  .cases h
 .rename_i G F
  have Q:∀b,kS T 20 t (.agg G) (.agg F)=some b->P.eqGuardType P.depth t=false:=by
   intro b Z;rw[kS] at Z;cases ht:T t with
   |none=>rw[ht] at Z;cases Z
   |some i=>
    rw[ht] at Z;simp only at Z;split at Z
    next U _=>cases U
    next U _=>cases U
    next U _=>cases U
    .split at Z
     next R=>exact((hT t i ht).ahf R).2
     .cases Z
    .split at Z
     next R=>exact((hT t i ht).ahf R).2
     .cases Z
    .cases Z
  split at h
  .simp only[Pi] at h
   obtain⟨b,Z,rfl⟩:=h;have U:=jg hT 20 Z hx H 9980 w;obtain⟨D,rfl,_⟩:=hx.agg;obtain⟨C,rfl,_⟩:=H.agg;refine .bool ?_;simp only[Sem.run_bind,run_eqGuard_agg w _ t I J _ _ (Q b Z),Result.andThen_ok,run_eql_struct,U]
  .simp only[Pi] at h
   obtain⟨b,Z,rfl⟩:=h;have U:=jg hT 20 Z hx H 9980 w;obtain⟨D,rfl,_⟩:=hx.agg;obtain⟨C,rfl,_⟩:=H.agg;refine .bool ?_;simp only[Sem.run_bind,run_eqGuard_agg w _ t I J _ _ (Q b Z),Result.andThen_ok,run_neq_struct,U]
  .cases h
 .split at h
  .simp only[Pi] at h
   obtain⟨b,Z,rfl⟩:=h;obtain⟨U,S,h3⟩:=E8 hT hx H I J Z w;refine .bool ?_;rw[Sem.run_bind,U,Result.andThen_ok,h3 _ (.inl rfl)];simp[S]
  .simp only[Pi] at h
   obtain⟨b,Z,rfl⟩:=h;obtain⟨U,S,h3⟩:=E8 hT hx H I J Z w;refine .bool ?_;rw[Sem.run_bind,U,Result.andThen_ok,h3 _ (.inr rfl)];simp[S]
  .cases h
theorem EA(hT:dS P T){s d:TypeId}{x v:AV}(hx:afx μ n x X)(h:AJ T s d x=some v)(w:World):
  Val P (convert s d X) w μ n v:=by
 unfold AJ at h;split at h
 .rename_i i j R Q
  have Z:=(hT s i R).desc;have V:=(hT d j Q).desc;split at h
  .rename_i U S;cases h;rw[hx.int];rw[U] at Z;rw[S] at V
   exact .int (by simp[convert,run_underlying Z,run_underlying V,Conv.intToInt])
  .rename_i U S;cases h;rw[hx.str];rw[U] at Z;rw[S] at V
   exact .str (by simp[convert,run_underlying Z,run_underlying V])
  .cases h
 .cases h
theorem Lt(H:Nat):∀(vs:List Value) (k:Nat) (cur:List Value),H+k+vs.length<=cur.length->
  ((vs.zipIdx k).foldl (fun(cs:Array Value) (x:Value×Nat)=>cs.setIfInBounds (H+x.2) x.1) ⟨cur⟩)=⟨cur.take (H+k)++vs++cur.drop (H+k+vs.length)⟩
 | [],k,cur,_=>by simp
 |v::vs,k,cur,h=>by
  simp only[List.zipIdx_cons,List.foldl_cons];have Z:(⟨cur⟩:Array Value).setIfInBounds (H+k) v=⟨cur.set (H+k) v⟩:=by simp
  rw[Z,Lt H vs (k+1) (cur.set (H+k) v) (by simp at h |-;omega)];have e:=list_seg_step cur (H+k) v vs (by simp at h |-;omega);simp only[S2,Array.mk.injEq,List.length_cons] at e |-;simpa [QXZ,QXX 1] using e
theorem sU{W:Nat->Option (Nat×Nat)}:∀{parts:List (Nat×AV)}{cells J :List AV} {I:List (Nat×Value)} {H:List Value},
  qG W cells parts=some J ->afy μ n cells H->I.map (·.1)=parts.map (·.1)->afy μ n (parts.map (·.2)) (I.map (·.2))->
  ∃Z,Instr.fill W ⟨H⟩ I=some ⟨Z⟩/\afy μ n J Z
 | [],cells,J,I,H,h,hc,R,_=>by
  simp only[qG,Mp] at h;subst h;have:I=[]:=by simpa using R
  subst this;exact⟨H,rfl,hc⟩
 |(i,v)::rest,cells,J,I,H,h,hc,R,hv=>by
  cases I with
  |nil=>simp at R
  |cons p Rest=>
   obtain⟨D,V⟩:=p;simp only[List.map_cons,List.cons.injEq] at R;obtain⟨rfl,R⟩:=R;simp only[List.map_cons] at hv;obtain⟨G,F⟩:=bW.1 hv;rw[qG] at h;cases hpl:W D with
   |none=>rw[hpl] at h;cases h
   |some os=>
    obtain⟨U,S⟩:=os;rw[hpl] at h;simp only at h;split at h
    .rename_i O
     simp only[Ar,Cs] at O;obtain⟨⟨C,N⟩,B⟩:=O;have Q:=G.cells C;have M:V.cells.size=S:=by rw[<-QQl,Q.length,N]
     have K:=hc.length;rw[Instr.fill,hpl];simp only;have y:(V.cells.zipIdx.foldl (fun cs (x:Value×Nat)=>cs.setIfInBounds (U+x.2) x.1) (⟨H⟩:Array Value))=⟨H.take U++V.cells.toList++H.drop (U+S)⟩:=by rw[<-Array.foldl_toList,Array.toList_zipIdx,Lt U _ 0 H (by rw[Q.length,K,N];omega)];simp[M]
     rw[if_neg (by simp[M,K];omega),y];exact sU h (((hc.take U).append Q).append (hc.drop _)) R F
    .cases h
theorem OZ{α β:Type}(g:α->Sem β)(hf:α->β)(w:World):∀(l:List α),(∀x∈l,(g x).run P w=.ok (hf x) w)->(l.mapM g).run P w=.ok (l.map hf) w
 | [],_=>by simp
 |x::l,h=>by simp[List.mapM_cons,h x (by simp),OZ g hf w l (fun y Z=>h y (by simp[Z]))]
theorem Oh{μ:Nat->Place}{n:Nat}{v:AV}{V:Value}(h:afx μ n v V)(H:v.cells=[v])(hV:V.cells= #[V]):afy μ n v.cells V.cells.toList:=by rw[H,hV];exact bW.2 ⟨h,by simp[afy]⟩
theorem EJ(v:Value):(kc v).cells=[kc v]:=by unfold kc;split<;>rfl
theorem qf(μ:Nat->Place)(n:Nat)(z:Value):afy μ n (oK z).cells z.cells.toList:=by
 by_cases h:∃Z,z=.agg Z
 .obtain⟨Z,rfl⟩:=h;exact nt μ n _
 .have e:oK z=kc z:=by cases z<;>first | rfl | exact absurd ⟨_,rfl⟩ h
  have c:z.cells= #[z]:=by cases z<;>first | rfl | exact absurd ⟨_,rfl⟩ h
  rw[e];exact Oh (pO μ n z) (EJ z) c
theorem KO(hT:dS P T){t:TypeId}{parts:List (Nat×AV)}{H:List (Nat×Value)}{v:AV}(h:aD T t parts=some v)(I:H.map (·.1)=parts.map (·.1))(J:afy μ n (parts.map (·.2)) (H.map (·.2)))(w:World):
  Val P (Instr.build t ⟨H⟩) w μ n v:=by
 unfold aD at h;cases ht:T t with
 |none=>rw[ht] at h;cases h
 |some i=>
  rw[ht] at h;simp only at h;have Q:=(hT t i ht).desc;have C:=qf μ n i.zero;split at h
  .rename_i V O
   split at h
   .rename_i B
    simp only[Pi] at h;obtain⟨N,U,rfl⟩:=h;obtain⟨Z,M,K⟩:=sU U C I J;rw[O] at Q;have R :∀f∈V.toList,∃j,T f.type=some j:=by intro f U;rw[Array.all_eq_true'] at B;have:=B f (by simpa using U);exact Option.isSome_iff_exists.1 this
    have G:(V.mapM fun f=>do pure (f.offset,<-sizeOf f.type):Sem (Array (Nat×Nat))).run P w=
      .ok (V.map fun f=>(f.offset,((T f.type).map (·.size)).getD 0)) w:=by
     rw[Array.mapM_eq_mapM_toList,Sem.run_map];rw[OZ (P:=P) _ (fun f=>(f.offset,((T f.type).map (·.size)).getD 0)) w V.toList (fun f U=>by obtain⟨j,S⟩:=R f U;simp[dI hT S,S])]
     simp only[Result.andThen_ok,Result.ok.injEq,and_true];apply Array.ext';simp
    have F:(fun k=>(V.map fun f=>(f.offset,((T f.type).map (·.size)).getD 0))[k]?)=ag T V:=by
     funext k;simp only[ag,Array.getElem?_map];cases hk:V[k]? with
     |none=>rfl
     |some f=>
      have D:f∈V.toList:=by have:=Array.mem_of_getElem? hk;simpa using this
      obtain⟨j,S⟩:=R f D;simp[S]
    refine⟨.agg ⟨Z⟩,?_,by simp only[afx];exact⟨Z,rfl,K⟩⟩;simp only[Instr.build,Sem.run_bind,fG hT ht,Result.andThen_ok,run_underlying Q];erw [G];simp only[Result.andThen_ok,F];rw[show i.zero.cells=⟨i.zero.cells.toList⟩ from rfl,M];rfl
   .cases h
  .rename_i m e O
   split at h
   .rename_i j S
    simp only[Pi] at h;obtain⟨N,U,rfl⟩:=h;obtain⟨Z,M,K⟩:=sU U C I J;rw[O] at Q;refine⟨.agg ⟨Z⟩,?_,by simp only[afx];exact⟨Z,rfl,K⟩⟩;simp only[Instr.build,Sem.run_bind,fG hT ht,Result.andThen_ok,run_underlying Q,dI hT S];rw[show i.zero.cells=⟨i.zero.cells.toList⟩ from rfl,M];rfl
   .cases h
  .cases h
end
end Go.Eng
namespace Go.Eng
variable{f:Nat}
section
variable {P:Program}{T:TypeId->Option TyI}{μ:Nat->Place}{n:Nat}
theorem afx.ptr{b o V}(h:afx μ n (.ptr b o) V):b<n/\V=.pointer (some ⟨(μ b).blk,(μ b).off+o,none⟩):=by simpa only[afx] using h
theorem afx.slice{b o l c V}(h:afx μ n (.slice b o l c) V):b<n/\V=.slice (some ⟨(μ b).blk,(μ b).off+o,none⟩) l (od (μ b) o c):=by simpa only[afx] using h
theorem iJ{k:IntKind}{i:Int}{y:Nat}(h0:0<=i)(h1:i<=y)(H:BoundsCode)(w:World):
  (Instr.sliceBound (.int k i) y H).run P w=.ok i.toNat w:=by
 simp[Instr.sliceBound,asIntOf,h0,h1]
section
variable (hT:dS P T){t:TypeId}
include hT t
theorem As{x i v:AV}{X I:Value}(hx:afx μ n x X)(H:afx μ n i I)(h:sO T t x i=some v)(w:World):
  Val P (Instr.indexAt t X I) w μ n v:=by
 unfold sO at h;cases ht:T t with
 |none=>rw[ht] at h;cases h
 |some ti=>
  rw[ht] at h;simp only at h;have U:=(hT t ti ht).desc;split at h
  .rename_i e b o m c k j S
   rw[S] at U;split at h
   .rename_i R Z
    split at h
    .rename_i Q
     cases h;obtain⟨V,rfl⟩:=hx.slice;rw[H.int];refine⟨.pointer (some ⟨(μ b).blk,(μ b).off+(o+j.toNat*R.size),none⟩),?_,by simp only[afx];exact⟨V,trivial⟩⟩;simp[Instr.indexAt,asIntOf,run_underlying U,Q,dI hT Z,Addr.add_lit,QXZ]
    .cases h
   .cases h
  .rename_i m e b o k j S
   rw[S] at U;split at h
   .rename_i R Z
    split at h
    .rename_i Q
     cases h;obtain⟨V,rfl⟩:=hx.ptr;rw[H.int];refine⟨.pointer (some ⟨(μ b).blk,(μ b).off+(o+j.toNat*R.size),none⟩),?_,by simp only[afx];exact⟨V,trivial⟩⟩;simp[Instr.indexAt,asIntOf,run_underlying U,Instr.sureAddr,Q,dI hT Z,Addr.add_lit,QXZ]
    .cases h
   .cases h
  .cases h
theorem KQ{x i v:AV}{X I:Value}(hx:afx μ n x X)(H:afx μ n i I)(h:Oy T t x i=some v)(w:World):
  Val P (Instr.index t X I) w μ n v:=by
 unfold Oy at h;cases ht:T t with
 |none=>rw[ht] at h;cases h
 |some ti=>
  rw[ht] at h;simp only at h;have U:=(hT t ti ht).desc;split at h
  .rename_i m e D k j S
   rw[S] at U;split at h
   .rename_i C Z
    split at h
    .rename_i N
     obtain⟨B,rfl,R⟩:=hx.agg;rw[H.int];obtain⟨V,M,K⟩:=jh (P:=P) (μ:=μ) (n:=n) hT Z h R w;exact⟨V,by simp[Instr.index,asIntOf,run_underlying U,N,dI hT Z,M],K⟩
    .cases h
   .cases h
  .rename_i s k j S
   rw[S] at U;split at h
   .rename_i G
    split at h
    .rename_i c O
     cases h;rw[hx.str,H.int];have Q :(ByteArray.mk s.toArray)[j.toNat]? =some c:=by have F:j.toNat<s.length:=gL O;have y:=(Hi.1 O).2;rw[getElem?_pos (ByteArray.mk s.toArray) j.toNat (by simpa [ByteArray.size] using F)];congr 1
     exact .int (by simp[Instr.index,asIntOf,run_underlying U,G,Q])
    .cases h
   .cases h
  .cases h
theorem KP{x v:AV}{X:Value}(hx:afx μ n x X)(h:Cr T t x f=some v)(w:World):
  Val P (Instr.field t X f) w μ n v:=by
 unfold Cr at h;cases ht:T t with
 |none=>rw[ht] at h;cases h
 |some ti=>
  rw[ht] at h;simp only at h;have S:=(hT t ti ht).desc;split at h
  .rename_i M K R
   rw[R] at S;split at h
   .rename_i G Z
    split at h
    .rename_i j Q
     obtain⟨F,rfl,U⟩:=hx.agg;obtain⟨V,O,N⟩:=jh (P:=P) (μ:=μ) (n:=n) hT Q h U w;exact⟨V,by simp[Instr.field,run_underlying S,Z,asAgg,O],N⟩
    .cases h
   .cases h
  .cases h
theorem Aq{x v:AV}{X:Value}(hx:afx μ n x X)(h:sN T t x f=some v)(w:World):
  Val P (Instr.fieldAt t X f) w μ n v:=by
 unfold sN at h;cases ht:T t with
 |none=>rw[ht] at h;cases h
 |some ti=>
  rw[ht] at h;simp only at h;have S:=(hT t ti ht).desc;split at h
  .rename_i N b o R
   rw[R] at S;split at h
   .rename_i Q Z
    split at h
    .rename_i j O
     split at h
     .cases h
     .rename_i V
      cases h;obtain⟨U,rfl⟩:=hx.ptr;refine⟨.pointer (some ⟨(μ b).blk,(μ b).off+(o+Q.offset),none⟩),?_,by simp only[afx];exact⟨U,trivial⟩⟩;simp[Instr.fieldAt,run_underlying S,Z,Instr.sureAddr,fieldPlace,Addr.add_lit,QXZ,dI hT O,V]
    .cases h
   .cases h
  .cases h
end
end
end Go.Eng
namespace Go.Eng
section
variable {P:Program}{T:TypeId->Option TyI}{μ:Nat->Place}{mem:Mem}{base:Nat}{w:World}
theorem yu(s:List UInt8):(ByteArray.mk s.toArray).size=s.length:=by simp[ByteArray.size]
theorem afJ.cell(H:afJ base μ mem w){b:Nat}{own es cs}(I:mem[b]? =some (.cells own es cs)){j:Nat}{v:AV}(J:cs[j]? =some v):
  ∃V,w.cell? ⟨(μ b).blk,(μ b).off+j,none⟩=some V/\afx μ mem.length v V:=by
 have Z:=H.slot b _ I;simp only[afM] at Z;obtain⟨X,e,Q,U,_,_,S,_⟩:=Z;obtain⟨V,hV,R⟩:=S j v J;exact⟨V,by simp[World.cell?,U,hV],R⟩
theorem afJ.cells(H:afJ base μ mem w){b:Nat}{own es cs}(I:mem[b]? =some (.cells own es cs)){o k:Nat}(J:o+k<=cs.length):
  ∃Z,afy μ mem.length ((cs.drop o).take k) Z/\Z.length=k/\∀(j:Nat) u,Z[j]? =some u->w.cell? ((⟨(μ b).blk,(μ b).off+o,none⟩:Addr).add j)=some u:=by
 induction k with
 |zero=>exact⟨[],by simp[afy],rfl,by simp⟩
 |succ k ih=>
  obtain⟨Z,Q,S,h3⟩:=ih (by omega);have R:o+k<cs.length:=by omega
  obtain⟨V,hV,O⟩:=H.cell I (j:=o+k) (v:=cs[o+k]) (by simp[R]);refine⟨Z++[V],?_,by simp[S],fun j u X=>?_⟩
  .rw[List.take_add_one]
   have:(cs.drop o)[k]? =some cs[o+k]:=by simp[QQJ,R]
   rw[this];exact Q.append (bW.2 ⟨O,by simp[afy]⟩)
  .by_cases N:j<Z.length
   .rw[GE N] at X;exact h3 j u X
   .have U:j=Z.length:=by have:=gL X;simp at this;omega
    subst U;simp at X;subst X;rw[Addr.add_lit,S,QXZ];exact hV
section
variable (hT:dS P T)(hH:afJ base μ mem w)
include hT hH
theorem Ct{t:TypeId}{x v:AV}{X:Value}(hx:afx μ mem.length x X)(h:Q1 T mem t x=some v):
  Val P (Instr.loadAt t X) w μ mem.length v:=by
 unfold Q1 at h;split at h
 .rename_i i b o Z
  split at h
  .rename_i own es G R
   obtain⟨O,rfl⟩:=hx.ptr;unfold jJ at h;cases hi:i.isAgg with
   |true=>
    simp only[hi,if_true] at h;split at h
    .rename_i U
     cases h;obtain⟨S,N,M,h3⟩:=hH.cells R U;refine⟨.agg S.toArray,?_,by simp only[afx];exact⟨S,rfl,N⟩⟩;have Q:=run_loadCells_list (P:=P) w _ S h3;rw[M] at Q;simp[Instr.loadAt,Instr.sureAddr,loadVar,wY hT Z,hi,dI hT Z,Q]
    .cases h
   |false=>
    simp only[hi,Bool.false_eq_true,if_false] at h;obtain⟨V,hV,K⟩:=hH.cell R h;refine⟨V,?_,K⟩;simp[Instr.loadAt,Instr.sureAddr,loadVar,wY hT Z,hi,hV]
  .cases h
 .cases h
theorem Q0{t ty:TypeId}{x v:AV}{X:Value}(hx:afx μ mem.length x X)(h:ym T t mem x=some v):
  Val P (Builtin.len_ #[t] ty #[X]) w μ mem.length v:=by
 unfold ym at h;cases ht:T t with
 |none=>rw[ht] at h;cases h
 |some ti=>
  rw[ht] at h;simp only at h;have Z:=(hT t ti ht).desc;split at h
  .rename_i s V;cases h;rw[V] at Z;rw[hx.str]
   exact .int (by simp[Builtin.len_,run_underlying Z,goInt,yu])
  .rename_i V;cases h;rw[V] at Z;rw[hx.slice.2]
   exact .int (by simp[Builtin.len_,run_underlying Z,goInt])
  .rename_i V;cases h;rw[V] at Z
   simp only[afx] at hx;subst hx;exact .int (by simp[Builtin.len_,run_underlying Z,goInt])
  .rename_i m e V;cases h;rw[V] at Z
   exact .int (by simp[Builtin.len_,run_underlying Z,goInt])
  .rename_i V;cases h;rw[V] at Z
   simp only[afx] at hx;subst hx;exact .int (by simp[Builtin.len_,run_underlying Z,goInt])
  .rename_i b V;rw[V] at Z
   simp only[afx] at hx;obtain⟨S,rfl⟩:=hx;split at h
   .rename_i es R
    cases h;have U:=hH.slot b _ R;simp only[afM] at U;obtain⟨Q,O,N,_,M,_⟩:=U;refine .int ?_;have K:(getObj (μ b).blk).run P w=.ok (.map Q O) w:=by simp[getObj,Sem.run,N]
    simp only[Builtin.len_,List.getElem?_toArray,List.getElem?_cons_zero,Sem.run_bind,run_underlying Z,Result.andThen_ok,K];simp[goInt,M]
   .cases h
  .cases h
theorem KS{t:TypeId}{x v:AV}{X:Value}{H I:Option AV}{J W:Option Value}(hx:afx μ mem.length x X)(hlo:(H=none/\J=none)\/∃l L,H=some l/\J=some L/\afx μ mem.length l L)(hhi:(I=none/\W=none)\/∃l L,I=some l/\W=some L/\afx μ mem.length l L)(h:Oz T mem t x H I=some v):
  Val P (Instr.sliceAt t X J W none) w μ mem.length v:=by
 have O:∀(F:Bool) (R Q:Nat) (V Z:Int),Vp R I=some V->
   Vq H=some Z->0<=Z->Z<=V->V<=R->R<=Q->
   (Instr.sliceBounds F R Q J W none).run P w=.ok (Z.toNat,V.toNat,Q) w:=by
  intro F R Q V Z U S h0 h1 h2 h3;have D :V<=Q:=by omega
  have h1' :Z<=((V.toNat:Nat):Int):=by omega
  have C :0<=V:=by omega
  rcases hhi with⟨rfl,rfl⟩ | ⟨a,A,rfl,rfl,hA⟩<;>rcases hlo with⟨rfl,rfl⟩ | ⟨b,B,rfl,rfl,hB⟩
  .simp only[Vp,Vq,Mp] at U S;subst U;subst S
   simp[Instr.sliceBounds]
  .cases b<;>simp only[Vp,Vq,reduceCtorEq,Mp] at U S
   subst U;subst S;rw[hB.int];simp[Instr.sliceBounds,iJ h0 h1]
  .cases a<;>simp only[Vp,Vq,reduceCtorEq,Mp] at U S
   subst U;subst S;rw[hA.int];simp[Instr.sliceBounds,iJ C D]
  .cases a<;>simp only[Vp,reduceCtorEq,Mp] at U
   cases b<;>simp only[Vq,reduceCtorEq,Mp] at S;subst U;subst S;rw[hA.int,hB.int];simp[Instr.sliceBounds,iJ C D,iJ h0 h1']
 unfold Oz at h;cases ht:T t with
 |none=>rw[ht] at h;cases h
 |some ti=>
  rw[ht] at h;simp only at h;have N:=(hT t ti ht).desc;split at h
  .rename_i s M
   rw[M] at N;split at h
   .rename_i V Z U S
    split at h
    .rename_i y
     cases h;rw[hx.str];have K:=O false s.length s.length V Z U S y.1 y.2.1 y.2.2 (Es _);refine .str ?_;have aei:(ByteArray.mk s.toArray).extract Z.toNat V.toNat=⟨((s.drop Z.toNat).take (V.toNat-Z.toNat)).toArray⟩:=by apply ByteArray.ext;apply Array.ext';simp[List.extract]
     simp[Instr.sliceAt,Instr.slice,run_underlying N,yu,K,aei]
    .cases h
   .cases h
  .rename_i e b o m c M
   rw[M] at N;split at h
   .rename_i j own es cs u y
    split at h
    .rename_i V Z U S
     split at h
     .rename_i Y
      obtain⟨g1,g2,g3,g4,g5,g6,g6',g7,rfl⟩:=Y;cases h;obtain⟨G,rfl⟩:=hx.slice;have hs:=hH.slot b _ y;simp only[afM] at hs;obtain⟨cur,el,fr,hs1,hs2,hs3,_,_⟩:=hs;have hs2:=hs2.es g6';subst hs2;have abo:m<=od (μ b) o none:=by simp only[od];rw[Nat.le_div_iff_mul_le g6];omega
      have K:=O true m (od (μ b) o none) V Z U S g1 g2 g3 abo;refine⟨.slice (some ⟨(μ b).blk,(μ b).off+(o+Z.toNat*(μ b).es),none⟩) (V.toNat-Z.toNat) (od (μ b) o none-Z.toNat),?_,?_⟩
      .simp[Instr.sliceAt,Instr.slice,run_underlying N,K,dI hT u]
       by_cases hl0:Z=0
       .subst hl0;simp[Addr.add_lit]
       .have:¬od (μ b) o none=Z.toNat:=by omega
        simp[this,Addr.add_lit,g5,QXZ]
      .simp only[afx]
       refine⟨G,?_⟩;congr 1;simp only[od];have hle:Z.toNat*(μ b).es<=m*(μ b).es:=QQe _ (by omega);rw[show(μ b).tot-(o+Z.toNat*(μ b).es)=(μ b).tot-o-(μ b).es*Z.toNat by rw[SP (μ b).es];omega];rw[Nat.sub_mul_div]
     .cases h
    .cases h
   .cases h
  .rename_i e M
   rw[M] at N;split at h
   .rename_i j u
    split at h
    .rename_i V Z U S
     split at h
     .rename_i Y
      obtain⟨rfl,rfl⟩:=Y;cases h;simp only[afx] at hx;subst hx;have K:=O true 0 0 0 0 U S (by omega) (by omega) (by omega) (by omega);refine⟨.slice none 0 0,?_,by simp[afx]⟩;simp[Instr.sliceAt,Instr.slice,run_underlying N,K,dI hT u]
     .cases h
    .cases h
   .cases h
  .rename_i m e b o M
   rw[M] at N;split at h
   .rename_i j u
    split at h
    .rename_i V Z U S
     split at h
     .rename_i Y
      obtain⟨g1,g2,g3,g4⟩:=Y;cases h;obtain⟨G,rfl⟩:=hx.ptr;have K:=O false m m V Z U S g1 g2 g3 (Es _);refine⟨.slice (some ⟨(μ b).blk,(μ b).off+(o+Z.toNat*j.size),none⟩) (V.toNat-Z.toNat) (m-Z.toNat),?_,?_⟩
      .have:¬m=Z.toNat:=by omega
       simp[Instr.sliceAt,run_underlying N,Instr.sureAddr,K,dI hT u,this,Addr.add_lit,QXZ]
      .simp only[afx];exact⟨G,rfl⟩
     .cases h
    .cases h
   .cases h
  .cases h
end
end
end Go.Eng
