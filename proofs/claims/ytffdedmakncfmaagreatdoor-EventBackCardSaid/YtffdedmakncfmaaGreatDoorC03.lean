/- See C54. -/
import Derived.Test.YtffdedmakncfmaaGreatDoorC02
set_option linter.all false
namespace Go.Eng
mutual
def AV.afP(ok:Nat→Bool):AV→Bool
 |.ptr b _=>ok b
 |.slice b _ _ _=>ok b
 |.map b=>ok b
 |.yield b=>ok b
 |.func _ Z=>AV.afV ok Z
 |.iface _ v=>v.afP ok
 |.agg Z=>AV.afV ok Z
 |.tuple Z=>AV.afV ok Z
 |_=>true
def AV.afV(ok:Nat→Bool):List AV→Bool
 | []=>true
 |v::vs=>v.afP ok&&AV.afV ok vs
end
def afU.afP(ok:Nat→Bool):afU→Bool
 |.qK=>true
 |.cells _ _ cs=>AV.afV ok cs
 |.map es=>es.all fun e=>e.1.afP ok&&e.2.afP ok
 |.agq es=>es.all fun e=>e.1.afP ok&&e.2.afP ok
 |.loop r=>r.env.all fun e=>e.2.afP ok
theorem DH{ok:Nat→Bool}:∀{env:Env},(env.all fun e=>e.2.afP ok)=true→∀t,(ad env t).afP ok=true
 | [],_,_=>rfl
 |(k,v)::r,h,t=>by
  simp only[List.all_cons,Bool.and_eq_true] at h;simp only[ad];split
  ·exact h.1
  ·exact DH h.2 t
mutual
theorem afQ.change{μ μ' :Nat→Place}{n:Nat}{ok:Nat→Bool}(hμ:∀b,b<n→ok b=true→μ' b=μ b):
  ∀{v V},v.afP ok=true→afQ μ n v V→afQ μ' n v V
 |.undef,_,_,_=>by simp[afQ]
 |.bool _,_,_,h=>by simpa [afQ] using h
 |.int _ _,_,_,h=>by simpa [afQ] using h
 |.str _,_,_,h=>by simpa [afQ] using h
 |.ptr b o,V,hk,h=>by simp only[afQ] at h ⊢;simp only[AV.afP] at hk;exact⟨h.1,by rw[hμ b h.1 hk];exact h.2⟩
 |.af4,_,_,h=>by simpa [afQ] using h
 |.slice b o l c,V,hk,h=>by simp only[afQ] at h ⊢;simp only[AV.afP] at hk;exact⟨h.1,by rw[hμ b h.1 hk];exact h.2⟩
 |.qF,_,_,h=>by simpa [afQ] using h
 |.map b,V,hk,h=>by simp only[afQ] at h ⊢;simp only[AV.afP] at hk;exact⟨h.1,by rw[hμ b h.1 hk];exact h.2⟩
 |.yield b,V,hk,h=>by simp only[afQ] at h ⊢;simp only[AV.afP] at hk;exact⟨h.1,by rw[hμ b h.1 hk];exact h.2⟩
 |.age,_,_,h=>by simpa [afQ] using h
 |.func f X,V,hk,h=>by simp only[afQ] at h ⊢;simp only[AV.afP] at hk;obtain⟨Z,e,h⟩:=h;exact⟨Z,e,afS.change hμ hk h⟩
 |.nilFunc,_,_,h=>by simpa [afQ] using h
 |.iface t v,V,hk,h=>by simp only[afQ] at h ⊢;simp only[AV.afP] at hk;obtain⟨U,e,h⟩:=h;exact⟨U,e,afQ.change hμ hk h⟩
 |.nilIface,_,_,h=>by simpa [afQ] using h
 |.agg X,V,hk,h=>by simp only[afQ] at h ⊢;simp only[AV.afP] at hk;obtain⟨Z,e,h⟩:=h;exact⟨Z,e,afS.change hμ hk h⟩
 |.tuple X,V,hk,h=>by simp only[afQ] at h ⊢;simp only[AV.afP] at hk;obtain⟨Z,e,h⟩:=h;exact⟨Z,e,afS.change hμ hk h⟩
theorem afS.change{μ μ' :Nat→Place}{n:Nat}{ok:Nat→Bool}(hμ:∀b,b<n→ok b=true→μ' b=μ b):
  ∀{vs Us},AV.afV ok vs=true→afS μ n vs Us→afS μ' n vs Us
 | [],_,_,h=>by simpa [afS] using h
 |v::vs,Us,hk,h=>by simp only[afS] at h ⊢;simp only[AV.afV,Bool.and_eq_true] at hk;obtain⟨U,Z,e,X,V⟩:=h;exact⟨U,Z,e,afQ.change hμ hk.1 X,afS.change hμ hk.2 V⟩
end
variable{s:afU}
theorem af5.change{μ μ' :Nat→Place}{n base:Nat}{w:World}{p:Place}{ok:Nat→Bool}(hμ:∀b,b<n→ok b=true→μ' b=μ b)(hk:s.afP ok=true)(h:af5 μ n base w p s):af5 μ' n base w p s:=by
 cases s with
 |qK=>trivial
 |cells own es cs=>
  simp only[af5] at h ⊢;simp only[afU.afP] at hk;obtain⟨N,e,F,Z,X,h3,Q,D⟩:=h;refine⟨N,e,F,Z,X,h3,fun j v R=>?_,D⟩;obtain⟨V,hV,C⟩:=Q j v R;refine⟨V,hV,C.change hμ ?_⟩;have:∀(l:List AV),AV.afV ok l=true→∀v∈l,v.afP ok=true:=by
   intro l;induction l with
   |nil=>intro _ v R;cases R
   |cons x xs ih=>
    intro hl v R;simp only[AV.afV,Bool.and_eq_true] at hl;cases R with
    |head=>exact hl.1
    |tail _ hm=>exact ih hl.2 v hm
  exact this cs hk v (List.mem_of_getElem? R)
 |map es=>
  simp only[af5] at h ⊢;simp only[afU.afP,List.all_eq_true,Bool.and_eq_true] at hk;obtain⟨M,K,Z,X,h3,Q⟩:=h;refine⟨M,K,Z,X,h3,fun j e O=>?_⟩;obtain⟨E,G,U,S⟩:=Q j e O;have:=hk e (List.mem_of_getElem? O);exact⟨E,G,U.change hμ this.1,S.change hμ this.2⟩
 |agq es=>
  simp only[af5] at h ⊢;simp only[afU.afP,List.all_eq_true,Bool.and_eq_true] at hk;obtain⟨M,K,Z,X,h3,Q⟩:=h;refine⟨M,K,Z,X,h3,fun j e O=>?_⟩;obtain⟨E,G,U,S⟩:=Q j e O;have:=hk e (List.mem_of_getElem? O);exact⟨E,G,U.change hμ this.1,S.change hμ this.2⟩
 |loop r=>
  simp only[af5] at h ⊢;obtain⟨L,Z,X,h3⟩:=h;exact⟨L,Z,X,{ h3 with tmps:=fun t=>(h3.tmps t).change hμ (DH hk t) }⟩
structure ago where
 E:Nat→Env
 En:Nat→Env
 M:Nat→Mem
 Tm:Nat→Mem
 M' :Nat→Mem
 v:Nat→AV
 wb:Nat→Bool
 agz:Nat→Nat→Bool
 ok:Nat→Nat→Bool
 cl:Nat→Nat→Bool
def iV(mem:Mem)(b:Nat):Prop:=∃s,mem[b]? =some s∧s≠ .qK
structure ahS (P:Program)(T:TypeId→Option TyI)(N:Nat)(ops:Array Oper)(d:ago)(j:Nat)(o:Oper):Prop where
 wanted:tE ops (d.En j) o=some (d.wb j)
 dst:ES N o=true
 step:d.wb j=true→xY P T (d.En j) (d.Tm j) o (d.v j) (d.M' j)
 skip:d.wb j=false→d.v j=.tuple []∧d.M' j=d.Tm j
 env:d.E (j+1)=agH (d.E j) o.dst (d.v j)
 named:∀t,ad (d.En j) t=.undef∨(ad (d.En j) t=ad (d.E j) t∧∀(i:Nat) oi,ops[i]? =some oi→i≠j→oi.dst=some t→d.cl i j=true∨d.cl j i=true)
 ait:∀(i:Nat) oi t,ops[i]? =some oi→i≠j→o.dst=some t→oi.dst=some t→d.cl i j=true∨d.cl j i=true
 ahy:(d.Tm j).length=(d.M j).length
 ahz:∀b:Nat,(d.Tm j)[b]? =(d.M j)[b]? ∨(d.Tm j)[b]? =some .qK
 ah9:(d.M (j+1)).length=(d.M' j).length
 ahA:(d.M j).length≤(d.M (j+1)).length
 aia:∀b:Nat,d.agz j b=true→(d.M (j+1))[b]? =(d.M' j)[b]?
 aie:∀b:Nat,b<(d.M j).length→d.agz j b=false→(d.M (j+1))[b]? =(d.M j)[b]?
 aif:∀b:Nat,b<(d.M j).length→d.agz j b=false→iV (d.Tm j) b→(d.M' j)[b]? =(d.M j)[b]?
 aih:∀b:Nat,(d.M j).length≤b→d.agz j b=true
 ahT:∀b:Nat,d.agz j b=true→b<(d.M j).length→iV (d.Tm j) b
 sep:∀(i:Nat) oi (b:Nat),ops[i]? =some oi→i≠j→b<(d.M (i+1)).length→d.agz i b=true→(b<(d.M (j+1)).length∧d.agz j b=true)∨iV (d.Tm j) b→d.cl i j=true∨d.cl j i=true
 okc:∀(i:Nat) (b:Nat) oi,ops[i]? =some oi→d.ok j b=true→(d.M i).length≤b→b<(d.M (i+1)).length→i=j∨d.cl i j=true
 ahB:(d.v j).afP (d.ok j)=true
 aii:∀(b:Nat) s,d.agz j b=true→(d.M (j+1))[b]? =some s→s.afP (d.ok j)=true
 ahU:∀(b:Nat) s,(d.M j).length≤b→(d.M (j+1))[b]? =some s→s≠ .qK→ef (d.M (j+1)) b
 aib:∀e∈o.after,Region.binds .any e=true→e.on<j
 ahV:∀i,d.cl i j=true→∃e∈o.after,Region.binds .any e=true∧(e.on=i∨d.cl i e.on=true)
variable{b t:Nat}
section
variable {P:Program}{T:TypeId→Option TyI}{N:Nat}{ops:Array Oper}{d:ago}
def ui(P:Program)(T:TypeId→Option TyI)(N:Nat)(ops:Array Oper)(d:ago):Prop:=∀(j:Nat) o,ops[j]? =some o→ahS P T N ops d j o
def Tch(d:ago)(i b:Nat):Prop:=d.agz i b=true∧b<(d.M (i+1)).length
theorem A4{j:Nat}(h:j<ops.size):∃o,ops[j]? =some o:=⟨ops[j],by simp[h]⟩
theorem Mm{env:Env}{y:Option Tmp}{v:AV}(h:y≠some t):ad (agH env y v) t=ad env t:=by
 cases y with
 |none=>rfl
 |some x=>
  have:¬x=t:=fun e=>h (by rw[e])
  simp[agH,ad,this]
section
variable (hA:ui P T N ops d)
include hA
theorem Fs(t:Nat)(j:Nat):∀k,j≤k→k≤ops.size→(∀(i:Nat) V,j≤i→i<k→ops[i]? =some V→V.dst≠some t)→ad (d.E k) t=ad (d.E j) t:=by
 intro k Z;induction Z with
 |refl=>intro _ _;rfl
 | @step k Z ih=>
  intro R X;obtain⟨o,U⟩:=A4 (ops:=ops) (j:=k) (by omega);rw[(hA k o U).env,Mm (X k o Z (Nat.lt_succ_self k) U)];exact ih (by omega) fun i V S Q h3=>X i V S (by omega) h3
theorem Bq(j:Nat):∀k,j≤k→k≤ops.size→(d.M j).length≤(d.M k).length:=by
 intro k Z;induction Z with
 |refl=>intro _;exact Nat.le_refl _
 | @step k Z ih=>
  intro V;obtain⟨o,X⟩:=A4 (ops:=ops) (j:=k) (by omega);exact Nat.le_trans (ih (by omega)) (hA k o X).ahA
theorem FL(b:Nat)(j:Nat):∀k,j≤k→k≤ops.size→(∀i,j≤i→i<k→¬Tch d i b)→(d.M k)[b]? =(d.M j)[b]? :=by
 intro k Z;induction Z with
 |refl=>intro _ _;rfl
 | @step k Z ih=>
  intro O X;obtain⟨o,V⟩:=A4 (ops:=ops) (j:=k) (by omega);have U:=ih (by omega) fun i U L=>X i U (by omega)
  have Q:=X k Z (Nat.lt_succ_self k);rw[←U];by_cases S:b<(d.M k).length
  ·have:d.agz k b=false:=by
    cases R:d.agz k b with
    |false=>rfl
    |true=>exact absurd ⟨R,Nat.lt_of_lt_of_le S (hA k o V).ahA⟩ Q
   exact(hA k o V).aie b S this
  ·have R:=(hA k o V).aih b (by omega)
   have:¬b<(d.M (k+1)).length:=fun h=>Q ⟨R,h⟩
   exact(List.getElem?_eq_none (Nat.le_of_not_lt this)).trans (List.getElem?_eq_none (Nat.le_of_not_lt S)).symm
end
structure ahw (d:ago)(ops:Array Oper)(base:Nat) (μ0:Nat→Place)(w0:World)(S:Nat→Prop) (μ:Nat→Place)(kb kt:Nat→Nat)(tmps:Array Value)(w:World):Prop where
 afY:base≤w.heap.size
 ahg:∀b,kb b≤ops.size
 agZ:∀b i,i<ops.size→Tch d i b→(S i↔i<kb b)
 ahh:∀b,kb b=0∨Tch d (kb b-1) b
 slot:∀(b:Nat) s,(d.M (kb b))[b]? =some s→af5 μ (d.M (kb b)).length base w (μ b) s
 sep:∀b b' s',ef (d.M (kb b)) b→(d.M (kb b'))[b']? =some s' →s' ≠ .qK→b≠b' →(μ b).blk≠(μ b').blk
 ahC:∀t,kt t≤ops.size
 ag0:∀(t i:Nat) oi,ops[i]? =some oi→oi.dst=some t→(S i↔i<kt t)
 ahi:∀t,kt t=0∨∃oi,ops[kt t-1]? =some oi∧oi.dst=some t
 tmp:∀t,afQ μ (d.M (kt t)).length (ad (d.E (kt t)) t) (tmps.getD t undef)
 agree:∀b,b<(d.M 0).length→μ b=μ0 b
 os:w.os=w0.os
 tape:w.tape=w0.tape
 drawn:w0.drawn≤w.drawn
 output:w.output=w0.output
 size:w0.heap.size≤w.heap.size
 frame:∀k,k<w0.heap.size→(∀b,ef (d.M 0) b→(μ0 b).blk≠k)→w.heap[k]? =w0.heap[k]?
 owner:∀b,ef (d.M (kb b)) b→(μ b).blk<w0.heap.size→∃b0,ef (d.M 0) b0∧(μ0 b0).blk=(μ b).blk
theorem YK(y:ui P T N ops d):∀(j i:Nat),j<ops.size→d.cl i j=true→i<j:=by
 intro j;induction j using Nat.strongRecOn with
 |_ j ih=>
  intro i V h;obtain⟨o,X⟩:=A4 V;obtain⟨e,U,S,hc⟩:=(y j o X).ahV i h;have Z:=(y j o X).aib e U S;rcases hc with rfl | hc
  ·exact Z
  ·exact Nat.lt_trans (ih e.on Z i (by omega) hc) Z
def wJ(ops:Array Oper)(S:Nat→Prop):Prop:=∀(j:Nat) o,ops[j]? =some o→S j→∀e∈o.after,Region.binds .any e=true→S e.on
section
variable (hA:ui P T N ops d){S:Nat→Prop}(hS:wJ ops S)
include hA S hS
theorem TZ:∀(j:Nat) o,ops[j]? =some o→(∀e∈o.after,Region.binds .any e=true→S e.on)→∀i,d.cl i j=true→S i:=by
 intro j;induction j using Nat.strongRecOn with
 |_ j ih=>
  intro o V O i h;have M:j<ops.size:=(Array.getElem?_eq_some_iff.1 V).1;obtain⟨e,U,R,hc⟩:=(hA j o V).ahV i h;have L:=(hA j o V).aib e U R;have Z:=O e U R;rcases hc with rfl | hc
  ·exact Z
  ·obtain⟨Q,X⟩:=A4 (ops:=ops) (j:=e.on) (by omega)
   exact ih e.on L Q X (hS e.on Q X Z) i hc
theorem oF{j:Nat}{o:Oper}(y:ops[j]? =some o)(hr:∀e∈o.after,Region.binds .any e=true→S e.on)(I:¬S j){i:Nat}(H:i<ops.size)(h:d.cl i j=true∨d.cl j i=true):S i↔i<j:=by
 have X:j<ops.size:=(Array.getElem?_eq_some_iff.1 y).1;obtain⟨U,Z⟩:=A4 H;rcases h with h | h
 ·exact⟨fun _=>YK hA j i X h,fun _=>TZ hA hS j o y hr i h⟩
 ·have R:=YK hA i j H h
  constructor
  ·intro V
   exact absurd (TZ hA hS i U Z (hS i U Z V) j h) I
  ·intro;omega
end
section step
variable {base:Nat}{μ0:Nat→Place}{w0:World}{S:Nat→Prop}{μ:Nat→Place}{kb kt:Nat→Nat}{a:Act}{w:World}{j:Nat}{o:Oper}
section
variable (hA:ui P T N ops d)(hI:ahw d ops base μ0 w0 S μ kb kt a.tmps w)(hS:wJ ops S)(ho:ops[j]? =some o)(hr:∀e∈o.after,Region.binds .any e=true→S e.on)(hj:¬S j)
include hA hI hS ho hr hj
theorem WO(y:∀(i:Nat) Z,ops[i]? =some Z→i≠j→Z.dst=some t→d.cl i j=true∨d.cl j i=true):
  kt t≤j∧ad (d.E j) t=ad (d.E (kt t)) t:=by
 have O:j<ops.size:=(Array.getElem?_eq_some_iff.1 ho).1;have X:kt t≤j:=by
  rcases hI.ahi t with M | ⟨Z,U,R⟩
  ·omega
  ·have L:=(hI.ag0 t (kt t-1) Z U R)
   by_cases M:kt t=0
   ·omega
   ·have V:S (kt t-1):=L.2 (by omega)
    have K:kt t-1≠j:=fun e=>hj (e▸V)
    have G:kt t-1<ops.size:=(Array.getElem?_eq_some_iff.1 U).1;have:=(oF hA hS ho hr hj G (y _ Z U K R)).1 V;omega
 refine⟨X,Fs hA t (kt t) j X (by omega) fun i Z U R h3 Q=>?_⟩;have:=(oF hA hS ho hr hj (by omega) (y i Z h3 (by omega) Q)).2 R;have:=(hI.ag0 t i Z h3 Q).1 this;omega
theorem yV(y:iV (d.Tm j) b):kb b≤j∧(d.M j)[b]? =(d.M (kb b))[b]? :=by
 have G:j<ops.size:=(Array.getElem?_eq_some_iff.1 ho).1;have Z:∀i,i<ops.size→i≠j→Tch d i b→(S i↔i<j):=by intro i O U L;obtain⟨F,R⟩:=A4 O;exact oF hA hS ho hr hj O ((hA j o ho).sep i F b R U L.2 L.1 (.inr y))
 have X:kb b≤j:=by
  rcases hI.ahh b with D | Q
  ·omega
  ·by_cases D:kb b=0
   ·omega
   ·have K:kb b-1<ops.size:=by have:=hI.ahg b;omega
    have V:S (kb b-1):=(hI.agZ b _ K Q).2 (by omega);have U:kb b-1≠j:=fun e=>hj (e▸V)
    have:=(Z _ K U Q).1 V;omega
 refine⟨X,FL hA b (kb b) j X (by omega) fun i Q C h3=>?_⟩;have:=(Z i (by omega) (by omega) h3).2 C;have:=(hI.agZ b i (by omega) h3).1 this;omega
end
theorem sD(y:ui P T N ops d)(H:ops[j]? =some o)(h:(d.Tm j)[b]? =some s)(hs:s≠ .qK):(d.M j)[b]? =some s:=by
 rcases (y j o H).ahz b with e | e
 ·rw[←e];exact h
 ·rw[h] at e;cases e;exact absurd rfl hs
theorem ml{mem:Mem}(h:ef mem b):iV mem b:=by obtain⟨s,h,Z⟩:=h;exact⟨s,h,afU.agr Z⟩
theorem mq{m y :Mem}(h:m[b]? =y[b]?):ef m b↔ef y b:=by simp[ef,h]
section
variable (hA:ui P T N ops d)(hI:ahw d ops base μ0 w0 S μ kb kt a.tmps w)(hS:wJ ops S)(ho:ops[j]? =some o)(hr:∀e∈o.after,Region.binds .any e=true→S e.on)(hj:¬S j)
include hA hI hS ho hr hj
theorem U2:af3 base μ (d.Tm j) w:=by
 have F:j<ops.size:=(Array.getElem?_eq_some_iff.1 ho).1;refine⟨hI.afY,fun b s Q=>?_,fun b D O M L X V=>?_⟩
 ·by_cases U:s=.qK
  ·subst U;trivial
  ·have C:iV (d.Tm j) b:=⟨s,Q,U⟩
   obtain⟨K,R⟩:=yV hA hI hS ho hr hj C;have G:=sD hA ho Q U;rw[R] at G;rw[(hA j o ho).ahy];exact(hI.slot b s G).mono (Bq hA _ j K (by omega)) (fun _ _=>rfl) fun _=>rfl
 ·obtain⟨K,R⟩:=yV hA hI hS ho hr hj (ml M)
  obtain⟨u,B⟩:=yV hA hI hS ho hr hj ⟨O,L,X⟩;refine hI.sep b D O ?_ ?_ X V
  ·refine(mq R).1 ?_
   obtain⟨s,h,Z⟩:=M;exact⟨s,sD hA ho h (afU.agr Z),Z⟩
  ·rw[←B];exact sD hA ho L X
theorem U3:agn μ (d.Tm j).length (d.En j) a.tmps:=by
 have Z:j<ops.size:=(Array.getElem?_eq_some_iff.1 ho).1;intro t;rcases (hA j o ho).named t with h | ⟨h,X⟩
 ·rw[h];simp[afQ]
 ·obtain⟨V,U⟩:=WO hA hI hS ho hr hj X
  rw[h,U,(hA j o ho).ahy];exact(hI.tmp t).mono (Bq hA _ j V (by omega)) fun _ _=>rfl
end
end step
end
end Go.Eng
namespace Go.Eng
section
variable {P:Program}{T:TypeId→Option TyI}{N:Nat}{ops:Array Oper}{d:ago}
variable {base:Nat}{μ0:Nat→Place}{w0:World}{S:Nat→Prop}{μ μ' :Nat→Place}{kb kt:Nat→Nat}{a:Act}{w w' :World}{j:Nat}{o:Oper}{V:Value}
open Classical in
theorem WM(H:ui P T N ops d)(y:ahw d ops base μ0 w0 S μ kb kt a.tmps w)(hS:wJ ops S)(I:ops[j]? =some o)(hr:∀e∈o.after,Region.binds .any e=true→S e.on)(hj:¬S j)(hN:a.tmps.size=N)(hV:afQ μ' (d.M' j).length (d.v j) V)(hH:af3 base μ' (d.M' j) w')(J:Step (d.Tm j).length μ (d.Tm j) w μ' (d.M' j) w'):
  ∃μ2 kb2 kt2,ahw d ops base μ0 w0 (fun i=>S i∨i=j) μ2 kb2 kt2 (a.put o.dst V).tmps w' :=by
 have hjs:j<ops.size:=(Array.getElem?_eq_some_iff.1 I).1;have D:=H j o I;have hlj:∀k,k≤j→(d.M k).length≤(d.M j).length:=fun k hk=>Bq H k j hk (by omega)
 have hl1:=D.ahA;have h0j:=hlj 0 (Nat.zero_le _);have hag:∀b,b<(d.M j).length→μ' b=μ b:=fun b X=>J.agree b (by rw[D.ahy];exact X)
 let μ2:Nat→Place:=fun b=>if b<(d.M (j+1)).length then μ' b else μ b
 have G:∀b,b<(d.M j).length→μ2 b=μ b:=by
  intro b X;show(if b<(d.M (j+1)).length then μ' b else μ b)=μ b
  rw[if_pos (by omega),hag b X]
 have abj:∀b,b<(d.M (j+1)).length→μ2 b=μ' b:=by
  intro b X;show(if b<(d.M (j+1)).length then μ' b else μ b)=μ' b
  rw[if_pos X]
 have acj:∀b,¬b<(d.M (j+1)).length→μ2 b=μ b:=by
  intro b X;show(if b<(d.M (j+1)).length then μ' b else μ b)=μ b
  rw[if_neg X]
 have adB:∀k,0<k→S (k-1)→k-1<ops.size→∀b,d.ok (k-1) b=true→μ2 b=μ b:=by
  intro k hk hSk hks b X;by_cases h1:b<(d.M j).length
  ·exact G b h1
  ·by_cases K:b<(d.M (j+1)).length
   ·obtain⟨ok,hok⟩:=A4 hks
    rcases (H _ ok hok).okc j b o I X (by omega) K with e | e
    ·exact absurd (e▸hSk) hj
    ·exact absurd (TZ H hS _ ok hok (hS _ ok hok hSk) j e) hj
   ·exact acj b K
 let kb2:Nat→Nat:=fun b=>if Tch d j b then j+1 else kb b
 let kt2:Nat→Nat:=fun t=>if o.dst=some t then j+1 else kt t
 have ab2:∀b,Tch d j b→kb2 b=j+1:=fun b X=>if_pos X
 have ab3:∀b,¬Tch d j b→kb2 b=kb b:=fun b X=>if_neg X
 have kbS:∀b,kb b=0∨(0<kb b∧S (kb b-1)∧kb b-1<ops.size∧Tch d (kb b-1) b):=by
  intro b;rcases Nat.eq_zero_or_pos (kb b) with h0 | h0
  ·exact .inl h0
  ·rcases y.ahh b with h1 | h1
   ·exact .inl h1
   ·have L:kb b-1<ops.size:=by have:=y.ahg b;omega
    exact .inr ⟨h0,(y.agZ b _ L h1).2 (by omega),L,h1⟩
 have adk:∀b,¬Tch d j b→b<(d.M j).length∨¬b<(d.M (j+1)).length:=by
  intro b X;by_cases h1:b<(d.M j).length
  ·exact .inl h1
  ·refine .inr fun K=>X ⟨D.aih b (by omega),K⟩
 have adC:∀b,¬Tch d j b→μ2 b=μ b:=by
  intro b X;rcases adk b X with h | h
  ·exact G b h
  ·exact acj b h
 have ack:∀b,iV (d.Tm j) b→¬Tch d j b→kb b≤j∧b<(d.M j).length∧(d.M' j)[b]? =(d.M (kb b))[b]? ∧(d.M (kb b))[b]? =(d.M j)[b]? :=by
  intro b X hnt;obtain⟨Y,u⟩:=yV H y hS I hr hj X;obtain⟨s,Q,m⟩:=X;have L:b<(d.M j).length:=by have:=gL Q;rw[D.ahy] at this;exact this
  have hf:d.agz j b=false:=by
   cases Z:d.agz j b with
   |false=>rfl
   |true=>exact absurd ⟨Z,by omega⟩ hnt
  exact⟨Y,L,(D.aif b L hf ⟨s,Q,m⟩).trans u,u.symm⟩
 have adD:∀b s,(d.M (kb2 b))[b]? =some s→s≠ .qK→((d.M' j)[b]? =some s∧μ2 b=μ' b∧b<(d.M (j+1)).length∧(Tch d j b∨iV (d.Tm j) b))∨
   ((d.M (kb b))[b]? =some s∧¬iV (d.Tm j) b∧¬Tch d j b∧μ2 b=μ b):=by
  intro b s Q m;by_cases Z:Tch d j b
  ·rw[ab2 b Z] at Q
   exact .inl ⟨by rw[←D.aia b Z.1];exact Q,abj b Z.2,Z.2,.inl Z⟩
  ·rw[ab3 b Z] at Q
   by_cases X:iV (d.Tm j) b
   ·obtain⟨Y,u,k3,k4⟩:=ack b X Z
    exact .inl ⟨by rw[k3];exact Q,by rw[G b u,hag b u],by omega,.inr X⟩
   ·exact .inr ⟨Q,X,Z,adC b Z⟩
 have aa6:∀b,ef (d.M (kb2 b)) b→(ef (d.M' j) b∧μ2 b=μ' b∧b<(d.M (j+1)).length∧(Tch d j b∨iV (d.Tm j) b))∨
   (ef (d.M (kb b)) b∧¬iV (d.Tm j) b∧¬Tch d j b∧μ2 b=μ b):=by
  intro b X;obtain⟨s,h,U⟩:=X;rcases adD b _ h (afU.agr U) with⟨F,g2⟩ | ⟨F,g2⟩
  ·exact .inl ⟨⟨s,F,U⟩,g2⟩
  ·exact .inr ⟨⟨s,F,U⟩,g2⟩
 have aak:∀b,ef (d.Tm j) b→ef (d.M (kb b)) b:=by intro b X;obtain⟨Y,u⟩:=yV H y hS I hr hj (ml X);refine(mq u).1 ?_;obtain⟨s,h,U⟩:=X;exact⟨s,sD H I h (afU.agr U),U⟩
 have acm:∀b s,(d.M (kb b))[b]? =some s→s≠ .qK→(μ b).blk<w.heap.size:=fun b s Q m=>(y.slot b s Q).agA m
 refine⟨μ2,kb2,kt2,⟨Nat.le_trans y.afY J.size,?_,?_,?_,?_,?_,?_,?_,?_,?_,?_,J.os.trans y.os,J.tape.trans y.tape,Nat.le_trans y.drawn J.drawn,J.output.trans y.output,Nat.le_trans y.size J.size,?_,?_⟩⟩
 ·
  intro b;by_cases Z:Tch d j b
  ·rw[ab2 b Z];omega
  ·rw[ab3 b Z];exact y.ahg b
 ·
  intro b i hi hti;obtain⟨oi,C⟩:=A4 hi;by_cases Z:Tch d j b
  ·rw[ab2 b Z]
   by_cases R:i=j
   ·subst R;simp
   ·have:=oF H hS I hr hj hi (D.sep i oi b C R hti.2 hti.1 (.inl ⟨Z.2,Z.1⟩))
    constructor
    ·rintro (h | h)
     ·have:=this.1 h;omega
     ·omega
    ·intro h;exact .inl (this.2 (by omega))
  ·rw[ab3 b Z]
   have R:i≠j:=fun e=>Z (e▸hti)
   rw[←y.agZ b i hi hti];constructor
   ·rintro (h | h)
    ·exact h
    ·exact absurd h R
   ·exact .inl
 ·
  intro b;by_cases Z:Tch d j b
  ·rw[ab2 b Z];exact .inr Z
  ·rw[ab3 b Z];exact y.ahh b
 ·
  intro b s Q;by_cases h0:s=.qK
  ·subst h0;trivial
  by_cases Z:Tch d j b
  ·rw[ab2 b Z] at Q ⊢
   have h1:=hH.slot b s (by rw[←D.aia b Z.1];exact Q);rw[abj b Z.2,D.ah9];exact h1.mono (Nat.le_refl _) (fun x W=>abj x (by rw[D.ah9];exact W)) fun _=>rfl
  ·rw[ab3 b Z] at Q ⊢
   have B:=y.slot b s Q;rw[adC b Z];by_cases X:iV (d.Tm j) b
   ·obtain⟨Y,u,k3,k4⟩:=ack b X Z
    have h1:=hH.slot b s (by rw[k3];exact Q);rw[hag b u] at h1;have hlk:=hlj (kb b) Y;have K:=B.lower (fun x W=>hag x (by omega)) h1;exact K.mono (Nat.le_refl _) (fun x W=>G x (by omega)) fun _=>rfl
   ·have adl:w'.heap[(μ b).blk]? =w.heap[(μ b).blk]? :=by
     refine J.frame _ (B.agA h0) fun b1 hb1=>?_
     refine y.sep b1 b s (aak b1 hb1) Q h0 ?_;rintro rfl;exact X (ml hb1)
    have K:af5 μ (d.M (kb b)).length base w' (μ b) s:=B.mono (Nat.le_refl _) (fun _ _=>rfl) fun _=>adl
    rcases kbS b with h3 | ⟨h3,h4,h5,h6⟩
    ·refine K.mono (Nat.le_refl _) (fun x W=>G x ?_) fun _=>rfl
     rw[h3] at W;omega
    ·obtain⟨ok,hok⟩:=A4 h5
     have hk1:kb b-1+1=kb b:=by omega
     refine K.change (ok:=d.ok (kb b-1)) (fun x _ W=>adB (kb b) h3 h4 h5 x W) ?_;exact(H _ ok hok).aii b s h6.1 (by rw[hk1];exact Q)
 ·
  intro b O s' X Z9 m hbb;rcases aa6 b X with⟨F,g2,_,_⟩ | ⟨F,g2,g3,g4⟩<;>rcases adD O s' Z9 m with⟨Y,u,k3,k4⟩ | ⟨Y,u,k3,k4⟩
  ·rw[g2,u];exact hH.sep b O s' F Y m hbb
  ·rw[g2,k4]
   have L:=acm O s' Y m;by_cases hlt2:(μ' b).blk<w.heap.size
   ·obtain⟨b0,h0,h1⟩:=J.owner b F hlt2
    rw[←h1];refine y.sep b0 O s' (aak b0 h0) Y m ?_;rintro rfl;exact u (ml h0)
   ·omega
  ·rw[g4,u]
   by_cases L:O <(d.M j).length
   ·have P':iV (d.Tm j) O :=by
     rcases k4 with Z | hb1
     ·exact D.ahT O Z.1 L
     ·exact hb1
    obtain⟨q1,q2⟩:=yV H y hS I hr hj P';obtain⟨s0,hs0,adE⟩:=P';rw[hag O L];exact y.sep b O s0 F (by rw[←q2];exact sD H I hs0 adE) adE hbb
   ·have ht' :=D.aih O (by omega)
    have hM1:(d.M (j+1))[O]? =some s' :=by rw[D.aia O ht'];exact Y
    have aan:=D.ahU O s' (by omega) hM1 m;have ach :ef (d.M' j) O :=(mq (D.aia O ht')).1 aan;have hbl:(μ b).blk<w.heap.size:=by obtain⟨s,h,U⟩:=F;exact acm b _ h (afU.agr U)
    by_cases hlt2:(μ' O).blk<w.heap.size
    ·obtain⟨b0,h0,h1⟩:=J.owner O ach hlt2
     rw[←h1];have hob:=aak b0 h0;have aeg:b≠b0:=by rintro rfl;exact g2 (ml h0)
     obtain⟨s,h,U⟩:=hob;exact y.sep b b0 _ F h (afU.agr U) aeg
    ·omega
  ·rw[g4,k4];exact y.sep b O s' F Y m hbb
 ·
  intro t;show(if o.dst=some t then j+1 else kt t)≤ops.size
  split
  ·omega
  ·exact y.ahC t
 ·
  intro t i oi C hd;show(S i∨i=j)↔i<(if o.dst=some t then j+1 else kt t)
  have hi:i<ops.size:=(Array.getElem?_eq_some_iff.1 C).1;by_cases Z:o.dst=some t
  ·rw[if_pos Z]
   by_cases R:i=j
   ·subst R;simp
   ·have:=oF H hS I hr hj hi (D.ait i oi t C R Z hd)
    constructor
    ·rintro (h | h)
     ·have:=this.1 h;omega
     ·omega
    ·intro h;exact .inl (this.2 (by omega))
  ·rw[if_neg Z]
   have R:i≠j:=by rintro rfl;rw[I] at C;cases C;exact Z hd
   rw[←y.ag0 t i oi C hd];constructor
   ·rintro (h | h)
    ·exact h
    ·exact absurd h R
   ·exact .inl
 ·
  intro t;show(if o.dst=some t then j+1 else kt t)=0∨∃oi,ops[(if o.dst=some t then j+1 else kt t)-1]? =some oi∧oi.dst=some t
  by_cases Z:o.dst=some t
  ·rw[if_pos Z];exact .inr ⟨o,by simpa using I,Z⟩
  ·rw[if_neg Z];exact y.ahi t
 ·
  intro t;show afQ μ2 (d.M (if o.dst=some t then j+1 else kt t)).length (ad (d.E (if o.dst=some t then j+1 else kt t)) t) ((a.put o.dst V).tmps.getD t undef)
  by_cases Z:o.dst=some t
  ·rw[if_pos Z,D.env,Z]
   have L:t<a.tmps.size:=by have:=D.dst;unfold ES at this;rw[Z] at this;simp only[decide_eq_true_eq] at this;rw[hN];exact this
   have e1:ad (agH (d.E j) (some t) (d.v j)) t=d.v j:=by simp[agH,ad]
   have e2:(a.put (some t) V).tmps.getD t undef=V:=by simp[Act.put,L]
   rw[e1,e2,D.ah9];exact hV.mono (Nat.le_refl _) fun x W=>abj x (by rw[D.ah9];exact W)
  ·rw[if_neg Z]
   have e2:(a.put o.dst V).tmps.getD t undef=a.tmps.getD t undef:=by
    cases hd:o.dst with
    |none=>rfl
    |some x=>
     have m:x≠t:=by rintro rfl;exact Z hd
     simp[Act.put,Array.getElem?_setIfInBounds_ne m]
   rw[e2];have B:=y.tmp t;rcases Nat.eq_zero_or_pos (kt t) with h0 | h0
   ·rw[h0] at B ⊢
    exact B.mono (Nat.le_refl _) fun x W=>G x (by omega)
   ·rcases y.ahi t with h1 | ⟨oi,h1,K⟩
    ·omega
    ·have hSk:S (kt t-1):=(y.ag0 t _ oi h1 K).2 (by omega)
     have hks:kt t-1<ops.size:=(Array.getElem?_eq_some_iff.1 h1).1;refine B.change (ok:=d.ok (kt t-1)) (fun x _ W=>adB (kt t) h0 hSk hks x W) ?_;have he:=(H _ oi h1).env;have hk1:kt t-1+1=kt t:=by omega
     rw[hk1,K] at he;rw[he];simp only[agH,ad,if_true];exact(H _ oi h1).ahB
 ·
  intro b X;rw[G b (by omega)];exact y.agree b X
 ·
  intro k hk hf;rw[J.frame k (Nat.lt_of_lt_of_le hk y.size) ?_,y.frame k hk hf];intro b X he;obtain⟨b0,h1,K⟩:=y.owner b (aak b X) (by rw[he];exact hk);exact hf b0 h1 (K.trans he)
 ·
  intro b X L;rcases aa6 b X with⟨F,g2,_,_⟩ | ⟨F,g2,g3,g4⟩
  ·rw[g2] at L ⊢
   obtain⟨b0,h0,h1⟩:=J.owner b F (Nat.lt_of_lt_of_le L y.size);obtain⟨b1,K,h3⟩:=y.owner b0 (aak b0 h0) (by rw[h1];exact L);exact⟨b1,K,h3.trans h1⟩
  ·rw[g4] at L ⊢
   exact y.owner b F L
end
variable{listed:Array Bool}
section
variable {P:Program}{T:TypeId→Option TyI}{tp:Bool}{N m0:Nat}{ops:Array Oper}{d:ago}
def left(ops:Array Oper)(listed:Array Bool):Nat:=((List.range ops.size).filter fun i=> !listed.getD i true).length
def uJ(listed:Array Bool)(i:Nat):Prop:=listed.getD i false=true
theorem AY{l:List Nat}{p q:Nat→Bool}(h:∀i∈l,q i=true→p i=true){j:Nat}(H:j∈l)(h1:p j=true)(h2:q j=false):(l.filter q).length<(l.filter p).length:=by
 induction l with
 |nil=>cases H
 |cons x xs ih=>
  have X:∀(l:List Nat),(∀i∈l,q i=true→p i=true)→(l.filter q).length≤(l.filter p).length:=by
   intro l V;induction l with
   |nil=>simp
   |cons y ys ih2=>
    have:=ih2 (fun i Z=>V i (by simp[Z]));have S:=V y (by simp);simp only[List.filter_cons];cases hq:q y<;>cases hp:p y<;>simp_all<;>omega
  have U:=X xs (fun i Z=>h i (by simp[Z]));have R:=h x (by simp);simp only[List.filter_cons];cases H with
  |head=>rw[h1,h2];simp;omega
  |tail _ hm=>
   have:=ih (fun i Z=>h i (by simp[Z])) hm;cases hq:q x<;>cases hp:p x<;>simp_all<;>omega
theorem U4{i:Nat}(y:i<listed.size):uJ (listed.setIfInBounds i true)=fun k=>uJ listed k∨k=i:=by
 funext k;apply propext;unfold uJ;by_cases Z:i=k
 ·subst Z;simp[y]
 ·rw[getD_set_ne false Z]
  constructor
  ·exact .inl
  ·rintro (h | h)
   ·exact h
   ·exact absurd h.symm Z
theorem R4(y:ui P T N ops d)(H:listed.size=ops.size)(h:Region.ready .any ops listed=[]):∀i,i<ops.size→uJ listed i:=by
 intro i;induction i using Nat.strongRecOn with
 |_ i ih=>
  intro U;obtain⟨o,Z⟩:=A4 U;cases hl:listed.getD i true with
  |true=>
   unfold uJ;simp only[Array.getD_eq_getD_getElem?] at hl ⊢;rw[Array.getElem?_eq_getElem (by omega)] at hl ⊢;exact hl
  |false=>
   exfalso;have:i∈Region.ready .any ops listed:=mem_ready.2 ⟨hl,o,Z,fun e X V=>ih e.on ((y i o Z).aib e X V) (by have:=(y i o Z).aib e X V;omega)⟩;rw[h] at this;cases this
theorem WE(I:ui P T N ops d){H:Nat}{μ0 μ:Nat→Place}{w0 w:World}{S:Nat→Prop}{J W:Nat→Nat}{tmps:Array Value}(Y:m0≤(d.M 0).length)(y:ahw d ops H μ0 w0 S μ J W tmps w)(hS:∀i,i<ops.size→S i):
  af3 H μ (d.M ops.size) w∧agn μ (d.M ops.size).length (d.E ops.size) tmps∧m0≤(d.M ops.size).length∧Step m0 μ0 (d.M 0) w0 μ (d.M ops.size) w:=by
 have X:∀b,(d.M ops.size)[b]? =(d.M (J b))[b]? :=fun b=>FL I b (J b) _ (y.ahg b) (Nat.le_refl _) fun i O V h3=>by have:=(y.agZ b i V h3).1 (hS i V);omega
 have U:∀k,k≤ops.size→(d.M k).length≤(d.M ops.size).length:=fun k L=>Bq I k _ L (Nat.le_refl _)
 have m:=U 0 (Nat.zero_le _);refine⟨⟨y.afY,fun b s K=>?_,fun b G F Z R D Q=>?_⟩,fun t=>?_,by omega,⟨by omega,fun b Z=>y.agree b (by omega),y.os,y.tape,y.output,y.size,y.frame,fun b Z C=>?_,y.drawn⟩⟩
 ·exact(y.slot b s (by rw[←X];exact K)).mono (U _ (y.ahg b)) (fun _ _=>rfl) fun _=>rfl
 ·exact y.sep b G F ((mq (X b)).1 Z) (by rw[←X];exact R) D Q
 ·have B:=Fs I t (W t) ops.size (y.ahC t) (Nat.le_refl _) fun i u O V h3 o=>by have:=(y.ag0 t i u h3 o).1 (hS i V);omega
  rw[B];exact(y.tmp t).mono (U _ (y.ahC t)) fun _ _=>rfl
 ·exact y.owner b ((mq (X b)).1 Z) C
theorem CK(hm:P.follows .mixedOrders=true)(hT:cX P T){id:Nat}{st y :St}{Q:Exit→St→Prop}(I:ui P T N ops d)(hE:d.E 0=st.env)(J:d.M 0=st.mem)(H :y =⟨d.E ops.size,d.M ops.size⟩)(hq:Q .normal y):
  AWP P tp N m0 (.region id ops true) st Q:=by
 intro ro h0 base μ0 w0 a0 hro hH hR hN hdf hm0;refine wpIn_region_any hm ?_;have F:∀(listed:Array Bool) (a:Act) (w:World) μ kb kt,listed.size=ops.size→a.tmps.size=N→a.defers=a0.defers→
   ahw d ops base μ0 w0 (uJ listed) μ kb kt a.tmps w→Region.ready .any ops listed=[]→
   ∃y μ',af3 base μ' y.mem w∧agn μ' y.mem.length y.env a.tmps∧a.tmps.size=N∧MOk P base h0 w a.defers∧m0≤y.mem.length∧Step m0 μ0 st.mem w0 μ' y.mem w∧Q .normal y :=by
  intro listed a w μ kb kt hsz ha hd hI hr;obtain⟨X,h2,h3,h4⟩:=WE (m0:=m0) I (by rw[J];exact hm0) hI (R4 I hsz hr);rw[J] at h4;exact⟨y,μ,by rw[H];exact X,by rw[H];exact h2,ha,by rw[hd];exact hdf.step hH h4,by rw[H];exact h3,by rw[H];exact h4,hq⟩
 have key:∀(Z:Nat) (listed:Array Bool) (a:Act) (w:World) μ kb kt,listed.size=ops.size→left ops listed≤Z→a.tmps.size=N→a.defers=a0.defers→
   wJ ops (uJ listed)→ahw d ops base μ0 w0 (uJ listed) μ kb kt a.tmps w→
   wpAnyIn (Fr ro) 0 P .any ops (fun e R w' =>∃y μ',af3 base μ' y.mem w' ∧agn μ' y.mem.length y.env R.tmps∧R.tmps.size=N∧MOk P base h0 w' R.defers∧m0≤y.mem.length∧
    Step m0 μ0 st.mem w0 μ' y.mem w' ∧Q e y) Z listed a w:=by
  intro Z;induction Z with
  |zero=>
   intro listed a w μ kb kt hsz hl ha hd hC hI;have hr:Region.ready .any ops listed=[]:=by
    apply List.eq_nil_iff_forall_not_mem.2;intro i hi;obtain⟨X,o,U,_⟩:=mem_ready.1 hi;have C:i<ops.size:=(Array.getElem?_eq_some_iff.1 U).1;have:i∈(List.range ops.size).filter fun i=> !listed.getD i true:=by rw[List.mem_filter];exact⟨by simpa using C,by rw[X];rfl⟩
    have h0:((List.range ops.size).filter fun i=> !listed.getD i true)=[]:=List.eq_nil_of_length_eq_zero (Nat.le_zero.1 hl);rw[h0] at this;cases this
   exact⟨hr,F listed a w μ kb kt hsz ha hd hI hr⟩
  |succ Z ih=>
   intro listed a w μ kb kt hsz hl ha hd hC hI;refine⟨F listed a w μ kb kt hsz ha hd hI,fun i hi=>?_⟩;obtain⟨X,o,U,S⟩:=mem_ready.1 hi;have C:i<ops.size:=(Array.getElem?_eq_some_iff.1 U).1;have O:¬uJ listed i:=by unfold uJ;simp only[Array.getD_eq_getD_getElem?] at X ⊢;rw[Array.getElem?_eq_getElem (by omega)] at X ⊢;simp only[Option.getD_some] at X ⊢;rw[X];simp
   have B:=U4 (listed:=listed) (i:=i) (by omega);have hC' :wJ ops (uJ (listed.setIfInBounds i true)):=by
    rw[B];intro j oj L K e he hb;rcases K with K | rfl
    ·exact .inl (hC j oj L K e he hb)
    ·rw[U] at L;cases L;exact .inl (S e he hb)
   have adm:left ops (listed.setIfInBounds i true)≤Z:=by
    have:left ops (listed.setIfInBounds i true)<left ops listed:=by
     unfold left;refine AY (fun k _ hk=>?_) (j:=i) (by simpa using C) (by rw[X];rfl) (by simp[hsz,C]);by_cases u:i=k
     ·subst u;simp[hsz,C] at hk
     ·rw[getD_set_ne true u] at hk;exact hk
    omega
   have D:=I i o U;have m:=U2 I hI hC U S O;have hGw:GOk P base w:=by
    refine⟨hdf.ag1.below,?_⟩;have:=hdf.ag1.tab;unfold Lib.TabIs at this ⊢;rw[←this];refine QG fun k hk=>hI.frame k ?_ fun b hb=>?_
    ·have:=hdf.ag1.below;have:=hH.afY;omega
    ·rw[J] at hb
     have:=Qo hH hb;have:=hdf.ag1.below;omega
   have Y:=U3 I hI hC U S O;have next:∀V w' μ',afQ μ' (d.M' i).length (d.v i) V→af3 base μ' (d.M' i) w' →Step (d.Tm i).length μ (d.Tm i) w μ' (d.M' i) w' →
     wpAnyIn (Fr ro) 0 P .any ops (fun e R w' =>∃y μ',af3 base μ' y.mem w' ∧agn μ' y.mem.length y.env R.tmps∧R.tmps.size=N∧MOk P base h0 w' R.defers∧m0≤y.mem.length∧
      Step m0 μ0 st.mem w0 μ' y.mem w' ∧Q e y) Z (listed.setIfInBounds i true) (a.put o.dst V) w' :=by
    intro V w' μ' q1 q2 q3;obtain⟨μ2,kb2,kt2,W⟩:=WM I hI hC U S O ha q1 q2 q3;rw[←B] at W;exact ih _ _ _ μ2 kb2 kt2 (by simp[hsz]) adm (by rw[fE];exact ha) (by rw[fU];exact hd) hC' W
   unfold wpOpIn;simp only[U];rw[qM Y D.wanted];cases hw:d.wb i with
   |false=>
    obtain⟨e1,e2⟩:=D.skip hw;simp only[Bool.false_eq_true,if_false];exact⟨fun _ _=>trivial,next undef w μ (by rw[e1];simp[afQ,afS,undef]) (by rw[e2];exact m) (by rw[e2];exact .refl (Nat.le_refl _))⟩
   |true=>
    simp only[if_true];exact sU hT hGw m Y ha D.dst (D.step hw) fun V w' μ' q1 q2 q3 q4=>next V w' μ' q1 q2 q4
 have hI0:ahw d ops base μ0 w0 (uJ (Array.replicate ops.size false)) μ0 (fun _=>0) (fun _=>0) a0.tmps { w0 with drawn:=w0.drawn+1 }:=by
  have hno:∀i,¬uJ (Array.replicate ops.size false) i:=by intro i;unfold uJ;simp only[Array.getD_eq_getD_getElem?,Array.getElem?_replicate];split<;>simp
  have G :af3 base μ0 (d.M 0) { w0 with drawn:=w0.drawn+1 }:=by rw[J];exact hH.agU rfl
  refine⟨G.afY,fun _=>Nat.zero_le _,fun b i _ _=>⟨fun h=>absurd h (hno i),fun h=>by omega⟩,fun _=>.inl rfl,fun b s hs=>G.slot b s hs,
   fun b b' s' =>G.sep b b' s',fun _=>Nat.zero_le _,fun t i oi _ _=>⟨fun h=>absurd h (hno i),fun h=>by omega⟩,fun _=>.inl rfl,fun t=>?_,fun _ _=>rfl,
   rfl,rfl,Nat.le_succ _,rfl,Nat.le_refl _,fun _ _ _=>rfl,fun b hb _=>⟨b,hb,rfl⟩⟩
  rw[J,hE];exact hR t
 refine key ops.size _ a0 _ μ0 _ _ (by simp) ?_ hN rfl ?_ hI0
 ·unfold left
  exact Nat.le_trans (List.length_filter_le _ _) (by simp)
 ·intro j o _ hS
  exfalso;unfold uJ at hS;simp only[Array.getD_eq_getD_getElem?,Array.getElem?_replicate] at hS;split at hS<;>simp at hS
end
end Go.Eng
namespace Go.Eng
def sN:Exit→Option (Option Code)
 |.normal=>some none
 |.ret=>some (some .ret)
 |.exit id=>some (some (.exit id))
 |_=>none
def zH:Option Code→Option Exit
 |none=>some .normal
 |some .ret=>some .ret
 |some (.exit id)=>some (.exit id)
 |_=>none
def nY(j:Option Code):LoopState:=if j.isNone then .ready else .done
def zD:List Tmp→List AV→Env→Env
 |t::ts,v::vs,env=>zD ts vs ((t,v)::env)
 |_,_,env=>env
variable{L:Loop}{m0:Nat}{r:agY}
section
variable {P:Program}{T:TypeId→Option TyI}{μ:Nat→Place}{mem:Mem}{base:Nat}{w:World}
theorem af3.alloc(y:af3 base μ mem w)(o:Obj):af3 base μ mem (w.alloc o):=by refine⟨by simp;have:=y.afY;omega,fun b s Z=>?_,y.sep⟩;exact(y.slot b s Z).mono (Nat.le_refl _) (fun _ _=>rfl) fun X=>ir w o ((y.slot b s Z).agA X)
theorem Step.alloc(h:m0≤mem.length)(o:Obj):Step m0 μ mem w μ mem (w.alloc o):=
 ⟨h,fun _ _=>rfl,rfl,rfl,rfl,by simp,fun k Z _=>ir w o Z,fun b X _=>⟨b,X,rfl⟩,Nat.le_refl _⟩
theorem Hk{n:Nat}:∀{ts:List Tmp} {vs:List AV} {Vs:List Value} {env:Env} {tmps:Array Value},afS μ n vs Vs→agn μ n env tmps→vs.length=ts.length→(∀t∈ts,t<tmps.size)→
  agn μ n (zD ts vs env) ((ts.zip Vs).foldl (fun tmps (t,a)=>tmps.setIfInBounds t a) tmps)∧((ts.zip Vs).foldl (fun tmps (t,a)=>tmps.setIfInBounds t a) tmps).size=tmps.size
 | [],[],Vs,env,tmps,hv,ht,_,_=>by exact⟨ht,rfl⟩
 |t::ts,v::vs,Vs,env,tmps,hv,ht,hl,hb=>by simp only[afS] at hv;obtain⟨U,S,rfl,Z,X⟩:=hv;simp only[zD,List.zip_cons_cons,List.foldl_cons];have:=agn.put (a:={ tmps:=tmps,defers:=[] }) ht (hb t (by simp)) Z;simp only[Act.put] at this;have r:=Hk (env:=(t,v)::env) (tmps:=tmps.setIfInBounds t U) X this (by simpa using hl) (fun x V=>by simpa using hb x (by simp[V]));exact⟨r.1,r.2.trans (by simp)⟩
 | [],_::_,_,_,_,_,_,hl,_=>by simp at hl
 |_::_,[],_,_,_,_,_,hl,_=>by simp at hl
theorem iX{l:Nat}(h:w.heap[l]? =some (.loop L)):(Instr.getLoop l).run P w=.ok L w:=by
 have Z:(getObj l).run P w=.ok (.loop L) w:=by simp[getObj,Sem.run,h]
 simp only[Instr.getLoop,Sem.run_bind,Z,Result.andThen_ok];rfl
theorem xv{base:Nat}{b:Nat}{r' :agY}{L' :Loop}(y:af3 base μ mem w)(hb:mem[b]? =some (.loop r))(H:w.heap[(μ b).blk]? =some (.loop L))(hr:ahd μ mem.length r' L'):
  (setObj (μ b).blk (.loop L')).run P w=.ok () { w with heap:=w.heap.setIfInBounds (μ b).blk (.loop L') }∧
  af3 base μ (mem.set b (.loop r')) { w with heap:=w.heap.setIfInBounds (μ b).blk (.loop L') }∧
  Step mem.length μ mem w μ (mem.set b (.loop r')) { w with heap:=w.heap.setIfInBounds (μ b).blk (.loop L') }:=by
 have X:=(Array.getElem?_eq_some_iff.1 H).1;have Z:=gL hb;refine⟨ud H (by intro c e f h;cases h),y.write hb (SC hb) (fun _=>⟨_,List.getElem?_set_self Z,rfl⟩) rfl rfl rfl rfl (by simp) (fun k V=>Array.getElem?_setIfInBounds_ne (Ne.symm V)) ?_⟩;simp only[af5];have:=y.slot b _ hb;simp only[af5] at this;obtain⟨_,_,U,_⟩:=this;exact⟨L',by simp[X],U,hr⟩
theorem agC.intro{b:Nat}{args:List AV}{R:AV→Mem→Prop}(hb:mem[b]? =some (.loop r))(H:r.st=.ready)(hl:args.length=r.ps.toList.length)(y:∀t∈r.ps.toList,t<r.N)(h:AWP P false r.N mem.length r.assign ⟨zD r.ps.toList args r.env,mem⟩ fun e Z=>e=.normal∧∃r1,Z.mem[b]? =some (.loop r1)∧r1.st=.ready∧
   AWP P false r.N mem.length r.body ⟨Z.env,Z.mem.set b (.loop { r1 with st:=.busy })⟩ fun e X=>∃r2 j M,sN e=some j∧X.mem[b]? =some (.loop r2)∧EW mem.length X.mem.length M=true∧
    R (.bool j.isNone) (af2 mem.length M (X.mem.set b (.loop { r2 with st:=nY j,agX:=j })))):
  agC P b args mem R:=by
 intro base μ w Vs hG hH hV hbl;have U:=hH.slot b _ hb;simp only[af5] at U;obtain⟨L,W,h2,h3⟩:=U;have J:Vs.length=L.params.size:=by rw[hV.length,hl,h3.ps];simp
 refine⟨L.fn,(L.params.zip ⟨Vs⟩).foldl (fun tmps (t,a)=>tmps.setIfInBounds t a) L.tmps,L.assign,L.body,?_,?_⟩
 ·simp only[Instr.yield,Sem.run_bind,iX W,Result.andThen_ok]
  rw[if_neg (by simp[J])];rfl
 ·refine roundIn_of_wpIn (F:=Fence.wide) trivial ?_
  have S:(L.params.zip ⟨Vs⟩).foldl (fun tmps (t,a)=>tmps.setIfInBounds t a) L.tmps=(r.ps.toList.zip Vs).foldl (fun tmps (t,a)=>tmps.setIfInBounds t a) L.tmps:=by rw[h3.ps,←Array.foldl_toList];simp
  have B:=Hk (ts:=r.ps.toList) hV h3.tmps hl (fun t I=>by rw[h3.size];exact y t I);rw[h3.assign,h3.body];refine wpIn_mono (F:=Fr (some (μ b).blk)) (h (some (μ b).blk) w.heap.size base μ w ⟨_,[]⟩ (fun h=>by cases h) hH (by rw[S];exact B.1) (by rw[S,B.2];exact h3.size) (MOk.nil w hG hH.afY (Nat.le_refl _)) (Nat.le_refl _)) ?_;rintro e a1 w1 ⟨Z,μ1,c1,c2,c3,c4,c5,c6,rfl,r1,c7,c8,hbody⟩;have Q:=c1.slot b _ c7;simp only[af5] at Q;obtain⟨L1,d1,d2,d3⟩:=Q;have hμ:μ1 b=μ b:=c6.agree b hbl;rw[hμ] at d1;obtain⟨u,o,K⟩:=xv (P:=P) (r' :={ r1 with st:=.busy }) (L' :={ L1 with state:=.busy }) c1 c7 (by rw[hμ];exact d1) { d3 with st:=rfl };rw[hμ] at u o K;refine⟨_,?_,wpIn_mono (F:=Fr (some (μ b).blk)) (hbody (some (μ b).blk) w.heap.size base μ1 _ a1 (fun h=>by cases h) o (by rw[List.length_set];exact c2) c3 (c4.step c1 K) (by rw[List.length_set];exact c5)) ?_⟩
  ·simp only[Instr.beginRound,Sem.run_bind,iX d1,Result.andThen_ok,u]
   rw[d3.st,c8];rfl
  ·rintro e a2 w2 ⟨X,μ2,f1,f2,f3,f4,f5,f6,r2,j,M,f7,f8,f9,f10⟩
   have O:=f1.slot b _ f8;simp only[af5] at O;obtain⟨L2,g1,g2,g3⟩:=O;have hμ2:μ2 b=μ b:=by rw[f6.agree b hbl,hμ]
   rw[hμ2] at g1;obtain⟨G,m,Y⟩:=xv (P:=P) (r' :={ r2 with st:=nY j,agX:=j }) (L' :={ L2 with state:=nY j,pending:=j }) f1 f8 (by rw[hμ2];exact g1) { g3 with st:=rfl,agX:=rfl };rw[hμ2] at G m Y;have D:(Instr.endRound (μ b).blk j).run P w2=.ok (.bool j.isNone) { w2 with heap:=w2.heap.setIfInBounds (μ b).blk (.loop { L2 with state:=nY j,pending:=j }) }:=by unfold nY at G ⊢;simp only[Instr.endRound,Sem.run_bind,iX g1,Result.andThen_ok,G];rfl
   obtain⟨p1,p2,p3⟩:=m.af2 (by rw[List.length_set];exact f5) (by rw[List.length_set];exact f9);have hS:Step mem.length μ mem w _ _ _:=((c6.trans (K.mono c5)).trans f6).trans ((Y.mono f5).trans p3);have C:∃V v mem' μ',(Ending.returned (.bool j.isNone):Ending)=.returned V∧afQ μ' mem'.length v V∧af3 base μ' mem' { w2 with heap:=w2.heap.setIfInBounds (μ b).blk (.loop { L2 with state:=nY j,pending:=j }) }∧
     Step mem.length μ mem w μ' mem' { w2 with heap:=w2.heap.setIfInBounds (μ b).blk (.loop { L2 with state:=nY j,pending:=j }) }∧R v mem' :=
    ⟨_,.bool j.isNone,_,_,rfl,by simp[afQ],p1,hS,f10⟩
   cases e<;>simp only[sN,Option.some.injEq,reduceCtorEq] at f7<;>subst f7<;>exact⟨_,_,D,C⟩
theorem Hg{N:Nat}{g:Operand}{ps:Array Tmp}{assign body:Code}{st:St}{Q:Exit→St→Prop}{f:FuncId}{caps:List AV}(hg:get st.env g=.func f caps)(h:ags P f (.yield st.mem.length::caps) (st.mem++[.loop ⟨.ready,none,st.env,N,ps,assign,body⟩]) fun _ Z=>∃r2 e,Z[st.mem.length]? =some (.loop r2)∧r2.st≠ .busy∧zH r2.agX=some e∧
   Q e ⟨st.env,Z.set st.mem.length (.loop { r2 with st:=.exhausted })⟩):
  AWP P true N m0 (.rangeFunc g ps assign body) st Q:=by
 intro ro h0 base μ w a hro hH hR hN hdf D;cases hro rfl;have S:=bp hR g;rw[hg] at S;simp only[afQ] at S;obtain⟨C,hU,B⟩:=S;refine wpIn_rangeFunc fun fn _=>?_
 let o1:Obj:=.deferred (some [])
 let w1:=w.alloc o1
 let L:Loop:={ state:=.ready,pending:=none,fn,tmps:=a.tmps,params:=ps,assign,body,defers:=w.heap.size }
 have R:af3 base μ st.mem w1:=hH.alloc o1;have u:Step st.mem.length μ st.mem w μ st.mem w1:=.alloc (Nat.le_refl _) o1;have hsz:w1.heap.size=w.heap.size+1:=by simp[w1]
 obtain⟨O,o⟩:=R.push (.loop L) (.loop ⟨.ready,none,st.env,N,ps,assign,body⟩) ⟨w1.heap.size,0,0,0⟩ rfl (by simp only[af5];exact⟨L,heap_alloc_new w1 _,R.afY,rfl,rfl,rfl,rfl,rfl,hN,hR.mono (Nat.le_succ _) fun b hb=>xR hb⟩)
 have M:=u.trans o;have hμb:(upd μ st.mem.length ⟨w1.heap.size,0,0,0⟩ st.mem.length).blk=w1.heap.size:=by rw[eI]
 have H:MOk P base h0 (w1.alloc (.loop L)) ({ target:=.collected w.heap.size,args:= #[] }::a.defers):=by
  have U:=(hdf.step hH M);refine⟨U.ag1,U.afY,U.le,fun d K=>?_,?_⟩
  ·rcases List.mem_cons.1 K with rfl | K
   ·refine⟨w.heap.size,rfl,hdf.le,?_⟩
    rw[ir w1 _ (by omega)];exact heap_alloc_new w o1
   ·exact U.each d K
  ·simp only[List.map_cons,List.nodup_cons]
   refine⟨?_,hdf.nodup⟩;intro D;obtain⟨d,K,y⟩:=List.mem_map.1 D;obtain⟨r,e,_,h2⟩:=hdf.each d K;rw[e] at y;simp only[Target.collected.injEq] at y;have:=(Array.getElem?_eq_some_iff.1 h2).1;omega
 have m:=h.2 base _ (w1.alloc (.loop L)) (.func (.yield w1.heap.size) #[] #[]::C) H.ag1 O
  (bO.2 ⟨by simp only[afQ,hμb];exact⟨by simp,trivial⟩,B.mono (by simp) fun b hb=>xR hb⟩)
 refine⟨w1.heap.size,[{ target:=.collected w.heap.size,args:= #[] }],w1.alloc (.loop L),{ target:=.fn (.func f) ⟨C⟩,args:= #[]++ #[.func (.yield w1.heap.size) #[] #[]] },w1.alloc (.loop L),f,⟨.func (.yield w1.heap.size) #[] #[]::C⟩,w1.alloc (.loop L),?_,?_,fun _ _=>trivial,?_,fun h=>by simp[Fence.wide] at h,?_⟩
 ·simp only[Instr.enterLoop,Sem.run_bind,run_newObj,Result.andThen_ok,Sem.run_pure]
  rfl
 ·have hc:(#[Operand.const (.func (.yield w1.heap.size) #[] #[])]:Array Operand).map a.eval= #[.func (.yield w1.heap.size) #[] #[]]:=by simp[Act.eval]
  simp only[resolve,hU,Deferred.ofValue,hc];rfl
 ·simp only[invoke]
  rw[zE h.1];congr 2;apply Array.ext';simp
 ·refine Bi.2 (m.mono ?_)
  rintro e w3 ⟨V,v,Z,μ2,rfl,q1,q2,q3,r2,e2,q4,q5,q6,q7⟩;have j:st.mem.length<(st.mem++[afU.loop ⟨.ready,none,st.env,N,ps,assign,body⟩]).length:=by simp
  have hμ2:(μ2 st.mem.length).blk=w1.heap.size:=by rw[q3.agree _ j,hμb]
  have G:=q2.slot _ _ q4;simp only[af5] at G;obtain⟨L2,g1,g2,g3⟩:=G;obtain⟨k1,k2,Y⟩:=xv (P:=P) (r' :={ r2 with st:=.exhausted }) (L' :={ L2 with state:=.exhausted }) q2 q4 g1 { g3 with st:=rfl };rw[hμ2] at k1 k2 Y g1;have F:st.mem.length≤Z.length:=Nat.le_trans (by simp) q3.len;have W:=M.trans (q3.mono (m0:=st.mem.length) (by simp));have J:=W.trans (Y.mono F);have X:∃T' μ',af3 base μ' T'.mem { w3 with heap:=w3.heap.setIfInBounds w1.heap.size (.loop { L2 with state:=.exhausted }) }∧agn μ' T'.mem.length T'.env a.tmps∧a.tmps.size=N∧
    MOk P base h0 { w3 with heap:=w3.heap.setIfInBounds w1.heap.size (.loop { L2 with state:=.exhausted }) } ({ target:=.collected w.heap.size,args:= #[] }::a.defers)∧m0≤T'.mem.length∧
    Step m0 μ st.mem w μ' T'.mem { w3 with heap:=w3.heap.setIfInBounds w1.heap.size (.loop { L2 with state:=.exhausted }) }∧Q e2 T' :=by
   refine⟨_,μ2,k2,?_,hN,(H.step O q3).step q2 Y,?_,J.mono D,q7⟩
   ·show agn μ2 (Z.set st.mem.length _).length st.env a.tmps
    rw[List.length_set];exact hR.mono F fun b hb=>by rw[q3.agree b (by simp;omega),xR hb]
   ·show m0≤(Z.set st.mem.length _).length
    rw[List.length_set];omega
  refine⟨r2.agX,{ w3 with heap:=w3.heap.setIfInBounds w1.heap.size (.loop { L2 with state:=.exhausted }) },?_,?_⟩
  ·simp only[Instr.endLoop,Sem.run_bind,iX g1,Result.andThen_ok]
   rw[g3.st];have hb:(r2.st==LoopState.busy)=false:=by cases hx:r2.st<;>first | rfl | exact absurd hx q5
   rw[hb];have I:L2.pending=r2.agX:=g3.agX;simp only[Bool.false_eq_true,if_false,Sem.run_bind,Sem.run_pure,k1,Result.andThen_ok];rw[I]
  ·cases hp:r2.agX with
   |none=>
    rw[hp] at q6;simp only[zH,Option.some.injEq] at q6;subst q6;exact X
   |some c=>
    rw[hp] at q6;cases c<;>simp only[zH,Option.some.injEq,reduceCtorEq] at q6
    ·subst q6;exact wpIn_exit X
    ·subst q6;exact wpIn_ret X
end
end Go.Eng
namespace Go.Eng
structure y9 where
 v:AV
 pre:Option Mem
 new:Mem
def y9.mem(r:y9)(mem:Mem):Mem:=(r.pre.getD mem)++r.new
inductive Callee where
 |fn (f:FuncId)
 |yld (b:Nat)
abbrev afF:=Callee→List AV→Mem→Option y9
def kF(env:Env):Op→Option (Callee×List AV)
 |.call { callee:=.value x,args,argTypes:=_ }=>match get env x with
  |.func f Z=>some (.fn f,YE env args++Z)
  |.yield b=>some (.yld b,YE env args)
  |_=>none
 |_=>none
structure XS where
 env:Env
 mem:Mem
 agf:Bool
def Vo:AV→List Nat
 |.ptr b _=>[b]
 |_=>[]
def dy:AV→List Nat
 |.slice b _ _ _=>[b]
 |_=>[]
def PH:AV→List Nat
 |.map b=>[b]
 |_=>[]
def xU(env:Env):Op→List Nat
 |.store _ a _=>Vo (get env a)
 |.call { callee:=.builtin .append,args:=⟨[s,_]⟩,argTypes:=_ }=>dy (get env s)
 |.call { callee:=.builtin .unsafeString,args:=⟨[x,_]⟩,argTypes:=_ }=>Vo (get env x)
 |.call { callee:=.builtin .clear,args:=⟨[x]⟩,argTypes:=_ }=>dy (get env x)
 |.mapUpdate _ m _ _=>PH (get env m)
 |.mapEntry _ m _=>PH (get env m)
 |.entryStore _ m _ _=>PH (get env m)
 |_=>[]
def W3(T:TypeId→Option TyI)(O:afF)(m0:Nat)(env:Env)(mem:Mem)(y:Bool)(o:Oper):Option (AV×Mem×Bool):=
 match aOp T env mem o.op with
 |some (v,m)=>some (v,m,y||(xU env o.op).any fun b=>decide (b<m0))
 |none=>match kF env o.op with
  |some (c,args)=>match O c args mem with
   |some r=>some (r.v,r.mem mem,y||r.pre.isSome)
   |none=>none
  |none=>none
def dF(T:TypeId→Option TyI)(O:afF)(N m0:Nat)(ops:Array Oper):List Oper→XS→Option XS
 | [],s=>some s
 |o::os,s=>
  if ES N o then
   match tE ops s.env o with
   |some true=>match W3 T O m0 s.env s.mem s.agf o with
    |some (v,m,dt)=>dF T O N m0 ops os ⟨agH s.env o.dst v,m,dt⟩
    |none=>none
   |some false=>dF T O N m0 ops os ⟨agH s.env o.dst (.tuple []),s.mem,s.agf⟩
   |none=>none
  else none
def dm(ops:List Oper):List Nat:=
 ops.foldl (fun acc o=>acc++[o.after.toList.foldl (fun s e=>if Region.binds .any e then s ||| 2 ^ e.on ||| acc.getD e.on 0 else s) 0]) []
def bef(y:List Nat)(i j:Nat):Bool:=(y.getD j 0).testBit i
def oH(ops:Array Oper)(y:List Nat):Bool:=
 let n:=ops.size
 (List.range n).all fun j=>match ops[j]? with
  |none=>true
  |some o=>
   o.after.toList.all (fun e=> !Region.binds .any e||decide (e.on<j))&&
   (List.range n).all fun i=>(!bef y i j||o.after.toList.any fun e=>Region.binds .any e&&(e.on==i||bef y i e.on))&&(i==j||bef y i j||bef y j i||match ops[i]? with
    |none=>true
    |some oi=>match oi.dst with
     |none=>true
     |some t=> !(o.looksAt ops).contains t&& !(o.dst==some t))
def Pp(env:Env):Op→Option (List Nat)
 |.load _ a=>match get env a with
  |.ptr b _=>some [b]
  |_=>some []
 |.store _ a _=>match get env a with
  |.ptr b _=>some [b]
  |_=>some []
 |.slice _ x _ _ _=>match get env x with
  |.slice b _ _ _=>some [b]
  |_=>some []
 |.lookup _ m _ _=>match get env m with
  |.map b=>some [b]
  |_=>some []
 |.mapUpdate _ m _ _=>match get env m with
  |.map b=>some [b]
  |_=>some []
 |.mapEntry _ m _=>match get env m with
  |.map b=>some [b]
  |_=>some []
 |.entryStore _ m _ _=>match get env m with
  |.map b=>some [b]
  |_=>some []
 |.call { callee:=.builtin .len,args:=⟨[x]⟩,argTypes:=_ }=>match get env x with
  |.map b=>some [b]
  |_=>some []
 |.call { callee:=.builtin .append,args:=⟨[s,x]⟩,argTypes:=_ }=>
  some ((match get env s with | .slice b _ _ _=>[b] | _=>[])++(match get env x with | .slice b _ _ _=>[b] | _=>[]))
 |.call { callee:=.builtin .unsafeSliceData,args:=⟨[x]⟩,argTypes:=_ }=>match get env x with
  |.slice b _ _ _=>some [b]
  |_=>some []
 |.call { callee:=.builtin .clear,args:=⟨[x]⟩,argTypes:=_ }=>match get env x with
  |.slice b _ _ _=>some [b]
  |_=>some []
 |.call { callee:=.builtin .unsafeString,args:=⟨[x,_]⟩,argTypes:=_ }=>match get env x with
  |.ptr b _=>some [b]
  |_=>some []
 |.call { callee:=.builtin _,args:=_,argTypes:=_ }=>some []
 |.call _=>none
 |_=>some []
structure Rec where
 env:Env
 en:Env
 mem:Mem
 tm:Mem
 v:AV
 m' :Mem
 nx:Mem
 wb:Bool
 wr:List Nat
def bK(y:Nat→Bool):Nat→Mem→Mem
 |_,[]=>[]
 |i,s::r=>(if y i then s else .qK)::bK y (i+1) r
def bt(wr:List Nat):Nat→Mem→Mem→Mem
 |_,[],m' =>m'
 |_,_::_,[]=>[]
 |i,s::r,s' ::r' =>(if wr.contains i then s' else s)::bt wr (i+1) r r'
def fg(mem:Mem)(b:Nat):Bool:=match mem[b]? with
 |some .qK=>false
 |some _=>true
 |none=>false
def ee:Nat→Mem→List Nat
 |_,[]=>[]
 |i,.qK::r=>ee (i+1) r
 |i,_::r=>i::ee (i+1) r
def xQ(y:List Nat)(j:Nat):Nat→List Rec→List Rec
 |_,[]=>[]
 |i,r::rs=>if bef y i j then xQ y j (i-1) rs else r::xQ y j (i-1) rs
def Yf(y:List Nat)(j:Nat)(acc:List Rec):Option (List Nat)→Nat→Bool
 |some l=>fun b=>l.contains b
 |none=>let un:=xQ y j (j-1) acc;fun b=> !un.any fun f=>decide (f.mem.length≤b∧b<f.nx.length)
def W1(y:Mem):Option Mem→List Nat
 |some _=>ee 0 y
 |none=>[]
def HH(T:TypeId→Option TyI)(O:afF)(N:Nat)(ops:Array Oper)(y:List Nat)(j:Nat)(o:Oper)(env:Env)(mem:Mem)(acc:List Rec):Option Rec:=
 if ES N o then
  let en:=(o.looksAt ops).map fun t=>(t,ad env t)
  match tE ops en o with
  |none=>none
  |some false=>some ⟨env,en,mem,bK (fun _=>false) 0 mem,.tuple [],bK (fun _=>false) 0 mem,mem,false,[]⟩
  |some true=>
   let tm:=bK (Yf y j acc (Pp en o.op)) 0 mem
   match aOp T en tm o.op with
   |some (v,m)=>let wr:=xU en o.op;some ⟨env,en,mem,tm,v,m,bt wr 0 mem m,true,wr⟩
   |none=>match kF en o.op with
    |none=>none
    |some (c,args)=>match O c args tm with
     |none=>none
     |some r=>let wr:=W1 tm r.pre
      some ⟨env,en,mem,tm,r.v,r.mem tm,bt wr 0 mem (r.mem tm),true,wr⟩
 else none
def n9(T:TypeId→Option TyI)(O:afF)(N:Nat)(ops:Array Oper)(y:List Nat):Nat→List Oper→Env→Mem→List Rec→Option (List Rec×Env×Mem)
 |_,[],env,mem,acc=>some (acc.reverse,env,mem)
 |j,o::os,env,mem,acc=>match HH T O N ops y j o env mem acc with
  |none=>none
  |some r=>n9 T O N ops y (j+1) os (agH env o.dst r.v) r.nx (r::acc)
def jc(top:Nat)(un:List (Nat×Rec))(b:Nat):Bool:=
 decide (b<top)&&un.all fun f=> !decide (f.2.mem.length≤b∧b<f.2.nx.length)
def bq:Nat→List Rec→List (Nat×Rec)
 |_,[]=>[]
 |i,r::rs=>(i,r)::bq (i+1) rs
def iL(y:List Nat)(R:List (Nat×Rec))(j:Nat)(r:Rec):Bool:=
 let un:=R.filter fun f=>decide (f.1<j)&& !bef y f.1 j
 r.wr.all (fun b=>fg r.tm b)&&
 r.v.afP (jc r.nx.length un)&&
 r.wr.all (fun b=>match r.nx[b]? with | some s=>s.afP (jc r.nx.length un) | none=>true)&&
 (r.nx.drop r.mem.length).all (fun s=>(s.own||match s with | .qK=>true | _=>false)&&s.afP (jc r.nx.length un))&&
 un.all fun f=>f.2.wr.all (fun b=> !fg r.tm b)&&r.wr.all (fun b=> !fg f.2.tm b)&&
  ((r.tm.drop f.2.mem.length).take (f.2.nx.length-f.2.mem.length)).all fun s=>match s with | .qK=>true | _=>false
def aH(T:TypeId→Option TyI)(O:afF)(N m0:Nat)(ops:Array Oper)(s:XS):Option XS:=
 let bs:=dm ops.toList
 match n9 T O N ops bs 0 ops.toList s.env s.mem [] with
 |none=>none
 |some (R,env,mem)=>
  let nR:=bq 0 R
  if nR.all fun f=>iL bs nR f.1 f.2 then some ⟨env,mem,s.agf||R.any fun r=>r.wr.any fun b=>decide (b<m0)⟩ else none
def cM:Code→Bool
 |.region _ ops true=>oH ops (dm ops.toList)
 |.seq a b=>cM a&&cM b
 |.cond _ a b=>cM a&&cM b
 |.block _ b=>cM b
 |.loop b=>cM b
 |.scope b=>cM b
 |.rangeFunc _ _ a b=>cM a&&cM b
 |_=>true
def ae:Code→List Nat
 |.region _ ops _=>ops.toList.filterMap (·.dst)
 |.seq a b=>ae a++ae b
 |.cond _ a b=>ae a++ae b
 |.block _ b=>ae b
 |.loop b=>ae b
 |.scope b=>ae b
 |_=>[]
def aA(lv wr:List Nat)(y env:Env):Env:=lv.map (fun t=>(t,ad env t))++((wr.filter fun t=> !lv.contains t).map fun t=>(t,AV.undef))++y
mutual
def AV.refs(m0:Nat):AV→List Nat
 |.ptr b _=>if b<m0 then [] else [b]
 |.slice b _ _ _=>if b<m0 then [] else [b]
 |.map b=>if b<m0 then [] else [b]
 |.yield b=>if b<m0 then [] else [b]
 |.func _ Z=>AV.af6 m0 Z
 |.iface _ v=>v.refs m0
 |.agg Z=>AV.af6 m0 Z
 |.tuple Z=>AV.af6 m0 Z
 |_=>[]
def AV.af6(m0:Nat):List AV→List Nat
 | []=>[]
 |v::vs=>v.refs m0++AV.af6 m0 vs
end
def afU.refs(m0:Nat):afU→List Nat
 |.qK=>[]
 |.cells _ _ cs=>AV.af6 m0 cs
 |.map es=>es.flatMap fun e=>e.1.refs m0++e.2.refs m0
 |.agq es=>es.flatMap fun e=>e.1.refs m0++e.2.refs m0
 |.loop r=>r.env.flatMap fun e=>e.2.refs m0
def qZ(m0:Nat)(mem:Mem):Nat→List Nat→List Nat→List Nat
 |0,_,seen=>seen
 |_,[],seen=>seen
 |k+1,b::todo,seen=>if seen.contains b then qZ m0 mem k todo seen else qZ m0 mem k (todo++(mem.getD b .qK).refs m0) (seen++[b])
def T7:List Nat→Bool
 |a::b::_=>a==b
 |_=>false
def QD:List Nat→Bool
 |a::b::c::_=>a==b&&b==c
 |_=>false
def Mw(lv wr:List Nat)(H:Env)(y:Nat)(s:XS):XS:=
 let ks:=qZ y s.mem 1000 ((lv.flatMap fun t=>(ad s.env t).refs y)++(s.mem.take y).flatMap (afU.refs y)) []
 if EW y s.mem.length ks then
  ⟨(lv.filter fun t=>wr.contains t).map (fun t=>(t,(ad s.env t).ren (rho y ks)))++((wr.filter fun t=> !lv.contains t).map fun t=>(t,AV.undef))++H,(s.mem.take y).map (afU.ren (rho y ks))++agK y ks s.mem,true⟩
 else⟨aA lv wr H s.env,s.mem,s.agf⟩
def sS(lv wr:List Nat)(H:Env)(y:Nat)(s:XS):XS:=
 if QD lv=true∨s.mem.length≤y then⟨aA lv wr H s.env,s.mem,s.agf⟩ else
  let ks:=qZ y s.mem 1000 (lv.flatMap fun t=>(ad s.env t).refs y) []
  if EW y s.mem.length ks&&(s.mem.take y).all fun s=>(s.refs y).isEmpty then
   ⟨(lv.filter fun t=>wr.contains t).map (fun t=>(t,(ad s.env t).ren (rho y ks)))++((wr.filter fun t=> !lv.contains t).map fun t=>(t,AV.undef))++H,s.mem.take y++agK y ks s.mem,s.agf⟩
  else if T7 lv then Mw lv wr H y s
  else⟨aA lv wr H s.env,s.mem,s.agf⟩
def ga(lv wr:List Nat)(y:Env)(H:Nat)(f:XS→Option (Exit×XS)):Nat→XS→Option (Exit×XS)
 |0,_=>none
 |k+1,s=>match f s with
  |some (.normal,s')=>ga lv wr y H f k (sS lv wr y H s')
  |r=>r
def aW(T:TypeId→Option TyI)(lv:Code→List Nat)(O:afF)(K N m0:Nat)(tp:Bool):Code→XS→Option (Exit×XS)
 |.skip,s=>some (.normal,s)
 |.region _ ops false,s=>match dF T O N m0 ops ops.toList s with
  |some s' =>some (.normal,s')
  |none=>none
 |.region _ ops true,s=>match aH T O N m0 ops s with
  |some s' =>some (.normal,s')
  |none=>none
 |.seq a b,s=>match aW T lv O K N m0 tp a s with
  |some (.normal,s')=>aW T lv O K N m0 tp b s'
  |r=>r
 |.cond c a b,s=>match get s.env c with
  |.bool true=>aW T lv O K N m0 tp a s
  |.bool false=>aW T lv O K N m0 tp b s
  |_=>none
 |.block id b,s=>match aW T lv O K N m0 tp b s with
  |some (.exit i,s')=>if i=id then some (.normal,s') else some (.exit i,s')
  |r=>r
 |.loop b,s=>ga (lv b) (ae b) s.env s.mem.length (aW T lv O K N m0 tp b) K ⟨aA (lv b) (ae b) s.env s.env,s.mem,s.agf⟩
 |.exit id,s=>some (.exit id,s)
 |.ret,s=>some (.ret,s)
 |.rangeFunc g ps Z8 body,s=>
  if tp then
   match get s.env g with
   |.func f caps=>match O (.fn f) (.yield s.mem.length::caps) (s.mem++[.loop ⟨.ready,none,s.env,N,ps,Z8,body⟩]) with
    |some r=>
     let aaK:=r.mem (s.mem++[.loop ⟨.ready,none,s.env,N,ps,Z8,body⟩])
     match aaK[s.mem.length]? with
     |some (.loop r2)=>if r2.st== .busy then none else match zH r2.agX with
      |some e=>some (e,⟨s.env,aaK.set s.mem.length (.loop { r2 with st:=.exhausted }),s.agf||r.pre.isSome⟩)
      |none=>none
     |_=>none
    |none=>none
   |_=>none
  else none
 |_,_=>none
def aa(T:TypeId→Option TyI)(lv:Code→List Nat)(G:FuncId→Option Func)(O:afF)(K:Nat)(f:FuncId)(args:List AV)(mem:Mem):Option y9:=
 match G f with
 |none=>none
 |some fn=>match fn.body with
  |none=>none
  |some c=>
   if args.length≤fn.ntmps then
    match aW T lv O K fn.ntmps mem.length true c ⟨dC 0 args,mem,false⟩ with
    |some (e,s)=>
     match e with
     |.normal | .ret=>
      match jK T fn.results.toList s.env s.mem with
      |some v=>
       let m0:=mem.length
       if s.agf then
        let ks:=qZ m0 s.mem 1000 (v.refs m0++(s.mem.take m0).flatMap (afU.refs m0)) []
        if EW m0 s.mem.length ks then
         some ⟨v.ren (rho m0 ks),some ((s.mem.take m0).map (afU.ren (rho m0 ks))),agK m0 ks s.mem⟩
        else none
       else
        let ks:=qZ m0 s.mem 1000 (v.refs m0) []
        if EW m0 s.mem.length ks then
         some ⟨v.ren (rho m0 ks),none,agK m0 ks s.mem⟩
        else none
      |none=>none
     |_=>none
    |none=>none
   else none
def yL(T:TypeId→Option TyI)(lv:Code→List Nat)(O:afF)(K:Nat)(b:Nat)(args:List AV)(mem:Mem):Option y9:=
 match mem[b]? with
 |some (.loop r)=>
  if r.st== .ready&&decide (args.length=r.ps.toList.length)&&r.ps.toList.all (fun t=>decide (t<r.N))&&cM r.assign&&cM r.body then
   match aW T lv O K r.N mem.length false r.assign ⟨zD r.ps.toList args r.env,mem,true⟩ with
   |some (.normal,s1)=>match s1.mem[b]? with
    |some (.loop r1)=>
     if r1.st== .ready then
      match aW T lv O K r.N mem.length false r.body ⟨s1.env,s1.mem.set b (.loop { r1 with st:=.busy }),true⟩ with
      |some (e,s2)=>match sN e,s2.mem[b]? with
       |some j,some (.loop r2)=>
        let m0:=mem.length
        let m3:=s2.mem.set b (.loop { r2 with st:=nY j,agX:=j })
        let ks:=qZ m0 m3 1000 ((m3.take m0).flatMap (afU.refs m0)) []
        if EW m0 s2.mem.length ks then
         some ⟨.bool j.isNone,some ((m3.take m0).map (afU.ren (rho m0 ks))),agK m0 ks m3⟩
        else none
       |_,_=>none
      |none=>none
     else none
    |_=>none
   |_=>none
  else none
 |_=>none
def EO(T:TypeId→Option TyI)(lv:Code→List Nat)(G:FuncId→Option Func)(O:afF)(K:Nat):Nat→afF
 |0=>O
 |n+1=>fun c Z mem=>match O c Z mem with
  |some r=>some r
  |none=>match c with
   |.fn f=>aa T lv G (EO T lv G O K n) K f Z mem
   |.yld b=>yL T lv (EO T lv G O K n) K b Z mem
structure qS (P:Program)(O:afF):Prop where
 fn:∀f args mem r,O (.fn f) args mem=some r→kO P f args mem r.v (r.mem mem)
 yld:∀b args mem r,O (.yld b) args mem=some r→gk P b args mem r.v (r.mem mem)
 pre:∀c args mem r p,O c args mem=some r→r.pre=some p→p.length=mem.length
variable{args:List AV}{c:Callee}{d:Bool}{k m x:AV}{l:List Nat}{o:Oper}{op:Op}
section
variable {P:Program}{T:TypeId→Option TyI}{O:afF}{mem mem' :Mem}{env:Env}
def agl(wr:List Nat) (mem mem' :Mem):Prop:=mem.length≤mem'.length∧∀b:Nat,b<mem.length→b∉wr→mem'[b]? =mem[b]?
theorem agl.refl(wr:List Nat)(mem:Mem):agl wr mem mem:=⟨Nat.le_refl _,fun _ _ _=>rfl⟩
theorem agl.push(wr:List Nat)(mem l:Mem):agl wr mem (mem++l):=⟨by simp,fun b Z _=>List.getElem?_append_left Z⟩
theorem agl.set(b0:Nat)(s:afU)(mem:Mem):agl [b0] mem (mem.set b0 s):=
 ⟨by simp,fun b _ Z=>List.getElem?_set_ne (fun e=>Z (by simp[e]))⟩
theorem agl.ahD(b0:Nat)(s:afU)(mem l:Mem):agl [b0] mem (mem.set b0 s++l):=
 ⟨by simp,fun b Z X=>by rw[List.getElem?_append_left (by simpa using Z)];exact List.getElem?_set_ne (fun e=>X (by simp[e]))⟩
theorem xg{t t2:TypeId}{s x v:AV}(h:qg T mem t t2 s x=some (v,mem')):agl (dy s) mem mem' :=by
 unfold qg at h
 repeat' split at h
 all_goals first
  |(cases h;done)
  |(cases h;exact .refl _ _)
  |(cases h;exact .push _ _ _)
  |(cases h;exact .set _ _ _)
  |(cases h;exact .ahD _ _ _ _)
theorem LG{t:TypeId}{v:AV}(h:uy T mem t x v=some mem'):agl (Vo x) mem mem' :=by
 unfold uy at h
 repeat' split at h
 all_goals first
  |(cases h;done)
  |(cases h;rename_i Z _ _ _;exact .set _ _ _)
theorem AR{t:TypeId}{v:AV}(h:fz T mem t m k v=some mem'):agl (PH m) mem mem' :=by
 unfold fz at h
 repeat' split at h
 all_goals first
  |(cases h;done)
  |(cases h;exact .set _ _ _)
theorem CA{t:TypeId}{v:AV}(h:sz T mem t m k=some (v,mem')):agl (PH m) mem mem' :=by
 unfold sz at h
 repeat' split at h
 all_goals first
  |(cases h;done)
  |(cases h;exact .set _ _ _)
theorem yG{m s v:AV}(h:lP mem m s v=some mem'):agl (PH m) mem mem' :=by
 unfold lP at h
 repeat' split at h
 all_goals first
  |(cases h;done)
  |(cases h;exact .set _ _ _)
theorem Lv{e:TypeId}{v:AV}(h:ux T mem e=some (v,mem')):agl l mem mem' :=by unfold ux at h;split at h<;>cases h;exact .push _ _ _
theorem RT{v:AV}(h:Yz mem x=some (v,mem')):agl l mem mem' :=by unfold Yz at h;split at h<;>cases h;exact .push _ _ _
theorem yE{t:TypeId}{n:Nat}{ps}{v:AV}{l:List Nat}(h:gh T mem t n ps=some (v,mem')):agl l mem mem' :=by
 unfold gh at h
 repeat' split at h
 all_goals first
  |(cases h;done)
  |(cases h;exact .push _ _ _)
theorem AP{t:TypeId}{y:AV}{v:AV}(h:lf T mem t x y=some (v,mem')):agl l mem mem' :=by
 unfold lf at h
 repeat' split at h
 all_goals first
  |(cases h;done)
  |(cases h;exact .push _ _ _)
theorem Hc{pt:TypeId}{l v:AV}(h:yJ T mem pt x l=some (v,mem')):agl (Vo x) mem mem' :=by
 unfold yJ at h
 repeat' split at h
 all_goals first
  |(cases h;done)
  |(cases h;exact .set _ _ _)
theorem AL{s d:TypeId}{v:AV}(h:ot T mem s d x=some (v,mem')):agl l mem mem' :=by
 unfold ot at h
 repeat' split at h
 all_goals first
  |(cases h;done)
  |(cases h;exact .push _ _ _)
theorem EL{t:TypeId}{s x v:AV}(h:xf T mem t s x=some (v,mem')):agl l mem mem' :=by
 unfold xf at h
 repeat' split at h
 all_goals first
  |(cases h;done)
  |(cases h;exact .push _ _ _)
theorem Lz{t:TypeId}(h:Ly T mem t x=some mem'):agl (dy x) mem mem' :=by
 unfold Ly at h
 repeat' split at h
 all_goals first
  |(cases h;done)
  |(cases h;exact .refl _ _)
  |(cases h;exact .set _ _ _)
theorem EJ{t t2:TypeId}{s x v:AV}(h:tH T mem t t2 s x=some (v,mem')):agl (dy s) mem mem' :=by
 unfold tH at h
 repeat' split at h
 all_goals first
  |(cases h;done)
  |(cases h;exact .set _ _ _)
theorem xh{t:TypeId}{v:AV}{y H:Option AV}(h:yI T mem t x y H=some (v,mem')):agl l mem mem' :=by
 unfold yI at h
 repeat' split at h
 all_goals first
  |(cases h;done)
  |(cases h;exact .push _ _ _)
theorem LD{v:AV}(h:aOp T env mem op=some (v,mem')):agl (xU env op) mem mem' :=by
 unfold aOp at h
 repeat' split at h
 all_goals first
  |(cases h;done)
  |(cases h;exact .refl _ _)
  |exact xh h
  |(rename_i Z;cases h;exact xh Z)
  |exact EJ h
  |exact Lv h
  |exact RT h
  |exact yE h
  |exact AP h
  |exact xg h
  |(rename_i Z;cases h;exact xg Z)
  |exact EL h
  |exact AL h
  |exact Hc h
  |exact CA h
  |(cases h;exact .push _ _ _)
  |(rename_i Z;cases h;first | exact LG Z | exact AR Z | exact yG Z | exact Lz Z)
theorem oz{wr:List Nat}{m0:Nat}(h:(wr.any fun b=>decide (b<m0))=false){b:Nat}(y:b<m0):b∉wr:=by intro Z;have:=List.any_eq_false.1 h b Z;simp[y] at this
theorem wB{m0:Nat}(h1:m0≤mem.length)(h2:m0≤mem'.length)(h:∀b,b<m0→mem'[b]? =mem[b]?):mem'.take m0=mem.take m0:=by
 apply List.ext_getElem?;intro b;by_cases Z:b<m0
 ·rw[List.getElem?_take_of_lt Z,List.getElem?_take_of_lt Z,h b Z]
 ·rw[List.getElem?_eq_none (by simp;omega),List.getElem?_eq_none (by simp;omega)]
def Clean(m0:Nat)(mem:Mem)(d:Bool) (mem' :Mem) (d' :Bool):Prop:=m0≤mem.length→m0≤mem'.length∧(d' =false→d=false∧mem'.take m0=mem.take m0)
theorem Clean.refl(m0:Nat)(mem:Mem)(d:Bool):Clean m0 mem d mem d:=fun h=>⟨h,fun e=>⟨e,rfl⟩⟩
theorem Clean.trans{m0:Nat}{y m2 H:Mem}{d1 d2 d3:Bool}(h:Clean m0 y d1 m2 d2)(h' :Clean m0 m2 d2 H d3):Clean m0 y d1 H d3:=fun Z=>by obtain⟨X,V⟩:=h Z;obtain⟨U,S⟩:=h' X;refine⟨U,fun e=>?_⟩;obtain⟨R,Q⟩:=S e;obtain⟨N,M⟩:=V R;exact⟨N,Q.trans M⟩
theorem agl.clean{wr:List Nat}{m0:Nat}(h:agl wr mem mem'):Clean m0 mem d mem' (d||wr.any fun b=>decide (b<m0)):=fun Z=>by have X:=Nat.le_trans Z h.1;refine⟨X,fun e=>?_⟩;simp only[Bool.or_eq_false_iff] at e;exact⟨e.1,wB Z X fun b V=>h.2 b (by omega) (oz e.2 V)⟩
theorem LK{f:FuncId}(h:kF env op=some (.fn f,args)):Hl env op=some (f,args):=by
 unfold kF at h;split at h
 ·split at h
  ·cases h;rename_i Z;simp[Hl,Z]
  ·cases h
  ·cases h
 ·cases h
theorem He{b:Nat}(h:kF env op=some (.yld b,args)):BB env op=some (b,args):=by
 unfold kF at h;split at h
 ·split at h
  ·cases h
  ·cases h;rename_i Z;simp[BB,Z]
  ·cases h
 ·cases h
section
variable (hO:qS P O)
include hO
theorem Dz{r:y9}(hc:kF env o.op=some (c,args))(h:O c args mem=some r):
  xY P T env mem o r.v (r.mem mem):=by
 cases c with
 |fn f=>exact .inr (.inl ⟨f,args,LK hc,hO.fn _ _ _ _ h⟩)
 |yld b=>exact .inr (.inr ⟨b,args,He hc,hO.yld _ _ _ _ h⟩)
theorem yZ{r:y9}(h:O c args mem=some r):mem.length≤(r.mem mem).length:=by
 unfold y9.mem;cases hp:r.pre with
 |none=>simp
 |some p=>have:=hO.pre _ _ _ _ p h hp;simp;omega
theorem Pw{m0:Nat}{d' :Bool}{v:AV}(h:W3 T O m0 env mem d o=some (v,mem',d')):
  xY P T env mem o v mem' ∧Clean m0 mem d mem' d' :=by
 unfold W3 at h;split at h
 ·rename_i S R Z
  cases h;exact⟨.inl Z,(LD Z).clean⟩
 ·split at h
  ·rename_i c args U
   split at h
   ·rename_i r X
    cases h;refine⟨Dz hO U X,fun V=>⟨Nat.le_trans V (yZ hO X),fun e=>?_⟩⟩;simp only[Bool.or_eq_false_iff,Option.isSome_eq_false_iff,Option.isNone_iff_eq_none] at e;refine⟨e.1,?_⟩;unfold y9.mem;rw[e.2];simp[List.take_append_of_le_length V]
   ·cases h
  ·cases h
end
theorem kR(y:qS P O){N m0:Nat}{ops:Array Oper}:∀{l:List Oper}{s s' :XS},dF T O N m0 ops l s=some s' →
  nP P T N ops l ⟨s.env,s.mem⟩ ⟨s'.env,s'.mem⟩∧Clean m0 s.mem s.agf s'.mem s'.agf
 | [],s,s',h=>by cases h;exact⟨rfl,.refl _ _ _⟩
 |o::os,s,s',h=>by
  unfold dF at h;split at h
  ·rename_i U
   split at h
   ·rename_i Z
    split at h
    ·rename_i v m M S
     obtain⟨R,Q⟩:=Pw y S;obtain⟨X,V⟩:=kR y h;exact⟨⟨true,Z,U,(fun e=>by cases e),fun _=>⟨v,m,R,X⟩⟩,Q.trans V⟩
    ·cases h
   ·rename_i Z
    obtain⟨X,V⟩:=kR y h;exact⟨⟨false,Z,U,(fun _=>X),(fun e=>by cases e)⟩,V⟩
   ·cases h
  ·cases h
end
end Go.Eng
namespace Go.Eng
section
variable {P:Program}{T:TypeId→Option TyI}{O:afF}{N:Nat}{ops:Array Oper}
theorem iw(y:Nat→Bool):∀(i:Nat) (m:Mem),(bK y i m).length=m.length
 |_,[]=>rfl
 |i,s::r=>by simp[bK,iw y (i+1) r]
theorem lr(y:Nat→Bool):∀(i:Nat) (m:Mem) (b:Nat),(bK y i m)[b]? =m[b]? ∨(bK y i m)[b]? =some .qK
 |_,[],b=>.inl rfl
 |i,s::r,0=>by
  simp only[bK,List.getElem?_cons_zero];split
  ·exact .inl rfl
  ·exact .inr rfl
 |i,s::r,b+1=>by simp only[bK,List.getElem?_cons_succ];exact lr y (i+1) r b
theorem Dq:∀(i:Nat) (m:Mem) (b:Nat),¬iV (bK (fun _=>false) i m) b
 |_,[],b=>by rintro ⟨s,h,_⟩;simp[bK] at h
 |i,s::r,0=>by rintro ⟨s,h,Z⟩;simp[bK] at h;exact Z h.symm
 |i,s::r,b+1=>by rintro ⟨s,h,Z⟩;simp only[bK,List.getElem?_cons_succ] at h;exact Dq (i+1) r b ⟨s,h,Z⟩
theorem n8(wr:List Nat):∀(i:Nat) (m y :Mem),m.length≤y.length→(bt wr i m y).length=y.length
 |_,[],y,_=>rfl
 |_,_::_,[],h=>by simp at h
 |i,s::r,s' ::r',h=>by simp only[bt,List.length_cons] at h ⊢;rw[n8 wr (i+1) r r' (by omega)]
theorem wh(wr:List Nat):∀(i:Nat) (m y :Mem) (b:Nat),m.length≤y.length→(bt wr i m y)[b]? =if i+b∈wr∨m.length≤b then y[b]? else m[b]?
 |_,[],y,b,_=>by simp[bt]
 |_,_::_,[],_,h=>by simp at h
 |i,s::r,s' ::r',0,h=>by simp only[bt,List.getElem?_cons_zero,List.contains_iff_mem,Nat.add_zero,List.length_cons,Nat.le_zero_eq,Nat.add_one_ne_zero,or_false];split<;>rfl
 |i,s::r,s' ::r',b+1,h=>by simp only[List.length_cons] at h;simp only[bt,List.getElem?_cons_succ];rw[wh wr (i+1) r r' b (by omega)];simp only[List.length_cons,Nat.add_le_add_iff_right];rw[show i+1+b=i+(b+1) by omega]
theorem vV{m:Mem}{b:Nat}:fg m b=true↔iV m b:=by
 unfold fg iV;cases h:m[b]? with
 |none=>simp
 |some s=>cases s<;>simp
theorem EY:∀(i:Nat) (m:Mem) (b:Nat),i+b∈ee i m↔iV m b:=by
 intro i m;induction m generalizing i with
 |nil=>intro b;simp[ee,iV]
 |cons s r ih=>
  intro b;have Z:∀(i:Nat) (m:Mem) (x:Nat),x∈ee i m→i≤x:=by
   intro i m;induction m generalizing i with
   |nil=>intro x h;simp[ee] at h
   |cons s r ih=>
    intro x h;have:x∈ee (i+1) r∨x=i:=by cases s<;>simp only[ee,List.mem_cons] at h<;>first | exact .inl h | exact h.symm
    rcases this with h | h
    ·have:=ih (i+1) x h;omega
    ·omega
  cases b with
  |zero=>
   have X:¬(i+0∈ee (i+1) r):=fun h=>by have:=Z _ _ _ h;omega
   cases s<;>simp[ee,iV]<;>simpa using X
  |succ b=>
   have:=ih (i+1) b;rw[show i+1+b=i+(b+1) by omega] at this;have V:iV (s::r) (b+1)↔iV r b:=by simp[iV]
   rw[V,←this];cases s<;>simp[ee]
structure ahn (P:Program)(T:TypeId→Option TyI)(N:Nat)(ops:Array Oper)(r:Rec)(o:Oper):Prop where
 dst:ES N o=true
 wanted:tE ops r.en o=some r.wb
 en:r.en=(o.looksAt ops).map fun t=>(t,ad r.env t)
 step:r.wb=true→xY P T r.en r.tm o r.v r.m'
 skip:r.wb=false→r.v=.tuple []∧r.m' =r.tm
 ahy:r.tm.length=r.mem.length
 ahz:∀b:Nat,r.tm[b]? =r.mem[b]? ∨r.tm[b]? =some .qK
 mono:r.mem.length≤r.m'.length
 aho:r.nx.length=r.m'.length
 nx:∀b:Nat,r.nx[b]? =if b∈r.wr∨r.mem.length≤b then r.m'[b]? else r.mem[b]?
 agK:∀b:Nat,b<r.mem.length→b∉r.wr→iV r.tm b→r.m'[b]? =r.mem[b]?
theorem Fj{mem y:Mem}(h:∀b:Nat,y[b]? =mem[b]? ∨y[b]? =some .qK){b:Nat}(H:iV y b):y[b]? =mem[b]? :=by
 rcases h b with e | e
 ·exact e
 ·obtain⟨s,Z,X⟩:=H
  rw[Z] at e;cases e;exact absurd rfl X
theorem HI(y:qS P O){H:List Nat}{j:Nat}{o:Oper}{env:Env}{mem:Mem}{acc:List Rec}{r:Rec}(h:HH T O N ops H j o env mem acc=some r):
  r.env=env∧r.mem=mem∧ahn P T N ops r o:=by
 unfold HH at h;split at h
 ·rename_i K
  simp only at h;split at h
  ·cases h
  ·rename_i Q
   cases h;refine⟨rfl,rfl,K,Q,rfl,(fun e=>by cases e),(fun _=>⟨rfl,rfl⟩),iw _ _ _,(fun b=>lr _ _ _ _),by simp[iw],by simp[iw],fun b=>?_,fun b _ _ V=>absurd V (Dq _ _ _)⟩;simp only[List.not_mem_nil,false_or];split
   ·rename_i U
    rw[List.getElem?_eq_none U,List.getElem?_eq_none (by rw[iw];exact U)]
   ·rfl
  ·rename_i Q
   generalize Yf H j acc (Pp (List.map (fun t=>(t,ad env t)) (o.looksAt ops)) o.op)=see at h;have Z:(bK see 0 mem).length=mem.length:=iw _ _ _;split at h
   ·rename_i v m F
    cases h;have S:=LD F;rw[agl,Z] at S;refine⟨rfl,rfl,K,Q,rfl,fun _=>.inl F,(fun e=>by cases e),Z,fun b=>lr _ _ _ _,S.1,n8 _ _ _ _ S.1,fun b=>?_,fun b V G M=>?_⟩
    ·have:=wh (xU (List.map (fun t=>(t,ad env t)) (o.looksAt ops)) o.op) 0 mem m b S.1
     rw[Nat.zero_add] at this;exact this
    ·rw[S.2 b V G];exact Fj (fun b=>lr see 0 mem b) M
   ·split at h
    ·cases h
    ·rename_i c D C
     split at h
     ·cases h
     ·rename_i X R
      simp only[Option.some.injEq] at h;subst h;have L:=yZ y R;rw[Z] at L;refine⟨rfl,rfl,K,Q,rfl,fun _=>Dz y C R,(fun e=>by cases e),Z,fun b=>lr _ _ _ _,L,n8 _ _ _ _ L,fun b=>?_,fun b V G M=>?_⟩
      ·have:=wh (W1 (bK see 0 mem) X.pre) 0 mem (X.mem (bK see 0 mem)) b L
       rw[Nat.zero_add] at this;exact this
      ·cases hp:X.pre with
       |some p=>
        exfalso;apply G;show b∈W1 (bK see 0 mem) X.pre
        rw[hp];show b∈ee 0 (bK see 0 mem)
        have:=(EY 0 (bK see 0 mem) b).2 M
        rwa [Nat.zero_add] at this
       |none=>
        show(X.mem (bK see 0 mem))[b]? =mem[b]?
        unfold y9.mem;rw[hp];simp only[Option.getD_none];rw[List.getElem?_append_left (by rw[Z];exact V)];exact Fj (fun b=>lr see 0 mem b) M
 ·cases h
def mI(P:Program)(T:TypeId→Option TyI)(N:Nat)(ops:Array Oper):List Oper→Env→Mem→List Rec→Env→Mem→Prop
 | [],env,mem,[],AC,mem' =>AC =env∧mem' =mem
 |o::os,env,mem,r::rs,AC,mem' =>r.env=env∧r.mem=mem∧ahn P T N ops r o∧mI P T N ops os (agH env o.dst r.v) r.nx rs AC mem'
 |_,_,_,_,_,_=>False
theorem qI(I:qS P O){J:List Nat}:∀{l:List Oper} {j:Nat} {env:Env} {mem:Mem} {acc R:List Rec}{H :Env}{y :Mem},
  n9 T O N ops J j l env mem acc=some (R,H,y)→∃Z,R=acc.reverse++Z∧mI P T N ops l env mem Z H y
 | [],j,env,mem,acc,R,H,y,h=>by simp only[n9,Option.some.injEq,Prod.mk.injEq] at h;obtain⟨rfl,rfl,rfl⟩:=h;exact⟨[],by simp,rfl,rfl⟩
 |o::os,j,env,mem,acc,R,H,y,h=>by
  unfold n9 at h;split at h
  ·cases h
  ·rename_i r X
   obtain⟨V,U,h3⟩:=HI I X;obtain⟨Z,e,S⟩:=qI I h;exact⟨r::Z,by rw[e];simp,V,U,h3,S⟩
def SO(R:List Rec)(y:Env×Mem)(j:Nat):Env×Mem:=match R[j]? with
 |some r=>(r.env,r.mem)
 |none=>y
theorem zV:∀{l:List Oper} {env:Env} {mem:Mem} {R:List Rec}{H :Env}{y :Mem},mI P T N ops l env mem R H y →R.length=l.length
 | [],_,_,[],_,_,_=>rfl
 |_::_,_,_,_::_,_,_,h=>by simp only[List.length_cons];rw[zV h.2.2.2]
 | [],_,_,_::_,_,_,h=>h.elim
 |_::_,_,_,[],_,_,h=>h.elim
theorem xG:∀{l:List Oper} {env:Env} {mem:Mem} {R:List Rec}{H :Env}{y :Mem},mI P T N ops l env mem R H y →SO R (H,y) 0=(env,mem)
 | [],_,_,[],_,_,h=>by obtain⟨rfl,rfl⟩:=h;rfl
 |_::_,_,_,_::_,_,_,h=>by obtain⟨rfl,rfl,_⟩:=h;rfl
 | [],_,_,_::_,_,_,h=>h.elim
 |_::_,_,_,[],_,_,h=>h.elim
theorem DG:∀{l:List Oper} {env:Env} {mem:Mem} {R:List Rec}{H :Env}{y :Mem},mI P T N ops l env mem R H y →∀(j:Nat) (o:Oper),l[j]? =some o→
  ∃r,R[j]? =some r∧ahn P T N ops r o∧SO R (H,y) (j+1)=(agH r.env o.dst r.v,r.nx)
 |o::os,_,_,r::rs,H,y,h,0,o',ho=>by cases ho;obtain⟨rfl,rfl,h3,Z⟩:=h;exact⟨r,rfl,h3,xG Z⟩
 |o::os,_,_,r::rs,H,y,h,j+1,o',ho=>by obtain⟨_,_,_,Z⟩:=h;obtain⟨X,V,U,g3⟩:=DG Z j o' ho;exact⟨X,V,U,g3⟩
 | [],_,_,_,_,_,_,j,_,ho=>by simp at ho
 |_::_,_,_,[],_,_,h,_,_,_=>h.elim
theorem nj:∀(i:Nat) (R:List Rec) (j:Nat) (r:Rec),R[j]? =some r→(i+j,r)∈bq i R
 |i,x::xs,0,r,h=>by cases h;simp[bq]
 |i,x::xs,j+1,r,h=>by simp only[List.getElem?_cons_succ] at h;have:=nj (i+1) xs j r h;rw[show i+1+j=i+(j+1) by omega] at this;simp[bq,this]
 |_,[],_,_,h=>by simp at h
end
variable{R:List Rec}{bs:List Nat}{j:Nat}
section
variable {P:Program}{T:TypeId→Option TyI}{O:afF}{N:Nat}{ops:Array Oper}
def Xd(bs:List Nat)(R:List Rec)(j:Nat):List (Nat×Rec):=(bq 0 R).filter fun f=>decide (f.1<j)&& !bef bs f.1 j
def qo(n:Nat)(bs:List Nat)(R:List Rec)(y:Env×Mem):ago where
 E j:=(SO R y j).1
 M j:=(SO R y j).2
 En j:=match R[j]? with | some r=>r.en | none=>[]
 Tm j:=match R[j]? with | some r=>r.tm | none=>[]
 M' j:=match R[j]? with | some r=>r.m' | none=>[]
 v j:=match R[j]? with | some r=>r.v | none=>.undef
 wb j:=match R[j]? with | some r=>r.wb | none=>false
 agz j b:=match R[j]? with | some r=>decide (b∈r.wr)||decide (r.mem.length≤b) | none=>false
 ok j b:=match R[j]? with | some r=>jc r.nx.length (Xd bs R j) b | none=>false
 cl i j:=decide (i<n)&&bef bs i j
theorem CU(h:oH ops bs=true){o:Oper}(y:ops[j]? =some o):
  (∀e∈o.after,Region.binds .any e=true→e.on<j)∧
  (∀i,i<ops.size→bef bs i j=true→∃e∈o.after,Region.binds .any e=true∧(e.on=i∨bef bs i e.on=true))∧
  ∀(i:Nat) X t,ops[i]? =some X→i≠j→X.dst=some t→(t∈o.looksAt ops∨o.dst=some t)→bef bs i j=true∨bef bs j i=true:=by
 have G:j<ops.size:=(Array.getElem?_eq_some_iff.1 y).1;unfold oH at h;have:=List.all_eq_true.1 h j (by simpa using G);simp only[y,Bool.and_eq_true,List.all_eq_true,List.mem_range] at this;obtain⟨F,L⟩:=this;refine⟨fun e V U=>?_,fun i Z U=>?_,fun i X t Z D C S=>?_⟩
 ·have:=F e (by simpa using V)
  simpa [U] using this
 ·have:=(L i Z).1
  simp only[U,Bool.not_true,Bool.false_or,List.any_eq_true] at this;obtain⟨e,V,Q⟩:=this;simp only[Bool.and_eq_true,Bool.or_eq_true,beq_iff_eq] at Q;exact⟨e,by simpa using V,Q.1,Q.2⟩
 ·have M:i<ops.size:=(Array.getElem?_eq_some_iff.1 Z).1
  have:=(L i M).2;simp only[Z,C,Bool.or_eq_true,beq_iff_eq,D,false_or,Bool.and_eq_true,Bool.not_eq_true',List.contains_eq_mem,decide_eq_false_iff_not] at this;rcases this with (h3 | h3) | ⟨h3,K⟩
  ·exact .inl h3
  ·exact .inr h3
  ·rcases S with h5 | h5
   ·exact absurd h5 h3
   ·rw[h5] at K;simp at K
structure ag2 (bs:List Nat)(R:List Rec)(j:Nat)(r:Rec):Prop where
 wr:∀b∈r.wr,iV r.tm b
 ahB:r.v.afP (jc r.nx.length (Xd bs R j))=true
 aij:∀(b:Nat) s,b∈r.wr→r.nx[b]? =some s→s.afP (jc r.nx.length (Xd bs R j))=true
 fresh:∀(b:Nat) s,r.mem.length≤b→r.nx[b]? =some s→(s≠ .qK→s.own=true)∧s.afP (jc r.nx.length (Xd bs R j))=true
 ahW:∀(i:Nat) f,i<j→R[i]? =some f→bef bs i j=false→(∀b∈f.wr,¬iV r.tm b)∧(∀b∈r.wr,¬iV f.tm b)∧∀b,f.mem.length≤b→b<f.nx.length→¬iV r.tm b
theorem Ho{r:Rec}(h:iL bs (bq 0 R) j r=true):ag2 bs R j r:=by
 unfold iL at h;simp only[Bool.and_eq_true] at h;obtain⟨⟨⟨⟨Q,M⟩,h3⟩,L⟩,K⟩:=h;refine⟨fun b Z=>vV.1 (List.all_eq_true.1 Q b Z),M,fun b s Z X=>?_,fun b s Z X=>?_,fun i f G F Z=>?_⟩
 ·have:=List.all_eq_true.1 h3 b Z
  rw[X] at this;exact this
 ·have U:s∈r.nx.drop r.mem.length:=by apply List.mem_of_getElem? (i:=b-r.mem.length);rw[List.getElem?_drop,←X];congr 1;omega
  have:=List.all_eq_true.1 L s U;simp only[Bool.and_eq_true,Bool.or_eq_true] at this;refine⟨fun D=>?_,this.2⟩;rcases this.1 with h | h
  ·exact h
  ·cases s<;>simp_all
 ·have S:(i,f)∈Xd bs R j:=by unfold Xd;rw[List.mem_filter];have:=nj 0 R i f F;rw[Nat.zero_add] at this;exact⟨this,by simp[G,Z]⟩
  have:=List.all_eq_true.1 K (i,f) S;simp only[Bool.and_eq_true,List.all_eq_true,Bool.not_eq_true'] at this;obtain⟨⟨C,B⟩,u⟩:=this;refine⟨fun b Z V=>?_,fun b Z V=>?_,fun b o m V=>?_⟩
  ·have:=C b Z;rw[vV.2 V] at this;cases this
  ·have:=B b Z;rw[vV.2 V] at this;cases this
  ·obtain⟨s,X,D⟩:=V
   have U:s∈(r.tm.drop f.mem.length).take (f.nx.length-f.mem.length):=by apply List.mem_of_getElem? (i:=b-f.mem.length);rw[List.getElem?_take_of_lt (by omega),List.getElem?_drop,←X];congr 1;omega
   have:=u s U;cases s<;>simp_all
theorem FD{env:Env}:∀(l:List Tmp) (t:Nat),(t∈l∧ad (l.map fun t=>(t,ad env t)) t=ad env t)∨(t∉l∧ad (l.map fun t=>(t,ad env t)) t=.undef)
 | [],t=>.inr ⟨by simp,rfl⟩
 |x::xs,t=>by
  simp only[List.map_cons,ad];by_cases Z:x=t
  ·subst Z;exact .inl ⟨by simp,by simp⟩
  ·simp only[Z,if_false]
   rcases FD (env:=env) xs t with⟨X,V⟩ | ⟨X,V⟩
   ·exact .inl ⟨by simp[X],V⟩
   ·exact .inr ⟨by simp[X,Ne.symm Z],V⟩
theorem Ww{m:Mem}{b:Nat}(h:iV m b):b<m.length:=by obtain⟨s,h,_⟩:=h;exact(gL h)
theorem Wo{env H :Env}{mem y :Mem}(hs:oH ops bs=true)(hR:mI P T N ops ops.toList env mem R H y)(hC:∀(j:Nat) r,R[j]? =some r→ag2 bs R j r):ui P T N ops (qo ops.size bs R (H,y)):=by
 have u:∀(j:Nat) o,ops[j]? =some o→∃r,R[j]? =some r∧ahn P T N ops r o∧SO R (H,y) (j+1)=(agH r.env o.dst r.v,r.nx):=
  fun j o ho=>DG hR j o (by simpa using ho)
 have M_at:∀(j:Nat) r,R[j]? =some r→(qo ops.size bs R (H,y)).M j=r.mem:=fun j r h=>by simp[qo,SO,h]
 have lens:∀(i:Nat) U Q,ops[i]? =some Q→R[i]? =some U→∀(k j:Nat) D oj,j=i+1+k→ops[j]? =some oj→R[j]? =some D→U.nx.length≤D.mem.length:=by
  intro i U Q X Z k;induction k with
  |zero=>
   intro j D oj hj hoj m;obtain⟨r,g1,g2,g3⟩:=u i Q X;rw[Z] at g1;cases g1;have:SO R (H,y) (i+1)=(D.env,D.mem):=by rw[show i+1=j by omega];simp[SO,m]
   rw[this] at g3;have:=congrArg Prod.snd g3;simp only at this;rw[this];exact Nat.le_refl _
  |succ k ih=>
   intro j D oj hj hoj m;have hjs:j<ops.size:=(Array.getElem?_eq_some_iff.1 hoj).1;obtain⟨op,hop⟩:=A4 (ops:=ops) (j:=j-1) (by omega);obtain⟨r,g1,g2,g3⟩:=u (j-1) op hop;have J:=ih (j-1) r op (by omega) hop g1;have:SO R (H,y) (j-1+1)=(D.env,D.mem):=by rw[show j-1+1=j by omega];simp[SO,m]
   rw[this] at g3;have e:=congrArg Prod.snd g3;simp only at e;have:=g2.aho;have:=g2.mono;rw[e];omega
 have abN :∀(i j:Nat) U D Q oj,i<j→ops[i]? =some Q→ops[j]? =some oj→R[i]? =some U→R[j]? =some D→U.nx.length≤D.mem.length:=
  fun i j U D Q oj hij X hoj Z m=>lens i U Q X Z (j-i-1) j D oj (by omega) hoj m
 intro j o ho;obtain⟨r,L,K,acn⟩:=u j o ho;have C:=hC j r L;have S:=CU hs ho;have hjs:j<ops.size:=(Array.getElem?_eq_some_iff.1 ho).1;have I:(qo ops.size bs R (H,y)).M j=r.mem:=M_at j r L;have G:(qo ops.size bs R (H,y)).M (j+1)=r.nx:=by simp[qo,acn]
 have eE:(qo ops.size bs R (H,y)).E j=r.env:=by simp[qo,SO,L]
 have eE1:(qo ops.size bs R (H,y)).E (j+1)=agH r.env o.dst r.v:=by simp[qo,acn]
 have eEn:(qo ops.size bs R (H,y)).En j=r.en:=by simp[qo,L]
 have eT:(qo ops.size bs R (H,y)).Tm j=r.tm:=by simp[qo,L]
 have Y :(qo ops.size bs R (H,y)).M' j=r.m' :=by simp[qo,L]
 have ev:(qo ops.size bs R (H,y)).v j=r.v:=by simp[qo,L]
 have ew:(qo ops.size bs R (H,y)).wb j=r.wb:=by simp[qo,L]
 have B:∀b,(qo ops.size bs R (H,y)).agz j b=true↔b∈r.wr∨r.mem.length≤b:=fun b=>by simp[qo,L]
 have aa7:∀b,(qo ops.size bs R (H,y)).agz j b=false↔b∉r.wr∧b<r.mem.length:=fun b=>by simp[qo,L]
 have eok:(qo ops.size bs R (H,y)).ok j=jc r.nx.length (Xd bs R j):=by funext b;simp[qo,L]
 have F:∀i k,i<ops.size→(qo ops.size bs R (H,y)).cl i k=bef bs i k:=fun i k hi=>by simp[qo,hi]
 have aco:r.mem.length≤r.nx.length:=by rw[K.aho];exact K.mono
 refine⟨by rw[eEn,ew];exact K.wanted,K.dst,?_,?_,by rw[eE1,eE,ev],?_,?_,by rw[eT,I];exact K.ahy,by rw[eT,I];exact K.ahz,by rw[G,Y];exact K.aho,by rw[I,G];exact aco,
  ?_,?_,?_,?_,?_,?_,?_,?_,?_,?_,S.1,?_⟩
 ·rw[ew,eEn,eT,ev,Y];exact K.step
 ·rw[ew,ev,Y,eT];exact K.skip
 ·intro t
  rw[eEn,eE,K.en];rcases FD (env:=r.env) (o.looksAt ops) t with⟨J,h2⟩ | ⟨J,h2⟩
  ·refine .inr ⟨h2,fun i Q hi I' W=>?_⟩
   rw[F i j (Array.getElem?_eq_some_iff.1 hi).1,F j i hjs];exact S.2.2 i Q t hi I' W (.inl J)
  ·exact .inl h2
 ·intro i Q t hi I' J h2
  rw[F i j (Array.getElem?_eq_some_iff.1 hi).1,F j i hjs];exact S.2.2 i Q t hi I' h2 (.inr J)
 ·intro b V
  rw[G,Y,K.nx b,if_pos ((B b).1 V)]
 ·intro b V W
  rw[I] at V;rw[G,I,K.nx b,if_neg];rw[aa7] at W;rintro (h | h)
  ·exact W.1 h
  ·omega
 ·intro b V W hB
  rw[I] at V;rw[Y,I];rw[aa7] at W;rw[eT] at hB;exact K.agK b V W.1 hB
 ·intro b V
  rw[I] at V;exact(B b).2 (.inr V)
 ·intro b W V
  rw[I] at V;rw[eT];rcases (B b).1 W with h | h
  ·exact C.wr b h
  ·omega
 ·
  intro i Q b X hij hbi hti hor;obtain⟨U,Z,Ki,hni⟩:=u i Q X;have Ci:=hC i U Z;have eMi:(qo ops.size bs R (H,y)).M (i+1)=U.nx:=by simp[qo,hni]
  rw[eMi] at hbi;have adG :b∈U.wr∨U.mem.length≤b:=by simpa [qo,Z] using hti
  rw[G,eT] at hor;rw[F i j (Array.getElem?_eq_some_iff.1 X).1,F j i hjs];by_cases FS:i<j
  ·cases V:bef bs i j with
   |true=>exact .inl rfl
   |false=>
    exfalso;obtain⟨p1,p2,p3⟩:=C.ahW i U FS Z V;have hl:=abN i j U r Q o FS X ho Z L;have adH:¬iV r.tm b:=by
     rcases adG with h | h
     ·exact p1 b h
     ·exact p3 b h hbi
    rcases hor with⟨g1,g2⟩ | g
    ·rcases (B b).1 g2 with h | h
     ·exact adH (C.wr b h)
     ·omega
    ·exact adH g
  ·cases V:bef bs j i with
   |true=>exact .inr rfl
   |false=>
    exfalso;obtain⟨p1,p2,p3⟩:=Ci.ahW j r (by omega) L V;have hl:=abN j i r U o Q (by omega) ho X L Z;have htl:=K.ahy;rcases adG with h | h
    ·rcases hor with⟨g1,g2⟩ | g
     ·rcases (B b).1 g2 with h' | h'
      ·exact p2 b h (C.wr b h')
      ·exact p3 b h' g1 (Ci.wr b h)
     ·exact p2 b h g
    ·rcases hor with⟨g1,g2⟩ | g
     ·omega
     ·have:=Ww g;omega
 ·
  intro i b Q X hok J h2;obtain⟨U,Z,Ki,hni⟩:=u i Q X;have eMi:(qo ops.size bs R (H,y)).M (i+1)=U.nx:=by simp[qo,hni]
  rw[M_at i U Z] at J;rw[eMi] at h2;rw[eok] at hok;unfold jc at hok;simp only[Bool.and_eq_true,decide_eq_true_eq,List.all_eq_true,Bool.not_eq_true',decide_eq_false_iff_not] at hok;by_cases hij:i=j
  ·exact .inl hij
  ·refine .inr ?_
   rw[F i j (Array.getElem?_eq_some_iff.1 X).1];by_cases FS:i<j
   ·cases V:bef bs i j with
    |true=>rfl
    |false=>
     exfalso;have aaI:(i,U)∈Xd bs R j:=by unfold Xd;rw[List.mem_filter];have:=nj 0 R i U Z;rw[Nat.zero_add] at this;exact⟨this,by simp[FS,V]⟩
     exact hok.2 (i,U) aaI ⟨J,h2⟩
   ·exfalso
    have hl:=abN j i r U o Q (by omega) ho X L Z;omega
 ·rw[ev,eok];exact C.ahB
 ·intro b s W hs
  rw[G] at hs;rw[eok];rcases (B b).1 W with h | h
  ·exact C.aij b s h hs
  ·exact(C.fresh b s h hs).2
 ·intro b s V hs I'
  rw[I] at V;rw[G] at hs ⊢;exact⟨s,hs,(C.fresh b s V hs).1 I'⟩
 ·intro i V
  simp only[qo,Bool.and_eq_true,decide_eq_true_eq] at V;obtain⟨e,J,h2,h3⟩:=S.2.1 i V.1 V.2;refine⟨e,J,h2,?_⟩;rcases h3 with h | h
  ·exact .inl h
  ·exact .inr (by simp[qo,V.1,h])
theorem HM(y:P.follows .mixedOrders=true)(hT:cX P T)(H:qS P O){m0:Nat}{s s' :XS}(I:oH ops (dm ops.toList)=true)(h:aH T O N m0 ops s=some s'):
  (∀(tp:Bool) (id:Nat) (Q:Exit→St→Prop),Q .normal ⟨s'.env,s'.mem⟩→AWP P tp N m0 (.region id ops true) ⟨s.env,s.mem⟩ Q)∧Clean m0 s.mem s.agf s'.mem s'.agf:=by
 unfold aH at h;simp only at h
 ·split at h
  ·cases h
  ·rename_i R env mem C
   split at h
   ·rename_i B
    cases h;obtain⟨X,e,V⟩:=qI H C;simp only[List.reverse_nil,List.nil_append] at e;subst e;have u:∀(j:Nat) r,R[j]? =some r→ag2 (dm ops.toList) R j r:=by intro j r Y;have:=nj 0 R j r Y;rw[Nat.zero_add] at this;exact Ho (List.all_eq_true.1 B _ this)
    have W:=Wo I V u;have D:=xG V;have J:=zV V;have U:SO R (env,mem) ops.size=(env,mem):=by unfold SO;rw[List.getElem?_eq_none (by rw[J];simp)]
    refine⟨fun tp id Q hq=>CK y hT (d:=qo ops.size (dm ops.toList) R (env,mem)) W (by simp[qo,D]) (by simp[qo,D]) (by simp[qo,U]) hq,?_⟩;have S:∀(l:List Oper) (e:Env) (m:Mem) (X:List Rec),mI P T N ops l e m X env mem→m0≤m.length→m0≤mem.length∧((X.any fun r=>r.wr.any fun b=>decide (b<m0))=false→mem.take m0=m.take m0):=by
     intro l;induction l with
     |nil=>
      intro e m X h Z;cases X with
      |nil=>obtain⟨rfl,rfl⟩:=h;exact⟨Z,fun _=>rfl⟩
      |cons=>exact h.elim
     |cons o os ih=>
      intro e m X h Z;cases X with
      |nil=>exact h.elim
      |cons r X=>
       obtain⟨rfl,rfl,K,h4⟩:=h;have aco:r.mem.length≤r.nx.length:=by rw[K.aho];exact K.mono
       obtain⟨M,L⟩:=ih _ _ _ h4 (by omega);refine⟨M,fun G=>?_⟩;simp only[List.any_cons,Bool.or_eq_false_iff] at G;rw[L G.2];refine wB Z (by omega) fun b hb=>?_
       rw[K.nx b,if_neg];rintro (h | h)
       ·exact oz G.1 hb h
       ·omega
    intro Z;obtain⟨M,L⟩:=S _ _ _ _ V Z;refine⟨M,fun F=>?_⟩;simp only[Bool.or_eq_false_iff] at F;exact⟨F.1,L F.2⟩
   ·cases h
end
end Go.Eng
namespace Go.Eng
variable{e z':Env}
section
variable {P:Program}{T:TypeId→Option TyI}{lv:Code→List Nat}{O:afF}{K N m0:Nat}{tp:Bool}
def Zj(P:Program)(tp:Bool)(N m0:Nat)(c:Code)(s:XS)(e:Exit) (s' :XS):Prop:=
 (∀Q:Exit→St→Prop,Q e ⟨s'.env,s'.mem⟩→AWP P tp N m0 c ⟨s.env,s.mem⟩ Q)∧Clean m0 s.mem s.agf s'.mem s'.agf
def agv(wr:List Nat) (e y :Env):Prop:=∀t,t∉wr→ad y t=ad e t
theorem agv.refl(wr:List Nat)(e:Env):agv wr e e:=fun _ _=>rfl
theorem agv.trans{wr:List Nat}{y H I:Env}(h:agv wr y H)(h' :agv wr H I):agv wr y I:=fun t Z=>(h' t Z).trans (h t Z)
theorem agv.mono{wr wr' :List Nat}{y :Env}(h:agv wr e y)(H:∀t,t∈wr→t∈wr'):agv wr' e y :=fun t Z=>h t fun X=>Z (H t X)
theorem ja(a b:Env)(t:Nat)(h:∀e∈a,e.1≠t):ad (a++b) t=ad b t:=by
 induction a with
 |nil=>rfl
 |cons e r ih=>
  obtain⟨k,v⟩:=e;simp only[List.cons_append,ad];rw[if_neg (h (k,v) (by simp))];exact ih fun e Z=>h e (by simp[Z])
theorem ia(l:List Nat)(g:Nat→AV)(b:Env)(t:Nat)(h:t∈l):ad (l.map (fun t=>(t,g t))++b) t=g t:=by
 induction l with
 |nil=>cases h
 |cons x r ih=>
  simp only[List.map_cons,List.cons_append,ad];by_cases Z:x=t
  ·subst Z;rw[if_pos rfl]
  ·rw[if_neg Z]
   exact ih (by cases h with
    |head=>exact absurd rfl Z
    |tail _ h=>exact h)
theorem tU{lv wr:List Nat}{env:Env}(h:agv wr z' env)(t:Nat):ad (aA lv wr z' env) t=ad env t∨ad (aA lv wr z' env) t=.undef:=by
 unfold aA;rw[List.append_assoc];by_cases X:t∈lv
 ·rw[ia lv (fun t=>ad env t) _ t X];exact .inl rfl
 ·rw[ja _ _ t (by intro e Z;simp only[List.mem_map] at Z;obtain⟨x,V,rfl⟩:=Z;intro e;exact X (e▸V))]
  by_cases U:t∈wr
  ·rw[ia (wr.filter fun t=> !lv.contains t) (fun _=>AV.undef) _ t (by rw[List.mem_filter];exact⟨U,by simpa using X⟩)];exact .inr rfl
  ·rw[ja _ _ t (by intro e Z;simp only[List.mem_map,List.mem_filter] at Z;obtain⟨x,V,rfl⟩:=Z;intro e;exact U (e▸V.1))]
   exact .inl (h t U).symm
theorem o8{lv wr:List Nat}{env:Env}(y:agv wr z' env):agv wr z' (aA lv wr z' env):=by
 intro t V;unfold aA;rw[List.append_assoc];by_cases U:t∈lv
 ·rw[ia lv (fun t=>ad env t) _ t U];exact y t V
 ·rw[ja _ _ t (by intro e Z;simp only[List.mem_map] at Z;obtain⟨x,X,rfl⟩:=Z;intro e;exact U (e▸X)),
   ja _ _ t (by intro e Z;simp only[List.mem_map,List.mem_filter] at Z;obtain⟨x,X,rfl⟩:=Z;intro e;exact V (e▸X.1))]
theorem DO{wr:List Nat}{o:Oper}{v:AV}(h:∀d,o.dst=some d→d∈wr):agv wr e (agH e o.dst v):=by intro t Z;exact Mm fun X=>Z (h t X)
theorem qG{m0:Nat}{ops:Array Oper}:∀{l:List Oper}{s s' :XS},dF T O N m0 ops l s=some s' →agv (l.filterMap (·.dst)) s.env s'.env
 | [],s,s',h=>by cases h;exact .refl _ _
 |o::os,s,s',h=>by
  have X:∀t,t∈os.filterMap (·.dst)→t∈(o::os).filterMap (·.dst):=fun t V=>by
   rw[List.filterMap_cons];split
   ·exact V
   ·exact List.mem_cons_of_mem _ V
  have Z:∀d,o.dst=some d→d∈(o::os).filterMap (·.dst):=fun d Z=>by rw[List.filterMap_cons];simp[Z]
  unfold dF at h;split at h
  ·split at h
   ·split at h
    ·exact(DO Z).trans ((qG h).mono X)
    ·cases h
   ·exact(DO Z).trans ((qG h).mono X)
   ·cases h
  ·cases h
theorem MH{ops:Array Oper}:∀{l:List Oper} {env:Env} {mem:Mem} {R:List Rec}{H :Env}{y :Mem},mI P T N ops l env mem R H y →agv (l.filterMap (·.dst)) env H
 | [],_,_,[],_,_,h=>by obtain⟨rfl,_⟩:=h;exact .refl _ _
 |o::os,_,_,r::rs,_,_,h=>by
  obtain⟨rfl,_,_,V⟩:=h;have U:∀t,t∈os.filterMap (·.dst)→t∈(o::os).filterMap (·.dst):=fun t X=>by
   rw[List.filterMap_cons];split
   ·exact X
   ·exact List.mem_cons_of_mem _ X
  have Z:∀d,o.dst=some d→d∈(o::os).filterMap (·.dst):=fun d Z=>by rw[List.filterMap_cons];simp[Z]
  exact(DO Z).trans ((MH V).mono U)
 | [],_,_,_::_,_,_,h=>h.elim
 |_::_,_,_,[],_,_,h=>h.elim
theorem MN(y:qS P O){m0:Nat}{ops:Array Oper}{s s' :XS}(h:aH T O N m0 ops s=some s'):agv (ops.toList.filterMap (·.dst)) s.env s'.env:=by
 unfold aH at h;simp only at h;split at h
 ·cases h
 ·rename_i R env mem Z
  split at h
  ·cases h
   obtain⟨V,e,X⟩:=qI y Z;exact MH X
  ·cases h
mutual
theorem afQ.refs{μ:Nat→Place}{n:Nat}:∀{v V},afQ μ n v V→v.refs n=[]
 |.undef,_,_=>rfl
 |.bool _,_,_=>rfl
 |.int _ _,_,_=>rfl
 |.str _,_,_=>rfl
 |.ptr b o,V,h=>by simp only[afQ] at h;simp[AV.refs,h.1]
 |.af4,_,_=>rfl
 |.slice b o l c,V,h=>by simp only[afQ] at h;simp[AV.refs,h.1]
 |.qF,_,_=>rfl
 |.map b,V,h=>by simp only[afQ] at h;simp[AV.refs,h.1]
 |.yield b,V,h=>by simp only[afQ] at h;simp[AV.refs,h.1]
 |.age,_,_=>rfl
 |.func f Z,V,h=>by simp only[afQ] at h;obtain⟨X,_,h⟩:=h;simp[AV.refs,afS.refs h]
 |.nilFunc,_,_=>rfl
 |.iface t v,V,h=>by simp only[afQ] at h;obtain⟨U,_,h⟩:=h;simp[AV.refs,afQ.refs h]
 |.nilIface,_,_=>rfl
 |.agg Z,V,h=>by simp only[afQ] at h;obtain⟨X,_,h⟩:=h;simp[AV.refs,afS.refs h]
 |.tuple Z,V,h=>by simp only[afQ] at h;obtain⟨X,_,h⟩:=h;simp[AV.refs,afS.refs h]
theorem afS.refs{μ:Nat→Place}{n:Nat}:∀{vs Us},afS μ n vs Us→AV.af6 n vs=[]
 | [],_,_=>rfl
 |v::vs,_,h=>by simp only[afS] at h;obtain⟨U,V,_,Z,X⟩:=h;simp[AV.af6,afQ.refs Z,afS.refs X]
end
mutual
theorem AV.af7{y:Nat}{ks:List Nat}:∀{v:AV},v.refs y=[]→v.ren (rho y ks)=v
 |.undef,_=>rfl
 |.bool _,_=>rfl
 |.int _ _,_=>rfl
 |.str _,_=>rfl
 |.ptr b o,h=>by
  have Z:b<y:=by
   by_cases Z:b<y
   ·exact Z
   ·simp[AV.refs,Z] at h
  simp[AV.ren,rho,Z]
 |.af4,_=>rfl
 |.slice b o l c,h=>by
  have Z:b<y:=by
   by_cases Z:b<y
   ·exact Z
   ·simp[AV.refs,Z] at h
  simp[AV.ren,rho,Z]
 |.qF,_=>rfl
 |.map b,h=>by
  have Z:b<y:=by
   by_cases Z:b<y
   ·exact Z
   ·simp[AV.refs,Z] at h
  simp[AV.ren,rho,Z]
 |.yield b,h=>by
  have Z:b<y:=by
   by_cases Z:b<y
   ·exact Z
   ·simp[AV.refs,Z] at h
  simp[AV.ren,rho,Z]
 |.age,_=>rfl
 |.func f X,h=>by simp only[AV.refs] at h;simp[AV.ren,AV.agw h]
 |.nilFunc,_=>rfl
 |.iface t v,h=>by simp only[AV.refs] at h;simp[AV.ren,AV.af7 h]
 |.nilIface,_=>rfl
 |.agg X,h=>by simp only[AV.refs] at h;simp[AV.ren,AV.agw h]
 |.tuple X,h=>by simp only[AV.refs] at h;simp[AV.ren,AV.agw h]
theorem AV.agw{y:Nat}{ks:List Nat}:∀{vs:List AV},AV.af6 y vs=[]→AV.af9 (rho y ks) vs=vs
 | [],_=>rfl
 |v::vs,h=>by simp only[AV.af6,List.append_eq_nil_iff] at h;simp[AV.af9,AV.af7 h.1,AV.agw h.2]
end
variable{ks:List Nat}{m1:Nat}
theorem afU.af7{s:afU}(h:s.refs m1=[]):s.ren (rho m1 ks)=s:=by
 cases s with
 |qK=>rfl
 |cells own es cs=>simp only[afU.refs] at h;simp only[afU.ren,AV.agw h]
 |map es=>
  simp only[afU.refs,List.flatMap_eq_nil_iff] at h;simp only[afU.ren];congr 1;conv=>rhs;rw[←List.map_id es]
  apply List.map_congr_left;intro e Z;have:=h e Z;rw[List.append_eq_nil_iff] at this;rw[AV.af7 this.1,AV.af7 this.2];rfl
 |agq es=>
  simp only[afU.refs,List.flatMap_eq_nil_iff] at h;simp only[afU.ren];congr 1;conv=>rhs;rw[←List.map_id es]
  apply List.map_congr_left;intro e Z;have:=h e Z;rw[List.append_eq_nil_iff] at this;rw[AV.af7 this.1,AV.af7 this.2];rfl
 |loop r=>
  simp only[afU.refs,List.flatMap_eq_nil_iff] at h;simp only[afU.ren,tf];congr 1;have:r.env.map (fun e=>(e.1,e.2.ren (rho m1 ks)))=r.env:=by
   conv=>rhs;rw[←List.map_id r.env]
   apply List.map_congr_left;intro e Z;rw[AV.af7 (h e Z)];rfl
  rw[this]
variable{Q:Exit→St→Prop}
theorem AWP.assume{c:Code}{y:St}(h:m0≤y.mem.length→(∀t,(ad y.env t).refs y.mem.length=[])→AWP P tp N m0 c y Q):AWP P tp N m0 c y Q:=
 fun ro h0 base μ w a hro h1 h2 h3 h4 h5=>h h5 (fun t=>(h2 t).refs) ro h0 base μ w a hro h1 h2 h3 h4 h5
theorem LV{mem:Mem}(h:(mem.take m1).all (fun s=>(s.refs m1).isEmpty)=true):af2 m1 ks mem=mem.take m1++agK m1 ks mem:=by
 unfold af2;congr 1;conv=>rhs;rw[←List.map_id (mem.take m1)]
 apply List.map_congr_left;intro s Z;have:=List.all_eq_true.1 h s Z;rw[List.isEmpty_iff] at this;rw[afU.af7 this];rfl
variable{lw:List Nat}
section
variable{wr:List Nat}
include wr
theorem tV{g:Nat→AV}(t:Nat):
  ad ((lw.filter fun t=>wr.contains t).map (fun t=>(t,g t))++((wr.filter fun t=> !lw.contains t).map fun t=>(t,AV.undef))++z') t=
   if t∈wr then (if t∈lw then g t else .undef) else ad z' t:=by
 rw[List.append_assoc];by_cases X:t∈wr
 ·by_cases V:t∈lw
  ·rw[if_pos X,if_pos V]
   exact ia _ g _ t (by rw[List.mem_filter];exact⟨V,by simpa using X⟩)
  ·rw[if_pos X,if_neg V,ja _ _ t (by intro e Z;simp only[List.mem_map,List.mem_filter] at Z;obtain⟨x,U,rfl⟩:=Z;intro e;exact V (e▸U.1))]
   exact ia (wr.filter fun t=> !lw.contains t) (fun _=>AV.undef) _ t (by rw[List.mem_filter];exact⟨X,by simpa using V⟩)
 ·rw[if_neg X,ja _ _ t (by intro e Z;simp only[List.mem_map,List.mem_filter] at Z;obtain⟨x,U,rfl⟩:=Z;intro e;exact X (e▸by simpa using U.2)),
   ja _ _ t (by intro e Z;simp only[List.mem_map,List.mem_filter] at Z;obtain⟨x,U,rfl⟩:=Z;intro e;exact X (e▸U.1))]
theorem SI{s:XS}(h:agv wr z' s.env):agv wr z' (Mw lw wr z' m1 s).env:=by
 unfold Mw;simp only;split
 ·intro t Z
  simp only;rw[tV,if_neg Z]
 ·exact o8 h
theorem FU{s:XS}(h:agv wr z' s.env):agv wr z' (sS lw wr z' m1 s).env:=by
 unfold sS;split
 ·exact o8 h
 ·simp only
  split
  ·intro t Z
   simp only;rw[tV,if_neg Z]
  ·split
   ·exact SI h
   ·exact o8 h
theorem OY{s:XS}(y:m0≤m1):Clean m0 s.mem s.agf (sS lw wr z' m1 s).mem (sS lw wr z' m1 s).agf:=by
 unfold sS;split
 ·exact .refl _ _ _
 ·rename_i Z
  have Z:=fun h=>Z (.inr h)
  simp only;split
  ·intro h
   refine⟨by simp only[List.length_append,List.length_take];omega,fun e=>⟨e,?_⟩⟩;simp only;rw[List.take_append_of_le_length (by simp only[List.length_take];omega),List.take_take];congr 1;omega
  ·split
   ·unfold Mw
    simp only;split
    ·intro h
     exact⟨by show m0≤(af2 m1 _ s.mem).length;rw[fF (by omega)];omega,fun e=>by cases e⟩
    ·exact .refl _ _ _
   ·exact .refl _ _ _
theorem SZ{s:XS}(h:agv wr z' s.env)(h0:∀t,(ad z' t).refs m1=[])(y:m0≤m1)(H:m1≤s.mem.length):
  agN m0 ⟨s.env,s.mem⟩ ⟨(Mw lw wr z' m1 s).env,(Mw lw wr z' m1 s).mem⟩:=by
 unfold Mw;simp only;split
 ·rename_i U
  obtain⟨ks,V⟩:=xE (qZ m1 s.mem 1000 ((lw.flatMap fun t=>(ad s.env t).refs m1)++(s.mem.take m1).flatMap (afU.refs m1)) []);rw[←V] at U ⊢;have S:agN m0 ⟨s.env,s.mem⟩ ⟨tf (rho m1 ks) s.env,af2 m1 ks s.mem⟩:=by intro base μ w tmps Z X h3;obtain⟨μ1,R,M,L,G⟩:=agN.af2 (env:=s.env) _ U base μ w tmps Z X H;exact⟨μ1,R,M,Nat.le_trans y L,G.mono y⟩
  refine S.trans (agN.env fun t=>?_);rw[tV,jb];by_cases Z:t∈wr
  ·rw[if_pos Z]
   by_cases X:t∈lw
   ·rw[if_pos X];exact .inl rfl
   ·rw[if_neg X];exact .inr rfl
  ·rw[if_neg Z,h t Z,AV.af7 (h0 t)];exact .inl rfl
 ·exact agN.env fun t=>tU h t
theorem S0{s:XS}(h:agv wr z' s.env)(h0:∀t,(ad z' t).refs m1=[])(y:m0≤m1):
  agN m0 ⟨s.env,s.mem⟩ ⟨(sS lw wr z' m1 s).env,(sS lw wr z' m1 s).mem⟩:=by
 unfold sS;split
 ·exact agN.env fun t=>tU h t
 ·rename_i U
  have U:=fun h=>U (.inr h)
  simp only;split
  ·rename_i S
   rw[Bool.and_eq_true] at S;obtain⟨M,L⟩:=S;have R:agN m0 ⟨s.env,s.mem⟩ ⟨tf (rho m1 (qZ m1 s.mem 1000 (lw.flatMap fun t=>(ad s.env t).refs m1) [])) s.env,af2 m1 (qZ m1 s.mem 1000 (lw.flatMap fun t=>(ad s.env t).refs m1) []) s.mem⟩:=by
    intro base μ w tmps Z X h3;have V :m1≤s.mem.length:=by omega
    obtain⟨μ1,G,F,D,C⟩:=agN.af2 (env:=s.env) _ M base μ w tmps Z X V;exact⟨μ1,G,F,Nat.le_trans y D,C.mono y⟩
   rw[LV L] at R;refine R.trans (agN.env fun t=>?_);rw[tV,jb];by_cases Z:t∈wr
   ·rw[if_pos Z]
    by_cases X:t∈lw
    ·rw[if_pos X];exact .inl rfl
    ·rw[if_neg X];exact .inr rfl
   ·rw[if_neg Z,h t Z,AV.af7 (h0 t)];exact .inl rfl
  ·split
   ·exact SZ h h0 y (by omega)
   ·exact agN.env fun t=>tU h t
end
variable{f:XS→Option (Exit×XS)}
theorem Uw{b:Code}(hf:∀s e s',f s=some (e,s')→agv (ae b) s.env s'.env):
  ∀(k:Nat) (s:XS) (e:Exit) (s' :XS),agv (ae b) z' s.env→ga lw (ae b) z' m1 f k s=some (e,s')→agv (ae b) z' s'.env:=by
 intro k;induction k with
 |zero=>intro s e s' _ h;cases h
 |succ k ih=>
  intro s e s' Z h;unfold ga at h;split at h
  ·rename_i V X
   exact ih _ _ _ (FU (Z.trans (hf _ _ _ X))) h
  ·exact Z.trans (hf _ _ _ h)
theorem Sp{b:Code}(hf:∀s e s',f s=some (e,s')→Zj P tp N m0 b s e s')(y:m0≤m1):
  ∀(k:Nat) (s:XS) (e:Exit) (s' :XS),ga lw (ae b) z' m1 f k s=some (e,s')→Clean m0 s.mem s.agf s'.mem s'.agf:=by
 intro k;induction k with
 |zero=>intro s e s' h;cases h
 |succ k ih=>
  intro s e s' h;unfold ga at h;split at h
  ·rename_i V Z
   obtain⟨_,X⟩:=hf _ _ _ Z;exact(X.trans (OY y)).trans (ih _ _ _ h)
  ·exact(hf _ _ _ h).2
theorem Sq{b:Code}(hf:∀s e s',f s=some (e,s')→Zj P tp N m0 b s e s' ∧agv (ae b) s.env s'.env)(h0:∀t,(ad z' t).refs m1=[])(H:m0≤m1)(k:Nat)(s:XS)(e:Exit)(s' :XS)(y:agv (ae b) z' s.env)(h:ga lw (ae b) z' m1 f k s=some (e,s'))(hq:Q e ⟨s'.env,s'.mem⟩):AWP P tp N m0 (.loop b) ⟨s.env,s.mem⟩ Q:=by
 refine Wr (σ:=Nat) (fun k S=>∃s,S=⟨s.env,s.mem⟩∧agv (ae b) z' s.env∧ga lw (ae b) z' m1 f k s=some (e,s')) id (s:=k) ⟨s,rfl,y,h⟩ ?_;rintro k S ⟨s,rfl,y,hk⟩;cases k with
 |zero=>cases hk
 |succ k=>
  unfold ga at hk;split at hk
  ·rename_i X M
   obtain⟨⟨L,_⟩,R⟩:=hf _ _ _ M;refine AWP.aid (L (fun e Z=>e=.normal∧Z=⟨X.env,X.mem⟩) ⟨rfl,rfl⟩) ?_;rintro V Z ⟨rfl,rfl⟩;exact⟨⟨(sS lw (ae b) z' m1 X).env,(sS lw (ae b) z' m1 X).mem⟩,S0 (y.trans R) h0 H,k,⟨_,rfl,FU (y.trans R),hk⟩,Nat.lt_succ_self k⟩
  ·rename_i G
   have U :e≠ .normal:=by rintro rfl;exact G s' hk
   refine((hf _ _ _ hk).1.1 (fun V Z=>V=e∧Z=⟨s'.env,s'.mem⟩) ⟨rfl,rfl⟩).mono ?_;rintro V Z ⟨rfl,rfl⟩;cases V<;>first | exact absurd rfl U | exact hq
theorem fR(H:qS P O):∀{c:Code} {s:XS} {e:Exit}{s' :XS},aW T lv O K N m0 tp c s=some (e,s')→agv (ae c) s.env s'.env
 |.skip,s,e,s',h=>by simp only[aW,Option.some.injEq,Prod.mk.injEq] at h;obtain⟨_,rfl⟩:=h;exact .refl _ _
 |.exit id,s,e,s',h=>by simp only[aW,Option.some.injEq,Prod.mk.injEq] at h;obtain⟨_,rfl⟩:=h;exact .refl _ _
 |.ret,s,e,s',h=>by simp only[aW,Option.some.injEq,Prod.mk.injEq] at h;obtain⟨_,rfl⟩:=h;exact .refl _ _
 |.region id ops false,s,e,s',h=>by
  unfold aW at h;split at h
  next V X=>cases h;exact qG X
  ·cases h
 |.region id ops true,s,e,s',h=>by
  unfold aW at h;split at h
  next V X=>cases h;exact MN H X
  ·cases h
 |.seq x y,s,e,s',h=>by
  unfold aW at h;split at h
  ·rename_i V X
   exact((fR H X).mono fun t Z=>by simp[ae,Z]).trans ((fR H h).mono fun t Z=>by simp[ae,Z])
  ·exact(fR H h).mono fun t Z=>by simp[ae,Z]
 |.cond c x y,s,e,s',h=>by
  unfold aW at h;split at h
  ·exact(fR H h).mono fun t Z=>by simp[ae,Z]
  ·exact(fR H h).mono fun t Z=>by simp[ae,Z]
  ·cases h
 |.block id b,s,e,s',h=>by
  show agv (ae b) s.env s'.env
  unfold aW at h;split at h
  ·rename_i i V X
   split at h
   ·cases h;exact fR H X
   ·cases h;exact fR H X
  ·exact fR H h
 |.loop b,s,e,s',h=>by
  show agv (ae b) s.env s'.env
  unfold aW at h;exact Uw (fun s e s' h=>fR H h) _ _ _ _ (o8 (.refl _ _)) h
 |.rangeFunc g ps Z8 body,s,e,s',h=>by
  unfold aW at h;split at h
  ·split at h
   ·split at h
    ·simp only at h
     split at h
     ·split at h
      ·cases h
      ·split at h
       ·cases h;exact .refl _ _
       ·cases h
     ·cases h
    ·cases h
   ·cases h
  ·cases h
 |.label _,s,e,s',h=>by cases h
 |.goto _,s,e,s',h=>by cases h
 |.scope _,s,e,s',h=>by cases h
 |.refuse _,s,e,s',h=>by cases h
theorem dv(I:P.follows .mixedOrders=true)(hT:cX P T)(H:qS P O):∀{c:Code} {s:XS} {e:Exit}{s' :XS},cM c=true→aW T lv O K N m0 tp c s=some (e,s')→Zj P tp N m0 c s e s'
 |.skip,s,e,s',Z6,h=>by simp only[aW,Option.some.injEq,Prod.mk.injEq] at h;obtain⟨rfl,rfl⟩:=h;exact⟨fun Q Z=>Wt Z,.refl _ _ _⟩
 |.exit id,s,e,s',Z6,h=>by simp only[aW,Option.some.injEq,Prod.mk.injEq] at h;obtain⟨rfl,rfl⟩:=h;exact⟨fun Q Z=>Wq Z,.refl _ _ _⟩
 |.ret,s,e,s',Z6,h=>by simp only[aW,Option.some.injEq,Prod.mk.injEq] at h;obtain⟨rfl,rfl⟩:=h;exact⟨fun Q Z=>XG Z,.refl _ _ _⟩
 |.region id ops false,s,e,s',Z6,h=>by
  unfold aW at h;split at h
  ·rename_i R S
   cases h;obtain⟨X,V⟩:=kR H S;exact⟨fun Q Z=>R6 hT X Z,V⟩
  ·cases h
 |.region id ops true,s,e,s',Z6,h=>by
  unfold aW at h;split at h
  ·rename_i R S
   cases h;obtain⟨X,V⟩:=HM I hT H Z6 S;exact⟨fun Q Z=>X tp id Q Z,V⟩
  ·cases h
 |.seq x y,s,e,s',Z6,h=>by
  unfold aW at h;split at h
  ·rename_i R S
   simp only[cM,Bool.and_eq_true] at Z6;obtain⟨X,V⟩:=dv I hT H Z6.1 S;obtain⟨J,b2⟩:=dv I hT H Z6.2 h;exact⟨fun Q Z=>yK (X _ (J Q Z)),V.trans b2⟩
  ·rename_i M
   simp only[cM,Bool.and_eq_true] at Z6;obtain⟨X,V⟩:=dv I hT H Z6.1 h;refine⟨fun Q Z=>yK (X _ ?_),V⟩;cases e<;>first | exact absurd h (M s') | exact Z
 |.cond c x y,s,e,s',Z6,h=>by
  unfold aW at h;split at h
  ·rename_i L
   simp only[cM,Bool.and_eq_true] at Z6;obtain⟨X,V⟩:=dv I hT H Z6.1 h;exact⟨fun Q Z=>PR L (fun _=>X Q Z) (fun e=>by cases e),V⟩
  ·rename_i L
   simp only[cM,Bool.and_eq_true] at Z6;obtain⟨X,V⟩:=dv I hT H Z6.2 h;exact⟨fun Q Z=>PR L (fun e=>by cases e) (fun _=>X Q Z),V⟩
  ·cases h
 |.block id b,s,e,s',Z6,h=>by
  unfold aW at h;split at h
  ·rename_i i R S
   obtain⟨X,V⟩:=dv I hT H (by simpa only[cM] using Z6) S;split at h
   ·rename_i G
    cases h;exact⟨fun Q Z=>CJ (X _ (by simp only[PU];rw[if_pos G];exact Z)),V⟩
   ·rename_i G
    cases h;exact⟨fun Q Z=>CJ (X _ (by simp only[PU];rw[if_neg G];exact Z)),V⟩
  ·rename_i M
   obtain⟨X,V⟩:=dv I hT H (by simpa only[cM] using Z6) h;refine⟨fun Q Z=>CJ (X _ ?_),V⟩;cases e<;>first | exact absurd h (M _ s') | exact Z
 |.loop b,s,e,s',Z6,h=>by
  unfold aW at h;have u:∀s e s',aW T lv O K N m0 tp b s=some (e,s')→Zj P tp N m0 b s e s' ∧agv (ae b) s.env s'.env:=fun s e s' h=>⟨dv I hT H (by simpa only[cM] using Z6) h,fR H h⟩
  refine⟨fun Q Z=>AWP.assume fun U F=>Wu (agN.env fun t=>tU (.refl _ _) t) (Sq u F U _ _ _ _ (o8 (.refl _ _)) h Z),fun U=>?_⟩;exact Sp (fun s e s' h=>(u s e s' h).1) U _ ⟨aA (lv b) (ae b) s.env s.env,s.mem,s.agf⟩ _ _ h U
 |.rangeFunc g ps Z8 body,s,e,s',Z6,h=>by
  unfold aW at h;split at h
  ·rename_i D
   subst D;split at h
   ·rename_i f o hg
    split at h
    ·rename_i r j
     simp only at h;split at h
     ·rename_i r2 C
      split at h
      ·cases h
      ·rename_i Y
       split at h
       ·rename_i e1 F
        cases h;have W:=yZ H j;refine⟨fun Q Z=>Hg hg ((H.fn _ _ _ _ j).mono ?_),fun U=>⟨?_,fun B=>?_⟩⟩
        ·rintro v m ⟨rfl,rfl⟩
         exact⟨r2,e,C,fun e=>Y (by rw[e];rfl),F,Z⟩
        ·simp only[List.length_set]
         simp only[List.length_append] at W;omega
        ·simp only[Bool.or_eq_false_iff,Option.isSome_eq_false_iff,Option.isNone_iff_eq_none] at B
         refine⟨B.1,wB U ?_ fun b Y=>?_⟩
         ·simp only[List.length_set]
          simp only[List.length_append] at W;omega
         ·have Z9 :b<s.mem.length:=by omega
          show((r.mem _).set s.mem.length _)[b]? =_
          rw[List.getElem?_set_ne (by omega)];unfold y9.mem;rw[B.2];simp only[Option.getD_none];rw[List.append_assoc,List.getElem?_append_left Z9]
       ·cases h
     ·cases h
    ·cases h
   ·cases h
  ·cases h
 |.label _,s,e,s',Z6,h=>by cases h
 |.goto _,s,e,s',Z6,h=>by cases h
 |.scope _,s,e,s',Z6,h=>by cases h
 |.refuse _,s,e,s',Z6,h=>by cases h
structure ag9 (P:Program)(G:FuncId→Option Func):Prop where
 fn:∀f fn,G f=some fn→P.funcs[f]? =some fn∧(fn.name == "runtime.NumGoroutine")=false∧∀c,fn.body=some c→cM c=true
section
variable (hm:P.follows .mixedOrders=true)(hT:cX P T)(hO:qS P O)
include hm hT hO
theorem ar{G:FuncId→Option Func}(y:ag9 P G){f:FuncId}{args:List AV}{mem:Mem}{r:y9}(h:aa T lv G O K f args mem=some r):kO P f args mem r.v (r.mem mem)∧∀p,r.pre=some p→p.length=mem.length:=by
 unfold aa at h;split at h
 ·cases h
 ·rename_i fn S
  obtain⟨L,F,g3⟩:=y.fn _ _ S;split at h
  ·cases h
  ·rename_i c R
   split at h
   ·rename_i D
    split at h
    ·rename_i e s u
     obtain⟨C,o⟩:=dv hm hT hO (g3 c R) u;obtain⟨Y,m⟩:=o (Nat.le_refl _);have X:(e=.normal∨e=.ret)→(match jK T fn.results.toList s.env s.mem with
      |some v=>
       let m0:=mem.length
       if s.agf then
        let ks:=qZ m0 s.mem 1000 (v.refs m0++(s.mem.take m0).flatMap (afU.refs m0)) []
        if EW m0 s.mem.length ks then
         some ⟨v.ren (rho m0 ks),some ((s.mem.take m0).map (afU.ren (rho m0 ks))),agK m0 ks s.mem⟩
        else none
       else
        let ks:=qZ m0 s.mem 1000 (v.refs m0) []
        if EW m0 s.mem.length ks then
         some ⟨v.ren (rho m0 ks),none,agK m0 ks s.mem⟩
        else none
      |none=>none:Option y9)=some r→kO P f args mem r.v (r.mem mem)∧∀p,r.pre=some p→p.length=mem.length:=by
      intro V h;split at h
      ·rename_i v B
       simp only at h;split at h
       ·split at h
        ·rename_i Z
         cases h;refine⟨ags.intro hT L R F D (C _ ⟨V,v,B,_,Z,.inr ⟨rfl,rfl⟩⟩),fun p M=>?_⟩;cases M;simp only[List.length_map,List.length_take];omega
        ·cases h
       ·rename_i j
        split at h
        ·rename_i Z
         cases h;have U :=(m (by simpa using j)).2;rw[List.take_of_length_le (Nat.le_refl _)] at U;exact⟨ags.intro hT L R F D (C _ ⟨V,v,B,_,Z,.inl ⟨U,rfl,rfl⟩⟩),fun p M=>by cases M⟩
        ·cases h
      ·cases h
     split at h
     ·exact X (.inl rfl) h
     ·exact X (.inr rfl) h
     ·cases h
    ·cases h
   ·cases h
theorem qm{b:Nat}{args:List AV}{mem:Mem}{r:y9}(h:yL T lv O K b args mem=some r):gk P b args mem r.v (r.mem mem)∧∀p,r.pre=some p→p.length=mem.length:=by
 unfold yL at h;split at h
 ·rename_i H X
  split at h
  ·rename_i M
   simp only[Bool.and_eq_true,decide_eq_true_eq,List.all_eq_true] at M;obtain⟨⟨⟨⟨L,G⟩,F⟩,D⟩,C⟩:=M;have Z:∀{x:LoopState},(x== .ready)=true→x=.ready:=fun {x} h=>by cases x<;>first | rfl | cases h
   split at h
   ·rename_i y B
    obtain⟨u,o⟩:=dv hm hT hO D B;split at h
    ·rename_i r1 V
     split at h
     ·rename_i U
      split at h
      ·rename_i e s2 m
       obtain⟨Y,W⟩:=dv hm hT hO C m;split at h
       ·rename_i j r2 J S
        simp only at h;split at h
        ·rename_i R
         cases h;obtain⟨d1,_⟩:=o (Nat.le_refl _);obtain⟨d2,_⟩:=W (by simpa using d1);refine⟨agC.intro X (Z L) G F (u _ ⟨rfl,r1,V,Z U,Y _ ⟨r2,j,_,J,S,R,rfl,rfl⟩⟩),fun p I=>?_⟩;cases I;simp only[List.length_map,List.length_take,List.length_set];omega
        ·cases h
       ·cases h
      ·cases h
     ·cases h
    ·cases h
   ·cases h
  ·cases h
 ·cases h
end
theorem qj(y:P.follows .mixedOrders=true)(hT:cX P T){G:FuncId→Option Func}(I:ag9 P G)(H:qS P O):∀n,qS P (EO T lv G O K n)
 |0=>H
 |n+1=>by
  have V:=qj y hT I H n;have X:∀c Z mem r,EO T lv G O K (n+1) c Z mem=some r→O c Z mem=some r∨(match c with
   |.fn f=>aa T lv G (EO T lv G O K n) K f Z mem
   |.yld b=>yL T lv (EO T lv G O K n) K b Z mem)=some r:=by
   intro c Z mem r h;unfold EO at h;split at h
   next R S=>cases h;exact .inl S
   ·exact .inr h
  refine⟨fun f Z mem r h=>?_,fun b Z mem r h=>?_,fun c Z mem r p h U=>?_⟩
  ·rcases X _ _ _ _ h with h | h
   ·exact H.fn _ _ _ _ h
   ·exact(ar y hT V I h).1
  ·rcases X _ _ _ _ h with h | h
   ·exact H.yld _ _ _ _ h
   ·exact(qm y hT V h).1
  ·rcases X _ _ _ _ h with h | h
   ·exact H.pre _ _ _ _ _ h U
   ·cases c with
    |fn f=>exact(ar y hT V I h).2 p U
    |yld b=>exact(qm y hT V h).2 p U
end
end Go.Eng
namespace Go.Eng
def bh(P:Program)(t:TypeId):Option TyI:=
 match P.info? t,P.underlying t with
 |some i,some d=>match i.zero with
  |some z=>if z.cells.size=i.size then some ⟨d,i.size,i.bytes,z,!P.stoodInHeld t&& !P.eqGuardType P.depth t⟩ else none
  |none=>none
 |_,_=>none
theorem aK(P:Program):cX P (bh P):=by
 intro t i h;unfold bh at h;split at h
 ·rename_i f d X V
  split at h
  ·rename_i z U
   split at h
   ·rename_i S
    cases h;refine⟨V,⟨f,X,rfl,rfl,U⟩,S,fun Z=>?_⟩;simp only[Bool.and_eq_true,Bool.not_eq_true'] at Z;exact Z
   ·cases h
  ·cases h
 ·cases h
def aS(P:Program)(f:FuncId):Option Func:=match P.funcs[f]? with
 |some fn=>if fn.name == "runtime.NumGoroutine" then none else match fn.body with
  |some c=>if cM c then some fn else none
  |none=>some fn
 |none=>none
theorem aR(P:Program):ag9 P (aS P):=by
 refine⟨fun f fn h=>?_⟩;unfold aS at h;split at h
 ·rename_i S V
  split at h
  ·cases h
  ·rename_i U
   split at h
   ·rename_i c X
    split at h
    ·rename_i R
     cases h;refine⟨V,by simpa using U,fun Q Z=>?_⟩;rw[X] at Z;cases Z;exact R
    ·cases h
   ·rename_i X
    cases h;refine⟨V,by simpa using U,fun Q Z=>?_⟩;rw[X] at Z;cases Z
 ·cases h
def cF:afF:=fun _ _ _=>none
theorem aw(P:Program):qS P cF:=⟨(fun _ _ _ _ h=>by cases h),(fun _ _ _ _ h=>by cases h),(fun _ _ _ _ _ h=>by cases h)⟩
structure agk (w w' :World):Prop where
 size:w.heap.size≤w'.heap.size
 heap:∀k,k<w.heap.size→w'.heap[k]? =w.heap[k]?
 os:w'.os=w.os
 tape:w'.tape=w.tape
 output:w'.output=w.output
 drawn:w.drawn≤w'.drawn
section
variable {P:Program}{μ:Nat→Place}{mem:Mem}{base:Nat}{w w' :World}
theorem agk.refl(w:World):agk w w:=⟨Nat.le_refl _,fun _ _=>rfl,rfl,rfl,rfl,Nat.le_refl _⟩
theorem agk.aip(h:agk w w')(y:af3 base μ mem w):af3 base μ mem w' :=by refine⟨Nat.le_trans y.afY h.size,fun b s Z=>?_,y.sep⟩;exact(y.slot b s Z).mono (Nat.le_refl _) (fun _ _=>rfl) fun X=>h.heap _ ((y.slot b s Z).agA X)
theorem agk.step(h:agk w w'){m0:Nat}(y:m0≤mem.length):Step m0 μ mem w μ mem w' :=
 ⟨y,fun _ _=>rfl,h.os,h.tape,h.output,h.size,fun k Z _=>h.heap k Z,fun b X _=>⟨b,X,rfl⟩,h.drawn⟩
theorem kO.agu{f:FuncId}{args:List AV}{Vs:List Value}{v:AV}{V:Value}(hf:Vw P f)(y:∀μ n Us,afS μ n args Us→Us=Vs)(H:∀μ n,afQ μ n v V)(h:∀base w,GOk P base w→Calls P f ⟨Vs⟩ w fun e w' =>e=.returned V∧agk w w')(mem:Mem):kO P f args mem v mem:=by refine⟨hf,fun base μ w Us hG hH hV=>?_⟩;rw[y _ _ _ hV];refine(h base w hG).mono ?_;rintro e w' ⟨rfl,hg⟩;exact⟨V,v,mem,μ,rfl,H _ _,hg.aip hH,hg.step (Nat.le_refl _),rfl,rfl⟩
theorem agk.grow(w:World)(k:Nat)(os:Array Obj):agk w { w with heap:=w.heap++os,drawn:=w.drawn+k }:=by
 refine⟨by simp,fun i Z=>?_,rfl,rfl,rfl,Nat.le_add_right _ _⟩;show(w.heap++os)[i]? =_
 rw[Array.getElem?_append_left Z]
mutual
def AV.closed:AV→Bool
 |.ptr _ _=>false
 |.slice _ _ _ _=>false
 |.map _=>false
 |.yield _=>false
 |.func _ Z=>AV.afT Z
 |.iface _ v=>v.closed
 |.agg Z=>AV.afT Z
 |.tuple Z=>AV.afT Z
 |_=>true
def AV.afT:List AV→Bool
 | []=>true
 |v::vs=>v.closed&&AV.afT vs
end
mutual
theorem afQ.closed{μ μ' :Nat→Place}{n n' :Nat}:∀{v V},v.closed=true→afQ μ n v V→afQ μ' n' v V
 |.undef,V,_,_=>by simp[afQ]
 |.bool b,V,_,h=>by simpa [afQ] using h
 |.int k i,V,_,h=>by simpa [afQ] using h
 |.str s,V,_,h=>by simpa [afQ] using h
 |.ptr b o,V,hc,_=>by simp[AV.closed] at hc
 |.af4,V,_,h=>by simpa [afQ] using h
 |.slice b o l c,V,hc,_=>by simp[AV.closed] at hc
 |.qF,V,_,h=>by simpa [afQ] using h
 |.map b,V,hc,_=>by simp[AV.closed] at hc
 |.yield b,V,hc,_=>by simp[AV.closed] at hc
 |.age,V,_,h=>by simpa [afQ] using h
 |.func f X,V,hc,h=>by simp only[afQ] at h ⊢;simp only[AV.closed] at hc;obtain⟨Z,rfl,h⟩:=h;exact⟨Z,rfl,afS.closed hc h⟩
 |.nilFunc,V,_,h=>by simpa [afQ] using h
 |.iface t v,V,hc,h=>by simp only[afQ] at h ⊢;simp only[AV.closed] at hc;obtain⟨U,rfl,h⟩:=h;exact⟨U,rfl,afQ.closed hc h⟩
 |.nilIface,V,_,h=>by simpa [afQ] using h
 |.agg X,V,hc,h=>by simp only[afQ] at h ⊢;simp only[AV.closed] at hc;obtain⟨Z,rfl,h⟩:=h;exact⟨Z,rfl,afS.closed hc h⟩
 |.tuple X,V,hc,h=>by simp only[afQ] at h ⊢;simp only[AV.closed] at hc;obtain⟨Z,rfl,h⟩:=h;exact⟨Z,rfl,afS.closed hc h⟩
theorem afS.closed{μ μ' :Nat→Place}{n n' :Nat}:∀{vs Us},AV.afT vs=true→afS μ n vs Us→afS μ' n' vs Us
 | [],Us,_,h=>by simpa [afS] using h
 |v::vs,Us,hc,h=>by simp only[AV.afT,Bool.and_eq_true] at hc;simp only[afS] at h ⊢;obtain⟨U,Z,rfl,X,V⟩:=h;exact⟨U,Z,rfl,afQ.closed hc.1 X,afS.closed hc.2 V⟩
end
theorem kO.lift{f:FuncId}{args:List AV}{v:AV}(y:AV.afT args=true)(H:v.closed=true)(h:kO P f args [] v [])(mem:Mem):kO P f args mem v mem:=by refine⟨h.1,fun base μ w Us hG hH hV=>?_⟩;have S:af3 base μ [] w:=⟨hH.afY,fun b s Z=>by simp at Z,fun b Q O X=>by obtain⟨s,Z,_⟩:=X;simp at Z⟩;refine(h.2 base μ w Us hG S (afS.closed y hV)).mono ?_;rintro e w' ⟨V,v',m',μ',rfl,q1,q2,q3,rfl,rfl⟩;have U:agk w w' :=⟨q3.size,fun k R=>q3.frame k R fun b X=>by obtain⟨s,Z,_⟩:=X;simp at Z,q3.os,q3.tape,q3.output,q3.drawn⟩;exact⟨V,v',mem,μ,rfl,afQ.closed H q1,U.aip hH,U.step (Nat.le_refl _),rfl,rfl⟩
variable{O:afF}
theorem kO.ahX{T:TypeId→Option TyI}{G:FuncId→Option Func}{K:Nat}(y:P.follows .mixedOrders=true)(hT:cX P T)(H:qS P O)(I:ag9 P G){f:FuncId}{args:List AV}{v:AV}(J:AV.afT args=true)(W:v.closed=true){lv:Code→List Nat}(h:aa T lv G O K f args []=some ⟨v,none,[]⟩)(mem:Mem):kO P f args mem v mem:=
 kO.lift J W (ar y hT H I h).1 mem
def afF.or(O y :afF):afF:=fun c Z mem=>match O c Z mem with
 |some r=>some r
 |none=>y c Z mem
theorem qS.or{y :afF}(h:qS P O)(h' :qS P y):qS P (O.or y):=by
 have U:∀c Z mem r,O.or y c Z mem=some r→O c Z mem=some r∨y c Z mem=some r:=by
  intro c Z mem r V;unfold afF.or at V;split at V
  next R X=>cases V;exact .inl X
  ·exact .inr V
 refine⟨fun f Z mem r V=>?_,fun b Z mem r V=>?_,fun c Z mem r p V S=>?_⟩
 ·rcases U _ _ _ _ V with X | X
  ·exact h.fn _ _ _ _ X
  ·exact h'.fn _ _ _ _ X
 ·rcases U _ _ _ _ V with X | X
  ·exact h.yld _ _ _ _ X
  ·exact h'.yld _ _ _ _ X
 ·rcases U _ _ _ _ V with X | X
  ·exact h.pre _ _ _ _ _ X S
  ·exact h'.pre _ _ _ _ _ X S
def ag(F:FuncId→List AV→Option AV):afF:=fun c Z _=>match c with
 |.fn f=>match F f Z with
  |some v=>some ⟨v,none,[]⟩
  |none=>none
 |.yld _=>none
theorem bF{F:FuncId→List AV→Option AV}(h:∀f Z v,F f Z=some v→∀mem,kO P f Z mem v mem):qS P (ag F):=by
 refine⟨fun f Z mem r X=>?_,(fun b Z mem r X=>by cases X),fun c Z mem r p X V=>?_⟩
 ·unfold ag at X
  simp only at X;split at X
  ·rename_i v U
   cases X;have:=h f Z v U mem;simpa [y9.mem] using this
  ·cases X
 ·unfold ag at X
  split at X
  ·split at X
   ·cases X;cases V
   ·cases X
  ·cases X
end
end Go.Eng
