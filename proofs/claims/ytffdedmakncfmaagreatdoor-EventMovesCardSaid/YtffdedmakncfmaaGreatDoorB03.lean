/- See B54. -/
import Derived.Test.YtffdedmakncfmaaGreatDoorB02
set_option linter.all false
namespace Go.Eng
mutual
def AV.ae6(ok:Nat→Bool):AV→Bool
 |.ptr b _=>ok b
 |.slice b _ _ _=>ok b
 |.map b=>ok b
 |.yield b=>ok b
 |.func _ Z=>AV.afa ok Z
 |.iface _ v=>v.ae6 ok
 |.agg Z=>AV.afa ok Z
 |.tuple Z=>AV.afa ok Z
 |_=>true
def AV.afa(ok:Nat→Bool):List AV→Bool
 | []=>true
 |v::vs=>v.ae6 ok&&AV.afa ok vs
end
def afb.ae6(ok:Nat→Bool):afb→Bool
 |.qK=>true
 |.cells _ _ cs=>AV.afa ok cs
 |.map es=>es.all fun e=>e.1.ae6 ok&&e.2.ae6 ok
 |.afH es=>es.all fun e=>e.1.ae6 ok&&e.2.ae6 ok
 |.loop r=>r.env.all fun e=>e.2.ae6 ok
theorem CM{ok:Nat→Bool}:∀{env:Env},(env.all fun e=>e.2.ae6 ok)=true→∀t,(ab env t).ae6 ok=true
 | [],_,_=>rfl
 |(k,v)::r,h,t=>by
  simp only[List.all_cons,Bool.and_eq_true] at h;simp only[ab];split
  ·exact h.1
  ·exact CM h.2 t
mutual
theorem ae5.change{μ μ' :Nat→Place}{n:Nat}{ok:Nat→Bool}(hμ:∀b,b<n→ok b=true→μ' b=μ b):
  ∀{v V},v.ae6 ok=true→ae5 μ n v V→ae5 μ' n v V
 |.undef,_,_,_=>by simp[ae5]
 |.bool _,_,_,h=>by simpa [ae5] using h
 |.int _ _,_,_,h=>by simpa [ae5] using h
 |.str _,_,_,h=>by simpa [ae5] using h
 |.ptr b o,V,hk,h=>by simp only[ae5] at h ⊢;simp only[AV.ae6] at hk;exact⟨h.1,by rw[hμ b h.1 hk];exact h.2⟩
 |.afk,_,_,h=>by simpa [ae5] using h
 |.slice b o l c,V,hk,h=>by simp only[ae5] at h ⊢;simp only[AV.ae6] at hk;exact⟨h.1,by rw[hμ b h.1 hk];exact h.2⟩
 |.qF,_,_,h=>by simpa [ae5] using h
 |.map b,V,hk,h=>by simp only[ae5] at h ⊢;simp only[AV.ae6] at hk;exact⟨h.1,by rw[hμ b h.1 hk];exact h.2⟩
 |.yield b,V,hk,h=>by simp only[ae5] at h ⊢;simp only[AV.ae6] at hk;exact⟨h.1,by rw[hμ b h.1 hk];exact h.2⟩
 |.aft,_,_,h=>by simpa [ae5] using h
 |.func f X,V,hk,h=>by simp only[ae5] at h ⊢;simp only[AV.ae6] at hk;obtain⟨Z,e,h⟩:=h;exact⟨Z,e,ae7.change hμ hk h⟩
 |.nilFunc,_,_,h=>by simpa [ae5] using h
 |.iface t v,V,hk,h=>by simp only[ae5] at h ⊢;simp only[AV.ae6] at hk;obtain⟨U,e,h⟩:=h;exact⟨U,e,ae5.change hμ hk h⟩
 |.nilIface,_,_,h=>by simpa [ae5] using h
 |.agg X,V,hk,h=>by simp only[ae5] at h ⊢;simp only[AV.ae6] at hk;obtain⟨Z,e,h⟩:=h;exact⟨Z,e,ae7.change hμ hk h⟩
 |.tuple X,V,hk,h=>by simp only[ae5] at h ⊢;simp only[AV.ae6] at hk;obtain⟨Z,e,h⟩:=h;exact⟨Z,e,ae7.change hμ hk h⟩
theorem ae7.change{μ μ' :Nat→Place}{n:Nat}{ok:Nat→Bool}(hμ:∀b,b<n→ok b=true→μ' b=μ b):
  ∀{vs Us},AV.afa ok vs=true→ae7 μ n vs Us→ae7 μ' n vs Us
 | [],_,_,h=>by simpa [ae7] using h
 |v::vs,Us,hk,h=>by simp only[ae7] at h ⊢;simp only[AV.afa,Bool.and_eq_true] at hk;obtain⟨U,Z,e,X,V⟩:=h;exact⟨U,Z,e,ae5.change hμ hk.1 X,ae7.change hμ hk.2 V⟩
end
variable{s:afb}
theorem afl.change{μ μ' :Nat→Place}{n base:Nat}{w:World}{p:Place}{ok:Nat→Bool}(hμ:∀b,b<n→ok b=true→μ' b=μ b)(hk:s.ae6 ok=true)(h:afl μ n base w p s):afl μ' n base w p s:=by
 cases s with
 |qK=>trivial
 |cells own es cs=>
  simp only[afl] at h ⊢;simp only[afb.ae6] at hk;obtain⟨Q,e,D,Z,X,h3,S,C⟩:=h;refine⟨Q,e,D,Z,X,h3,fun j v U=>?_,C⟩;obtain⟨V,hV,B⟩:=S j v U;refine⟨V,hV,B.change hμ ?_⟩;have:∀(l:List AV),AV.afa ok l=true→∀v∈l,v.ae6 ok=true:=by
   intro l;induction l with
   |nil=>intro _ v U;cases U
   |cons x xs ih=>
    intro O v U;simp only[AV.afa,Bool.and_eq_true] at O;cases U with
    |head=>exact O.1
    |tail _ hm=>exact ih O.2 v hm
  exact this cs hk v (List.mem_of_getElem? U)
 |map es=>
  simp only[afl] at h ⊢;simp only[afb.ae6,List.all_eq_true,Bool.and_eq_true] at hk;obtain⟨N,M,Z,X,h3,S⟩:=h;refine⟨N,M,Z,X,h3,fun j e R=>?_⟩;obtain⟨E,K,G,F⟩:=S j e R;have:=hk e (List.mem_of_getElem? R);exact⟨E,K,G.change hμ this.1,F.change hμ this.2⟩
 |afH es=>
  simp only[afl] at h ⊢;simp only[afb.ae6,List.all_eq_true,Bool.and_eq_true] at hk;obtain⟨N,M,Z,X,h3,S⟩:=h;refine⟨N,M,Z,X,h3,fun j e R=>?_⟩;obtain⟨E,K,G,F⟩:=S j e R;have:=hk e (List.mem_of_getElem? R);exact⟨E,K,G.change hμ this.1,F.change hμ this.2⟩
 |loop r=>
  simp only[afl] at h ⊢;obtain⟨L,Z,X,h3⟩:=h;exact⟨L,Z,X,{ h3 with tmps:=fun t=>(h3.tmps t).change hμ (CM hk t) }⟩
structure afF where
 E:Nat→Env
 En:Nat→Env
 M:Nat→Mem
 Tm:Nat→Mem
 M' :Nat→Mem
 v:Nat→AV
 wb:Nat→Bool
 afQ:Nat→Nat→Bool
 ok:Nat→Nat→Bool
 cl:Nat→Nat→Bool
def ir(mem:Mem)(b:Nat):Prop:=∃s,mem[b]? =some s∧s≠ .qK
structure ahc (P:Program)(T:TypeId→Option TyI)(N:Nat)(ops:Array Oper)(d:afF)(j:Nat)(o:Oper):Prop where
 wanted:sg ops (d.En j) o=some (d.wb j)
 dst:D9 N o=true
 step:d.wb j=true→wZ P T (d.En j) (d.Tm j) o (d.v j) (d.M' j)
 skip:d.wb j=false→d.v j=.tuple []∧d.M' j=d.Tm j
 env:d.E (j+1)=afX (d.E j) o.dst (d.v j)
 named:∀t,ab (d.En j) t=.undef∨(ab (d.En j) t=ab (d.E j) t∧∀(i:Nat) oi,ops[i]? =some oi→i≠j→oi.dst=some t→d.cl i j=true∨d.cl j i=true)
 ahK:∀(i:Nat) oi t,ops[i]? =some oi→i≠j→o.dst=some t→oi.dst=some t→d.cl i j=true∨d.cl j i=true
 agS:(d.Tm j).length=(d.M j).length
 agT:∀b:Nat,(d.Tm j)[b]? =(d.M j)[b]? ∨(d.Tm j)[b]? =some .qK
 aht:(d.M (j+1)).length=(d.M' j).length
 agU:(d.M j).length≤(d.M (j+1)).length
 ahu:∀b:Nat,d.afQ j b=true→(d.M (j+1))[b]? =(d.M' j)[b]?
 ahy:∀b:Nat,b<(d.M j).length→d.afQ j b=false→(d.M (j+1))[b]? =(d.M j)[b]?
 ahz:∀b:Nat,b<(d.M j).length→d.afQ j b=false→ir (d.Tm j) b→(d.M' j)[b]? =(d.M j)[b]?
 ahA:∀b:Nat,(d.M j).length≤b→d.afQ j b=true
 ahd:∀b:Nat,d.afQ j b=true→b<(d.M j).length→ir (d.Tm j) b
 sep:∀(i:Nat) oi (b:Nat),ops[i]? =some oi→i≠j→b<(d.M (i+1)).length→d.afQ i b=true→(b<(d.M (j+1)).length∧d.afQ j b=true)∨ir (d.Tm j) b→d.cl i j=true∨d.cl j i=true
 okc:∀(i:Nat) (b:Nat) oi,ops[i]? =some oi→d.ok j b=true→(d.M i).length≤b→b<(d.M (i+1)).length→i=j∨d.cl i j=true
 agV:(d.v j).ae6 (d.ok j)=true
 ahB:∀(b:Nat) s,d.afQ j b=true→(d.M (j+1))[b]? =some s→s.ae6 (d.ok j)=true
 ahe:∀(b:Nat) s,(d.M j).length≤b→(d.M (j+1))[b]? =some s→s≠ .qK→ek (d.M (j+1)) b
 ahv:∀e∈o.after,Region.binds .any e=true→e.on<j
 ahf:∀i,d.cl i j=true→∃e∈o.after,Region.binds .any e=true∧(e.on=i∨d.cl i e.on=true)
variable{b t:Nat}
section
variable {P:Program}{T:TypeId→Option TyI}{N:Nat}{ops:Array Oper}{d:afF}
def sT(P:Program)(T:TypeId→Option TyI)(N:Nat)(ops:Array Oper)(d:afF):Prop:=∀(j:Nat) o,ops[j]? =some o→ahc P T N ops d j o
def Tch(d:afF)(i b:Nat):Prop:=d.afQ i b=true∧b<(d.M (i+1)).length
theorem Aj{j:Nat}(h:j<ops.size):∃o,ops[j]? =some o:=⟨ops[j],by simp[h]⟩
theorem Ll{env:Env}{y:Option Tmp}{v:AV}(h:y≠some t):ab (afX env y v) t=ab env t:=by
 cases y with
 |none=>rfl
 |some x=>
  have:¬x=t:=fun e=>h (by rw[e])
  simp[afX,ab,this]
section
variable (hA:sT P T N ops d)
include hA
theorem EC(t:Nat)(j:Nat):∀k,j≤k→k≤ops.size→(∀(i:Nat) V,j≤i→i<k→ops[i]? =some V→V.dst≠some t)→ab (d.E k) t=ab (d.E j) t:=by
 intro k Z;induction Z with
 |refl=>intro _ _;rfl
 | @step k Z ih=>
  intro R X;obtain⟨o,U⟩:=Aj (ops:=ops) (j:=k) (by omega);rw[(hA k o U).env,Ll (X k o Z (Nat.lt_succ_self k) U)];exact ih (by omega) fun i V S Q h3=>X i V S (by omega) h3
theorem AG(j:Nat):∀k,j≤k→k≤ops.size→(d.M j).length≤(d.M k).length:=by
 intro k Z;induction Z with
 |refl=>intro _;exact Nat.le_refl _
 | @step k Z ih=>
  intro V;obtain⟨o,X⟩:=Aj (ops:=ops) (j:=k) (by omega);exact Nat.le_trans (ih (by omega)) (hA k o X).agU
theorem ET(b:Nat)(j:Nat):∀k,j≤k→k≤ops.size→(∀i,j≤i→i<k→¬Tch d i b)→(d.M k)[b]? =(d.M j)[b]? :=by
 intro k Z;induction Z with
 |refl=>intro _ _;rfl
 | @step k Z ih=>
  intro O X;obtain⟨o,V⟩:=Aj (ops:=ops) (j:=k) (by omega);have U:=ih (by omega) fun i U L=>X i U (by omega)
  have Q:=X k Z (Nat.lt_succ_self k);rw[←U];by_cases S:b<(d.M k).length
  ·have:d.afQ k b=false:=by
    cases R:d.afQ k b with
    |false=>rfl
    |true=>exact absurd ⟨R,Nat.lt_of_lt_of_le S (hA k o V).agU⟩ Q
   exact(hA k o V).ahy b S this
  ·have R:=(hA k o V).ahA b (by omega)
   have:¬b<(d.M (k+1)).length:=fun h=>Q ⟨R,h⟩
   exact(List.getElem?_eq_none (Nat.le_of_not_lt this)).trans (List.getElem?_eq_none (Nat.le_of_not_lt S)).symm
end
structure agQ (d:afF)(ops:Array Oper)(base:Nat) (μ0:Nat→Place)(w0:World)(S:Nat→Prop) (μ:Nat→Place)(kb kt:Nat→Nat)(tmps:Array Value)(w:World):Prop where
 afe:base≤w.heap.size
 agw:∀b,kb b≤ops.size
 age:∀b i,i<ops.size→Tch d i b→(S i↔i<kb b)
 agx:∀b,kb b=0∨Tch d (kb b-1) b
 slot:∀(b:Nat) s,(d.M (kb b))[b]? =some s→afl μ (d.M (kb b)).length base w (μ b) s
 sep:∀b b' s',ek (d.M (kb b)) b→(d.M (kb b'))[b']? =some s' →s' ≠ .qK→b≠b' →(μ b).blk≠(μ b').blk
 agW:∀t,kt t≤ops.size
 agf:∀(t i:Nat) oi,ops[i]? =some oi→oi.dst=some t→(S i↔i<kt t)
 agy:∀t,kt t=0∨∃oi,ops[kt t-1]? =some oi∧oi.dst=some t
 tmp:∀t,ae5 μ (d.M (kt t)).length (ab (d.E (kt t)) t) (tmps.getD t undef)
 agree:∀b,b<(d.M 0).length→μ b=μ0 b
 os:w.os=w0.os
 tape:w.tape=w0.tape
 drawn:w0.drawn≤w.drawn
 output:w.output=w0.output
 size:w0.heap.size≤w.heap.size
 frame:∀k,k<w0.heap.size→(∀b,ek (d.M 0) b→(μ0 b).blk≠k)→w.heap[k]? =w0.heap[k]?
 owner:∀b,ek (d.M (kb b)) b→(μ b).blk<w0.heap.size→∃b0,ek (d.M 0) b0∧(μ0 b0).blk=(μ b).blk
theorem WR(y:sT P T N ops d):∀(j i:Nat),j<ops.size→d.cl i j=true→i<j:=by
 intro j;induction j using Nat.strongRecOn with
 |_ j ih=>
  intro i V h;obtain⟨o,X⟩:=Aj V;obtain⟨e,U,S,hc⟩:=(y j o X).ahf i h;have Z:=(y j o X).ahv e U S;rcases hc with rfl | hc
  ·exact Z
  ·exact Nat.lt_trans (ih e.on Z i (by omega) hc) Z
def ve(ops:Array Oper)(S:Nat→Prop):Prop:=∀(j:Nat) o,ops[j]? =some o→S j→∀e∈o.after,Region.binds .any e=true→S e.on
section
variable (hA:sT P T N ops d){S:Nat→Prop}(hS:ve ops S)
include hA S hS
theorem Sj:∀(j:Nat) o,ops[j]? =some o→(∀e∈o.after,Region.binds .any e=true→S e.on)→∀i,d.cl i j=true→S i:=by
 intro j;induction j using Nat.strongRecOn with
 |_ j ih=>
  intro o V O i h;have M:j<ops.size:=(Array.getElem?_eq_some_iff.1 V).1;obtain⟨e,U,R,hc⟩:=(hA j o V).ahf i h;have L:=(hA j o V).ahv e U R;have Z:=O e U R;rcases hc with rfl | hc
  ·exact Z
  ·obtain⟨Q,X⟩:=Aj (ops:=ops) (j:=e.on) (by omega)
   exact ih e.on L Q X (hS e.on Q X Z) i hc
theorem na{j:Nat}{o:Oper}(y:ops[j]? =some o)(hr:∀e∈o.after,Region.binds .any e=true→S e.on)(I:¬S j){i:Nat}(H:i<ops.size)(h:d.cl i j=true∨d.cl j i=true):S i↔i<j:=by
 have Z:j<ops.size:=(Array.getElem?_eq_some_iff.1 y).1;obtain⟨V,U⟩:=Aj H;rcases h with h | h
 ·exact⟨fun _=>WR hA j i Z h,fun _=>Sj hA hS j o y hr i h⟩
 ·have R:=WR hA i j H h
  constructor
  ·intro X
   exact absurd (Sj hA hS i V U (hS i V U X) j h) I
  ·intro;omega
end
section step
variable {base:Nat}{μ0:Nat→Place}{w0:World}{S:Nat→Prop}{μ:Nat→Place}{kb kt:Nat→Nat}{a:Act}{w:World}{j:Nat}{o:Oper}
section
variable (hA:sT P T N ops d)(hI:agQ d ops base μ0 w0 S μ kb kt a.tmps w)(hS:ve ops S)(ho:ops[j]? =some o)(hr:∀e∈o.after,Region.binds .any e=true→S e.on)(hj:¬S j)
include hA hI hS ho hr hj
theorem Vb(y:∀(i:Nat) Z,ops[i]? =some Z→i≠j→Z.dst=some t→d.cl i j=true∨d.cl j i=true):
  kt t≤j∧ab (d.E j) t=ab (d.E (kt t)) t:=by
 have O:j<ops.size:=(Array.getElem?_eq_some_iff.1 ho).1;have R:kt t≤j:=by
  rcases hI.agy t with M | ⟨Z,V,U⟩
  ·omega
  ·have L:=(hI.agf t (kt t-1) Z V U)
   by_cases M:kt t=0
   ·omega
   ·have X:S (kt t-1):=L.2 (by omega)
    have K:kt t-1≠j:=fun e=>hj (e▸X)
    have G:kt t-1<ops.size:=(Array.getElem?_eq_some_iff.1 V).1;have:=(na hA hS ho hr hj G (y _ Z V K U)).1 X;omega
 refine⟨R,EC hA t (kt t) j R (by omega) fun i Z V U h3 Q=>?_⟩;have:=(na hA hS ho hr hj (by omega) (y i Z h3 (by omega) Q)).2 U;have:=(hI.agf t i Z h3 Q).1 this;omega
theorem xZ(y:ir (d.Tm j) b):kb b≤j∧(d.M j)[b]? =(d.M (kb b))[b]? :=by
 have K:j<ops.size:=(Array.getElem?_eq_some_iff.1 ho).1;have U:∀i,i<ops.size→i≠j→Tch d i b→(S i↔i<j):=by intro i R X Q;obtain⟨G,F⟩:=Aj R;exact na hA hS ho hr hj R ((hA j o ho).sep i G b F X Q.2 Q.1 (.inr y))
 have O:kb b≤j:=by
  rcases hI.agx b with D | V
  ·omega
  ·by_cases D:kb b=0
   ·omega
   ·have L:kb b-1<ops.size:=by have:=hI.agw b;omega
    have Z:S (kb b-1):=(hI.age b _ L V).2 (by omega);have X:kb b-1≠j:=fun e=>hj (e▸Z)
    have:=(U _ L X V).1 Z;omega
 refine⟨O,ET hA b (kb b) j O (by omega) fun i V C h3=>?_⟩;have:=(U i (by omega) (by omega) h3).2 C;have:=(hI.age b i (by omega) h3).1 this;omega
end
theorem rl(y:sT P T N ops d)(H:ops[j]? =some o)(h:(d.Tm j)[b]? =some s)(hs:s≠ .qK):(d.M j)[b]? =some s:=by
 rcases (y j o H).agT b with e | e
 ·rw[←e];exact h
 ·rw[h] at e;cases e;exact absurd rfl hs
theorem lh{mem:Mem}(h:ek mem b):ir mem b:=by obtain⟨s,h,Z⟩:=h;exact⟨s,h,afb.afI Z⟩
theorem lr{m y :Mem}(h:m[b]? =y[b]?):ek m b↔ek y b:=by simp[ek,h]
section
variable (hA:sT P T N ops d)(hI:agQ d ops base μ0 w0 S μ kb kt a.tmps w)(hS:ve ops S)(ho:ops[j]? =some o)(hr:∀e∈o.after,Region.binds .any e=true→S e.on)(hj:¬S j)
include hA hI hS ho hr hj
theorem TD:afj base μ (d.Tm j) w:=by
 have G:j<ops.size:=(Array.getElem?_eq_some_iff.1 ho).1;refine⟨hI.afe,fun b s R=>?_,fun b F Q O M X D=>?_⟩
 ·by_cases V:s=.qK
  ·subst V;trivial
  ·have C:ir (d.Tm j) b:=⟨s,R,V⟩
   obtain⟨L,U⟩:=xZ hA hI hS ho hr hj C;have K:=rl hA ho R V;rw[U] at K;rw[(hA j o ho).agS];exact(hI.slot b s K).mono (AG hA _ j L (by omega)) (fun _ _=>rfl) fun _=>rfl
 ·obtain⟨L,U⟩:=xZ hA hI hS ho hr hj (lh O)
  obtain⟨u,B⟩:=xZ hA hI hS ho hr hj ⟨Q,M,X⟩;refine hI.sep b F Q ?_ ?_ X D
  ·refine(lr U).1 ?_
   obtain⟨s,h,Z⟩:=O;exact⟨s,rl hA ho h (afb.afI Z),Z⟩
  ·rw[←B];exact rl hA ho M X
theorem TE:afE μ (d.Tm j).length (d.En j) a.tmps:=by
 have Z:j<ops.size:=(Array.getElem?_eq_some_iff.1 ho).1;intro t;rcases (hA j o ho).named t with h | ⟨h,X⟩
 ·rw[h];simp[ae5]
 ·obtain⟨V,U⟩:=Vb hA hI hS ho hr hj X
  rw[h,U,(hA j o ho).agS];exact(hI.tmp t).mono (AG hA _ j V (by omega)) fun _ _=>rfl
end
end step
end
end Go.Eng
namespace Go.Eng
section
variable {P:Program}{T:TypeId→Option TyI}{N:Nat}{ops:Array Oper}{d:afF}
variable {base:Nat}{μ0:Nat→Place}{w0:World}{S:Nat→Prop}{μ μ' :Nat→Place}{kb kt:Nat→Nat}{a:Act}{w w' :World}{j:Nat}{o:Oper}{V:Value}
open Classical in
theorem U8(H:sT P T N ops d)(y:agQ d ops base μ0 w0 S μ kb kt a.tmps w)(hS:ve ops S)(I:ops[j]? =some o)(hr:∀e∈o.after,Region.binds .any e=true→S e.on)(hj:¬S j)(hN:a.tmps.size=N)(hV:ae5 μ' (d.M' j).length (d.v j) V)(hH:afj base μ' (d.M' j) w')(J:Step (d.Tm j).length μ (d.Tm j) w μ' (d.M' j) w'):
  ∃μ2 kb2 kt2,agQ d ops base μ0 w0 (fun i=>S i∨i=j) μ2 kb2 kt2 (a.put o.dst V).tmps w' :=by
 have hjs:j<ops.size:=(Array.getElem?_eq_some_iff.1 I).1;have D:=H j o I;have hlj:∀k,k≤j→(d.M k).length≤(d.M j).length:=fun k hk=>AG H k j hk (by omega)
 have Y4:=D.agU;have h0j:=hlj 0 (Nat.zero_le _);have u:∀b,b<(d.M j).length→μ' b=μ b:=fun b X=>J.agree b (by rw[D.agS];exact X)
 let μ2:Nat→Place:=fun b=>if b<(d.M (j+1)).length then μ' b else μ b
 have ZD:∀b,b<(d.M j).length→μ2 b=μ b:=by
  intro b X;show(if b<(d.M (j+1)).length then μ' b else μ b)=μ b
  rw[if_pos (by omega),u b X]
 have aaA:∀b,b<(d.M (j+1)).length→μ2 b=μ' b:=by
  intro b X;show(if b<(d.M (j+1)).length then μ' b else μ b)=μ' b
  rw[if_pos X]
 have abA:∀b,¬b<(d.M (j+1)).length→μ2 b=μ b:=by
  intro b X;show(if b<(d.M (j+1)).length then μ' b else μ b)=μ b
  rw[if_neg X]
 have acQ:∀k,0<k→S (k-1)→k-1<ops.size→∀b,d.ok (k-1) b=true→μ2 b=μ b:=by
  intro k hk hSk Y3 b X;by_cases h1:b<(d.M j).length
  ·exact ZD b h1
  ·by_cases L:b<(d.M (j+1)).length
   ·obtain⟨ok,Yf⟩:=Aj Y3
    rcases (H _ ok Yf).okc j b o I X (by omega) L with e | e
    ·exact absurd (e▸hSk) hj
    ·exact absurd (Sj H hS _ ok Yf (hS _ ok Yf hSk) j e) hj
   ·exact abA b L
 let kb2:Nat→Nat:=fun b=>if Tch d j b then j+1 else kb b
 let kt2:Nat→Nat:=fun t=>if o.dst=some t then j+1 else kt t
 have m:∀b,Tch d j b→kb2 b=j+1:=fun b X=>if_pos X
 have Y:∀b,¬Tch d j b→kb2 b=kb b:=fun b X=>if_neg X
 have kbS:∀b,kb b=0∨(0<kb b∧S (kb b-1)∧kb b-1<ops.size∧Tch d (kb b-1) b):=by
  intro b;rcases Nat.eq_zero_or_pos (kb b) with h0 | h0
  ·exact .inl h0
  ·rcases y.agx b with h1 | h1
   ·exact .inl h1
   ·have O:kb b-1<ops.size:=by have:=y.agw b;omega
    exact .inr ⟨h0,(y.age b _ O h1).2 (by omega),O,h1⟩
 have acz:∀b,¬Tch d j b→b<(d.M j).length∨¬b<(d.M (j+1)).length:=by
  intro b X;by_cases h1:b<(d.M j).length
  ·exact .inl h1
  ·refine .inr fun L=>X ⟨D.ahA b (by omega),L⟩
 have acR:∀b,¬Tch d j b→μ2 b=μ b:=by
  intro b X;rcases acz b X with h | h
  ·exact ZD b h
  ·exact abA b h
 have abB:∀b,ir (d.Tm j) b→¬Tch d j b→kb b≤j∧b<(d.M j).length∧(d.M' j)[b]? =(d.M (kb b))[b]? ∧(d.M (kb b))[b]? =(d.M j)[b]? :=by
  intro b X hnt;obtain⟨C,G⟩:=xZ H y hS I hr hj X;obtain⟨s,R,F⟩:=X;have O:b<(d.M j).length:=by have:=gL R;rw[D.agS] at this;exact this
  have hf:d.afQ j b=false:=by
   cases Z:d.afQ j b with
   |false=>rfl
   |true=>exact absurd ⟨Z,by omega⟩ hnt
  exact⟨C,O,(D.ahz b O hf ⟨s,R,F⟩).trans G,G.symm⟩
 have acS:∀b s,(d.M (kb2 b))[b]? =some s→s≠ .qK→((d.M' j)[b]? =some s∧μ2 b=μ' b∧b<(d.M (j+1)).length∧(Tch d j b∨ir (d.Tm j) b))∨
   ((d.M (kb b))[b]? =some s∧¬ir (d.Tm j) b∧¬Tch d j b∧μ2 b=μ b):=by
  intro b s R F;by_cases Z:Tch d j b
  ·rw[m b Z] at R
   exact .inl ⟨by rw[←D.ahu b Z.1];exact R,aaA b Z.2,Z.2,.inl Z⟩
  ·rw[Y b Z] at R
   by_cases X:ir (d.Tm j) b
   ·obtain⟨C,G,k3,k4⟩:=abB b X Z
    exact .inl ⟨by rw[k3];exact R,by rw[ZD b G,u b G],by omega,.inr X⟩
   ·exact .inr ⟨R,X,Z,acR b Z⟩
 have aas:∀b,ek (d.M (kb2 b)) b→(ek (d.M' j) b∧μ2 b=μ' b∧b<(d.M (j+1)).length∧(Tch d j b∨ir (d.Tm j) b))∨
   (ek (d.M (kb b)) b∧¬ir (d.Tm j) b∧¬Tch d j b∧μ2 b=μ b):=by
  intro b X;obtain⟨s,h,U⟩:=X;rcases acS b _ h (afb.afI U) with⟨K,W⟩ | ⟨K,W⟩
  ·exact .inl ⟨⟨s,K,U⟩,W⟩
  ·exact .inr ⟨⟨s,K,U⟩,W⟩
 have Za:∀b,ek (d.Tm j) b→ek (d.M (kb b)) b:=by intro b X;obtain⟨C,G⟩:=xZ H y hS I hr hj (lh X);refine(lr G).1 ?_;obtain⟨s,h,U⟩:=X;exact⟨s,rl H I h (afb.afI U),U⟩
 have abC:∀b s,(d.M (kb b))[b]? =some s→s≠ .qK→(μ b).blk<w.heap.size:=fun b s R F=>(y.slot b s R).afR F
 refine⟨μ2,kb2,kt2,⟨Nat.le_trans y.afe J.size,?_,?_,?_,?_,?_,?_,?_,?_,?_,?_,J.os.trans y.os,J.tape.trans y.tape,Nat.le_trans y.drawn J.drawn,J.output.trans y.output,Nat.le_trans y.size J.size,?_,?_⟩⟩
 ·
  intro b;by_cases Z:Tch d j b
  ·rw[m b Z];omega
  ·rw[Y b Z];exact y.agw b
 ·
  intro b i hi hti;obtain⟨oi,Zt⟩:=Aj hi;by_cases Z:Tch d j b
  ·rw[m b Z]
   by_cases Z8:i=j
   ·subst Z8;simp
   ·have:=na H hS I hr hj hi (D.sep i oi b Zt Z8 hti.2 hti.1 (.inl ⟨Z.2,Z.1⟩))
    constructor
    ·rintro (h | h)
     ·have:=this.1 h;omega
     ·omega
    ·intro h;exact .inl (this.2 (by omega))
  ·rw[Y b Z]
   have Z8:i≠j:=fun e=>Z (e▸hti)
   rw[←y.age b i hi hti];constructor
   ·rintro (h | h)
    ·exact h
    ·exact absurd h Z8
   ·exact .inl
 ·
  intro b;by_cases Z:Tch d j b
  ·rw[m b Z];exact .inr Z
  ·rw[Y b Z];exact y.agx b
 ·
  intro b s R;by_cases h0:s=.qK
  ·subst h0;trivial
  by_cases Z:Tch d j b
  ·rw[m b Z] at R ⊢
   have h1:=hH.slot b s (by rw[←D.ahu b Z.1];exact R);rw[aaA b Z.2,D.aht];exact h1.mono (Nat.le_refl _) (fun x B=>aaA x (by rw[D.aht];exact B)) fun _=>rfl
  ·rw[Y b Z] at R ⊢
   have YC:=y.slot b s R;rw[acR b Z];by_cases X:ir (d.Tm j) b
   ·obtain⟨C,G,k3,k4⟩:=abB b X Z
    have h1:=hH.slot b s (by rw[k3];exact R);rw[u b G] at h1;have hlk:=hlj (kb b) C;have L:=YC.lower (fun x B=>u x (by omega)) h1;exact L.mono (Nat.le_refl _) (fun x B=>ZD x (by omega)) fun _=>rfl
   ·have acA:w'.heap[(μ b).blk]? =w.heap[(μ b).blk]? :=by
     refine J.frame _ (YC.afR h0) fun b1 hb1=>?_
     refine y.sep b1 b s (Za b1 hb1) R h0 ?_;rintro rfl;exact X (lh hb1)
    have L:afl μ (d.M (kb b)).length base w' (μ b) s:=YC.mono (Nat.le_refl _) (fun _ _=>rfl) fun _=>acA
    rcases kbS b with h3 | ⟨h3,h4,h5,h6⟩
    ·refine L.mono (Nat.le_refl _) (fun x B=>ZD x ?_) fun _=>rfl
     rw[h3] at B;omega
    ·obtain⟨ok,Yf⟩:=Aj h5
     have hk1:kb b-1+1=kb b:=by omega
     refine L.change (ok:=d.ok (kb b-1)) (fun x _ B=>acQ (kb b) h3 h4 h5 x B) ?_;exact(H _ ok Yf).ahB b s h6.1 (by rw[hk1];exact R)
 ·
  intro b Q s' X Yd F YI;rcases aas b X with⟨K,W,_,_⟩ | ⟨K,W,g3,g4⟩<;>rcases acS Q s' Yd F with⟨C,G,k3,k4⟩ | ⟨C,G,k3,k4⟩
  ·rw[W,G];exact hH.sep b Q s' K C F YI
  ·rw[W,k4]
   have O:=abC Q s' C F;by_cases hlt2:(μ' b).blk<w.heap.size
   ·obtain⟨b0,h0,h1⟩:=J.owner b K hlt2
    rw[←h1];refine y.sep b0 Q s' (Za b0 h0) C F ?_;rintro rfl;exact G (lh h0)
   ·omega
  ·rw[g4,G]
   by_cases O:Q <(d.M j).length
   ·have I':ir (d.Tm j) Q :=by
     rcases k4 with Z | hb1
     ·exact D.ahd Q Z.1 O
     ·exact hb1
    obtain⟨q1,q2⟩:=xZ H y hS I hr hj I';obtain⟨s0,hs0,acT⟩:=I';rw[u Q O];exact y.sep b Q s0 K (by rw[←q2];exact rl H I hs0 acT) acT YI
   ·have ht' :=D.ahA Q (by omega)
    have hM1:(d.M (j+1))[Q]? =some s' :=by rw[D.ahu Q ht'];exact C
    have YQ:=D.ahe Q s' (by omega) hM1 F;have aby :ek (d.M' j) Q :=(lr (D.ahu Q ht')).1 YQ;have Y5:(μ b).blk<w.heap.size:=by obtain⟨s,h,U⟩:=K;exact abC b _ h (afb.afI U)
    by_cases hlt2:(μ' Q).blk<w.heap.size
    ·obtain⟨b0,h0,h1⟩:=J.owner Q aby hlt2
     rw[←h1];have hob:=Za b0 h0;have adw:b≠b0:=by rintro rfl;exact W (lh h0)
     obtain⟨s,h,U⟩:=hob;exact y.sep b b0 _ K h (afb.afI U) adw
    ·omega
  ·rw[g4,k4];exact y.sep b Q s' K C F YI
 ·
  intro t;show(if o.dst=some t then j+1 else kt t)≤ops.size
  split
  ·omega
  ·exact y.agW t
 ·
  intro t i oi Zt hd;show(S i∨i=j)↔i<(if o.dst=some t then j+1 else kt t)
  have hi:i<ops.size:=(Array.getElem?_eq_some_iff.1 Zt).1;by_cases Z:o.dst=some t
  ·rw[if_pos Z]
   by_cases Z8:i=j
   ·subst Z8;simp
   ·have:=na H hS I hr hj hi (D.ahK i oi t Zt Z8 Z hd)
    constructor
    ·rintro (h | h)
     ·have:=this.1 h;omega
     ·omega
    ·intro h;exact .inl (this.2 (by omega))
  ·rw[if_neg Z]
   have Z8:i≠j:=by rintro rfl;rw[I] at Zt;cases Zt;exact Z hd
   rw[←y.agf t i oi Zt hd];constructor
   ·rintro (h | h)
    ·exact h
    ·exact absurd h Z8
   ·exact .inl
 ·
  intro t;show(if o.dst=some t then j+1 else kt t)=0∨∃oi,ops[(if o.dst=some t then j+1 else kt t)-1]? =some oi∧oi.dst=some t
  by_cases Z:o.dst=some t
  ·rw[if_pos Z];exact .inr ⟨o,by simpa using I,Z⟩
  ·rw[if_neg Z];exact y.agy t
 ·
  intro t;show ae5 μ2 (d.M (if o.dst=some t then j+1 else kt t)).length (ab (d.E (if o.dst=some t then j+1 else kt t)) t) ((a.put o.dst V).tmps.getD t undef)
  by_cases Z:o.dst=some t
  ·rw[if_pos Z,D.env,Z]
   have O:t<a.tmps.size:=by have:=D.dst;unfold D9 at this;rw[Z] at this;simp only[decide_eq_true_eq] at this;rw[hN];exact this
   have e1:ab (afX (d.E j) (some t) (d.v j)) t=d.v j:=by simp[afX,ab]
   have e2:(a.put (some t) V).tmps.getD t undef=V:=by simp[Act.put,O]
   rw[e1,e2,D.aht];exact hV.mono (Nat.le_refl _) fun x B=>aaA x (by rw[D.aht];exact B)
  ·rw[if_neg Z]
   have e2:(a.put o.dst V).tmps.getD t undef=a.tmps.getD t undef:=by
    cases hd:o.dst with
    |none=>rfl
    |some x=>
     have F:x≠t:=by rintro rfl;exact Z hd
     simp[Act.put,Array.getElem?_setIfInBounds_ne F]
   rw[e2];have YC:=y.tmp t;rcases Nat.eq_zero_or_pos (kt t) with h0 | h0
   ·rw[h0] at YC ⊢
    exact YC.mono (Nat.le_refl _) fun x B=>ZD x (by omega)
   ·rcases y.agy t with h1 | ⟨oi,h1,L⟩
    ·omega
    ·have hSk:S (kt t-1):=(y.agf t _ oi h1 L).2 (by omega)
     have Y3:kt t-1<ops.size:=(Array.getElem?_eq_some_iff.1 h1).1;refine YC.change (ok:=d.ok (kt t-1)) (fun x _ B=>acQ (kt t) h0 hSk Y3 x B) ?_;have he:=(H _ oi h1).env;have hk1:kt t-1+1=kt t:=by omega
     rw[hk1,L] at he;rw[he];simp only[afX,ab,if_true];exact(H _ oi h1).agV
 ·
  intro b X;rw[ZD b (by omega)];exact y.agree b X
 ·
  intro k hk hf;rw[J.frame k (Nat.lt_of_lt_of_le hk y.size) ?_,y.frame k hk hf];intro b X he;obtain⟨b0,h1,L⟩:=y.owner b (Za b X) (by rw[he];exact hk);exact hf b0 h1 (L.trans he)
 ·
  intro b X O;rcases aas b X with⟨K,W,_,_⟩ | ⟨K,W,g3,g4⟩
  ·rw[W] at O ⊢
   obtain⟨b0,h0,h1⟩:=J.owner b K (Nat.lt_of_lt_of_le O y.size);obtain⟨b1,L,h3⟩:=y.owner b0 (Za b0 h0) (by rw[h1];exact O);exact⟨b1,L,h3.trans h1⟩
  ·rw[g4] at O ⊢
   exact y.owner b K O
end
variable{listed:Array Bool}
section
variable {P:Program}{T:TypeId→Option TyI}{tp:Bool}{N m0:Nat}{ops:Array Oper}{d:afF}
def left(ops:Array Oper)(listed:Array Bool):Nat:=((List.range ops.size).filter fun i=> !listed.getD i true).length
def tG(listed:Array Bool)(i:Nat):Prop:=listed.getD i false=true
theorem Ah{l:List Nat}{p q:Nat→Bool}(h:∀i∈l,q i=true→p i=true){j:Nat}(H:j∈l)(h1:p j=true)(h2:q j=false):(l.filter q).length<(l.filter p).length:=by
 induction l with
 |nil=>cases H
 |cons x xs ih=>
  have V:∀(l:List Nat),(∀i∈l,q i=true→p i=true)→(l.filter q).length≤(l.filter p).length:=by
   intro l X;induction l with
   |nil=>simp
   |cons y ys ih2=>
    have:=ih2 (fun i Z=>X i (by simp[Z]));have U:=X y (by simp);simp only[List.filter_cons];cases hq:q y<;>cases hp:p y<;>simp_all<;>omega
  have S:=V xs (fun i Z=>h i (by simp[Z]));have R:=h x (by simp);simp only[List.filter_cons];cases H with
  |head=>rw[h1,h2];simp;omega
  |tail _ hm=>
   have:=ih (fun i Z=>h i (by simp[Z])) hm;cases hq:q x<;>cases hp:p x<;>simp_all<;>omega
theorem TF{i:Nat}(y:i<listed.size):tG (listed.setIfInBounds i true)=fun k=>tG listed k∨k=i:=by
 funext k;apply propext;unfold tG;by_cases Z:i=k
 ·subst Z;simp[y]
 ·rw[getD_set_ne false Z]
  constructor
  ·exact .inl
  ·rintro (h | h)
   ·exact h
   ·exact absurd h.symm Z
theorem QC(y:sT P T N ops d)(H:listed.size=ops.size)(h:Region.ready .any ops listed=[]):∀i,i<ops.size→tG listed i:=by
 intro i;induction i using Nat.strongRecOn with
 |_ i ih=>
  intro U;obtain⟨o,Z⟩:=Aj U;cases hl:listed.getD i true with
  |true=>
   unfold tG;simp only[Array.getD_eq_getD_getElem?] at hl ⊢;rw[Array.getElem?_eq_getElem (by omega)] at hl ⊢;exact hl
  |false=>
   exfalso;have:i∈Region.ready .any ops listed:=mem_ready.2 ⟨hl,o,Z,fun e X V=>ih e.on ((y i o Z).ahv e X V) (by have:=(y i o Z).ahv e X V;omega)⟩;rw[h] at this;cases this
theorem U0(I:sT P T N ops d){H:Nat}{μ0 μ:Nat→Place}{w0 w:World}{S:Nat→Prop}{J W:Nat→Nat}{tmps:Array Value}(Y:m0≤(d.M 0).length)(y:agQ d ops H μ0 w0 S μ J W tmps w)(hS:∀i,i<ops.size→S i):
  afj H μ (d.M ops.size) w∧afE μ (d.M ops.size).length (d.E ops.size) tmps∧m0≤(d.M ops.size).length∧Step m0 μ0 (d.M 0) w0 μ (d.M ops.size) w:=by
 have X:∀b,(d.M ops.size)[b]? =(d.M (J b))[b]? :=fun b=>ET I b (J b) _ (y.agw b) (Nat.le_refl _) fun i R V h3=>by have:=(y.age b i V h3).1 (hS i V);omega
 have U:∀k,k≤ops.size→(d.M k).length≤(d.M ops.size).length:=fun k Q=>AG I k _ Q (Nat.le_refl _)
 have m:=U 0 (Nat.zero_le _);refine⟨⟨y.afe,fun b s O=>?_,fun b L K Z G F D=>?_⟩,fun t=>?_,by omega,⟨by omega,fun b Z=>y.agree b (by omega),y.os,y.tape,y.output,y.size,y.frame,fun b Z C=>?_,y.drawn⟩⟩
 ·exact(y.slot b s (by rw[←X];exact O)).mono (U _ (y.agw b)) (fun _ _=>rfl) fun _=>rfl
 ·exact y.sep b L K ((lr (X b)).1 Z) (by rw[←X];exact G) F D
 ·have B:=EC I t (W t) ops.size (y.agW t) (Nat.le_refl _) fun i u R V h3 o=>by have:=(y.agf t i u h3 o).1 (hS i V);omega
  rw[B];exact(y.tmp t).mono (U _ (y.agW t)) fun _ _=>rfl
 ·exact y.owner b ((lr (X b)).1 Z) C
theorem BW(hm:P.follows .mixedOrders=true)(hT:cW P T){id:Nat}{st y :St}{Q:Exit→St→Prop}(I:sT P T N ops d)(hE:d.E 0=st.env)(J:d.M 0=st.mem)(H :y =⟨d.E ops.size,d.M ops.size⟩)(hq:Q .normal y):
  AWP P tp N m0 (.region id ops true) st Q:=by
 intro ro h0 base μ0 w0 a0 Zf hH hR hN Ze Yn;refine wpIn_region_any hm ?_;have G:∀(listed:Array Bool) (a:Act) (w:World) μ kb kt,listed.size=ops.size→a.tmps.size=N→a.defers=a0.defers→
   agQ d ops base μ0 w0 (tG listed) μ kb kt a.tmps w→Region.ready .any ops listed=[]→
   ∃y μ',afj base μ' y.mem w∧afE μ' y.mem.length y.env a.tmps∧a.tmps.size=N∧MOk P base h0 w a.defers∧m0≤y.mem.length∧Step m0 μ0 st.mem w0 μ' y.mem w∧Q .normal y :=by
  intro listed a w μ kb kt Yw ha hd hI W;obtain⟨X,h2,h3,h4⟩:=U0 (m0:=m0) I (by rw[J];exact Yn) hI (QC I Yw W);rw[J] at h4;exact⟨y,μ,by rw[H];exact X,by rw[H];exact h2,ha,by rw[hd];exact Ze.step hH h4,by rw[H];exact h3,by rw[H];exact h4,hq⟩
 have key:∀(Z:Nat) (listed:Array Bool) (a:Act) (w:World) μ kb kt,listed.size=ops.size→left ops listed≤Z→a.tmps.size=N→a.defers=a0.defers→
   ve ops (tG listed)→agQ d ops base μ0 w0 (tG listed) μ kb kt a.tmps w→
   wpAnyIn (Fr ro) 0 P .any ops (fun e S w' =>∃y μ',afj base μ' y.mem w' ∧afE μ' y.mem.length y.env S.tmps∧S.tmps.size=N∧MOk P base h0 w' S.defers∧m0≤y.mem.length∧
    Step m0 μ0 st.mem w0 μ' y.mem w' ∧Q e y) Z listed a w:=by
  intro Z;induction Z with
  |zero=>
   intro listed a w μ kb kt Yw hl ha hd hC hI;have W:Region.ready .any ops listed=[]:=by
    apply List.eq_nil_iff_forall_not_mem.2;intro i hi;obtain⟨X,o,U,_⟩:=mem_ready.1 hi;have F:i<ops.size:=(Array.getElem?_eq_some_iff.1 U).1;have:i∈(List.range ops.size).filter fun i=> !listed.getD i true:=by rw[List.mem_filter];exact⟨by simpa using F,by rw[X];rfl⟩
    have h0:((List.range ops.size).filter fun i=> !listed.getD i true)=[]:=List.eq_nil_of_length_eq_zero (Nat.le_zero.1 hl);rw[h0] at this;cases this
   exact⟨W,G listed a w μ kb kt Yw ha hd hI W⟩
  |succ Z ih=>
   intro listed a w μ kb kt Yw hl ha hd hC hI;refine⟨G listed a w μ kb kt Yw ha hd hI,fun i hi=>?_⟩;obtain⟨X,o,U,Yx⟩:=mem_ready.1 hi;have F:i<ops.size:=(Array.getElem?_eq_some_iff.1 U).1;have R:¬tG listed i:=by unfold tG;simp only[Array.getD_eq_getD_getElem?] at X ⊢;rw[Array.getElem?_eq_getElem (by omega)] at X ⊢;simp only[Option.getD_some] at X ⊢;rw[X];simp
   have ZV:=TF (listed:=listed) (i:=i) (by omega);have hC' :ve ops (tG (listed.setIfInBounds i true)):=by
    rw[ZV];intro j oj O L e he hb;rcases L with L | rfl
    ·exact .inl (hC j oj O L e he hb)
    ·rw[U] at O;cases O;exact .inl (Yx e he hb)
   have acB:left ops (listed.setIfInBounds i true)≤Z:=by
    have:left ops (listed.setIfInBounds i true)<left ops listed:=by
     unfold left;refine Ah (fun k _ hk=>?_) (j:=i) (by simpa using F) (by rw[X];rfl) (by simp[Yw,F]);by_cases C:i=k
     ·subst C;simp[Yw,F] at hk
     ·rw[getD_set_ne true C] at hk;exact hk
    omega
   have D:=I i o U;have B:=TD I hI hC U Yx R;have hGw:GOk P base w:=by
    refine⟨Ze.agi.below,?_⟩;have:=Ze.agi.tab;unfold Lib.TabIs at this ⊢;rw[←this];refine Pj fun k hk=>hI.frame k ?_ fun b hb=>?_
    ·have:=Ze.agi.below;have:=hH.afe;omega
    ·rw[J] at hb
     have:=O3 hH hb;have:=Ze.agi.below;omega
   have u:=TE I hI hC U Yx R;have next:∀V w' μ',ae5 μ' (d.M' i).length (d.v i) V→afj base μ' (d.M' i) w' →Step (d.Tm i).length μ (d.Tm i) w μ' (d.M' i) w' →
     wpAnyIn (Fr ro) 0 P .any ops (fun e S w' =>∃y μ',afj base μ' y.mem w' ∧afE μ' y.mem.length y.env S.tmps∧S.tmps.size=N∧MOk P base h0 w' S.defers∧m0≤y.mem.length∧
      Step m0 μ0 st.mem w0 μ' y.mem w' ∧Q e y) Z (listed.setIfInBounds i true) (a.put o.dst V) w' :=by
    intro V w' μ' q1 q2 q3;obtain⟨μ2,kb2,kt2,m⟩:=U8 I hI hC U Yx R ha q1 q2 q3;rw[←ZV] at m;exact ih _ _ _ μ2 kb2 kt2 (by simp[Yw]) acB (by rw[fc];exact ha) (by rw[fA];exact hd) hC' m
   unfold wpOpIn;simp only[U];rw[pQ u D.wanted];cases hw:d.wb i with
   |false=>
    obtain⟨e1,e2⟩:=D.skip hw;simp only[Bool.false_eq_true,if_false];exact⟨fun _ _=>trivial,next undef w μ (by rw[e1];simp[ae5,ae7,undef]) (by rw[e2];exact B) (by rw[e2];exact .refl (Nat.le_refl _))⟩
   |true=>
    simp only[if_true];exact rM hT hGw B u ha D.dst (D.step hw) fun V w' μ' q1 q2 q3 q4=>next V w' μ' q1 q2 q4
 have hI0:agQ d ops base μ0 w0 (tG (Array.replicate ops.size false)) μ0 (fun _=>0) (fun _=>0) a0.tmps { w0 with drawn:=w0.drawn+1 }:=by
  have Y:∀i,¬tG (Array.replicate ops.size false) i:=by intro i;unfold tG;simp only[Array.getD_eq_getD_getElem?,Array.getElem?_replicate];split<;>simp
  have K :afj base μ0 (d.M 0) { w0 with drawn:=w0.drawn+1 }:=by rw[J];exact hH.af9 rfl
  refine⟨K.afe,fun _=>Nat.zero_le _,fun b i _ _=>⟨fun h=>absurd h (Y i),fun h=>by omega⟩,fun _=>.inl rfl,fun b s hs=>K.slot b s hs,
   fun b b' s' =>K.sep b b' s',fun _=>Nat.zero_le _,fun t i oi _ _=>⟨fun h=>absurd h (Y i),fun h=>by omega⟩,fun _=>.inl rfl,fun t=>?_,fun _ _=>rfl,
   rfl,rfl,Nat.le_succ _,rfl,Nat.le_refl _,fun _ _ _=>rfl,fun b hb _=>⟨b,hb,rfl⟩⟩
  rw[J,hE];exact hR t
 refine key ops.size _ a0 _ μ0 _ _ (by simp) ?_ hN rfl ?_ hI0
 ·unfold left
  exact Nat.le_trans (List.length_filter_le _ _) (by simp)
 ·intro j o _ hS
  exfalso;unfold tG at hS;simp only[Array.getD_eq_getD_getElem?,Array.getElem?_replicate] at hS;split at hS<;>simp at hS
end
end Go.Eng
namespace Go.Eng
def rF:Exit→Option (Option Code)
 |.normal=>some none
 |.ret=>some (some .ret)
 |.exit id=>some (some (.exit id))
 |_=>none
def yP:Option Code→Option Exit
 |none=>some .normal
 |some .ret=>some .ret
 |some (.exit id)=>some (.exit id)
 |_=>none
def mN(j:Option Code):LoopState:=if j.isNone then .ready else .done
def yL:List Tmp→List AV→Env→Env
 |t::ts,v::vs,env=>yL ts vs ((t,v)::env)
 |_,_,env=>env
variable{L:Loop}{m0:Nat}{r:agd}
section
variable {P:Program}{T:TypeId→Option TyI}{μ:Nat→Place}{mem:Mem}{base:Nat}{w:World}
theorem afj.alloc(y:afj base μ mem w)(o:Obj):afj base μ mem (w.alloc o):=by refine⟨by simp;have:=y.afe;omega,fun b s Z=>?_,y.sep⟩;exact(y.slot b s Z).mono (Nat.le_refl _) (fun _ _=>rfl) fun X=>gO w o ((y.slot b s Z).afR X)
theorem Step.alloc(h:m0≤mem.length)(o:Obj):Step m0 μ mem w μ mem (w.alloc o):=
 ⟨h,fun _ _=>rfl,rfl,rfl,rfl,by simp,fun k Z _=>gO w o Z,fun b X _=>⟨b,X,rfl⟩,Nat.le_refl _⟩
theorem Gt{n:Nat}:∀{ts:List Tmp} {vs:List AV} {Vs:List Value} {env:Env} {tmps:Array Value},ae7 μ n vs Vs→afE μ n env tmps→vs.length=ts.length→(∀t∈ts,t<tmps.size)→
  afE μ n (yL ts vs env) ((ts.zip Vs).foldl (fun tmps (t,a)=>tmps.setIfInBounds t a) tmps)∧((ts.zip Vs).foldl (fun tmps (t,a)=>tmps.setIfInBounds t a) tmps).size=tmps.size
 | [],[],Vs,env,tmps,hv,ht,_,_=>by exact⟨ht,rfl⟩
 |t::ts,v::vs,Vs,env,tmps,hv,ht,hl,hb=>by simp only[ae7] at hv;obtain⟨U,S,rfl,Z,X⟩:=hv;simp only[yL,List.zip_cons_cons,List.foldl_cons];have:=afE.put (a:={ tmps:=tmps,defers:=[] }) ht (hb t (by simp)) Z;simp only[Act.put] at this;have r:=Gt (env:=(t,v)::env) (tmps:=tmps.setIfInBounds t U) X this (by simpa using hl) (fun x V=>by simpa using hb x (by simp[V]));exact⟨r.1,r.2.trans (by simp)⟩
 | [],_::_,_,_,_,_,_,hl,_=>by simp at hl
 |_::_,[],_,_,_,_,_,hl,_=>by simp at hl
theorem iu{l:Nat}(h:w.heap[l]? =some (.loop L)):(Instr.getLoop l).run P w=.ok L w:=by
 have Z:(getObj l).run P w=.ok (.loop L) w:=by simp[getObj,Sem.run,h]
 simp only[Instr.getLoop,Sem.run_bind,Z,Result.andThen_ok];rfl
theorem wz{base:Nat}{b:Nat}{r' :agd}{L' :Loop}(y:afj base μ mem w)(hb:mem[b]? =some (.loop r))(H:w.heap[(μ b).blk]? =some (.loop L))(hr:agt μ mem.length r' L'):
  (setObj (μ b).blk (.loop L')).run P w=.ok () { w with heap:=w.heap.setIfInBounds (μ b).blk (.loop L') }∧
  afj base μ (mem.set b (.loop r')) { w with heap:=w.heap.setIfInBounds (μ b).blk (.loop L') }∧
  Step mem.length μ mem w μ (mem.set b (.loop r')) { w with heap:=w.heap.setIfInBounds (μ b).blk (.loop L') }:=by
 have Z:=(Array.getElem?_eq_some_iff.1 H).1;have X:=gL hb;refine⟨sR H (by intro c e f h;cases h),y.write hb (Q4 hb) (fun _=>⟨_,List.getElem?_set_self X,rfl⟩) rfl rfl rfl rfl (by simp) (fun k V=>Array.getElem?_setIfInBounds_ne (Ne.symm V)) ?_⟩;simp only[afl];have:=y.slot b _ hb;simp only[afl] at this;obtain⟨_,_,U,_⟩:=this;exact⟨L',by simp[Z],U,hr⟩
theorem afT.intro{b:Nat}{args:List AV}{R:AV→Mem→Prop}(hb:mem[b]? =some (.loop r))(I:r.st=.ready)(H:args.length=r.ps.toList.length)(y:∀t∈r.ps.toList,t<r.N)(h:AWP P false r.N mem.length r.assign ⟨yL r.ps.toList args r.env,mem⟩ fun e Z=>e=.normal∧∃r1,Z.mem[b]? =some (.loop r1)∧r1.st=.ready∧
   AWP P false r.N mem.length r.body ⟨Z.env,Z.mem.set b (.loop { r1 with st:=.busy })⟩ fun e X=>∃r2 j O,rF e=some j∧X.mem[b]? =some (.loop r2)∧Ed mem.length X.mem.length O=true∧
    R (.bool j.isNone) (afg mem.length O (X.mem.set b (.loop { r2 with st:=mN j,agc:=j })))):
  afT P b args mem R:=by
 intro base μ w Vs hG hH hV Y5;have D:=hH.slot b _ hb;simp only[afl] at D;obtain⟨L,Y,h2,h3⟩:=D;have W:Vs.length=L.params.size:=by rw[hV.length,H,h3.ps];simp
 refine⟨L.fn,(L.params.zip ⟨Vs⟩).foldl (fun tmps (t,a)=>tmps.setIfInBounds t a) L.tmps,L.assign,L.body,?_,?_⟩
 ·simp only[Instr.yield,Sem.run_bind,iu Y,Result.andThen_ok]
  rw[if_neg (by simp[W])];rfl
 ·refine roundIn_of_wpIn (F:=Fence.wide) trivial ?_
  have U:(L.params.zip ⟨Vs⟩).foldl (fun tmps (t,a)=>tmps.setIfInBounds t a) L.tmps=(r.ps.toList.zip Vs).foldl (fun tmps (t,a)=>tmps.setIfInBounds t a) L.tmps:=by rw[h3.ps,←Array.foldl_toList];simp
  have C:=Gt (ts:=r.ps.toList) hV h3.tmps H (fun t J=>by rw[h3.size];exact y t J);rw[h3.assign,h3.body];refine wpIn_mono (F:=Fr (some (μ b).blk)) (h (some (μ b).blk) w.heap.size base μ w ⟨_,[]⟩ (fun h=>by cases h) hH (by rw[U];exact C.1) (by rw[U,C.2];exact h3.size) (MOk.nil w hG hH.afe (Nat.le_refl _)) (Nat.le_refl _)) ?_;rintro e a1 w1 ⟨Z,μ1,c1,c2,c3,c4,c5,c6,rfl,r1,c7,c8,hbody⟩;have S:=c1.slot b _ c7;simp only[afl] at S;obtain⟨L1,d1,d2,d3⟩:=S;have hμ:μ1 b=μ b:=c6.agree b Y5;rw[hμ] at d1;obtain⟨B,u,M⟩:=wz (P:=P) (r' :={ r1 with st:=.busy }) (L' :={ L1 with state:=.busy }) c1 c7 (by rw[hμ];exact d1) { d3 with st:=rfl };rw[hμ] at B u M;refine⟨_,?_,wpIn_mono (F:=Fr (some (μ b).blk)) (hbody (some (μ b).blk) w.heap.size base μ1 _ a1 (fun h=>by cases h) u (by rw[List.length_set];exact c2) c3 (c4.step c1 M) (by rw[List.length_set];exact c5)) ?_⟩
  ·simp only[Instr.beginRound,Sem.run_bind,iu d1,Result.andThen_ok,B]
   rw[d3.st,c8];rfl
  ·rintro e a2 w2 ⟨X,μ2,f1,f2,f3,f4,f5,f6,r2,j,O,f7,f8,f9,f10⟩
   have Q:=f1.slot b _ f8;simp only[afl] at Q;obtain⟨L2,g1,g2,g3⟩:=Q;have hμ2:μ2 b=μ b:=by rw[f6.agree b Y5,hμ]
   rw[hμ2] at g1;obtain⟨K,o,m⟩:=wz (P:=P) (r' :={ r2 with st:=mN j,agc:=j }) (L' :={ L2 with state:=mN j,pending:=j }) f1 f8 (by rw[hμ2];exact g1) { g3 with st:=rfl,agc:=rfl };rw[hμ2] at K o m;have Yz:(Instr.endRound (μ b).blk j).run P w2=.ok (.bool j.isNone) { w2 with heap:=w2.heap.setIfInBounds (μ b).blk (.loop { L2 with state:=mN j,pending:=j }) }:=by unfold mN at K ⊢;simp only[Instr.endRound,Sem.run_bind,iu g1,Result.andThen_ok,K];rfl
   obtain⟨p1,p2,p3⟩:=o.afg (by rw[List.length_set];exact f5) (by rw[List.length_set];exact f9);have hS:Step mem.length μ mem w _ _ _:=((c6.trans (M.mono c5)).trans f6).trans ((m.mono f5).trans p3);have G:∃V v mem' μ',(Ending.returned (.bool j.isNone):Ending)=.returned V∧ae5 μ' mem'.length v V∧afj base μ' mem' { w2 with heap:=w2.heap.setIfInBounds (μ b).blk (.loop { L2 with state:=mN j,pending:=j }) }∧
     Step mem.length μ mem w μ' mem' { w2 with heap:=w2.heap.setIfInBounds (μ b).blk (.loop { L2 with state:=mN j,pending:=j }) }∧R v mem' :=
    ⟨_,.bool j.isNone,_,_,rfl,by simp[ae5],p1,hS,f10⟩
   cases e<;>simp only[rF,Option.some.injEq,reduceCtorEq] at f7<;>subst f7<;>exact⟨_,_,Yz,G⟩
theorem Gq{N:Nat}{g:Operand}{ps:Array Tmp}{assign body:Code}{st:St}{Q:Exit→St→Prop}{f:FuncId}{caps:List AV}(hg:get st.env g=.func f caps)(h:afJ P f (.yield st.mem.length::caps) (st.mem++[.loop ⟨.ready,none,st.env,N,ps,assign,body⟩]) fun _ S=>∃r2 e,S[st.mem.length]? =some (.loop r2)∧r2.st≠ .busy∧yP r2.agc=some e∧
   Q e ⟨st.env,S.set st.mem.length (.loop { r2 with st:=.exhausted })⟩):
  AWP P true N m0 (.rangeFunc g ps assign body) st Q:=by
 intro ro h0 base μ w a Zf hH hR hN Ze F;cases Zf rfl;have U:=bq hR g;rw[hg] at U;simp only[ae5] at U;obtain⟨D,hU,C⟩:=U;refine wpIn_rangeFunc fun fn _=>?_
 let o1:Obj:=.deferred (some [])
 let w1:=w.alloc o1
 let L:Loop:={ state:=.ready,pending:=none,fn,tmps:=a.tmps,params:=ps,assign,body,defers:=w.heap.size }
 have R:afj base μ st.mem w1:=hH.alloc o1;have B:Step st.mem.length μ st.mem w μ st.mem w1:=.alloc (Nat.le_refl _) o1;have Yw:w1.heap.size=w.heap.size+1:=by simp[w1]
 obtain⟨O,u⟩:=R.push (.loop L) (.loop ⟨.ready,none,st.env,N,ps,assign,body⟩) ⟨w1.heap.size,0,0,0⟩ rfl (by simp only[afl];exact⟨L,heap_alloc_new w1 _,R.afe,rfl,rfl,rfl,rfl,rfl,hN,hR.mono (Nat.le_succ _) fun b hb=>wR hb⟩)
 have M:=B.trans u;have hμb:(upd μ st.mem.length ⟨w1.heap.size,0,0,0⟩ st.mem.length).blk=w1.heap.size:=by rw[ez]
 have J:MOk P base h0 (w1.alloc (.loop L)) ({ target:=.collected w.heap.size,args:= #[] }::a.defers):=by
  have X:=(Ze.step hH M);refine⟨X.agi,X.afe,X.le,fun d K=>?_,?_⟩
  ·rcases List.mem_cons.1 K with rfl | K
   ·refine⟨w.heap.size,rfl,Ze.le,?_⟩
    rw[gO w1 _ (by omega)];exact heap_alloc_new w o1
   ·exact X.each d K
  ·simp only[List.map_cons,List.nodup_cons]
   refine⟨?_,Ze.nodup⟩;intro F;obtain⟨d,K,I⟩:=List.mem_map.1 F;obtain⟨r,e,_,h2⟩:=Ze.each d K;rw[e] at I;simp only[Target.collected.injEq] at I;have:=(Array.getElem?_eq_some_iff.1 h2).1;omega
 have o:=h.2 base _ (w1.alloc (.loop L)) (.func (.yield w1.heap.size) #[] #[]::D) J.agi O
  (bK.2 ⟨by simp only[ae5,hμb];exact⟨by simp,trivial⟩,C.mono (by simp) fun b hb=>wR hb⟩)
 refine⟨w1.heap.size,[{ target:=.collected w.heap.size,args:= #[] }],w1.alloc (.loop L),{ target:=.fn (.func f) ⟨D⟩,args:= #[]++ #[.func (.yield w1.heap.size) #[] #[]] },w1.alloc (.loop L),f,⟨.func (.yield w1.heap.size) #[] #[]::D⟩,w1.alloc (.loop L),?_,?_,fun _ _=>trivial,?_,fun h=>by simp[Fence.wide] at h,?_⟩
 ·simp only[Instr.enterLoop,Sem.run_bind,run_newObj,Result.andThen_ok,Sem.run_pure]
  rfl
 ·have hc:(#[Operand.const (.func (.yield w1.heap.size) #[] #[])]:Array Operand).map a.eval= #[.func (.yield w1.heap.size) #[] #[]]:=by simp[Act.eval]
  simp only[resolve,hU,Deferred.ofValue,hc];rfl
 ·simp only[invoke]
  rw[yM h.1];congr 2;apply Array.ext';simp
 ·refine Ax.2 (o.mono ?_)
  rintro e w3 ⟨V,v,S,μ2,rfl,q1,q2,q3,r2,e2,q4,q5,q6,q7⟩;have Y5:st.mem.length<(st.mem++[afb.loop ⟨.ready,none,st.env,N,ps,assign,body⟩]).length:=by simp
  have hμ2:(μ2 st.mem.length).blk=w1.heap.size:=by rw[q3.agree _ Y5,hμb]
  have H:=q2.slot _ _ q4;simp only[afl] at H;obtain⟨L2,g1,g2,g3⟩:=H;obtain⟨y,k2,m⟩:=wz (P:=P) (r' :={ r2 with st:=.exhausted }) (L' :={ L2 with state:=.exhausted }) q2 q4 g1 { g3 with st:=rfl };rw[hμ2] at y k2 m g1;have G:st.mem.length≤S.length:=Nat.le_trans (by simp) q3.len;have j:=M.trans (q3.mono (m0:=st.mem.length) (by simp));have Y:=j.trans (m.mono G);have Z:∃J' μ',afj base μ' J'.mem { w3 with heap:=w3.heap.setIfInBounds w1.heap.size (.loop { L2 with state:=.exhausted }) }∧afE μ' J'.mem.length J'.env a.tmps∧a.tmps.size=N∧
    MOk P base h0 { w3 with heap:=w3.heap.setIfInBounds w1.heap.size (.loop { L2 with state:=.exhausted }) } ({ target:=.collected w.heap.size,args:= #[] }::a.defers)∧m0≤J'.mem.length∧
    Step m0 μ st.mem w μ' J'.mem { w3 with heap:=w3.heap.setIfInBounds w1.heap.size (.loop { L2 with state:=.exhausted }) }∧Q e2 J' :=by
   refine⟨_,μ2,k2,?_,hN,(J.step O q3).step q2 m,?_,Y.mono F,q7⟩
   ·show afE μ2 (S.set st.mem.length _).length st.env a.tmps
    rw[List.length_set];exact hR.mono G fun b hb=>by rw[q3.agree b (by simp;omega),wR hb]
   ·show m0≤(S.set st.mem.length _).length
    rw[List.length_set];omega
  refine⟨r2.agc,{ w3 with heap:=w3.heap.setIfInBounds w1.heap.size (.loop { L2 with state:=.exhausted }) },?_,?_⟩
  ·simp only[Instr.endLoop,Sem.run_bind,iu g1,Result.andThen_ok]
   rw[g3.st];have hb:(r2.st==LoopState.busy)=false:=by cases hx:r2.st<;>first | rfl | exact absurd hx q5
   rw[hb];have W:L2.pending=r2.agc:=g3.agc;simp only[Bool.false_eq_true,if_false,Sem.run_bind,Sem.run_pure,y,Result.andThen_ok];rw[W]
  ·cases hp:r2.agc with
   |none=>
    rw[hp] at q6;simp only[yP,Option.some.injEq] at q6;subst q6;exact Z
   |some c=>
    rw[hp] at q6;cases c<;>simp only[yP,Option.some.injEq,reduceCtorEq] at q6
    ·subst q6;exact wpIn_exit Z
    ·subst q6;exact wpIn_ret Z
end
end Go.Eng
namespace Go.Eng
structure y9 where
 v:AV
 pre:Option Mem
 new:Mem
def y9.mem(r:y9)(mem:Mem):Mem:=(r.pre.getD mem)++r.new
inductive Callee where
 |fn (f:FuncId)
 |yld (b:Nat)
abbrev ae3:=Callee→List AV→Mem→Option y9
def jT(env:Env):Op→Option (Callee×List AV)
 |.call { callee:=.value x,args,argTypes:=_ }=>match get env x with
  |.func f Z=>some (.fn f,WL env args++Z)
  |.yield b=>some (.yld b,WL env args)
  |_=>none
 |_=>none
structure XS where
 env:Env
 mem:Mem
 afv:Bool
def TR:AV→List Nat
 |.ptr b _=>[b]
 |_=>[]
def kq:AV→List Nat
 |.slice b _ _ _=>[b]
 |_=>[]
def Ov:AV→List Nat
 |.map b=>[b]
 |_=>[]
def wV(env:Env):Op→List Nat
 |.store _ a _=>TR (get env a)
 |.call { callee:=.builtin .append,args:=⟨[s,_]⟩,argTypes:=_ }=>kq (get env s)
 |.call { callee:=.builtin .unsafeString,args:=⟨[x,_]⟩,argTypes:=_ }=>TR (get env x)
 |.call { callee:=.builtin .clear,args:=⟨[x]⟩,argTypes:=_ }=>kq (get env x)
 |.mapUpdate _ m _ _=>Ov (get env m)
 |.mapEntry _ m _=>Ov (get env m)
 |.entryStore _ m _ _=>Ov (get env m)
 |_=>[]
def Vo(T:TypeId→Option TyI)(O:ae3)(m0:Nat)(env:Env)(mem:Mem)(y:Bool)(o:Oper):Option (AV×Mem×Bool):=
 match aOp T env mem o.op with
 |some (v,m)=>some (v,m,y||(wV env o.op).any fun b=>decide (b<m0))
 |none=>match jT env o.op with
  |some (c,args)=>match O c args mem with
   |some r=>some (r.v,r.mem mem,y||r.pre.isSome)
   |none=>none
  |none=>none
def dx(T:TypeId→Option TyI)(O:ae3)(N m0:Nat)(ops:Array Oper):List Oper→XS→Option XS
 | [],s=>some s
 |o::os,s=>
  if D9 N o then
   match sg ops s.env o with
   |some true=>match Vo T O m0 s.env s.mem s.afv o with
    |some (v,m,dt)=>dx T O N m0 ops os ⟨afX s.env o.dst v,m,dt⟩
    |none=>none
   |some false=>dx T O N m0 ops os ⟨afX s.env o.dst (.tuple []),s.mem,s.afv⟩
   |none=>none
  else none
def dW(ops:List Oper):List Nat:=
 ops.foldl (fun acc o=>acc++[o.after.toList.foldl (fun s e=>if Region.binds .any e then s ||| 2 ^ e.on ||| acc.getD e.on 0 else s) 0]) []
def bef(y:List Nat)(i j:Nat):Bool:=(y.getD j 0).testBit i
def nf(ops:Array Oper)(y:List Nat):Bool:=
 let n:=ops.size
 (List.range n).all fun j=>match ops[j]? with
  |none=>true
  |some o=>
   o.after.toList.all (fun e=> !Region.binds .any e||decide (e.on<j))&&
   (List.range n).all fun i=>(!bef y i j||o.after.toList.any fun e=>Region.binds .any e&&(e.on==i||bef y i e.on))&&(i==j||bef y i j||bef y j i||match ops[i]? with
    |none=>true
    |some oi=>match oi.dst with
     |none=>true
     |some t=> !(o.looksAt ops).contains t&& !(o.dst==some t))
def Oa(env:Env):Op→Option (List Nat)
 |.load _ a=>match get env a with
  |.ptr b _=>some [b]
  |_=>some []
 |.store _ a _=>match get env a with
  |.ptr b _=>some [b]
  |_=>some []
 |.slice _ x _ _ _=>match get env x with
  |.slice b _ _ _=>some [b]
  |_=>some []
 |.lookup _ m _ _=>match get env m with
  |.map b=>some [b]
  |_=>some []
 |.mapUpdate _ m _ _=>match get env m with
  |.map b=>some [b]
  |_=>some []
 |.mapEntry _ m _=>match get env m with
  |.map b=>some [b]
  |_=>some []
 |.entryStore _ m _ _=>match get env m with
  |.map b=>some [b]
  |_=>some []
 |.call { callee:=.builtin .len,args:=⟨[x]⟩,argTypes:=_ }=>match get env x with
  |.map b=>some [b]
  |_=>some []
 |.call { callee:=.builtin .append,args:=⟨[s,x]⟩,argTypes:=_ }=>
  some ((match get env s with | .slice b _ _ _=>[b] | _=>[])++(match get env x with | .slice b _ _ _=>[b] | _=>[]))
 |.call { callee:=.builtin .unsafeSliceData,args:=⟨[x]⟩,argTypes:=_ }=>match get env x with
  |.slice b _ _ _=>some [b]
  |_=>some []
 |.call { callee:=.builtin .clear,args:=⟨[x]⟩,argTypes:=_ }=>match get env x with
  |.slice b _ _ _=>some [b]
  |_=>some []
 |.call { callee:=.builtin .unsafeString,args:=⟨[x,_]⟩,argTypes:=_ }=>match get env x with
  |.ptr b _=>some [b]
  |_=>some []
 |.call { callee:=.builtin _,args:=_,argTypes:=_ }=>some []
 |.call _=>none
 |_=>some []
structure Rec where
 env:Env
 en:Env
 mem:Mem
 tm:Mem
 v:AV
 m' :Mem
 nx:Mem
 wb:Bool
 wr:List Nat
def cc(y:Nat→Bool):Nat→Mem→Mem
 |_,[]=>[]
 |i,s::r=>(if y i then s else .qK)::cc y (i+1) r
def bQ(wr:List Nat):Nat→Mem→Mem→Mem
 |_,[],m' =>m'
 |_,_::_,[]=>[]
 |i,s::r,s' ::r' =>(if wr.contains i then s' else s)::bQ wr (i+1) r r'
def eO(mem:Mem)(b:Nat):Bool:=match mem[b]? with
 |some .qK=>false
 |some _=>true
 |none=>false
def dZ:Nat→Mem→List Nat
 |_,[]=>[]
 |i,.qK::r=>dZ (i+1) r
 |i,_::r=>i::dZ (i+1) r
def wQ(y:List Nat)(j:Nat):Nat→List Rec→List Rec
 |_,[]=>[]
 |i,r::rs=>if bef y i j then wQ y j (i-1) rs else r::wQ y j (i-1) rs
def Wo(y:List Nat)(j:Nat)(acc:List Rec):Option (List Nat)→Nat→Bool
 |some l=>fun b=>l.contains b
 |none=>let un:=wQ y j (j-1) acc;fun b=> !un.any fun f=>decide (f.mem.length≤b∧b<f.nx.length)
def Vn(y:Mem):Option Mem→List Nat
 |some _=>dZ 0 y
 |none=>[]
def GR(T:TypeId→Option TyI)(O:ae3)(N:Nat)(ops:Array Oper)(y:List Nat)(j:Nat)(o:Oper)(env:Env)(mem:Mem)(acc:List Rec):Option Rec:=
 if D9 N o then
  let en:=(o.looksAt ops).map fun t=>(t,ab env t)
  match sg ops en o with
  |none=>none
  |some false=>some ⟨env,en,mem,cc (fun _=>false) 0 mem,.tuple [],cc (fun _=>false) 0 mem,mem,false,[]⟩
  |some true=>
   let tm:=cc (Wo y j acc (Oa en o.op)) 0 mem
   match aOp T en tm o.op with
   |some (v,m)=>let wr:=wV en o.op;some ⟨env,en,mem,tm,v,m,bQ wr 0 mem m,true,wr⟩
   |none=>match jT en o.op with
    |none=>none
    |some (c,args)=>match O c args tm with
     |none=>none
     |some r=>let wr:=Vn tm r.pre
      some ⟨env,en,mem,tm,r.v,r.mem tm,bQ wr 0 mem (r.mem tm),true,wr⟩
 else none
def mP(T:TypeId→Option TyI)(O:ae3)(N:Nat)(ops:Array Oper)(y:List Nat):Nat→List Oper→Env→Mem→List Rec→Option (List Rec×Env×Mem)
 |_,[],env,mem,acc=>some (acc.reverse,env,mem)
 |j,o::os,env,mem,acc=>match GR T O N ops y j o env mem acc with
  |none=>none
  |some r=>mP T O N ops y (j+1) os (afX env o.dst r.v) r.nx (r::acc)
def iy(top:Nat)(un:List (Nat×Rec))(b:Nat):Bool:=
 decide (b<top)&&un.all fun f=> !decide (f.2.mem.length≤b∧b<f.2.nx.length)
def br:Nat→List Rec→List (Nat×Rec)
 |_,[]=>[]
 |i,r::rs=>(i,r)::br (i+1) rs
def iq(y:List Nat)(R:List (Nat×Rec))(j:Nat)(r:Rec):Bool:=
 let un:=R.filter fun f=>decide (f.1<j)&& !bef y f.1 j
 r.wr.all (fun b=>eO r.tm b)&&
 r.v.ae6 (iy r.nx.length un)&&
 r.wr.all (fun b=>match r.nx[b]? with | some s=>s.ae6 (iy r.nx.length un) | none=>true)&&
 (r.nx.drop r.mem.length).all (fun s=>(s.own||match s with | .qK=>true | _=>false)&&s.ae6 (iy r.nx.length un))&&
 un.all fun f=>f.2.wr.all (fun b=> !eO r.tm b)&&r.wr.all (fun b=> !eO f.2.tm b)&&
  ((r.tm.drop f.2.mem.length).take (f.2.nx.length-f.2.mem.length)).all fun s=>match s with | .qK=>true | _=>false
def aK(T:TypeId→Option TyI)(O:ae3)(N m0:Nat)(ops:Array Oper)(s:XS):Option XS:=
 let bs:=dW ops.toList
 match mP T O N ops bs 0 ops.toList s.env s.mem [] with
 |none=>none
 |some (R,env,mem)=>
  let nR:=br 0 R
  if nR.all fun f=>iq bs nR f.1 f.2 then some ⟨env,mem,s.afv||R.any fun r=>r.wr.any fun b=>decide (b<m0)⟩ else none
def cK:Code→Bool
 |.region _ ops true=>nf ops (dW ops.toList)
 |.seq a b=>cK a&&cK b
 |.cond _ a b=>cK a&&cK b
 |.block _ b=>cK b
 |.loop b=>cK b
 |.scope b=>cK b
 |.rangeFunc _ _ a b=>cK a&&cK b
 |_=>true
def ad:Code→List Nat
 |.region _ ops _=>ops.toList.filterMap (·.dst)
 |.seq a b=>ad a++ad b
 |.cond _ a b=>ad a++ad b
 |.block _ b=>ad b
 |.loop b=>ad b
 |.scope b=>ad b
 |_=>[]
def ay(lv wr:List Nat)(y env:Env):Env:=lv.map (fun t=>(t,ab env t))++((wr.filter fun t=> !lv.contains t).map fun t=>(t,AV.undef))++y
mutual
def AV.refs(m0:Nat):AV→List Nat
 |.ptr b _=>if b<m0 then [] else [b]
 |.slice b _ _ _=>if b<m0 then [] else [b]
 |.map b=>if b<m0 then [] else [b]
 |.yield b=>if b<m0 then [] else [b]
 |.func _ Z=>AV.afm m0 Z
 |.iface _ v=>v.refs m0
 |.agg Z=>AV.afm m0 Z
 |.tuple Z=>AV.afm m0 Z
 |_=>[]
def AV.afm(m0:Nat):List AV→List Nat
 | []=>[]
 |v::vs=>v.refs m0++AV.afm m0 vs
end
def afb.refs(m0:Nat):afb→List Nat
 |.qK=>[]
 |.cells _ _ cs=>AV.afm m0 cs
 |.map es=>es.flatMap fun e=>e.1.refs m0++e.2.refs m0
 |.afH es=>es.flatMap fun e=>e.1.refs m0++e.2.refs m0
 |.loop r=>r.env.flatMap fun e=>e.2.refs m0
def qf(m0:Nat)(mem:Mem):Nat→List Nat→List Nat→List Nat
 |0,_,seen=>seen
 |_,[],seen=>seen
 |k+1,b::todo,seen=>if seen.contains b then qf m0 mem k todo seen else qf m0 mem k (todo++(mem.getD b .qK).refs m0) (seen++[b])
def Su:List Nat→Bool
 |a::b::_=>a==b
 |_=>false
def Pf:List Nat→Bool
 |a::b::c::_=>a==b&&b==c
 |_=>false
def Lv(lv wr:List Nat)(H:Env)(y:Nat)(s:XS):XS:=
 let ks:=qf y s.mem 1000 ((lv.flatMap fun t=>(ab s.env t).refs y)++(s.mem.take y).flatMap (afb.refs y)) []
 if Ed y s.mem.length ks then
  ⟨(lv.filter fun t=>wr.contains t).map (fun t=>(t,(ab s.env t).ren (rho y ks)))++((wr.filter fun t=> !lv.contains t).map fun t=>(t,AV.undef))++H,(s.mem.take y).map (afb.ren (rho y ks))++af0 y ks s.mem,true⟩
 else⟨ay lv wr H s.env,s.mem,s.afv⟩
def uO(lv wr:List Nat)(H:Env)(y:Nat)(s:XS):XS:=
 if Pf lv=true∨s.mem.length≤y then⟨ay lv wr H s.env,s.mem,s.afv⟩ else
  let ks:=qf y s.mem 1000 (lv.flatMap fun t=>(ab s.env t).refs y) []
  if Ed y s.mem.length ks&&(s.mem.take y).all fun s=>(s.refs y).isEmpty then
   ⟨(lv.filter fun t=>wr.contains t).map (fun t=>(t,(ab s.env t).ren (rho y ks)))++((wr.filter fun t=> !lv.contains t).map fun t=>(t,AV.undef))++H,s.mem.take y++af0 y ks s.mem,s.afv⟩
  else if Su lv then Lv lv wr H y s
  else⟨ay lv wr H s.env,s.mem,s.afv⟩
def gi(lv wr:List Nat)(y:Env)(H:Nat)(f:XS→Option (Exit×XS)):Nat→XS→Option (Exit×XS)
 |0,_=>none
 |k+1,s=>match f s with
  |some (.normal,s')=>gi lv wr y H f k (uO lv wr y H s')
  |r=>r
def bh(T:TypeId→Option TyI)(lv:Code→List Nat)(O:ae3)(K N m0:Nat)(tp:Bool):Code→XS→Option (Exit×XS)
 |.skip,s=>some (.normal,s)
 |.region _ ops false,s=>match dx T O N m0 ops ops.toList s with
  |some s' =>some (.normal,s')
  |none=>none
 |.region _ ops true,s=>match aK T O N m0 ops s with
  |some s' =>some (.normal,s')
  |none=>none
 |.seq a b,s=>match bh T lv O K N m0 tp a s with
  |some (.normal,s')=>bh T lv O K N m0 tp b s'
  |r=>r
 |.cond c a b,s=>match get s.env c with
  |.bool true=>bh T lv O K N m0 tp a s
  |.bool false=>bh T lv O K N m0 tp b s
  |_=>none
 |.block id b,s=>match bh T lv O K N m0 tp b s with
  |some (.exit i,s')=>if i=id then some (.normal,s') else some (.exit i,s')
  |r=>r
 |.loop b,s=>gi (lv b) (ad b) s.env s.mem.length (bh T lv O K N m0 tp b) K ⟨ay (lv b) (ad b) s.env s.env,s.mem,s.afv⟩
 |.exit id,s=>some (.exit id,s)
 |.ret,s=>some (.ret,s)
 |.rangeFunc g ps X' body,s=>
  if tp then
   match get s.env g with
   |.func f caps=>match O (.fn f) (.yield s.mem.length::caps) (s.mem++[.loop ⟨.ready,none,s.env,N,ps,X',body⟩]) with
    |some r=>
     let Zj:=r.mem (s.mem++[.loop ⟨.ready,none,s.env,N,ps,X',body⟩])
     match Zj[s.mem.length]? with
     |some (.loop r2)=>if r2.st== .busy then none else match yP r2.agc with
      |some e=>some (e,⟨s.env,Zj.set s.mem.length (.loop { r2 with st:=.exhausted }),s.afv||r.pre.isSome⟩)
      |none=>none
     |_=>none
    |none=>none
   |_=>none
  else none
 |_,_=>none
def aa(T:TypeId→Option TyI)(lv:Code→List Nat)(G:FuncId→Option Func)(O:ae3)(K:Nat)(f:FuncId)(args:List AV)(mem:Mem):Option y9:=
 match G f with
 |none=>none
 |some fn=>match fn.body with
  |none=>none
  |some c=>
   if args.length≤fn.ntmps then
    match bh T lv O K fn.ntmps mem.length true c ⟨dv 0 args,mem,false⟩ with
    |some (e,s)=>
     match e with
     |.normal | .ret=>
      match jg T fn.results.toList s.env s.mem with
      |some v=>
       let m0:=mem.length
       if s.afv then
        let ks:=qf m0 s.mem 1000 (v.refs m0++(s.mem.take m0).flatMap (afb.refs m0)) []
        if Ed m0 s.mem.length ks then
         some ⟨v.ren (rho m0 ks),some ((s.mem.take m0).map (afb.ren (rho m0 ks))),af0 m0 ks s.mem⟩
        else none
       else
        let ks:=qf m0 s.mem 1000 (v.refs m0) []
        if Ed m0 s.mem.length ks then
         some ⟨v.ren (rho m0 ks),none,af0 m0 ks s.mem⟩
        else none
      |none=>none
     |_=>none
    |none=>none
   else none
def xO(T:TypeId→Option TyI)(lv:Code→List Nat)(O:ae3)(K:Nat)(b:Nat)(args:List AV)(mem:Mem):Option y9:=
 match mem[b]? with
 |some (.loop r)=>
  if r.st== .ready&&decide (args.length=r.ps.toList.length)&&r.ps.toList.all (fun t=>decide (t<r.N))&&cK r.assign&&cK r.body then
   match bh T lv O K r.N mem.length false r.assign ⟨yL r.ps.toList args r.env,mem,true⟩ with
   |some (.normal,s1)=>match s1.mem[b]? with
    |some (.loop r1)=>
     if r1.st== .ready then
      match bh T lv O K r.N mem.length false r.body ⟨s1.env,s1.mem.set b (.loop { r1 with st:=.busy }),true⟩ with
      |some (e,s2)=>match rF e,s2.mem[b]? with
       |some j,some (.loop r2)=>
        let m0:=mem.length
        let m3:=s2.mem.set b (.loop { r2 with st:=mN j,agc:=j })
        let ks:=qf m0 m3 1000 ((m3.take m0).flatMap (afb.refs m0)) []
        if Ed m0 s2.mem.length ks then
         some ⟨.bool j.isNone,some ((m3.take m0).map (afb.ren (rho m0 ks))),af0 m0 ks m3⟩
        else none
       |_,_=>none
      |none=>none
     else none
    |_=>none
   |_=>none
  else none
 |_=>none
def DZ(T:TypeId→Option TyI)(lv:Code→List Nat)(G:FuncId→Option Func)(O:ae3)(K:Nat):Nat→ae3
 |0=>O
 |n+1=>fun c Z mem=>match O c Z mem with
  |some r=>some r
  |none=>match c with
   |.fn f=>aa T lv G (DZ T lv G O K n) K f Z mem
   |.yld b=>xO T lv (DZ T lv G O K n) K b Z mem
structure qS (P:Program)(O:ae3):Prop where
 fn:∀f args mem r,O (.fn f) args mem=some r→kO P f args mem r.v (r.mem mem)
 yld:∀b args mem r,O (.yld b) args mem=some r→fN P b args mem r.v (r.mem mem)
 pre:∀c args mem r p,O c args mem=some r→r.pre=some p→p.length=mem.length
variable{args:List AV}{c:Callee}{d:Bool}{k m x:AV}{l:List Nat}{o:Oper}{op:Op}
section
variable {P:Program}{T:TypeId→Option TyI}{O:ae3}{mem mem' :Mem}{env:Env}
def afz(wr:List Nat) (mem mem' :Mem):Prop:=mem.length≤mem'.length∧∀b:Nat,b<mem.length→b∉wr→mem'[b]? =mem[b]?
theorem afz.refl(wr:List Nat)(mem:Mem):afz wr mem mem:=⟨Nat.le_refl _,fun _ _ _=>rfl⟩
theorem afz.push(wr:List Nat)(mem l:Mem):afz wr mem (mem++l):=⟨by simp,fun b Z _=>List.getElem?_append_left Z⟩
theorem afz.set(b0:Nat)(s:afb)(mem:Mem):afz [b0] mem (mem.set b0 s):=
 ⟨by simp,fun b _ Z=>List.getElem?_set_ne (fun e=>Z (by simp[e]))⟩
theorem afz.agX(b0:Nat)(s:afb)(mem l:Mem):afz [b0] mem (mem.set b0 s++l):=
 ⟨by simp,fun b Z X=>by rw[List.getElem?_append_left (by simpa using Z)];exact List.getElem?_set_ne (fun e=>X (by simp[e]))⟩
theorem vQ{t t2:TypeId}{s x v:AV}(h:oY T mem t t2 s x=some (v,mem')):afz (kq s) mem mem' :=by
 unfold oY at h
 repeat' split at h
 all_goals first
  |(cases h;done)
  |(cases h;exact .refl _ _)
  |(cases h;exact .push _ _ _)
  |(cases h;exact .set _ _ _)
  |(cases h;exact .agX _ _ _ _)
theorem Kw{t:TypeId}{v:AV}(h:tn T mem t x v=some mem'):afz (TR x) mem mem' :=by
 unfold tn at h
 repeat' split at h
 all_goals first
  |(cases h;done)
  |(cases h;rename_i Z _ _ _;exact .set _ _ _)
theorem Ab{t:TypeId}{v:AV}(h:eZ T mem t m k v=some mem'):afz (Ov m) mem mem' :=by
 unfold eZ at h
 repeat' split at h
 all_goals first
  |(cases h;done)
  |(cases h;exact .set _ _ _)
theorem BN{t:TypeId}{v:AV}(h:rh T mem t m k=some (v,mem')):afz (Ov m) mem mem' :=by
 unfold rh at h
 repeat' split at h
 all_goals first
  |(cases h;done)
  |(cases h;exact .set _ _ _)
theorem xI{m s v:AV}(h:kR mem m s v=some mem'):afz (Ov m) mem mem' :=by
 unfold kR at h
 repeat' split at h
 all_goals first
  |(cases h;done)
  |(cases h;exact .set _ _ _)
theorem Km{e:TypeId}{v:AV}(h:th T mem e=some (v,mem')):afz l mem mem' :=by unfold th at h;split at h<;>cases h;exact .push _ _ _
theorem Qu{v:AV}(h:WI mem x=some (v,mem')):afz l mem mem' :=by unfold WI at h;split at h<;>cases h;exact .push _ _ _
theorem xG{t:TypeId}{n:Nat}{ps}{v:AV}{l:List Nat}(h:fH T mem t n ps=some (v,mem')):afz l mem mem' :=by
 unfold fH at h
 repeat' split at h
 all_goals first
  |(cases h;done)
  |(cases h;exact .push _ _ _)
theorem z8{t:TypeId}{y:AV}{v:AV}(h:kD T mem t x y=some (v,mem')):afz l mem mem' :=by
 unfold kD at h
 repeat' split at h
 all_goals first
  |(cases h;done)
  |(cases h;exact .push _ _ _)
theorem Gm{pt:TypeId}{l v:AV}(h:xL T mem pt x l=some (v,mem')):afz (TR x) mem mem' :=by
 unfold xL at h
 repeat' split at h
 all_goals first
  |(cases h;done)
  |(cases h;exact .set _ _ _)
theorem zW{s d:TypeId}{v:AV}(h:mW T mem s d x=some (v,mem')):afz l mem mem' :=by
 unfold mW at h
 repeat' split at h
 all_goals first
  |(cases h;done)
  |(cases h;exact .push _ _ _)
theorem DW{t:TypeId}{s x v:AV}(h:vP T mem t s x=some (v,mem')):afz l mem mem' :=by
 unfold vP at h
 repeat' split at h
 all_goals first
  |(cases h;done)
  |(cases h;exact .push _ _ _)
theorem Kq{t:TypeId}(h:Kp T mem t x=some mem'):afz (kq x) mem mem' :=by
 unfold Kp at h
 repeat' split at h
 all_goals first
  |(cases h;done)
  |(cases h;exact .refl _ _)
  |(cases h;exact .set _ _ _)
theorem DU{t t2:TypeId}{s x v:AV}(h:sj T mem t t2 s x=some (v,mem')):afz (kq s) mem mem' :=by
 unfold sj at h
 repeat' split at h
 all_goals first
  |(cases h;done)
  |(cases h;exact .set _ _ _)
theorem vT{t:TypeId}{v:AV}{y H:Option AV}(h:xK T mem t x y H=some (v,mem')):afz l mem mem' :=by
 unfold xK at h
 repeat' split at h
 all_goals first
  |(cases h;done)
  |(cases h;exact .push _ _ _)
theorem Ku{v:AV}(h:aOp T env mem op=some (v,mem')):afz (wV env op) mem mem' :=by
 unfold aOp at h
 repeat' split at h
 all_goals first
  |(cases h;done)
  |(cases h;exact .refl _ _)
  |exact vT h
  |(rename_i Z;cases h;exact vT Z)
  |exact DU h
  |exact Km h
  |exact Qu h
  |exact xG h
  |exact z8 h
  |exact vQ h
  |(rename_i Z;cases h;exact vQ Z)
  |exact DW h
  |exact zW h
  |exact Gm h
  |exact BN h
  |(cases h;exact .push _ _ _)
  |(rename_i Z;cases h;first | exact Kw Z | exact Ab Z | exact xI Z | exact Kq Z)
theorem mY{wr:List Nat}{m0:Nat}(h:(wr.any fun b=>decide (b<m0))=false){b:Nat}(y:b<m0):b∉wr:=by intro Z;have:=List.any_eq_false.1 h b Z;simp[y] at this
theorem uU{m0:Nat}(h1:m0≤mem.length)(h2:m0≤mem'.length)(h:∀b,b<m0→mem'[b]? =mem[b]?):mem'.take m0=mem.take m0:=by
 apply List.ext_getElem?;intro b;by_cases Z:b<m0
 ·rw[List.getElem?_take_of_lt Z,List.getElem?_take_of_lt Z,h b Z]
 ·rw[List.getElem?_eq_none (by simp;omega),List.getElem?_eq_none (by simp;omega)]
def Clean(m0:Nat)(mem:Mem)(d:Bool) (mem' :Mem) (d' :Bool):Prop:=m0≤mem.length→m0≤mem'.length∧(d' =false→d=false∧mem'.take m0=mem.take m0)
theorem Clean.refl(m0:Nat)(mem:Mem)(d:Bool):Clean m0 mem d mem d:=fun h=>⟨h,fun e=>⟨e,rfl⟩⟩
theorem Clean.trans{m0:Nat}{y m2 H:Mem}{d1 d2 d3:Bool}(h:Clean m0 y d1 m2 d2)(h' :Clean m0 m2 d2 H d3):Clean m0 y d1 H d3:=fun Z=>by obtain⟨X,V⟩:=h Z;obtain⟨U,S⟩:=h' X;refine⟨U,fun e=>?_⟩;obtain⟨R,Q⟩:=S e;obtain⟨N,M⟩:=V R;exact⟨N,Q.trans M⟩
theorem afz.clean{wr:List Nat}{m0:Nat}(h:afz wr mem mem'):Clean m0 mem d mem' (d||wr.any fun b=>decide (b<m0)):=fun Z=>by have X:=Nat.le_trans Z h.1;refine⟨X,fun e=>?_⟩;simp only[Bool.or_eq_false_iff] at e;exact⟨e.1,uU Z X fun b V=>h.2 b (by omega) (mY e.2 V)⟩
theorem Kz{f:FuncId}(h:jT env op=some (.fn f,args)):Gu env op=some (f,args):=by
 unfold jT at h;split at h
 ·split at h
  ·cases h;rename_i Z;simp[Gu,Z]
  ·cases h
  ·cases h
 ·cases h
theorem Gp{b:Nat}(h:jT env op=some (.yld b,args)):AR env op=some (b,args):=by
 unfold jT at h;split at h
 ·split at h
  ·cases h
  ·cases h;rename_i Z;simp[AR,Z]
  ·cases h
 ·cases h
section
variable (hO:qS P O)
include hO
theorem CD{r:y9}(hc:jT env o.op=some (c,args))(h:O c args mem=some r):
  wZ P T env mem o r.v (r.mem mem):=by
 cases c with
 |fn f=>exact .inr (.inl ⟨f,args,Kz hc,hO.fn _ _ _ _ h⟩)
 |yld b=>exact .inr (.inr ⟨b,args,Gp hc,hO.yld _ _ _ _ h⟩)
theorem ye{r:y9}(h:O c args mem=some r):mem.length≤(r.mem mem).length:=by
 unfold y9.mem;cases hp:r.pre with
 |none=>simp
 |some p=>have:=hO.pre _ _ _ _ p h hp;simp;omega
theorem Og{m0:Nat}{d' :Bool}{v:AV}(h:Vo T O m0 env mem d o=some (v,mem',d')):
  wZ P T env mem o v mem' ∧Clean m0 mem d mem' d' :=by
 unfold Vo at h;split at h
 ·rename_i S R Z
  cases h;exact⟨.inl Z,(Ku Z).clean⟩
 ·split at h
  ·rename_i c args U
   split at h
   ·rename_i r X
    cases h;refine⟨CD hO U X,fun V=>⟨Nat.le_trans V (ye hO X),fun e=>?_⟩⟩;simp only[Bool.or_eq_false_iff,Option.isSome_eq_false_iff,Option.isNone_iff_eq_none] at e;refine⟨e.1,?_⟩;unfold y9.mem;rw[e.2];simp[List.take_append_of_le_length V]
   ·cases h
  ·cases h
end
theorem kf(y:qS P O){N m0:Nat}{ops:Array Oper}:∀{l:List Oper}{s s' :XS},dx T O N m0 ops l s=some s' →
  mI P T N ops l ⟨s.env,s.mem⟩ ⟨s'.env,s'.mem⟩∧Clean m0 s.mem s.afv s'.mem s'.afv
 | [],s,s',h=>by cases h;exact⟨rfl,.refl _ _ _⟩
 |o::os,s,s',h=>by
  unfold dx at h;split at h
  ·rename_i U
   split at h
   ·rename_i Z
    split at h
    ·rename_i v m M S
     obtain⟨R,Q⟩:=Og y S;obtain⟨X,V⟩:=kf y h;exact⟨⟨true,Z,U,(fun e=>by cases e),fun _=>⟨v,m,R,X⟩⟩,Q.trans V⟩
    ·cases h
   ·rename_i Z
    obtain⟨X,V⟩:=kf y h;exact⟨⟨false,Z,U,(fun _=>X),(fun e=>by cases e)⟩,V⟩
   ·cases h
  ·cases h
end
end Go.Eng
namespace Go.Eng
section
variable {P:Program}{T:TypeId→Option TyI}{O:ae3}{N:Nat}{ops:Array Oper}
theorem gR(y:Nat→Bool):∀(i:Nat) (m:Mem),(cc y i m).length=m.length
 |_,[]=>rfl
 |i,s::r=>by simp[cc,gR y (i+1) r]
theorem kG(y:Nat→Bool):∀(i:Nat) (m:Mem) (b:Nat),(cc y i m)[b]? =m[b]? ∨(cc y i m)[b]? =some .qK
 |_,[],b=>.inl rfl
 |i,s::r,0=>by
  simp only[cc,List.getElem?_cons_zero];split
  ·exact .inl rfl
  ·exact .inr rfl
 |i,s::r,b+1=>by simp only[cc,List.getElem?_cons_succ];exact kG y (i+1) r b
theorem Cv:∀(i:Nat) (m:Mem) (b:Nat),¬ir (cc (fun _=>false) i m) b
 |_,[],b=>by rintro ⟨s,h,_⟩;simp[cc] at h
 |i,s::r,0=>by rintro ⟨s,h,Z⟩;simp[cc] at h;exact Z h.symm
 |i,s::r,b+1=>by rintro ⟨s,h,Z⟩;simp only[cc,List.getElem?_cons_succ] at h;exact Cv (i+1) r b ⟨s,h,Z⟩
theorem mO(wr:List Nat):∀(i:Nat) (m y :Mem),m.length≤y.length→(bQ wr i m y).length=y.length
 |_,[],y,_=>rfl
 |_,_::_,[],h=>by simp at h
 |i,s::r,s' ::r',h=>by simp only[bQ,List.length_cons] at h ⊢;rw[mO wr (i+1) r r' (by omega)]
theorem uM(wr:List Nat):∀(i:Nat) (m y :Mem) (b:Nat),m.length≤y.length→(bQ wr i m y)[b]? =if i+b∈wr∨m.length≤b then y[b]? else m[b]?
 |_,[],y,b,_=>by simp[bQ]
 |_,_::_,[],_,h=>by simp at h
 |i,s::r,s' ::r',0,h=>by simp only[bQ,List.getElem?_cons_zero,List.contains_iff_mem,Nat.add_zero,List.length_cons,Nat.le_zero_eq,Nat.add_one_ne_zero,or_false];split<;>rfl
 |i,s::r,s' ::r',b+1,h=>by simp only[List.length_cons] at h;simp only[bQ,List.getElem?_cons_succ];rw[uM wr (i+1) r r' b (by omega)];simp only[List.length_cons,Nat.add_le_add_iff_right];rw[show i+1+b=i+(b+1) by omega]
theorem uG{m:Mem}{b:Nat}:eO m b=true↔ir m b:=by
 unfold eO ir;cases h:m[b]? with
 |none=>simp
 |some s=>cases s<;>simp
theorem Ef:∀(i:Nat) (m:Mem) (b:Nat),i+b∈dZ i m↔ir m b:=by
 intro i m;induction m generalizing i with
 |nil=>intro b;simp[dZ,ir]
 |cons s r ih=>
  intro b;have Z:∀(i:Nat) (m:Mem) (x:Nat),x∈dZ i m→i≤x:=by
   intro i m;induction m generalizing i with
   |nil=>intro x h;simp[dZ] at h
   |cons s r ih=>
    intro x h;have:x∈dZ (i+1) r∨x=i:=by cases s<;>simp only[dZ,List.mem_cons] at h<;>first | exact .inl h | exact h.symm
    rcases this with h | h
    ·have:=ih (i+1) x h;omega
    ·omega
  cases b with
  |zero=>
   have X:¬(i+0∈dZ (i+1) r):=fun h=>by have:=Z _ _ _ h;omega
   cases s<;>simp[dZ,ir]<;>simpa using X
  |succ b=>
   have:=ih (i+1) b;rw[show i+1+b=i+(b+1) by omega] at this;have V:ir (s::r) (b+1)↔ir r b:=by simp[ir]
   rw[V,←this];cases s<;>simp[dZ]
structure agH (P:Program)(T:TypeId→Option TyI)(N:Nat)(ops:Array Oper)(r:Rec)(o:Oper):Prop where
 dst:D9 N o=true
 wanted:sg ops r.en o=some r.wb
 en:r.en=(o.looksAt ops).map fun t=>(t,ab r.env t)
 step:r.wb=true→wZ P T r.en r.tm o r.v r.m'
 skip:r.wb=false→r.v=.tuple []∧r.m' =r.tm
 agS:r.tm.length=r.mem.length
 agT:∀b:Nat,r.tm[b]? =r.mem[b]? ∨r.tm[b]? =some .qK
 mono:r.mem.length≤r.m'.length
 agI:r.nx.length=r.m'.length
 nx:∀b:Nat,r.nx[b]? =if b∈r.wr∨r.mem.length≤b then r.m'[b]? else r.mem[b]?
 af0:∀b:Nat,b<r.mem.length→b∉r.wr→ir r.tm b→r.m'[b]? =r.mem[b]?
theorem Ew{mem y:Mem}(h:∀b:Nat,y[b]? =mem[b]? ∨y[b]? =some .qK){b:Nat}(H:ir y b):y[b]? =mem[b]? :=by
 rcases h b with e | e
 ·exact e
 ·obtain⟨s,Z,X⟩:=H
  rw[Z] at e;cases e;exact absurd rfl X
theorem GS(y:qS P O){H:List Nat}{j:Nat}{o:Oper}{env:Env}{mem:Mem}{acc:List Rec}{r:Rec}(h:GR T O N ops H j o env mem acc=some r):
  r.env=env∧r.mem=mem∧agH P T N ops r o:=by
 unfold GR at h;split at h
 ·rename_i M
  simp only at h;split at h
  ·cases h
  ·rename_i S
   cases h;refine⟨rfl,rfl,M,S,rfl,(fun e=>by cases e),(fun _=>⟨rfl,rfl⟩),gR _ _ _,(fun b=>kG _ _ _ _),by simp[gR],by simp[gR],fun b=>?_,fun b _ _ V=>absurd V (Cv _ _ _)⟩;simp only[List.not_mem_nil,false_or];split
   ·rename_i K
    rw[List.getElem?_eq_none K,List.getElem?_eq_none (by rw[gR];exact K)]
   ·rfl
  ·rename_i S
   generalize Wo H j acc (Oa (List.map (fun t=>(t,ab env t)) (o.looksAt ops)) o.op)=see at h;have Z:(cc see 0 mem).length=mem.length:=gR _ _ _;split at h
   ·rename_i v m G
    cases h;have U:=Ku G;rw[afz,Z] at U;refine⟨rfl,rfl,M,S,rfl,fun _=>.inl G,(fun e=>by cases e),Z,fun b=>kG _ _ _ _,U.1,mO _ _ _ _ U.1,fun b=>?_,fun b V L R=>?_⟩
    ·have:=uM (wV (List.map (fun t=>(t,ab env t)) (o.looksAt ops)) o.op) 0 mem m b U.1
     rw[Nat.zero_add] at this;exact this
    ·rw[U.2 b V L];exact Ew (fun b=>kG see 0 mem b) R
   ·split at h
    ·cases h
    ·rename_i c F C
     split at h
     ·cases h
     ·rename_i X D
      simp only[Option.some.injEq] at h;subst h;have Q:=ye y D;rw[Z] at Q;refine⟨rfl,rfl,M,S,rfl,fun _=>CD y C D,(fun e=>by cases e),Z,fun b=>kG _ _ _ _,Q,mO _ _ _ _ Q,fun b=>?_,fun b V L R=>?_⟩
      ·have:=uM (Vn (cc see 0 mem) X.pre) 0 mem (X.mem (cc see 0 mem)) b Q
       rw[Nat.zero_add] at this;exact this
      ·cases hp:X.pre with
       |some p=>
        exfalso;apply L;show b∈Vn (cc see 0 mem) X.pre
        rw[hp];show b∈dZ 0 (cc see 0 mem)
        have:=(Ef 0 (cc see 0 mem) b).2 R
        rwa [Nat.zero_add] at this
       |none=>
        show(X.mem (cc see 0 mem))[b]? =mem[b]?
        unfold y9.mem;rw[hp];simp only[Option.getD_none];rw[List.getElem?_append_left (by rw[Z];exact V)];exact Ew (fun b=>kG see 0 mem b) R
 ·cases h
def lV(P:Program)(T:TypeId→Option TyI)(N:Nat)(ops:Array Oper):List Oper→Env→Mem→List Rec→Env→Mem→Prop
 | [],env,mem,[],AC,mem' =>AC =env∧mem' =mem
 |o::os,env,mem,r::rs,AC,mem' =>r.env=env∧r.mem=mem∧agH P T N ops r o∧lV P T N ops os (afX env o.dst r.v) r.nx rs AC mem'
 |_,_,_,_,_,_=>False
theorem pM(I:qS P O){J:List Nat}:∀{l:List Oper} {j:Nat} {env:Env} {mem:Mem} {acc R:List Rec}{H :Env}{y :Mem},
  mP T O N ops J j l env mem acc=some (R,H,y)→∃Z,R=acc.reverse++Z∧lV P T N ops l env mem Z H y
 | [],j,env,mem,acc,R,H,y,h=>by simp only[mP,Option.some.injEq,Prod.mk.injEq] at h;obtain⟨rfl,rfl,rfl⟩:=h;exact⟨[],by simp,rfl,rfl⟩
 |o::os,j,env,mem,acc,R,H,y,h=>by
  unfold mP at h;split at h
  ·cases h
  ·rename_i r X
   obtain⟨V,U,h3⟩:=GS I X;obtain⟨Z,e,S⟩:=pM I h;exact⟨r::Z,by rw[e];simp,V,U,h3,S⟩
def Rf(R:List Rec)(y:Env×Mem)(j:Nat):Env×Mem:=match R[j]? with
 |some r=>(r.env,r.mem)
 |none=>y
theorem y8:∀{l:List Oper} {env:Env} {mem:Mem} {R:List Rec}{H :Env}{y :Mem},lV P T N ops l env mem R H y →R.length=l.length
 | [],_,_,[],_,_,_=>rfl
 |_::_,_,_,_::_,_,_,h=>by simp only[List.length_cons];rw[y8 h.2.2.2]
 | [],_,_,_::_,_,_,h=>h.elim
 |_::_,_,_,[],_,_,h=>h.elim
theorem wI:∀{l:List Oper} {env:Env} {mem:Mem} {R:List Rec}{H :Env}{y :Mem},lV P T N ops l env mem R H y →Rf R (H,y) 0=(env,mem)
 | [],_,_,[],_,_,h=>by obtain⟨rfl,rfl⟩:=h;rfl
 |_::_,_,_,_::_,_,_,h=>by obtain⟨rfl,rfl,_⟩:=h;rfl
 | [],_,_,_::_,_,_,h=>h.elim
 |_::_,_,_,[],_,_,h=>h.elim
theorem CL:∀{l:List Oper} {env:Env} {mem:Mem} {R:List Rec}{H :Env}{y :Mem},lV P T N ops l env mem R H y →∀(j:Nat) (o:Oper),l[j]? =some o→
  ∃r,R[j]? =some r∧agH P T N ops r o∧Rf R (H,y) (j+1)=(afX r.env o.dst r.v,r.nx)
 |o::os,_,_,r::rs,H,y,h,0,o',ho=>by cases ho;obtain⟨rfl,rfl,h3,Z⟩:=h;exact⟨r,rfl,h3,wI Z⟩
 |o::os,_,_,r::rs,H,y,h,j+1,o',ho=>by obtain⟨_,_,_,Z⟩:=h;obtain⟨X,V,U,g3⟩:=CL Z j o' ho;exact⟨X,V,U,g3⟩
 | [],_,_,_,_,_,_,j,_,ho=>by simp at ho
 |_::_,_,_,[],_,_,h,_,_,_=>h.elim
theorem mw:∀(i:Nat) (R:List Rec) (j:Nat) (r:Rec),R[j]? =some r→(i+j,r)∈br i R
 |i,x::xs,0,r,h=>by cases h;simp[br]
 |i,x::xs,j+1,r,h=>by simp only[List.getElem?_cons_succ] at h;have:=mw (i+1) xs j r h;rw[show i+1+j=i+(j+1) by omega] at this;simp[br,this]
 |_,[],_,_,h=>by simp at h
end
variable{R:List Rec}{bs:List Nat}{j:Nat}
section
variable {P:Program}{T:TypeId→Option TyI}{O:ae3}{N:Nat}{ops:Array Oper}
def VA(bs:List Nat)(R:List Rec)(j:Nat):List (Nat×Rec):=(br 0 R).filter fun f=>decide (f.1<j)&& !bef bs f.1 j
def pe(n:Nat)(bs:List Nat)(R:List Rec)(y:Env×Mem):afF where
 E j:=(Rf R y j).1
 M j:=(Rf R y j).2
 En j:=match R[j]? with | some r=>r.en | none=>[]
 Tm j:=match R[j]? with | some r=>r.tm | none=>[]
 M' j:=match R[j]? with | some r=>r.m' | none=>[]
 v j:=match R[j]? with | some r=>r.v | none=>.undef
 wb j:=match R[j]? with | some r=>r.wb | none=>false
 afQ j b:=match R[j]? with | some r=>decide (b∈r.wr)||decide (r.mem.length≤b) | none=>false
 ok j b:=match R[j]? with | some r=>iy r.nx.length (VA bs R j) b | none=>false
 cl i j:=decide (i<n)&&bef bs i j
theorem B8(h:nf ops bs=true){o:Oper}(y:ops[j]? =some o):
  (∀e∈o.after,Region.binds .any e=true→e.on<j)∧
  (∀i,i<ops.size→bef bs i j=true→∃e∈o.after,Region.binds .any e=true∧(e.on=i∨bef bs i e.on=true))∧
  ∀(i:Nat) X t,ops[i]? =some X→i≠j→X.dst=some t→(t∈o.looksAt ops∨o.dst=some t)→bef bs i j=true∨bef bs j i=true:=by
 have G:j<ops.size:=(Array.getElem?_eq_some_iff.1 y).1;unfold nf at h;have:=List.all_eq_true.1 h j (by simpa using G);simp only[y,Bool.and_eq_true,List.all_eq_true,List.mem_range] at this;obtain⟨F,L⟩:=this;refine⟨fun e V U=>?_,fun i Z U=>?_,fun i X t Z D C S=>?_⟩
 ·have:=F e (by simpa using V)
  simpa [U] using this
 ·have:=(L i Z).1
  simp only[U,Bool.not_true,Bool.false_or,List.any_eq_true] at this;obtain⟨e,V,Q⟩:=this;simp only[Bool.and_eq_true,Bool.or_eq_true,beq_iff_eq] at Q;exact⟨e,by simpa using V,Q.1,Q.2⟩
 ·have M:i<ops.size:=(Array.getElem?_eq_some_iff.1 Z).1
  have:=(L i M).2;simp only[Z,C,Bool.or_eq_true,beq_iff_eq,D,false_or,Bool.and_eq_true,Bool.not_eq_true',List.contains_eq_mem,decide_eq_false_iff_not] at this;rcases this with (h3 | h3) | ⟨h3,K⟩
  ·exact .inl h3
  ·exact .inr h3
  ·rcases S with h5 | h5
   ·exact absurd h5 h3
   ·rw[h5] at K;simp at K
structure agj (bs:List Nat)(R:List Rec)(j:Nat)(r:Rec):Prop where
 wr:∀b∈r.wr,ir r.tm b
 agV:r.v.ae6 (iy r.nx.length (VA bs R j))=true
 ahC:∀(b:Nat) s,b∈r.wr→r.nx[b]? =some s→s.ae6 (iy r.nx.length (VA bs R j))=true
 fresh:∀(b:Nat) s,r.mem.length≤b→r.nx[b]? =some s→(s≠ .qK→s.own=true)∧s.ae6 (iy r.nx.length (VA bs R j))=true
 ahg:∀(i:Nat) f,i<j→R[i]? =some f→bef bs i j=false→(∀b∈f.wr,¬ir r.tm b)∧(∀b∈r.wr,¬ir f.tm b)∧∀b,f.mem.length≤b→b<f.nx.length→¬ir r.tm b
theorem Gx{r:Rec}(h:iq bs (br 0 R) j r=true):agj bs R j r:=by
 unfold iq at h;simp only[Bool.and_eq_true] at h;obtain⟨⟨⟨⟨S,Q⟩,h3⟩,M⟩,L⟩:=h;refine⟨fun b Z=>uG.1 (List.all_eq_true.1 S b Z),Q,fun b s Z X=>?_,fun b s Z X=>?_,fun i f K G Z=>?_⟩
 ·have:=List.all_eq_true.1 h3 b Z
  rw[X] at this;exact this
 ·have U:s∈r.nx.drop r.mem.length:=by apply List.mem_of_getElem? (i:=b-r.mem.length);rw[List.getElem?_drop,←X];congr 1;omega
  have:=List.all_eq_true.1 M s U;simp only[Bool.and_eq_true,Bool.or_eq_true] at this;refine⟨fun F=>?_,this.2⟩;rcases this.1 with h | h
  ·exact h
  ·cases s<;>simp_all
 ·have D:(i,f)∈VA bs R j:=by unfold VA;rw[List.mem_filter];have:=mw 0 R i f G;rw[Nat.zero_add] at this;exact⟨this,by simp[K,Z]⟩
  have:=List.all_eq_true.1 L (i,f) D;simp only[Bool.and_eq_true,List.all_eq_true,Bool.not_eq_true'] at this;obtain⟨⟨C,B⟩,u⟩:=this;refine⟨fun b Z V=>?_,fun b Z V=>?_,fun b o m V=>?_⟩
  ·have:=C b Z;rw[uG.2 V] at this;cases this
  ·have:=B b Z;rw[uG.2 V] at this;cases this
  ·obtain⟨s,X,F⟩:=V
   have U:s∈(r.tm.drop f.mem.length).take (f.nx.length-f.mem.length):=by apply List.mem_of_getElem? (i:=b-f.mem.length);rw[List.getElem?_take_of_lt (by omega),List.getElem?_drop,←X];congr 1;omega
   have:=u s U;cases s<;>simp_all
theorem EM{env:Env}:∀(l:List Tmp) (t:Nat),(t∈l∧ab (l.map fun t=>(t,ab env t)) t=ab env t)∨(t∉l∧ab (l.map fun t=>(t,ab env t)) t=.undef)
 | [],t=>.inr ⟨by simp,rfl⟩
 |x::xs,t=>by
  simp only[List.map_cons,ab];by_cases Z:x=t
  ·subst Z;exact .inl ⟨by simp,by simp⟩
  ·simp only[Z,if_false]
   rcases EM (env:=env) xs t with⟨X,V⟩ | ⟨X,V⟩
   ·exact .inl ⟨by simp[X],V⟩
   ·exact .inr ⟨by simp[X,Ne.symm Z],V⟩
theorem UX{m:Mem}{b:Nat}(h:ir m b):b<m.length:=by obtain⟨s,h,_⟩:=h;exact(gL h)
theorem UR{env H :Env}{mem y :Mem}(hs:nf ops bs=true)(hR:lV P T N ops ops.toList env mem R H y)(hC:∀(j:Nat) r,R[j]? =some r→agj bs R j r):sT P T N ops (pe ops.size bs R (H,y)):=by
 have B:∀(j:Nat) o,ops[j]? =some o→∃r,R[j]? =some r∧agH P T N ops r o∧Rf R (H,y) (j+1)=(afX r.env o.dst r.v,r.nx):=
  fun j o ho=>CL hR j o (by simpa using ho)
 have M_at:∀(j:Nat) r,R[j]? =some r→(pe ops.size bs R (H,y)).M j=r.mem:=fun j r h=>by simp[pe,Rf,h]
 have lens:∀(i:Nat) V U,ops[i]? =some U→R[i]? =some V→∀(k j:Nat) F oj,j=i+1+k→ops[j]? =some oj→R[j]? =some F→V.nx.length≤F.mem.length:=by
  intro i V U D Z k;induction k with
  |zero=>
   intro j F oj hj hoj u;obtain⟨r,g1,g2,g3⟩:=B i U D;rw[Z] at g1;cases g1;have:Rf R (H,y) (i+1)=(F.env,F.mem):=by rw[show i+1=j by omega];simp[Rf,u]
   rw[this] at g3;have:=congrArg Prod.snd g3;simp only at this;rw[this];exact Nat.le_refl _
  |succ k ih=>
   intro j F oj hj hoj u;have hjs:j<ops.size:=(Array.getElem?_eq_some_iff.1 hoj).1;obtain⟨op,hop⟩:=Aj (ops:=ops) (j:=j-1) (by omega);obtain⟨r,g1,g2,g3⟩:=B (j-1) op hop;have W:=ih (j-1) r op (by omega) hop g1;have:Rf R (H,y) (j-1+1)=(F.env,F.mem):=by rw[show j-1+1=j by omega];simp[Rf,u]
   rw[this] at g3;have e:=congrArg Prod.snd g3;simp only at e;have:=g2.agI;have:=g2.mono;rw[e];omega
 have aa2 :∀(i j:Nat) V F U oj,i<j→ops[i]? =some U→ops[j]? =some oj→R[i]? =some V→R[j]? =some F→V.nx.length≤F.mem.length:=
  fun i j V F U oj Z8 D hoj Z u=>lens i V U D Z (j-i-1) j F oj (by omega) hoj u
 intro j o ho;obtain⟨r,Q,K,abD⟩:=B j o ho;have C:=hC j r Q;have S:=B8 hs ho;have hjs:j<ops.size:=(Array.getElem?_eq_some_iff.1 ho).1;have J:(pe ops.size bs R (H,y)).M j=r.mem:=M_at j r Q;have L:(pe ops.size bs R (H,y)).M (j+1)=r.nx:=by simp[pe,abD]
 have eE:(pe ops.size bs R (H,y)).E j=r.env:=by simp[pe,Rf,Q]
 have eE1:(pe ops.size bs R (H,y)).E (j+1)=afX r.env o.dst r.v:=by simp[pe,abD]
 have eEn:(pe ops.size bs R (H,y)).En j=r.en:=by simp[pe,Q]
 have eT:(pe ops.size bs R (H,y)).Tm j=r.tm:=by simp[pe,Q]
 have m :(pe ops.size bs R (H,y)).M' j=r.m' :=by simp[pe,Q]
 have ev:(pe ops.size bs R (H,y)).v j=r.v:=by simp[pe,Q]
 have ew:(pe ops.size bs R (H,y)).wb j=r.wb:=by simp[pe,Q]
 have Zk:∀b,(pe ops.size bs R (H,y)).afQ j b=true↔b∈r.wr∨r.mem.length≤b:=fun b=>by simp[pe,Q]
 have aat:∀b,(pe ops.size bs R (H,y)).afQ j b=false↔b∉r.wr∧b<r.mem.length:=fun b=>by simp[pe,Q]
 have eok:(pe ops.size bs R (H,y)).ok j=iy r.nx.length (VA bs R j):=by funext b;simp[pe,Q]
 have G:∀i k,i<ops.size→(pe ops.size bs R (H,y)).cl i k=bef bs i k:=fun i k hi=>by simp[pe,hi]
 have abE:r.mem.length≤r.nx.length:=by rw[K.agI];exact K.mono
 refine⟨by rw[eEn,ew];exact K.wanted,K.dst,?_,?_,by rw[eE1,eE,ev],?_,?_,by rw[eT,J];exact K.agS,by rw[eT,J];exact K.agT,by rw[L,m];exact K.agI,by rw[J,L];exact abE,
  ?_,?_,?_,?_,?_,?_,?_,?_,?_,?_,S.1,?_⟩
 ·rw[ew,eEn,eT,ev,m];exact K.step
 ·rw[ew,ev,m,eT];exact K.skip
 ·intro t
  rw[eEn,eE,K.en];rcases EM (env:=r.env) (o.looksAt ops) t with⟨W,I⟩ | ⟨W,I⟩
  ·refine .inr ⟨I,fun i U hi G' Y=>?_⟩
   rw[G i j (Array.getElem?_eq_some_iff.1 hi).1,G j i hjs];exact S.2.2 i U t hi G' Y (.inl W)
  ·exact .inl I
 ·intro i U t hi G' W I
  rw[G i j (Array.getElem?_eq_some_iff.1 hi).1,G j i hjs];exact S.2.2 i U t hi G' I (.inr W)
 ·intro b X
  rw[L,m,K.nx b,if_pos ((Zk b).1 X)]
 ·intro b X Y
  rw[J] at X;rw[L,J,K.nx b,if_neg];rw[aat] at Y;rintro (h | h)
  ·exact Y.1 h
  ·omega
 ·intro b X Y hB
  rw[J] at X;rw[m,J];rw[aat] at Y;rw[eT] at hB;exact K.af0 b X Y.1 hB
 ·intro b X
  rw[J] at X;exact(Zk b).2 (.inr X)
 ·intro b Y X
  rw[J] at X;rw[eT];rcases (Zk b).1 Y with h | h
  ·exact C.wr b h
  ·omega
 ·
  intro i U b D Z8 hbi hti hor;obtain⟨V,Z,Ki,hni⟩:=B i U D;have Ci:=hC i V Z;have eMi:(pe ops.size bs R (H,y)).M (i+1)=V.nx:=by simp[pe,hni]
  rw[eMi] at hbi;have acV :b∈V.wr∨V.mem.length≤b:=by simpa [pe,Z] using hti
  rw[L,eT] at hor;rw[G i j (Array.getElem?_eq_some_iff.1 D).1,G j i hjs];by_cases B':i<j
  ·cases X:bef bs i j with
   |true=>exact .inl rfl
   |false=>
    exfalso;obtain⟨p1,p2,p3⟩:=C.ahg i V B' Z X;have hl:=aa2 i j V r U o B' D ho Z Q;have acW:¬ir r.tm b:=by
     rcases acV with h | h
     ·exact p1 b h
     ·exact p3 b h hbi
    rcases hor with⟨g1,g2⟩ | g
    ·rcases (Zk b).1 g2 with h | h
     ·exact acW (C.wr b h)
     ·omega
    ·exact acW g
  ·cases X:bef bs j i with
   |true=>exact .inr rfl
   |false=>
    exfalso;obtain⟨p1,p2,p3⟩:=Ci.ahg j r (by omega) Q X;have hl:=aa2 j i r V o U (by omega) ho D Q Z;have htl:=K.agS;rcases acV with h | h
    ·rcases hor with⟨g1,g2⟩ | g
     ·rcases (Zk b).1 g2 with h' | h'
      ·exact p2 b h (C.wr b h')
      ·exact p3 b h' g1 (Ci.wr b h)
     ·exact p2 b h g
    ·rcases hor with⟨g1,g2⟩ | g
     ·omega
     ·have:=UX g;omega
 ·
  intro i b U D Yf W I;obtain⟨V,Z,Ki,hni⟩:=B i U D;have eMi:(pe ops.size bs R (H,y)).M (i+1)=V.nx:=by simp[pe,hni]
  rw[M_at i V Z] at W;rw[eMi] at I;rw[eok] at Yf;unfold iy at Yf;simp only[Bool.and_eq_true,decide_eq_true_eq,List.all_eq_true,Bool.not_eq_true',decide_eq_false_iff_not] at Yf;by_cases Z8:i=j
  ·exact .inl Z8
  ·refine .inr ?_
   rw[G i j (Array.getElem?_eq_some_iff.1 D).1];by_cases B':i<j
   ·cases X:bef bs i j with
    |true=>rfl
    |false=>
     exfalso;have Y9:(i,V)∈VA bs R j:=by unfold VA;rw[List.mem_filter];have:=mw 0 R i V Z;rw[Nat.zero_add] at this;exact⟨this,by simp[B',X]⟩
     exact Yf.2 (i,V) Y9 ⟨W,I⟩
   ·exfalso
    have hl:=aa2 j i r V o U (by omega) ho D Q Z;omega
 ·rw[ev,eok];exact C.agV
 ·intro b s Y hs
  rw[L] at hs;rw[eok];rcases (Zk b).1 Y with h | h
  ·exact C.ahC b s h hs
  ·exact(C.fresh b s h hs).2
 ·intro b s X hs G'
  rw[J] at X;rw[L] at hs ⊢;exact⟨s,hs,(C.fresh b s X hs).1 G'⟩
 ·intro i X
  simp only[pe,Bool.and_eq_true,decide_eq_true_eq] at X;obtain⟨e,W,I,h3⟩:=S.2.1 i X.1 X.2;refine⟨e,W,I,?_⟩;rcases h3 with h | h
  ·exact .inl h
  ·exact .inr (by simp[pe,X.1,h])
theorem GY(y:P.follows .mixedOrders=true)(hT:cW P T)(H:qS P O){m0:Nat}{s s' :XS}(I:nf ops (dW ops.toList)=true)(h:aK T O N m0 ops s=some s'):
  (∀(tp:Bool) (id:Nat) (Q:Exit→St→Prop),Q .normal ⟨s'.env,s'.mem⟩→AWP P tp N m0 (.region id ops true) ⟨s.env,s.mem⟩ Q)∧Clean m0 s.mem s.afv s'.mem s'.afv:=by
 unfold aK at h;simp only at h
 ·split at h
  ·cases h
  ·rename_i R env mem C
   split at h
   ·rename_i B
    cases h;obtain⟨Z,e,V⟩:=pM H C;simp only[List.reverse_nil,List.nil_append] at e;subst e;have u:∀(j:Nat) r,R[j]? =some r→agj (dW ops.toList) R j r:=by intro j r Y;have:=mw 0 R j r Y;rw[Nat.zero_add] at this;exact Gx (List.all_eq_true.1 B _ this)
    have W:=UR I V u;have D:=wI V;have J:=y8 V;have U:Rf R (env,mem) ops.size=(env,mem):=by unfold Rf;rw[List.getElem?_eq_none (by rw[J];simp)]
    refine⟨fun tp id Q hq=>BW y hT (d:=pe ops.size (dW ops.toList) R (env,mem)) W (by simp[pe,D]) (by simp[pe,D]) (by simp[pe,U]) hq,?_⟩;have S:∀(l:List Oper) (e:Env) (m:Mem) (Z:List Rec),lV P T N ops l e m Z env mem→m0≤m.length→m0≤mem.length∧((Z.any fun r=>r.wr.any fun b=>decide (b<m0))=false→mem.take m0=m.take m0):=by
     intro l;induction l with
     |nil=>
      intro e m Z h X;cases Z with
      |nil=>obtain⟨rfl,rfl⟩:=h;exact⟨X,fun _=>rfl⟩
      |cons=>exact h.elim
     |cons o os ih=>
      intro e m Z h X;cases Z with
      |nil=>exact h.elim
      |cons r Z=>
       obtain⟨rfl,rfl,K,h4⟩:=h;have abE:r.mem.length≤r.nx.length:=by rw[K.agI];exact K.mono
       obtain⟨M,L⟩:=ih _ _ _ h4 (by omega);refine⟨M,fun G=>?_⟩;simp only[List.any_cons,Bool.or_eq_false_iff] at G;rw[L G.2];refine uU X (by omega) fun b hb=>?_
       rw[K.nx b,if_neg];rintro (h | h)
       ·exact mY G.1 hb h
       ·omega
    intro X;obtain⟨M,L⟩:=S _ _ _ _ V X;refine⟨M,fun F=>?_⟩;simp only[Bool.or_eq_false_iff] at F;exact⟨F.1,L F.2⟩
   ·cases h
end
end Go.Eng
namespace Go.Eng
variable{e z':Env}
section
variable {P:Program}{T:TypeId→Option TyI}{lv:Code→List Nat}{O:ae3}{K N m0:Nat}{tp:Bool}
def Xj(P:Program)(tp:Bool)(N m0:Nat)(c:Code)(s:XS)(e:Exit) (s' :XS):Prop:=
 (∀Q:Exit→St→Prop,Q e ⟨s'.env,s'.mem⟩→AWP P tp N m0 c ⟨s.env,s.mem⟩ Q)∧Clean m0 s.mem s.afv s'.mem s'.afv
def afN(wr:List Nat) (e y :Env):Prop:=∀t,t∉wr→ab y t=ab e t
theorem afN.refl(wr:List Nat)(e:Env):afN wr e e:=fun _ _=>rfl
theorem afN.trans{wr:List Nat}{y H I:Env}(h:afN wr y H)(h' :afN wr H I):afN wr y I:=fun t Z=>(h' t Z).trans (h t Z)
theorem afN.mono{wr wr' :List Nat}{y :Env}(h:afN wr e y)(H:∀t,t∈wr→t∈wr'):afN wr' e y :=fun t Z=>h t fun X=>Z (H t X)
theorem iw(a b:Env)(t:Nat)(h:∀e∈a,e.1≠t):ab (a++b) t=ab b t:=by
 induction a with
 |nil=>rfl
 |cons e r ih=>
  obtain⟨k,v⟩:=e;simp only[List.cons_append,ab];rw[if_neg (h (k,v) (by simp))];exact ih fun e Z=>h e (by simp[Z])
theorem gB(l:List Nat)(g:Nat→AV)(b:Env)(t:Nat)(h:t∈l):ab (l.map (fun t=>(t,g t))++b) t=g t:=by
 induction l with
 |nil=>cases h
 |cons x r ih=>
  simp only[List.map_cons,List.cons_append,ab];by_cases Z:x=t
  ·subst Z;rw[if_pos rfl]
  ·rw[if_neg Z]
   exact ih (by cases h with
    |head=>exact absurd rfl Z
    |tail _ h=>exact h)
theorem sI{lv wr:List Nat}{env:Env}(h:afN wr z' env)(t:Nat):ab (ay lv wr z' env) t=ab env t∨ab (ay lv wr z' env) t=.undef:=by
 unfold ay;rw[List.append_assoc];by_cases X:t∈lv
 ·rw[gB lv (fun t=>ab env t) _ t X];exact .inl rfl
 ·rw[iw _ _ t (by intro e Z;simp only[List.mem_map] at Z;obtain⟨x,V,rfl⟩:=Z;intro e;exact X (e▸V))]
  by_cases U:t∈wr
  ·rw[gB (wr.filter fun t=> !lv.contains t) (fun _=>AV.undef) _ t (by rw[List.mem_filter];exact⟨U,by simpa using X⟩)];exact .inr rfl
  ·rw[iw _ _ t (by intro e Z;simp only[List.mem_map,List.mem_filter] at Z;obtain⟨x,V,rfl⟩:=Z;intro e;exact U (e▸V.1))]
   exact .inl (h t U).symm
theorem nP{lv wr:List Nat}{env:Env}(y:afN wr z' env):afN wr z' (ay lv wr z' env):=by
 intro t V;unfold ay;rw[List.append_assoc];by_cases U:t∈lv
 ·rw[gB lv (fun t=>ab env t) _ t U];exact y t V
 ·rw[iw _ _ t (by intro e Z;simp only[List.mem_map] at Z;obtain⟨x,X,rfl⟩:=Z;intro e;exact U (e▸X)),
   iw _ _ t (by intro e Z;simp only[List.mem_map,List.mem_filter] at Z;obtain⟨x,X,rfl⟩:=Z;intro e;exact V (e▸X.1))]
theorem CV{wr:List Nat}{o:Oper}{v:AV}(h:∀d,o.dst=some d→d∈wr):afN wr e (afX e o.dst v):=by intro t Z;exact Ll fun X=>Z (h t X)
theorem pL{m0:Nat}{ops:Array Oper}:∀{l:List Oper}{s s' :XS},dx T O N m0 ops l s=some s' →afN (l.filterMap (·.dst)) s.env s'.env
 | [],s,s',h=>by cases h;exact .refl _ _
 |o::os,s,s',h=>by
  have X:∀t,t∈os.filterMap (·.dst)→t∈(o::os).filterMap (·.dst):=fun t V=>by
   rw[List.filterMap_cons];split
   ·exact V
   ·exact List.mem_cons_of_mem _ V
  have Z:∀d,o.dst=some d→d∈(o::os).filterMap (·.dst):=fun d Z=>by rw[List.filterMap_cons];simp[Z]
  unfold dx at h;split at h
  ·split at h
   ·split at h
    ·exact(CV Z).trans ((pL h).mono X)
    ·cases h
   ·exact(CV Z).trans ((pL h).mono X)
   ·cases h
  ·cases h
theorem LI{ops:Array Oper}:∀{l:List Oper} {env:Env} {mem:Mem} {R:List Rec}{H :Env}{y :Mem},lV P T N ops l env mem R H y →afN (l.filterMap (·.dst)) env H
 | [],_,_,[],_,_,h=>by obtain⟨rfl,_⟩:=h;exact .refl _ _
 |o::os,_,_,r::rs,_,_,h=>by
  obtain⟨rfl,_,_,V⟩:=h;have U:∀t,t∈os.filterMap (·.dst)→t∈(o::os).filterMap (·.dst):=fun t X=>by
   rw[List.filterMap_cons];split
   ·exact X
   ·exact List.mem_cons_of_mem _ X
  have Z:∀d,o.dst=some d→d∈(o::os).filterMap (·.dst):=fun d Z=>by rw[List.filterMap_cons];simp[Z]
  exact(CV Z).trans ((LI V).mono U)
 | [],_,_,_::_,_,_,h=>h.elim
 |_::_,_,_,[],_,_,h=>h.elim
theorem LP(y:qS P O){m0:Nat}{ops:Array Oper}{s s' :XS}(h:aK T O N m0 ops s=some s'):afN (ops.toList.filterMap (·.dst)) s.env s'.env:=by
 unfold aK at h;simp only at h;split at h
 ·cases h
 ·rename_i R env mem Z
  split at h
  ·cases h
   obtain⟨V,e,X⟩:=pM y Z;exact LI X
  ·cases h
mutual
theorem ae5.refs{μ:Nat→Place}{n:Nat}:∀{v V},ae5 μ n v V→v.refs n=[]
 |.undef,_,_=>rfl
 |.bool _,_,_=>rfl
 |.int _ _,_,_=>rfl
 |.str _,_,_=>rfl
 |.ptr b o,V,h=>by simp only[ae5] at h;simp[AV.refs,h.1]
 |.afk,_,_=>rfl
 |.slice b o l c,V,h=>by simp only[ae5] at h;simp[AV.refs,h.1]
 |.qF,_,_=>rfl
 |.map b,V,h=>by simp only[ae5] at h;simp[AV.refs,h.1]
 |.yield b,V,h=>by simp only[ae5] at h;simp[AV.refs,h.1]
 |.aft,_,_=>rfl
 |.func f Z,V,h=>by simp only[ae5] at h;obtain⟨X,_,h⟩:=h;simp[AV.refs,ae7.refs h]
 |.nilFunc,_,_=>rfl
 |.iface t v,V,h=>by simp only[ae5] at h;obtain⟨U,_,h⟩:=h;simp[AV.refs,ae5.refs h]
 |.nilIface,_,_=>rfl
 |.agg Z,V,h=>by simp only[ae5] at h;obtain⟨X,_,h⟩:=h;simp[AV.refs,ae7.refs h]
 |.tuple Z,V,h=>by simp only[ae5] at h;obtain⟨X,_,h⟩:=h;simp[AV.refs,ae7.refs h]
theorem ae7.refs{μ:Nat→Place}{n:Nat}:∀{vs Us},ae7 μ n vs Us→AV.afm n vs=[]
 | [],_,_=>rfl
 |v::vs,_,h=>by simp only[ae7] at h;obtain⟨U,V,_,Z,X⟩:=h;simp[AV.afm,ae5.refs Z,ae7.refs X]
end
mutual
theorem AV.afn{y:Nat}{ks:List Nat}:∀{v:AV},v.refs y=[]→v.ren (rho y ks)=v
 |.undef,_=>rfl
 |.bool _,_=>rfl
 |.int _ _,_=>rfl
 |.str _,_=>rfl
 |.ptr b o,h=>by
  have Z:b<y:=by
   by_cases Z:b<y
   ·exact Z
   ·simp[AV.refs,Z] at h
  simp[AV.ren,rho,Z]
 |.afk,_=>rfl
 |.slice b o l c,h=>by
  have Z:b<y:=by
   by_cases Z:b<y
   ·exact Z
   ·simp[AV.refs,Z] at h
  simp[AV.ren,rho,Z]
 |.qF,_=>rfl
 |.map b,h=>by
  have Z:b<y:=by
   by_cases Z:b<y
   ·exact Z
   ·simp[AV.refs,Z] at h
  simp[AV.ren,rho,Z]
 |.yield b,h=>by
  have Z:b<y:=by
   by_cases Z:b<y
   ·exact Z
   ·simp[AV.refs,Z] at h
  simp[AV.ren,rho,Z]
 |.aft,_=>rfl
 |.func f X,h=>by simp only[AV.refs] at h;simp[AV.ren,AV.afO h]
 |.nilFunc,_=>rfl
 |.iface t v,h=>by simp only[AV.refs] at h;simp[AV.ren,AV.afn h]
 |.nilIface,_=>rfl
 |.agg X,h=>by simp only[AV.refs] at h;simp[AV.ren,AV.afO h]
 |.tuple X,h=>by simp only[AV.refs] at h;simp[AV.ren,AV.afO h]
theorem AV.afO{y:Nat}{ks:List Nat}:∀{vs:List AV},AV.afm y vs=[]→AV.afp (rho y ks) vs=vs
 | [],_=>rfl
 |v::vs,h=>by simp only[AV.afm,List.append_eq_nil_iff] at h;simp[AV.afp,AV.afn h.1,AV.afO h.2]
end
variable{ks:List Nat}{m1:Nat}
theorem afb.afn{s:afb}(h:s.refs m1=[]):s.ren (rho m1 ks)=s:=by
 cases s with
 |qK=>rfl
 |cells own es cs=>simp only[afb.refs] at h;simp only[afb.ren,AV.afO h]
 |map es=>
  simp only[afb.refs,List.flatMap_eq_nil_iff] at h;simp only[afb.ren];congr 1;conv=>rhs;rw[←List.map_id es]
  apply List.map_congr_left;intro e Z;have:=h e Z;rw[List.append_eq_nil_iff] at this;rw[AV.afn this.1,AV.afn this.2];rfl
 |afH es=>
  simp only[afb.refs,List.flatMap_eq_nil_iff] at h;simp only[afb.ren];congr 1;conv=>rhs;rw[←List.map_id es]
  apply List.map_congr_left;intro e Z;have:=h e Z;rw[List.append_eq_nil_iff] at this;rw[AV.afn this.1,AV.afn this.2];rfl
 |loop r=>
  simp only[afb.refs,List.flatMap_eq_nil_iff] at h;simp only[afb.ren,rW];congr 1;have:r.env.map (fun e=>(e.1,e.2.ren (rho m1 ks)))=r.env:=by
   conv=>rhs;rw[←List.map_id r.env]
   apply List.map_congr_left;intro e Z;rw[AV.afn (h e Z)];rfl
  rw[this]
variable{Q:Exit→St→Prop}
theorem AWP.assume{c:Code}{y:St}(h:m0≤y.mem.length→(∀t,(ab y.env t).refs y.mem.length=[])→AWP P tp N m0 c y Q):AWP P tp N m0 c y Q:=
 fun ro h0 base μ w a Zf h1 h2 h3 h4 h5=>h h5 (fun t=>(h2 t).refs) ro h0 base μ w a Zf h1 h2 h3 h4 h5
theorem KL{mem:Mem}(h:(mem.take m1).all (fun s=>(s.refs m1).isEmpty)=true):afg m1 ks mem=mem.take m1++af0 m1 ks mem:=by
 unfold afg;congr 1;conv=>rhs;rw[←List.map_id (mem.take m1)]
 apply List.map_congr_left;intro s Z;have:=List.all_eq_true.1 h s Z;rw[List.isEmpty_iff] at this;rw[afb.afn this];rfl
variable{lw:List Nat}
section
variable{wr:List Nat}
include wr
theorem sJ{g:Nat→AV}(t:Nat):
  ab ((lw.filter fun t=>wr.contains t).map (fun t=>(t,g t))++((wr.filter fun t=> !lw.contains t).map fun t=>(t,AV.undef))++z') t=
   if t∈wr then (if t∈lw then g t else .undef) else ab z' t:=by
 rw[List.append_assoc];by_cases X:t∈wr
 ·by_cases V:t∈lw
  ·rw[if_pos X,if_pos V]
   exact gB _ g _ t (by rw[List.mem_filter];exact⟨V,by simpa using X⟩)
  ·rw[if_pos X,if_neg V,iw _ _ t (by intro e Z;simp only[List.mem_map,List.mem_filter] at Z;obtain⟨x,U,rfl⟩:=Z;intro e;exact V (e▸U.1))]
   exact gB (wr.filter fun t=> !lw.contains t) (fun _=>AV.undef) _ t (by rw[List.mem_filter];exact⟨X,by simpa using V⟩)
 ·rw[if_neg X,iw _ _ t (by intro e Z;simp only[List.mem_map,List.mem_filter] at Z;obtain⟨x,U,rfl⟩:=Z;intro e;exact X (e▸by simpa using U.2)),
   iw _ _ t (by intro e Z;simp only[List.mem_map,List.mem_filter] at Z;obtain⟨x,U,rfl⟩:=Z;intro e;exact X (e▸U.1))]
theorem Ra{s:XS}(h:afN wr z' s.env):afN wr z' (Lv lw wr z' m1 s).env:=by
 unfold Lv;simp only;split
 ·intro t Z
  simp only;rw[sJ,if_neg Z]
 ·exact nP h
theorem E4{s:XS}(h:afN wr z' s.env):afN wr z' (uO lw wr z' m1 s).env:=by
 unfold uO;split
 ·exact nP h
 ·simp only
  split
  ·intro t Z
   simp only;rw[sJ,if_neg Z]
  ·split
   ·exact Ra h
   ·exact nP h
theorem NN{s:XS}(y:m0≤m1):Clean m0 s.mem s.afv (uO lw wr z' m1 s).mem (uO lw wr z' m1 s).afv:=by
 unfold uO;split
 ·exact .refl _ _ _
 ·rename_i Z
  have Z:=fun h=>Z (.inr h)
  simp only;split
  ·intro h
   refine⟨by simp only[List.length_append,List.length_take];omega,fun e=>⟨e,?_⟩⟩;simp only;rw[List.take_append_of_le_length (by simp only[List.length_take];omega),List.take_take];congr 1;omega
  ·split
   ·unfold Lv
    simp only;split
    ·intro h
     exact⟨by show m0≤(afg m1 _ s.mem).length;rw[ff (by omega)];omega,fun e=>by cases e⟩
    ·exact .refl _ _ _
   ·exact .refl _ _ _
theorem Rp{s:XS}(h:afN wr z' s.env)(h0:∀t,(ab z' t).refs m1=[])(y:m0≤m1)(H:m1≤s.mem.length):
  af2 m0 ⟨s.env,s.mem⟩ ⟨(Lv lw wr z' m1 s).env,(Lv lw wr z' m1 s).mem⟩:=by
 unfold Lv;simp only;split
 ·rename_i V
  obtain⟨ks,U⟩:=xE (qf m1 s.mem 1000 ((lw.flatMap fun t=>(ab s.env t).refs m1)++(s.mem.take m1).flatMap (afb.refs m1)) []);rw[←U] at V ⊢;have S:af2 m0 ⟨s.env,s.mem⟩ ⟨rW (rho m1 ks) s.env,afg m1 ks s.mem⟩:=by intro base μ w tmps Z X h3;obtain⟨μ1,R,M,L,G⟩:=af2.afg (env:=s.env) _ V base μ w tmps Z X H;exact⟨μ1,R,M,Nat.le_trans y L,G.mono y⟩
  refine S.trans (af2.env fun t=>?_);rw[sJ,ix];by_cases Z:t∈wr
  ·rw[if_pos Z]
   by_cases X:t∈lw
   ·rw[if_pos X];exact .inl rfl
   ·rw[if_neg X];exact .inr rfl
  ·rw[if_neg Z,h t Z,AV.afn (h0 t)];exact .inl rfl
 ·exact af2.env fun t=>sI h t
theorem Rq{s:XS}(h:afN wr z' s.env)(h0:∀t,(ab z' t).refs m1=[])(y:m0≤m1):
  af2 m0 ⟨s.env,s.mem⟩ ⟨(uO lw wr z' m1 s).env,(uO lw wr z' m1 s).mem⟩:=by
 unfold uO;split
 ·exact af2.env fun t=>sI h t
 ·rename_i U
  have U:=fun h=>U (.inr h)
  simp only;split
  ·rename_i S
   rw[Bool.and_eq_true] at S;obtain⟨M,L⟩:=S;have R:af2 m0 ⟨s.env,s.mem⟩ ⟨rW (rho m1 (qf m1 s.mem 1000 (lw.flatMap fun t=>(ab s.env t).refs m1) [])) s.env,afg m1 (qf m1 s.mem 1000 (lw.flatMap fun t=>(ab s.env t).refs m1) []) s.mem⟩:=by
    intro base μ w tmps Z X h3;have V :m1≤s.mem.length:=by omega
    obtain⟨μ1,G,F,D,C⟩:=af2.afg (env:=s.env) _ M base μ w tmps Z X V;exact⟨μ1,G,F,Nat.le_trans y D,C.mono y⟩
   rw[KL L] at R;refine R.trans (af2.env fun t=>?_);rw[sJ,ix];by_cases Z:t∈wr
   ·rw[if_pos Z]
    by_cases X:t∈lw
    ·rw[if_pos X];exact .inl rfl
    ·rw[if_neg X];exact .inr rfl
   ·rw[if_neg Z,h t Z,AV.afn (h0 t)];exact .inl rfl
  ·split
   ·exact Rp h h0 y (by omega)
   ·exact af2.env fun t=>sI h t
end
variable{f:XS→Option (Exit×XS)}
theorem SS{b:Code}(hf:∀s e s',f s=some (e,s')→afN (ad b) s.env s'.env):
  ∀(k:Nat) (s:XS) (e:Exit) (s' :XS),afN (ad b) z' s.env→gi lw (ad b) z' m1 f k s=some (e,s')→afN (ad b) z' s'.env:=by
 intro k;induction k with
 |zero=>intro s e s' _ h;cases h
 |succ k ih=>
  intro s e s' Z h;unfold gi at h;split at h
  ·rename_i V X
   exact ih _ _ _ (E4 (Z.trans (hf _ _ _ X))) h
  ·exact Z.trans (hf _ _ _ h)
theorem QT{b:Code}(hf:∀s e s',f s=some (e,s')→Xj P tp N m0 b s e s')(y:m0≤m1):
  ∀(k:Nat) (s:XS) (e:Exit) (s' :XS),gi lw (ad b) z' m1 f k s=some (e,s')→Clean m0 s.mem s.afv s'.mem s'.afv:=by
 intro k;induction k with
 |zero=>intro s e s' h;cases h
 |succ k ih=>
  intro s e s' h;unfold gi at h;split at h
  ·rename_i V Z
   obtain⟨_,X⟩:=hf _ _ _ Z;exact(X.trans (NN y)).trans (ih _ _ _ h)
  ·exact(hf _ _ _ h).2
theorem QU{b:Code}(hf:∀s e s',f s=some (e,s')→Xj P tp N m0 b s e s' ∧afN (ad b) s.env s'.env)(h0:∀t,(ab z' t).refs m1=[])(H:m0≤m1)(k:Nat)(s:XS)(e:Exit)(s' :XS)(y:afN (ad b) z' s.env)(h:gi lw (ad b) z' m1 f k s=some (e,s'))(hq:Q e ⟨s'.env,s'.mem⟩):AWP P tp N m0 (.loop b) ⟨s.env,s.mem⟩ Q:=by
 refine UT (σ:=Nat) (fun k S=>∃s,S=⟨s.env,s.mem⟩∧afN (ad b) z' s.env∧gi lw (ad b) z' m1 f k s=some (e,s')) id (s:=k) ⟨s,rfl,y,h⟩ ?_;rintro k S ⟨s,rfl,y,hk⟩;cases k with
 |zero=>cases hk
 |succ k=>
  unfold gi at hk;split at hk
  ·rename_i X M
   obtain⟨⟨L,_⟩,R⟩:=hf _ _ _ M;refine AWP.ahx (L (fun e Z=>e=.normal∧Z=⟨X.env,X.mem⟩) ⟨rfl,rfl⟩) ?_;rintro V Z ⟨rfl,rfl⟩;exact⟨⟨(uO lw (ad b) z' m1 X).env,(uO lw (ad b) z' m1 X).mem⟩,Rq (y.trans R) h0 H,k,⟨_,rfl,E4 (y.trans R),hk⟩,Nat.lt_succ_self k⟩
  ·rename_i G
   have U :e≠ .normal:=by rintro rfl;exact G s' hk
   refine((hf _ _ _ hk).1.1 (fun V Z=>V=e∧Z=⟨s'.env,s'.mem⟩) ⟨rfl,rfl⟩).mono ?_;rintro V Z ⟨rfl,rfl⟩;cases V<;>first | exact absurd rfl U | exact hq
theorem fv(H:qS P O):∀{c:Code} {s:XS} {e:Exit}{s' :XS},bh T lv O K N m0 tp c s=some (e,s')→afN (ad c) s.env s'.env
 |.skip,s,e,s',h=>by simp only[bh,Option.some.injEq,Prod.mk.injEq] at h;obtain⟨_,rfl⟩:=h;exact .refl _ _
 |.exit id,s,e,s',h=>by simp only[bh,Option.some.injEq,Prod.mk.injEq] at h;obtain⟨_,rfl⟩:=h;exact .refl _ _
 |.ret,s,e,s',h=>by simp only[bh,Option.some.injEq,Prod.mk.injEq] at h;obtain⟨_,rfl⟩:=h;exact .refl _ _
 |.region id ops false,s,e,s',h=>by
  unfold bh at h;split at h
  next V X=>cases h;exact pL X
  ·cases h
 |.region id ops true,s,e,s',h=>by
  unfold bh at h;split at h
  next V X=>cases h;exact LP H X
  ·cases h
 |.seq x y,s,e,s',h=>by
  unfold bh at h;split at h
  ·rename_i V X
   exact((fv H X).mono fun t Z=>by simp[ad,Z]).trans ((fv H h).mono fun t Z=>by simp[ad,Z])
  ·exact(fv H h).mono fun t Z=>by simp[ad,Z]
 |.cond c x y,s,e,s',h=>by
  unfold bh at h;split at h
  ·exact(fv H h).mono fun t Z=>by simp[ad,Z]
  ·exact(fv H h).mono fun t Z=>by simp[ad,Z]
  ·cases h
 |.block id b,s,e,s',h=>by
  show afN (ad b) s.env s'.env
  unfold bh at h;split at h
  ·rename_i i V X
   split at h
   ·cases h;exact fv H X
   ·cases h;exact fv H X
  ·exact fv H h
 |.loop b,s,e,s',h=>by
  show afN (ad b) s.env s'.env
  unfold bh at h;exact SS (fun s e s' h=>fv H h) _ _ _ _ (nP (.refl _ _)) h
 |.rangeFunc g ps X' body,s,e,s',h=>by
  unfold bh at h;split at h
  ·split at h
   ·split at h
    ·simp only at h
     split at h
     ·split at h
      ·cases h
      ·split at h
       ·cases h;exact .refl _ _
       ·cases h
     ·cases h
    ·cases h
   ·cases h
  ·cases h
 |.label _,s,e,s',h=>by cases h
 |.goto _,s,e,s',h=>by cases h
 |.scope _,s,e,s',h=>by cases h
 |.refuse _,s,e,s',h=>by cases h
theorem dp(I:P.follows .mixedOrders=true)(hT:cW P T)(H:qS P O):∀{c:Code} {s:XS} {e:Exit}{s' :XS},cK c=true→bh T lv O K N m0 tp c s=some (e,s')→Xj P tp N m0 c s e s'
 |.skip,s,e,s',UV,h=>by simp only[bh,Option.some.injEq,Prod.mk.injEq] at h;obtain⟨rfl,rfl⟩:=h;exact⟨fun Q Z=>UU Z,.refl _ _ _⟩
 |.exit id,s,e,s',UV,h=>by simp only[bh,Option.some.injEq,Prod.mk.injEq] at h;obtain⟨rfl,rfl⟩:=h;exact⟨fun Q Z=>US Z,.refl _ _ _⟩
 |.ret,s,e,s',UV,h=>by simp only[bh,Option.some.injEq,Prod.mk.injEq] at h;obtain⟨rfl,rfl⟩:=h;exact⟨fun Q Z=>V5 Z,.refl _ _ _⟩
 |.region id ops false,s,e,s',UV,h=>by
  unfold bh at h;split at h
  ·rename_i R U
   cases h;obtain⟨X,V⟩:=kf H U;exact⟨fun Q Z=>QD hT X Z,V⟩
  ·cases h
 |.region id ops true,s,e,s',UV,h=>by
  unfold bh at h;split at h
  ·rename_i R U
   cases h;obtain⟨X,V⟩:=GY I hT H UV U;exact⟨fun Q Z=>X tp id Q Z,V⟩
  ·cases h
 |.seq x y,s,e,s',UV,h=>by
  unfold bh at h;split at h
  ·rename_i R U
   simp only[cK,Bool.and_eq_true] at UV;obtain⟨X,V⟩:=dp I hT H UV.1 U;obtain⟨W,J⟩:=dp I hT H UV.2 h;exact⟨fun Q Z=>xM (X _ (W Q Z)),V.trans J⟩
  ·rename_i M
   simp only[cK,Bool.and_eq_true] at UV;obtain⟨X,V⟩:=dp I hT H UV.1 h;refine⟨fun Q Z=>xM (X _ ?_),V⟩;cases e<;>first | exact absurd h (M s') | exact Z
 |.cond c x y,s,e,s',UV,h=>by
  unfold bh at h;split at h
  ·rename_i L
   simp only[cK,Bool.and_eq_true] at UV;obtain⟨X,V⟩:=dp I hT H UV.1 h;exact⟨fun Q Z=>OC L (fun _=>X Q Z) (fun e=>by cases e),V⟩
  ·rename_i L
   simp only[cK,Bool.and_eq_true] at UV;obtain⟨X,V⟩:=dp I hT H UV.2 h;exact⟨fun Q Z=>OC L (fun e=>by cases e) (fun _=>X Q Z),V⟩
  ·cases h
 |.block id b,s,e,s',UV,h=>by
  unfold bh at h;split at h
  ·rename_i i R U
   obtain⟨X,V⟩:=dp I hT H (by simpa only[cK] using UV) U;split at h
   ·rename_i G
    cases h;exact⟨fun Q Z=>BV (X _ (by simp only[OF];rw[if_pos G];exact Z)),V⟩
   ·rename_i G
    cases h;exact⟨fun Q Z=>BV (X _ (by simp only[OF];rw[if_neg G];exact Z)),V⟩
  ·rename_i M
   obtain⟨X,V⟩:=dp I hT H (by simpa only[cK] using UV) h;refine⟨fun Q Z=>BV (X _ ?_),V⟩;cases e<;>first | exact absurd h (M _ s') | exact Z
 |.loop b,s,e,s',UV,h=>by
  unfold bh at h;have B:∀s e s',bh T lv O K N m0 tp b s=some (e,s')→Xj P tp N m0 b s e s' ∧afN (ad b) s.env s'.env:=fun s e s' h=>⟨dp I hT H (by simpa only[cK] using UV) h,fv H h⟩
  refine⟨fun Q Z=>AWP.assume fun S F=>UW (af2.env fun t=>sI (.refl _ _) t) (QU B F S _ _ _ _ (nP (.refl _ _)) h Z),fun S=>?_⟩;exact QT (fun s e s' h=>(B s e s' h).1) S _ ⟨ay (lv b) (ad b) s.env s.env,s.mem,s.afv⟩ _ _ h S
 |.rangeFunc g ps X' body,s,e,s',UV,h=>by
  unfold bh at h;split at h
  ·rename_i D
   subst D;split at h
   ·rename_i f u hg
    split at h
    ·rename_i r o
     simp only at h;split at h
     ·rename_i r2 YB
      split at h
      ·cases h
      ·rename_i j
       split at h
       ·rename_i e1 F
        cases h;have Y:=ye H o;refine⟨fun Q Z=>Gq hg ((H.fn _ _ _ _ o).mono ?_),fun S=>⟨?_,fun C=>?_⟩⟩
        ·rintro v m ⟨rfl,rfl⟩
         exact⟨r2,e,YB,fun e=>j (by rw[e];rfl),F,Z⟩
        ·simp only[List.length_set]
         simp only[List.length_append] at Y;omega
        ·simp only[Bool.or_eq_false_iff,Option.isSome_eq_false_iff,Option.isNone_iff_eq_none] at C
         refine⟨C.1,uU S ?_ fun b j=>?_⟩
         ·simp only[List.length_set]
          simp only[List.length_append] at Y;omega
         ·have Yd :b<s.mem.length:=by omega
          show((r.mem _).set s.mem.length _)[b]? =_
          rw[List.getElem?_set_ne (by omega)];unfold y9.mem;rw[C.2];simp only[Option.getD_none];rw[List.append_assoc,List.getElem?_append_left Yd]
       ·cases h
     ·cases h
    ·cases h
   ·cases h
  ·cases h
 |.label _,s,e,s',UV,h=>by cases h
 |.goto _,s,e,s',UV,h=>by cases h
 |.scope _,s,e,s',UV,h=>by cases h
 |.refuse _,s,e,s',UV,h=>by cases h
structure agp (P:Program)(G:FuncId→Option Func):Prop where
 fn:∀f fn,G f=some fn→P.funcs[f]? =some fn∧(fn.name == "runtime.NumGoroutine")=false∧∀c,fn.body=some c→cK c=true
section
variable (hm:P.follows .mixedOrders=true)(hT:cW P T)(hO:qS P O)
include hm hT hO
theorem ar{G:FuncId→Option Func}(y:agp P G){f:FuncId}{args:List AV}{mem:Mem}{r:y9}(h:aa T lv G O K f args mem=some r):kO P f args mem r.v (r.mem mem)∧∀p,r.pre=some p→p.length=mem.length:=by
 unfold aa at h;split at h
 ·cases h
 ·rename_i fn U
  obtain⟨L,F,g3⟩:=y.fn _ _ U;split at h
  ·cases h
  ·rename_i c S
   split at h
   ·rename_i D
    split at h
    ·rename_i e s u
     obtain⟨C,o⟩:=dp hm hT hO (g3 c S) u;obtain⟨Y,m⟩:=o (Nat.le_refl _);have Z:(e=.normal∨e=.ret)→(match jg T fn.results.toList s.env s.mem with
      |some v=>
       let m0:=mem.length
       if s.afv then
        let ks:=qf m0 s.mem 1000 (v.refs m0++(s.mem.take m0).flatMap (afb.refs m0)) []
        if Ed m0 s.mem.length ks then
         some ⟨v.ren (rho m0 ks),some ((s.mem.take m0).map (afb.ren (rho m0 ks))),af0 m0 ks s.mem⟩
        else none
       else
        let ks:=qf m0 s.mem 1000 (v.refs m0) []
        if Ed m0 s.mem.length ks then
         some ⟨v.ren (rho m0 ks),none,af0 m0 ks s.mem⟩
        else none
      |none=>none:Option y9)=some r→kO P f args mem r.v (r.mem mem)∧∀p,r.pre=some p→p.length=mem.length:=by
      intro X h;split at h
      ·rename_i v B
       simp only at h;split at h
       ·split at h
        ·rename_i R
         cases h;refine⟨afJ.intro hT L S F D (C _ ⟨X,v,B,_,R,.inr ⟨rfl,rfl⟩⟩),fun p M=>?_⟩;cases M;simp only[List.length_map,List.length_take];omega
        ·cases h
       ·rename_i j
        split at h
        ·rename_i R
         cases h;have V :=(m (by simpa using j)).2;rw[List.take_of_length_le (Nat.le_refl _)] at V;exact⟨afJ.intro hT L S F D (C _ ⟨X,v,B,_,R,.inl ⟨V,rfl,rfl⟩⟩),fun p M=>by cases M⟩
        ·cases h
      ·cases h
     split at h
     ·exact Z (.inl rfl) h
     ·exact Z (.inr rfl) h
     ·cases h
    ·cases h
   ·cases h
theorem pd{b:Nat}{args:List AV}{mem:Mem}{r:y9}(h:xO T lv O K b args mem=some r):fN P b args mem r.v (r.mem mem)∧∀p,r.pre=some p→p.length=mem.length:=by
 unfold xO at h;split at h
 ·rename_i H X
  split at h
  ·rename_i V
   simp only[Bool.and_eq_true,decide_eq_true_eq,List.all_eq_true] at V;obtain⟨⟨⟨⟨U,S⟩,R⟩,M⟩,L⟩:=V;have Z:∀{x:LoopState},(x== .ready)=true→x=.ready:=fun {x} h=>by cases x<;>first | rfl | cases h
   split at h
   ·rename_i y G
    obtain⟨F,D⟩:=dp hm hT hO M G;split at h
    ·rename_i r1 C
     split at h
     ·rename_i B
      split at h
      ·rename_i e s2 u
       obtain⟨o,m⟩:=dp hm hT hO L u;split at h
       ·rename_i j r2 Y W
        simp only at h;split at h
        ·rename_i J
         cases h;obtain⟨d1,_⟩:=D (Nat.le_refl _);obtain⟨d2,_⟩:=m (by simpa using d1);refine⟨afT.intro X (Z U) S R (F _ ⟨rfl,r1,C,Z B,o _ ⟨r2,j,_,Y,W,J,rfl,rfl⟩⟩),fun p I=>?_⟩;cases I;simp only[List.length_map,List.length_take,List.length_set];omega
        ·cases h
       ·cases h
      ·cases h
     ·cases h
    ·cases h
   ·cases h
  ·cases h
 ·cases h
end
theorem pc(y:P.follows .mixedOrders=true)(hT:cW P T){G:FuncId→Option Func}(I:agp P G)(H:qS P O):∀n,qS P (DZ T lv G O K n)
 |0=>H
 |n+1=>by
  have V:=pc y hT I H n;have X:∀c Z mem r,DZ T lv G O K (n+1) c Z mem=some r→O c Z mem=some r∨(match c with
   |.fn f=>aa T lv G (DZ T lv G O K n) K f Z mem
   |.yld b=>xO T lv (DZ T lv G O K n) K b Z mem)=some r:=by
   intro c Z mem r h;unfold DZ at h;split at h
   next R S=>cases h;exact .inl S
   ·exact .inr h
  refine⟨fun f Z mem r h=>?_,fun b Z mem r h=>?_,fun c Z mem r p h U=>?_⟩
  ·rcases X _ _ _ _ h with h | h
   ·exact H.fn _ _ _ _ h
   ·exact(ar y hT V I h).1
  ·rcases X _ _ _ _ h with h | h
   ·exact H.yld _ _ _ _ h
   ·exact(pd y hT V h).1
  ·rcases X _ _ _ _ h with h | h
   ·exact H.pre _ _ _ _ _ h U
   ·cases c with
    |fn f=>exact(ar y hT V I h).2 p U
    |yld b=>exact(pd y hT V h).2 p U
end
end Go.Eng
namespace Go.Eng
def ba(P:Program)(t:TypeId):Option TyI:=
 match P.info? t,P.underlying t with
 |some i,some d=>match i.zero with
  |some z=>if z.cells.size=i.size then some ⟨d,i.size,i.bytes,z,!P.stoodInHeld t&& !P.eqGuardType P.depth t⟩ else none
  |none=>none
 |_,_=>none
theorem aI(P:Program):cW P (ba P):=by
 intro t i h;unfold ba at h;split at h
 ·rename_i f d X V
  split at h
  ·rename_i z U
   split at h
   ·rename_i S
    cases h;refine⟨V,⟨f,X,rfl,rfl,U⟩,S,fun Z=>?_⟩;simp only[Bool.and_eq_true,Bool.not_eq_true'] at Z;exact Z
   ·cases h
  ·cases h
 ·cases h
def aT(P:Program)(f:FuncId):Option Func:=match P.funcs[f]? with
 |some fn=>if fn.name == "runtime.NumGoroutine" then none else match fn.body with
  |some c=>if cK c then some fn else none
  |none=>some fn
 |none=>none
theorem aP(P:Program):agp P (aT P):=by
 refine⟨fun f fn h=>?_⟩;unfold aT at h;split at h
 ·rename_i S V
  split at h
  ·cases h
  ·rename_i U
   split at h
   ·rename_i c X
    split at h
    ·rename_i R
     cases h;refine⟨V,by simpa using U,fun Q Z=>?_⟩;rw[X] at Z;cases Z;exact R
    ·cases h
   ·rename_i X
    cases h;refine⟨V,by simpa using U,fun Q Z=>?_⟩;rw[X] at Z;cases Z
 ·cases h
def cN:ae3:=fun _ _ _=>none
theorem ax(P:Program):qS P cN:=⟨(fun _ _ _ _ h=>by cases h),(fun _ _ _ _ h=>by cases h),(fun _ _ _ _ _ h=>by cases h)⟩
structure afy (w w' :World):Prop where
 size:w.heap.size≤w'.heap.size
 heap:∀k,k<w.heap.size→w'.heap[k]? =w.heap[k]?
 os:w'.os=w.os
 tape:w'.tape=w.tape
 output:w'.output=w.output
 drawn:w.drawn≤w'.drawn
section
variable {P:Program}{μ:Nat→Place}{mem:Mem}{base:Nat}{w w' :World}
theorem afy.refl(w:World):afy w w:=⟨Nat.le_refl _,fun _ _=>rfl,rfl,rfl,rfl,Nat.le_refl _⟩
theorem afy.ahG(h:afy w w')(y:afj base μ mem w):afj base μ mem w' :=by refine⟨Nat.le_trans y.afe h.size,fun b s Z=>?_,y.sep⟩;exact(y.slot b s Z).mono (Nat.le_refl _) (fun _ _=>rfl) fun X=>h.heap _ ((y.slot b s Z).afR X)
theorem afy.step(h:afy w w'){m0:Nat}(y:m0≤mem.length):Step m0 μ mem w μ mem w' :=
 ⟨y,fun _ _=>rfl,h.os,h.tape,h.output,h.size,fun k Z _=>h.heap k Z,fun b X _=>⟨b,X,rfl⟩,h.drawn⟩
theorem kO.afL{f:FuncId}{args:List AV}{Vs:List Value}{v:AV}{V:Value}(hf:TZ P f)(y:∀μ n Us,ae7 μ n args Us→Us=Vs)(H:∀μ n,ae5 μ n v V)(h:∀base w,GOk P base w→Calls P f ⟨Vs⟩ w fun e w' =>e=.returned V∧afy w w')(mem:Mem):kO P f args mem v mem:=by refine⟨hf,fun base μ w Us hG hH hV=>?_⟩;rw[y _ _ _ hV];refine(h base w hG).mono ?_;rintro e w' ⟨rfl,hg⟩;exact⟨V,v,mem,μ,rfl,H _ _,hg.ahG hH,hg.step (Nat.le_refl _),rfl,rfl⟩
theorem afy.grow(w:World)(k:Nat)(os:Array Obj):afy w { w with heap:=w.heap++os,drawn:=w.drawn+k }:=by
 refine⟨by simp,fun i Z=>?_,rfl,rfl,rfl,Nat.le_add_right _ _⟩;show(w.heap++os)[i]? =_
 rw[Array.getElem?_append_left Z]
mutual
def AV.closed:AV→Bool
 |.ptr _ _=>false
 |.slice _ _ _ _=>false
 |.map _=>false
 |.yield _=>false
 |.func _ Z=>AV.ae8 Z
 |.iface _ v=>v.closed
 |.agg Z=>AV.ae8 Z
 |.tuple Z=>AV.ae8 Z
 |_=>true
def AV.ae8:List AV→Bool
 | []=>true
 |v::vs=>v.closed&&AV.ae8 vs
end
mutual
theorem ae5.closed{μ μ' :Nat→Place}{n n' :Nat}:∀{v V},v.closed=true→ae5 μ n v V→ae5 μ' n' v V
 |.undef,V,_,_=>by simp[ae5]
 |.bool b,V,_,h=>by simpa [ae5] using h
 |.int k i,V,_,h=>by simpa [ae5] using h
 |.str s,V,_,h=>by simpa [ae5] using h
 |.ptr b o,V,hc,_=>by simp[AV.closed] at hc
 |.afk,V,_,h=>by simpa [ae5] using h
 |.slice b o l c,V,hc,_=>by simp[AV.closed] at hc
 |.qF,V,_,h=>by simpa [ae5] using h
 |.map b,V,hc,_=>by simp[AV.closed] at hc
 |.yield b,V,hc,_=>by simp[AV.closed] at hc
 |.aft,V,_,h=>by simpa [ae5] using h
 |.func f X,V,hc,h=>by simp only[ae5] at h ⊢;simp only[AV.closed] at hc;obtain⟨Z,rfl,h⟩:=h;exact⟨Z,rfl,ae7.closed hc h⟩
 |.nilFunc,V,_,h=>by simpa [ae5] using h
 |.iface t v,V,hc,h=>by simp only[ae5] at h ⊢;simp only[AV.closed] at hc;obtain⟨U,rfl,h⟩:=h;exact⟨U,rfl,ae5.closed hc h⟩
 |.nilIface,V,_,h=>by simpa [ae5] using h
 |.agg X,V,hc,h=>by simp only[ae5] at h ⊢;simp only[AV.closed] at hc;obtain⟨Z,rfl,h⟩:=h;exact⟨Z,rfl,ae7.closed hc h⟩
 |.tuple X,V,hc,h=>by simp only[ae5] at h ⊢;simp only[AV.closed] at hc;obtain⟨Z,rfl,h⟩:=h;exact⟨Z,rfl,ae7.closed hc h⟩
theorem ae7.closed{μ μ' :Nat→Place}{n n' :Nat}:∀{vs Us},AV.ae8 vs=true→ae7 μ n vs Us→ae7 μ' n' vs Us
 | [],Us,_,h=>by simpa [ae7] using h
 |v::vs,Us,hc,h=>by simp only[AV.ae8,Bool.and_eq_true] at hc;simp only[ae7] at h ⊢;obtain⟨U,Z,rfl,X,V⟩:=h;exact⟨U,Z,rfl,ae5.closed hc.1 X,ae7.closed hc.2 V⟩
end
theorem kO.lift{f:FuncId}{args:List AV}{v:AV}(y:AV.ae8 args=true)(H:v.closed=true)(h:kO P f args [] v [])(mem:Mem):kO P f args mem v mem:=by refine⟨h.1,fun base μ w Us hG hH hV=>?_⟩;have S:afj base μ [] w:=⟨hH.afe,fun b s Z=>by simp at Z,fun b Q O X=>by obtain⟨s,Z,_⟩:=X;simp at Z⟩;refine(h.2 base μ w Us hG S (ae7.closed y hV)).mono ?_;rintro e w' ⟨V,v',m',μ',rfl,q1,q2,q3,rfl,rfl⟩;have U:afy w w' :=⟨q3.size,fun k R=>q3.frame k R fun b X=>by obtain⟨s,Z,_⟩:=X;simp at Z,q3.os,q3.tape,q3.output,q3.drawn⟩;exact⟨V,v',mem,μ,rfl,ae5.closed H q1,U.ahG hH,U.step (Nat.le_refl _),rfl,rfl⟩
variable{O:ae3}
theorem kO.ahh{T:TypeId→Option TyI}{G:FuncId→Option Func}{K:Nat}(y:P.follows .mixedOrders=true)(hT:cW P T)(H:qS P O)(I:agp P G){f:FuncId}{args:List AV}{v:AV}(J:AV.ae8 args=true)(W:v.closed=true){lv:Code→List Nat}(h:aa T lv G O K f args []=some ⟨v,none,[]⟩)(mem:Mem):kO P f args mem v mem:=
 kO.lift J W (ar y hT H I h).1 mem
def ae3.or(O y :ae3):ae3:=fun c Z mem=>match O c Z mem with
 |some r=>some r
 |none=>y c Z mem
theorem qS.or{y :ae3}(h:qS P O)(h' :qS P y):qS P (O.or y):=by
 have U:∀c Z mem r,O.or y c Z mem=some r→O c Z mem=some r∨y c Z mem=some r:=by
  intro c Z mem r V;unfold ae3.or at V;split at V
  next R X=>cases V;exact .inl X
  ·exact .inr V
 refine⟨fun f Z mem r V=>?_,fun b Z mem r V=>?_,fun c Z mem r p V S=>?_⟩
 ·rcases U _ _ _ _ V with X | X
  ·exact h.fn _ _ _ _ X
  ·exact h'.fn _ _ _ _ X
 ·rcases U _ _ _ _ V with X | X
  ·exact h.yld _ _ _ _ X
  ·exact h'.yld _ _ _ _ X
 ·rcases U _ _ _ _ V with X | X
  ·exact h.pre _ _ _ _ _ X S
  ·exact h'.pre _ _ _ _ _ X S
def af(F:FuncId→List AV→Option AV):ae3:=fun c Z _=>match c with
 |.fn f=>match F f Z with
  |some v=>some ⟨v,none,[]⟩
  |none=>none
 |.yld _=>none
theorem bH{F:FuncId→List AV→Option AV}(h:∀f Z v,F f Z=some v→∀mem,kO P f Z mem v mem):qS P (af F):=by
 refine⟨fun f Z mem r X=>?_,(fun b Z mem r X=>by cases X),fun c Z mem r p X V=>?_⟩
 ·unfold af at X
  simp only at X;split at X
  ·rename_i v U
   cases X;have:=h f Z v U mem;simpa [y9.mem] using this
  ·cases X
 ·unfold af at X
  split at X
  ·split at X
   ·cases X;cases V
   ·cases X
  ·cases X
end
end Go.Eng
