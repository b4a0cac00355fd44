/- See E54. -/
import Derived.Test.YthpgbelancmpjaaGreatDoorE02
set_option linter.all false
namespace Go.Eng
mutual
def AV.aef(ok:Nat→Bool):AV→Bool
 |.ptr b _=>ok b
 |.slice b _ _ _=>ok b
 |.map b=>ok b
 |.yield b=>ok b
 |.func _ Z=>AV.ael ok Z
 |.iface _ v=>v.aef ok
 |.agg Z=>AV.ael ok Z
 |.tuple Z=>AV.ael ok Z
 |_=>true
def AV.ael(ok:Nat→Bool):List AV→Bool
 | []=>true
 |v::vs=>v.aef ok&&AV.ael ok vs
end
def aek.aef(ok:Nat→Bool):aek→Bool
 |.qK=>true
 |.cells _ _ cs=>AV.ael ok cs
 |.map es=>es.all fun e=>e.1.aef ok&&e.2.aef ok
 |.aeO es=>es.all fun e=>e.1.aef ok&&e.2.aef ok
 |.loop r=>r.env.all fun e=>e.2.aef ok
theorem B9{ok:Nat→Bool}:∀{env:Env},(env.all fun e=>e.2.aef ok)=true→∀t,(ad env t).aef ok=true
 | [],_,_=>rfl
 |(k,v)::r,h,t=>by
  simp only[List.all_cons,Bool.and_eq_true] at h;simp only[ad];split
  ·exact h.1
  ·exact B9 h.2 t
mutual
theorem aeg.change{μ μ' :Nat→Place}{n:Nat}{ok:Nat→Bool}(hμ:∀b,b<n→ok b=true→μ' b=μ b):
  ∀{v V},v.aef ok=true→aeg μ n v V→aeg μ' n v V
 |.undef,_,_,_=>by simp[aeg]
 |.bool _,_,_,h=>by simpa [aeg] using h
 |.int _ _,_,_,h=>by simpa [aeg] using h
 |.str _,_,_,h=>by simpa [aeg] using h
 |.ptr b o,V,hk,h=>by simp only[aeg] at h ⊢;simp only[AV.aef] at hk;exact⟨h.1,by rw[hμ b h.1 hk];exact h.2⟩
 |.aet,_,_,h=>by simpa [aeg] using h
 |.slice b o l c,V,hk,h=>by simp only[aeg] at h ⊢;simp only[AV.aef] at hk;exact⟨h.1,by rw[hμ b h.1 hk];exact h.2⟩
 |.qF,_,_,h=>by simpa [aeg] using h
 |.map b,V,hk,h=>by simp only[aeg] at h ⊢;simp only[AV.aef] at hk;exact⟨h.1,by rw[hμ b h.1 hk];exact h.2⟩
 |.yield b,V,hk,h=>by simp only[aeg] at h ⊢;simp only[AV.aef] at hk;exact⟨h.1,by rw[hμ b h.1 hk];exact h.2⟩
 |.aeF,_,_,h=>by simpa [aeg] using h
 |.func f X,V,hk,h=>by simp only[aeg] at h ⊢;simp only[AV.aef] at hk;obtain⟨Z,e,h⟩:=h;exact⟨Z,e,aeh.change hμ hk h⟩
 |.nilFunc,_,_,h=>by simpa [aeg] using h
 |.iface t v,V,hk,h=>by simp only[aeg] at h ⊢;simp only[AV.aef] at hk;obtain⟨U,e,h⟩:=h;exact⟨U,e,aeg.change hμ hk h⟩
 |.nilIface,_,_,h=>by simpa [aeg] using h
 |.agg X,V,hk,h=>by simp only[aeg] at h ⊢;simp only[AV.aef] at hk;obtain⟨Z,e,h⟩:=h;exact⟨Z,e,aeh.change hμ hk h⟩
 |.tuple X,V,hk,h=>by simp only[aeg] at h ⊢;simp only[AV.aef] at hk;obtain⟨Z,e,h⟩:=h;exact⟨Z,e,aeh.change hμ hk h⟩
theorem aeh.change{μ μ' :Nat→Place}{n:Nat}{ok:Nat→Bool}(hμ:∀b,b<n→ok b=true→μ' b=μ b):
  ∀{vs Us},AV.ael ok vs=true→aeh μ n vs Us→aeh μ' n vs Us
 | [],_,_,h=>by simpa [aeh] using h
 |v::vs,Us,hk,h=>by simp only[aeh] at h ⊢;simp only[AV.ael,Bool.and_eq_true] at hk;obtain⟨U,Z,e,X,V⟩:=h;exact⟨U,Z,e,aeg.change hμ hk.1 X,aeh.change hμ hk.2 V⟩
end
variable{s:aek}
theorem aeu.change{μ μ' :Nat→Place}{n base:Nat}{w:World}{p:Place}{ok:Nat→Bool}(hμ:∀b,b<n→ok b=true→μ' b=μ b)(hk:s.aef ok=true)(h:aeu μ n base w p s):aeu μ' n base w p s:=by
 cases s with
 |qK=>trivial
 |cells own es cs=>
  simp only[aeu] at h ⊢;simp only[aek.aef] at hk;obtain⟨O,e,fr,Z,X,h3,S,D⟩:=h;refine⟨O,e,fr,Z,X,h3,fun j v U=>?_,D⟩;obtain⟨V,hV,C⟩:=S j v U;refine⟨V,hV,C.change hμ ?_⟩;have:∀(l:List AV),AV.ael ok l=true→∀v∈l,v.aef ok=true:=by
   intro l;induction l with
   |nil=>intro _ v U;cases U
   |cons x xs ih=>
    intro hl v U;simp only[AV.ael,Bool.and_eq_true] at hl;cases U with
    |head=>exact hl.1
    |tail _ hm=>exact ih hl.2 v hm
  exact this cs hk v (List.mem_of_getElem? U)
 |map es=>
  simp only[aeu] at h ⊢;simp only[aek.aef,List.all_eq_true,Bool.and_eq_true] at hk;obtain⟨N,M,Z,X,h3,S⟩:=h;refine⟨N,M,Z,X,h3,fun j e R=>?_⟩;obtain⟨E,K,G,F⟩:=S j e R;have:=hk e (List.mem_of_getElem? R);exact⟨E,K,G.change hμ this.1,F.change hμ this.2⟩
 |aeO es=>
  simp only[aeu] at h ⊢;simp only[aek.aef,List.all_eq_true,Bool.and_eq_true] at hk;obtain⟨N,M,Z,X,h3,S⟩:=h;refine⟨N,M,Z,X,h3,fun j e R=>?_⟩;obtain⟨E,K,G,F⟩:=S j e R;have:=hk e (List.mem_of_getElem? R);exact⟨E,K,G.change hμ this.1,F.change hμ this.2⟩
 |loop r=>
  simp only[aeu] at h ⊢;obtain⟨L,Z,X,h3⟩:=h;exact⟨L,Z,X,{ h3 with tmps:=fun t=>(h3.tmps t).change hμ (B9 hk t) }⟩
structure aeN where
 E:Nat→Env
 En:Nat→Env
 M:Nat→Mem
 Tm:Nat→Mem
 M' :Nat→Mem
 v:Nat→AV
 wb:Nat→Bool
 aeX:Nat→Nat→Bool
 ok:Nat→Nat→Bool
 cl:Nat→Nat→Bool
def il(mem:Mem)(b:Nat):Prop:=∃s,mem[b]? =some s∧s≠ .qK
structure agi (P:Program)(T:TypeId→Option TyI)(N:Nat)(ops:Array Oper)(d:aeN)(j:Nat)(o:Oper):Prop where
 wanted:rV ops (d.En j) o=some (d.wb j)
 dst:Df N o=true
 step:d.wb j=true→wK P T (d.En j) (d.Tm j) o (d.v j) (d.M' j)
 skip:d.wb j=false→d.v j=.tuple []∧d.M' j=d.Tm j
 env:d.E (j+1)=ae6 (d.E j) o.dst (d.v j)
 named:∀t,ad (d.En j) t=.undef∨(ad (d.En j) t=ad (d.E j) t∧∀(i:Nat) oi,ops[i]? =some oi→i≠j→oi.dst=some t→d.cl i j=true∨d.cl j i=true)
 agW:∀(i:Nat) oi t,ops[i]? =some oi→i≠j→o.dst=some t→oi.dst=some t→d.cl i j=true∨d.cl j i=true
 afZ:(d.Tm j).length=(d.M j).length
 af0:∀b:Nat,(d.Tm j)[b]? =(d.M j)[b]? ∨(d.Tm j)[b]? =some .qK
 agA:(d.M (j+1)).length=(d.M' j).length
 af1:(d.M j).length≤(d.M (j+1)).length
 agB:∀b:Nat,d.aeX j b=true→(d.M (j+1))[b]? =(d.M' j)[b]?
 agH:∀b:Nat,b<(d.M j).length→d.aeX j b=false→(d.M (j+1))[b]? =(d.M j)[b]?
 agI:∀b:Nat,b<(d.M j).length→d.aeX j b=false→il (d.Tm j) b→(d.M' j)[b]? =(d.M j)[b]?
 agJ:∀b:Nat,(d.M j).length≤b→d.aeX j b=true
 agj:∀b:Nat,d.aeX j b=true→b<(d.M j).length→il (d.Tm j) b
 sep:∀(i:Nat) oi (b:Nat),ops[i]? =some oi→i≠j→b<(d.M (i+1)).length→d.aeX i b=true→(b<(d.M (j+1)).length∧d.aeX j b=true)∨il (d.Tm j) b→d.cl i j=true∨d.cl j i=true
 okc:∀(i:Nat) (b:Nat) oi,ops[i]? =some oi→d.ok j b=true→(d.M i).length≤b→b<(d.M (i+1)).length→i=j∨d.cl i j=true
 af2:(d.v j).aef (d.ok j)=true
 agK:∀(b:Nat) s,d.aeX j b=true→(d.M (j+1))[b]? =some s→s.aef (d.ok j)=true
 agk:∀(b:Nat) s,(d.M j).length≤b→(d.M (j+1))[b]? =some s→s≠ .qK→dQ (d.M (j+1)) b
 agC:∀e∈o.after,Region.binds .any e=true→e.on<j
 agl:∀i,d.cl i j=true→∃e∈o.after,Region.binds .any e=true∧(e.on=i∨d.cl i e.on=true)
variable{b t:Nat}
section
variable {P:Program}{T:TypeId→Option TyI}{N:Nat}{ops:Array Oper}{d:aeN}
def sL(P:Program)(T:TypeId→Option TyI)(N:Nat)(ops:Array Oper)(d:aeN):Prop:=∀(j:Nat) o,ops[j]? =some o→agi P T N ops d j o
def Tch(d:aeN)(i b:Nat):Prop:=d.aeX i b=true∧b<(d.M (i+1)).length
theorem zH{j:Nat}(h:j<ops.size):∃o,ops[j]? =some o:=⟨ops[j],by simp[h]⟩
theorem Km{env:Env}{H:Option Tmp}{v:AV}(h:H≠some t):ad (ae6 env H v) t=ad env t:=by
 cases H with
 |none=>rfl
 |some x=>
  have:¬x=t:=fun e=>h (by rw[e])
  simp[ae6,ad,this]
section
variable (hA:sL P T N ops d)
include hA
theorem DE(t:Nat)(j:Nat):∀k,j≤k→k≤ops.size→(∀(i:Nat) V,j≤i→i<k→ops[i]? =some V→V.dst≠some t)→ad (d.E k) t=ad (d.E j) t:=by
 intro k Z;induction Z with
 |refl=>intro _ _;rfl
 | @step k Z ih=>
  intro R X;obtain⟨o,U⟩:=zH (ops:=ops) (j:=k) (by omega);rw[(hA k o U).env,Km (X k o Z (Nat.lt_succ_self k) U)];exact ih (by omega) fun i V S O h3=>X i V S (by omega) h3
theorem Ab(j:Nat):∀k,j≤k→k≤ops.size→(d.M j).length≤(d.M k).length:=by
 intro k Z;induction Z with
 |refl=>intro _;exact Nat.le_refl _
 | @step k Z ih=>
  intro V;obtain⟨o,X⟩:=zH (ops:=ops) (j:=k) (by omega);exact Nat.le_trans (ih (by omega)) (hA k o X).af1
theorem DU(b:Nat)(j:Nat):∀k,j≤k→k≤ops.size→(∀i,j≤i→i<k→¬Tch d i b)→(d.M k)[b]? =(d.M j)[b]? :=by
 intro k Z;induction Z with
 |refl=>intro _ _;rfl
 | @step k Z ih=>
  intro L X;obtain⟨o,V⟩:=zH (ops:=ops) (j:=k) (by omega);have U:=ih (by omega) fun i U K=>X i U (by omega)
  have O:=X k Z (Nat.lt_succ_self k);rw[←U];by_cases S:b<(d.M k).length
  ·have:d.aeX k b=false:=by
    cases R:d.aeX k b with
    |false=>rfl
    |true=>exact absurd ⟨R,Nat.lt_of_lt_of_le S (hA k o V).af1⟩ O
   exact(hA k o V).agH b S this
  ·have R:=(hA k o V).agJ b (by omega)
   have:¬b<(d.M (k+1)).length:=fun h=>O ⟨R,h⟩
   exact(List.getElem?_eq_none (Nat.le_of_not_lt this)).trans (List.getElem?_eq_none (Nat.le_of_not_lt S)).symm
end
structure afW (d:aeN)(ops:Array Oper)(base:Nat) (μ0:Nat→Place)(w0:World)(S:Nat→Prop) (μ:Nat→Place)(kb kt:Nat→Nat)(tmps:Array Value)(w:World):Prop where
 aep:base≤w.heap.size
 afF:∀b,kb b≤ops.size
 afl:∀b i,i<ops.size→Tch d i b→(S i↔i<kb b)
 afG:∀b,kb b=0∨Tch d (kb b-1) b
 slot:∀(b:Nat) s,(d.M (kb b))[b]? =some s→aeu μ (d.M (kb b)).length base w (μ b) s
 sep:∀b b' s',dQ (d.M (kb b)) b→(d.M (kb b'))[b']? =some s' →s' ≠ .qK→b≠b' →(μ b).blk≠(μ b').blk
 af3:∀t,kt t≤ops.size
 afm:∀(t i:Nat) oi,ops[i]? =some oi→oi.dst=some t→(S i↔i<kt t)
 afH:∀t,kt t=0∨∃oi,ops[kt t-1]? =some oi∧oi.dst=some t
 tmp:∀t,aeg μ (d.M (kt t)).length (ad (d.E (kt t)) t) (tmps.getD t undef)
 agree:∀b,b<(d.M 0).length→μ b=μ0 b
 os:w.os=w0.os
 tape:w.tape=w0.tape
 drawn:w0.drawn≤w.drawn
 output:w.output=w0.output
 size:w0.heap.size≤w.heap.size
 frame:∀k,k<w0.heap.size→(∀b,dQ (d.M 0) b→(μ0 b).blk≠k)→w.heap[k]? =w0.heap[k]?
 owner:∀b,dQ (d.M (kb b)) b→(μ b).blk<w0.heap.size→∃b0,dQ (d.M 0) b0∧(μ0 b0).blk=(μ b).blk
theorem Wv(H:sL P T N ops d):∀(j i:Nat),j<ops.size→d.cl i j=true→i<j:=by
 intro j;induction j using Nat.strongRecOn with
 |_ j ih=>
  intro i V h;obtain⟨o,X⟩:=zH V;obtain⟨e,U,S,hc⟩:=(H j o X).agl i h;have Z:=(H j o X).agC e U S;rcases hc with rfl | hc
  ·exact Z
  ·exact Nat.lt_trans (ih e.on Z i (by omega) hc) Z
def uM(ops:Array Oper)(S:Nat→Prop):Prop:=∀(j:Nat) o,ops[j]? =some o→S j→∀e∈o.after,Region.binds .any e=true→S e.on
section
variable (hA:sL P T N ops d){S:Nat→Prop}(hS:uM ops S)
include hA S hS
theorem Rt:∀(j:Nat) o,ops[j]? =some o→(∀e∈o.after,Region.binds .any e=true→S e.on)→∀i,d.cl i j=true→S i:=by
 intro j;induction j using Nat.strongRecOn with
 |_ j ih=>
  intro o V M i h;have L:j<ops.size:=(Array.getElem?_eq_some_iff.1 V).1;obtain⟨e,U,R,hc⟩:=(hA j o V).agl i h;have K:=(hA j o V).agC e U R;have Z:=M e U R;rcases hc with rfl | hc
  ·exact Z
  ·obtain⟨O,X⟩:=zH (ops:=ops) (j:=e.on) (by omega)
   exact ih e.on K O X (hS e.on O X Z) i hc
theorem mN{j:Nat}{o:Oper}(H:ops[j]? =some o)(hr:∀e∈o.after,Region.binds .any e=true→S e.on)(J:¬S j){i:Nat}(I:i<ops.size)(h:d.cl i j=true∨d.cl j i=true):S i↔i<j:=by
 have Z:j<ops.size:=(Array.getElem?_eq_some_iff.1 H).1;obtain⟨V,U⟩:=zH I;rcases h with h | h
 ·exact⟨fun _=>Wv hA j i Z h,fun _=>Rt hA hS j o H hr i h⟩
 ·have R:=Wv hA i j I h
  constructor
  ·intro X
   exact absurd (Rt hA hS i V U (hS i V U X) j h) J
  ·intro;omega
end
section step
variable {base:Nat}{μ0:Nat→Place}{w0:World}{S:Nat→Prop}{μ:Nat→Place}{kb kt:Nat→Nat}{a:Act}{w:World}{j:Nat}{o:Oper}
section
variable (hA:sL P T N ops d)(hI:afW d ops base μ0 w0 S μ kb kt a.tmps w)(hS:uM ops S)(ho:ops[j]? =some o)(hr:∀e∈o.after,Region.binds .any e=true→S e.on)(hj:¬S j)
include hA hI hS ho hr hj
theorem UC(H:∀(i:Nat) Z,ops[i]? =some Z→i≠j→Z.dst=some t→d.cl i j=true∨d.cl j i=true):
  kt t≤j∧ad (d.E j) t=ad (d.E (kt t)) t:=by
 have M:j<ops.size:=(Array.getElem?_eq_some_iff.1 ho).1;have R:kt t≤j:=by
  rcases hI.afH t with L | ⟨Z,V,U⟩
  ·omega
  ·have K:=(hI.afm t (kt t-1) Z V U)
   by_cases L:kt t=0
   ·omega
   ·have X:S (kt t-1):=K.2 (by omega)
    have G:kt t-1≠j:=fun e=>hj (e▸X)
    have F:kt t-1<ops.size:=(Array.getElem?_eq_some_iff.1 V).1;have:=(mN hA hS ho hr hj F (H _ Z V G U)).1 X;omega
 refine⟨R,DE hA t (kt t) j R (by omega) fun i Z V U h3 O=>?_⟩;have:=(mN hA hS ho hr hj (by omega) (H i Z h3 (by omega) O)).2 U;have:=(hI.afm t i Z h3 O).1 this;omega
theorem xH(H:il (d.Tm j) b):kb b≤j∧(d.M j)[b]? =(d.M (kb b))[b]? :=by
 have G:j<ops.size:=(Array.getElem?_eq_some_iff.1 ho).1;have Z:∀i,i<ops.size→i≠j→Tch d i b→(S i↔i<j):=by intro i R V O;obtain⟨F,D⟩:=zH R;exact mN hA hS ho hr hj R ((hA j o ho).sep i F b D V O.2 O.1 (.inr H))
 have L:kb b≤j:=by
  rcases hI.afG b with C | U
  ·omega
  ·by_cases C:kb b=0
   ·omega
   ·have K:kb b-1<ops.size:=by have:=hI.afF b;omega
    have X:S (kb b-1):=(hI.afl b _ K U).2 (by omega);have V:kb b-1≠j:=fun e=>hj (e▸X)
    have:=(Z _ K V U).1 X;omega
 refine⟨L,DU hA b (kb b) j L (by omega) fun i U B h3=>?_⟩;have:=(Z i (by omega) (by omega) h3).2 B;have:=(hI.afl b i (by omega) h3).1 this;omega
end
theorem qW(H:sL P T N ops d)(I:ops[j]? =some o)(h:(d.Tm j)[b]? =some s)(J:s≠ .qK):(d.M j)[b]? =some s:=by
 rcases (H j o I).af0 b with e | e
 ·rw[←e];exact h
 ·rw[h] at e;cases e;exact absurd rfl J
theorem kR{mem:Mem}(h:dQ mem b):il mem b:=by obtain⟨s,h,Z⟩:=h;exact⟨s,h,aek.aeP Z⟩
theorem kS{m H :Mem}(h:m[b]? =H[b]?):dQ m b↔dQ H b:=by simp[dQ,h]
section
variable (hA:sL P T N ops d)(hI:afW d ops base μ0 w0 S μ kb kt a.tmps w)(hS:uM ops S)(ho:ops[j]? =some o)(hr:∀e∈o.after,Region.binds .any e=true→S e.on)(hj:¬S j)
include hA hI hS ho hr hj
theorem SI:aes base μ (d.Tm j) w:=by
 have F:j<ops.size:=(Array.getElem?_eq_some_iff.1 ho).1;refine⟨hI.aep,fun b s R=>?_,fun b D O M L X C=>?_⟩
 ·by_cases V:s=.qK
  ·subst V;trivial
  ·have B:il (d.Tm j) b:=⟨s,R,V⟩
   obtain⟨K,U⟩:=xH hA hI hS ho hr hj B;have G:=qW hA ho R V;rw[U] at G;rw[(hA j o ho).afZ];exact(hI.slot b s G).mono (Ab hA _ j K (by omega)) (fun _ _=>rfl) fun _=>rfl
 ·obtain⟨K,U⟩:=xH hA hI hS ho hr hj (kR M)
  obtain⟨u,A⟩:=xH hA hI hS ho hr hj ⟨O,L,X⟩;refine hI.sep b D O ?_ ?_ X C
  ·refine(kS U).1 ?_
   obtain⟨s,h,Z⟩:=M;exact⟨s,qW hA ho h (aek.aeP Z),Z⟩
  ·rw[←A];exact qW hA ho L X
theorem SJ:aeM μ (d.Tm j).length (d.En j) a.tmps:=by
 have Z:j<ops.size:=(Array.getElem?_eq_some_iff.1 ho).1;intro t;rcases (hA j o ho).named t with h | ⟨h,X⟩
 ·rw[h];simp[aeg]
 ·obtain⟨V,U⟩:=UC hA hI hS ho hr hj X
  rw[h,U,(hA j o ho).afZ];exact(hI.tmp t).mono (Ab hA _ j V (by omega)) fun _ _=>rfl
end
end step
end
end Go.Eng
namespace Go.Eng
section
variable {P:Program}{T:TypeId→Option TyI}{N:Nat}{ops:Array Oper}{d:aeN}
variable {base:Nat}{μ0:Nat→Place}{w0:World}{S:Nat→Prop}{μ μ' :Nat→Place}{kb kt:Nat→Nat}{a:Act}{w w' :World}{j:Nat}{o:Oper}{V:Value}
open Classical in
theorem Uy(I:sL P T N ops d)(H:afW d ops base μ0 w0 S μ kb kt a.tmps w)(hS:uM ops S)(J:ops[j]? =some o)(hr:∀e∈o.after,Region.binds .any e=true→S e.on)(hj:¬S j)(hN:a.tmps.size=N)(hV:aeg μ' (d.M' j).length (d.v j) V)(hH:aes base μ' (d.M' j) w')(W:Step (d.Tm j).length μ (d.Tm j) w μ' (d.M' j) w'):
  ∃μ2 kb2 kt2,afW d ops base μ0 w0 (fun i=>S i∨i=j) μ2 kb2 kt2 (a.put o.dst V).tmps w' :=by
 have hjs:j<ops.size:=(Array.getElem?_eq_some_iff.1 J).1;have D:=I j o J;have hlj:∀k,k≤j→(d.M k).length≤(d.M j).length:=fun k hk=>Ab I k j hk (by omega)
 have YY:=D.af1;have h0j:=hlj 0 (Nat.zero_le _);have u:∀b,b<(d.M j).length→μ' b=μ b:=fun b X=>W.agree b (by rw[D.afZ];exact X)
 let μ2:Nat→Place:=fun b=>if b<(d.M (j+1)).length then μ' b else μ b
 have Zk:∀b,b<(d.M j).length→μ2 b=μ b:=by
  intro b X;show(if b<(d.M (j+1)).length then μ' b else μ b)=μ b
  rw[if_pos (by omega),u b X]
 have aat:∀b,b<(d.M (j+1)).length→μ2 b=μ' b:=by
  intro b X;show(if b<(d.M (j+1)).length then μ' b else μ b)=μ' b
  rw[if_pos X]
 have abr:∀b,¬b<(d.M (j+1)).length→μ2 b=μ b:=by
  intro b X;show(if b<(d.M (j+1)).length then μ' b else μ b)=μ b
  rw[if_neg X]
 have acv:∀k,0<k→S (k-1)→k-1<ops.size→∀b,d.ok (k-1) b=true→μ2 b=μ b:=by
  intro k hk hSk YI b X;by_cases h1:b<(d.M j).length
  ·exact Zk b h1
  ·by_cases K:b<(d.M (j+1)).length
   ·obtain⟨ok,XT⟩:=zH YI
    rcases (I _ ok XT).okc j b o J X (by omega) K with e | e
    ·exact absurd (e▸hSk) hj
    ·exact absurd (Rt I hS _ ok XT (hS _ ok XT hSk) j e) hj
   ·exact abr b K
 let kb2:Nat→Nat:=fun b=>if Tch d j b then j+1 else kb b
 let kt2:Nat→Nat:=fun t=>if o.dst=some t then j+1 else kt t
 have m:∀b,Tch d j b→kb2 b=j+1:=fun b X=>if_pos X
 have Y:∀b,¬Tch d j b→kb2 b=kb b:=fun b X=>if_neg X
 have kbS:∀b,kb b=0∨(0<kb b∧S (kb b-1)∧kb b-1<ops.size∧Tch d (kb b-1) b):=by
  intro b;rcases Nat.eq_zero_or_pos (kb b) with h0 | h0
  ·exact .inl h0
  ·rcases H.afG b with h1 | h1
   ·exact .inl h1
   ·have L:kb b-1<ops.size:=by have:=H.afF b;omega
    exact .inr ⟨h0,(H.afl b _ L h1).2 (by omega),L,h1⟩
 have acg:∀b,¬Tch d j b→b<(d.M j).length∨¬b<(d.M (j+1)).length:=by
  intro b X;by_cases h1:b<(d.M j).length
  ·exact .inl h1
  ·refine .inr fun K=>X ⟨D.agJ b (by omega),K⟩
 have acw:∀b,¬Tch d j b→μ2 b=μ b:=by
  intro b X;rcases acg b X with h | h
  ·exact Zk b h
  ·exact abr b h
 have abt:∀b,il (d.Tm j) b→¬Tch d j b→kb b≤j∧b<(d.M j).length∧(d.M' j)[b]? =(d.M (kb b))[b]? ∧(d.M (kb b))[b]? =(d.M j)[b]? :=by
  intro b X hnt;obtain⟨B,F⟩:=xH I H hS J hr hj X;obtain⟨s,R,C⟩:=X;have L:b<(d.M j).length:=by have:=gL R;rw[D.afZ] at this;exact this
  have hf:d.aeX j b=false:=by
   cases Z:d.aeX j b with
   |false=>rfl
   |true=>exact absurd ⟨Z,by omega⟩ hnt
  exact⟨B,L,(D.agI b L hf ⟨s,R,C⟩).trans F,F.symm⟩
 have acx:∀b s,(d.M (kb2 b))[b]? =some s→s≠ .qK→((d.M' j)[b]? =some s∧μ2 b=μ' b∧b<(d.M (j+1)).length∧(Tch d j b∨il (d.Tm j) b))∨
   ((d.M (kb b))[b]? =some s∧¬il (d.Tm j) b∧¬Tch d j b∧μ2 b=μ b):=by
  intro b s R C;by_cases Z:Tch d j b
  ·rw[m b Z] at R
   exact .inl ⟨by rw[←D.agB b Z.1];exact R,aat b Z.2,Z.2,.inl Z⟩
  ·rw[Y b Z] at R
   by_cases X:il (d.Tm j) b
   ·obtain⟨B,F,k3,k4⟩:=abt b X Z
    exact .inl ⟨by rw[k3];exact R,by rw[Zk b F,u b F],by omega,.inr X⟩
   ·exact .inr ⟨R,X,Z,acw b Z⟩
 have aao:∀b,dQ (d.M (kb2 b)) b→(dQ (d.M' j) b∧μ2 b=μ' b∧b<(d.M (j+1)).length∧(Tch d j b∨il (d.Tm j) b))∨
   (dQ (d.M (kb b)) b∧¬il (d.Tm j) b∧¬Tch d j b∧μ2 b=μ b):=by
  intro b X;obtain⟨s,h,U⟩:=X;rcases acx b _ h (aek.aeP U) with⟨G,g2⟩ | ⟨G,g2⟩
  ·exact .inl ⟨⟨s,G,U⟩,g2⟩
  ·exact .inr ⟨⟨s,G,U⟩,g2⟩
 have YP:∀b,dQ (d.Tm j) b→dQ (d.M (kb b)) b:=by intro b X;obtain⟨B,F⟩:=xH I H hS J hr hj (kR X);refine(kS F).1 ?_;obtain⟨s,h,U⟩:=X;exact⟨s,qW I J h (aek.aeP U),U⟩
 have abu:∀b s,(d.M (kb b))[b]? =some s→s≠ .qK→(μ b).blk<w.heap.size:=fun b s R C=>(H.slot b s R).aeY C
 refine⟨μ2,kb2,kt2,⟨Nat.le_trans H.aep W.size,?_,?_,?_,?_,?_,?_,?_,?_,?_,?_,W.os.trans H.os,W.tape.trans H.tape,Nat.le_trans H.drawn W.drawn,W.output.trans H.output,Nat.le_trans H.size W.size,?_,?_⟩⟩
 ·
  intro b;by_cases Z:Tch d j b
  ·rw[m b Z];omega
  ·rw[Y b Z];exact H.afF b
 ·
  intro b i hi hti;obtain⟨oi,Zb⟩:=zH hi;by_cases Z:Tch d j b
  ·rw[m b Z]
   by_cases ZN:i=j
   ·subst ZN;simp
   ·have:=mN I hS J hr hj hi (D.sep i oi b Zb ZN hti.2 hti.1 (.inl ⟨Z.2,Z.1⟩))
    constructor
    ·rintro (h | h)
     ·have:=this.1 h;omega
     ·omega
    ·intro h;exact .inl (this.2 (by omega))
  ·rw[Y b Z]
   have ZN:i≠j:=fun e=>Z (e▸hti)
   rw[←H.afl b i hi hti];constructor
   ·rintro (h | h)
    ·exact h
    ·exact absurd h ZN
   ·exact .inl
 ·
  intro b;by_cases Z:Tch d j b
  ·rw[m b Z];exact .inr Z
  ·rw[Y b Z];exact H.afG b
 ·
  intro b s R;by_cases h0:s=.qK
  ·subst h0;trivial
  by_cases Z:Tch d j b
  ·rw[m b Z] at R ⊢
   have h1:=hH.slot b s (by rw[←D.agB b Z.1];exact R);rw[aat b Z.2,D.agA];exact h1.mono (Nat.le_refl _) (fun x A=>aat x (by rw[D.agA];exact A)) fun _=>rfl
  ·rw[Y b Z] at R ⊢
   have Yr:=H.slot b s R;rw[acw b Z];by_cases X:il (d.Tm j) b
   ·obtain⟨B,F,k3,k4⟩:=abt b X Z
    have h1:=hH.slot b s (by rw[k3];exact R);rw[u b F] at h1;have hlk:=hlj (kb b) B;have K:=Yr.lower (fun x A=>u x (by omega)) h1;exact K.mono (Nat.le_refl _) (fun x A=>Zk x (by omega)) fun _=>rfl
   ·have ach:w'.heap[(μ b).blk]? =w.heap[(μ b).blk]? :=by
     refine W.frame _ (Yr.aeY h0) fun b1 hb1=>?_
     refine H.sep b1 b s (YP b1 hb1) R h0 ?_;rintro rfl;exact X (kR hb1)
    have K:aeu μ (d.M (kb b)).length base w' (μ b) s:=Yr.mono (Nat.le_refl _) (fun _ _=>rfl) fun _=>ach
    rcases kbS b with h3 | ⟨h3,h4,h5,h6⟩
    ·refine K.mono (Nat.le_refl _) (fun x A=>Zk x ?_) fun _=>rfl
     rw[h3] at A;omega
    ·obtain⟨ok,XT⟩:=zH h5
     have hk1:kb b-1+1=kb b:=by omega
     refine K.change (ok:=d.ok (kb b-1)) (fun x _ A=>acv (kb b) h3 h4 h5 x A) ?_;exact(I _ ok XT).agK b s h6.1 (by rw[hk1];exact R)
 ·
  intro b O s' X XQ C Yo;rcases aao b X with⟨G,g2,_,_⟩ | ⟨G,g2,g3,g4⟩<;>rcases acx O s' XQ C with⟨B,F,k3,k4⟩ | ⟨B,F,k3,k4⟩
  ·rw[g2,F];exact hH.sep b O s' G B C Yo
  ·rw[g2,k4]
   have L:=abu O s' B C;by_cases hlt2:(μ' b).blk<w.heap.size
   ·obtain⟨b0,h0,h1⟩:=W.owner b G hlt2
    rw[←h1];refine H.sep b0 O s' (YP b0 h0) B C ?_;rintro rfl;exact F (kR h0)
   ·omega
  ·rw[g4,F]
   by_cases L:O <(d.M j).length
   ·have Y6:il (d.Tm j) O :=by
     rcases k4 with Z | hb1
     ·exact D.agj O Z.1 L
     ·exact hb1
    obtain⟨q1,q2⟩:=xH I H hS J hr hj Y6;obtain⟨s0,hs0,acy⟩:=Y6;rw[u O L];exact H.sep b O s0 G (by rw[←q2];exact qW I J hs0 acy) acy Yo
   ·have ht' :=D.agJ O (by omega)
    have hM1:(d.M (j+1))[O]? =some s' :=by rw[D.agB O ht'];exact B
    have Yf:=D.agk O s' (by omega) hM1 C;have abp :dQ (d.M' j) O :=(kS (D.agB O ht')).1 Yf;have YJ:(μ b).blk<w.heap.size:=by obtain⟨s,h,U⟩:=G;exact abu b _ h (aek.aeP U)
    by_cases hlt2:(μ' O).blk<w.heap.size
    ·obtain⟨b0,h0,h1⟩:=W.owner O abp hlt2
     rw[←h1];have hob:=YP b0 h0;have ac5:b≠b0:=by rintro rfl;exact g2 (kR h0)
     obtain⟨s,h,U⟩:=hob;exact H.sep b b0 _ G h (aek.aeP U) ac5
    ·omega
  ·rw[g4,k4];exact H.sep b O s' G B C Yo
 ·
  intro t;show(if o.dst=some t then j+1 else kt t)≤ops.size
  split
  ·omega
  ·exact H.af3 t
 ·
  intro t i oi Zb hd;show(S i∨i=j)↔i<(if o.dst=some t then j+1 else kt t)
  have hi:i<ops.size:=(Array.getElem?_eq_some_iff.1 Zb).1;by_cases Z:o.dst=some t
  ·rw[if_pos Z]
   by_cases ZN:i=j
   ·subst ZN;simp
   ·have:=mN I hS J hr hj hi (D.agW i oi t Zb ZN Z hd)
    constructor
    ·rintro (h | h)
     ·have:=this.1 h;omega
     ·omega
    ·intro h;exact .inl (this.2 (by omega))
  ·rw[if_neg Z]
   have ZN:i≠j:=by rintro rfl;rw[J] at Zb;cases Zb;exact Z hd
   rw[←H.afm t i oi Zb hd];constructor
   ·rintro (h | h)
    ·exact h
    ·exact absurd h ZN
   ·exact .inl
 ·
  intro t;show(if o.dst=some t then j+1 else kt t)=0∨∃oi,ops[(if o.dst=some t then j+1 else kt t)-1]? =some oi∧oi.dst=some t
  by_cases Z:o.dst=some t
  ·rw[if_pos Z];exact .inr ⟨o,by simpa using J,Z⟩
  ·rw[if_neg Z];exact H.afH t
 ·
  intro t;show aeg μ2 (d.M (if o.dst=some t then j+1 else kt t)).length (ad (d.E (if o.dst=some t then j+1 else kt t)) t) ((a.put o.dst V).tmps.getD t undef)
  by_cases Z:o.dst=some t
  ·rw[if_pos Z,D.env,Z]
   have L:t<a.tmps.size:=by have:=D.dst;unfold Df at this;rw[Z] at this;simp only[decide_eq_true_eq] at this;rw[hN];exact this
   have e1:ad (ae6 (d.E j) (some t) (d.v j)) t=d.v j:=by simp[ae6,ad]
   have e2:(a.put (some t) V).tmps.getD t undef=V:=by simp[Act.put,L]
   rw[e1,e2,D.agA];exact hV.mono (Nat.le_refl _) fun x A=>aat x (by rw[D.agA];exact A)
  ·rw[if_neg Z]
   have e2:(a.put o.dst V).tmps.getD t undef=a.tmps.getD t undef:=by
    cases hd:o.dst with
    |none=>rfl
    |some x=>
     have C:x≠t:=by rintro rfl;exact Z hd
     simp[Act.put,Array.getElem?_setIfInBounds_ne C]
   rw[e2];have Yr:=H.tmp t;rcases Nat.eq_zero_or_pos (kt t) with h0 | h0
   ·rw[h0] at Yr ⊢
    exact Yr.mono (Nat.le_refl _) fun x A=>Zk x (by omega)
   ·rcases H.afH t with h1 | ⟨oi,h1,K⟩
    ·omega
    ·have hSk:S (kt t-1):=(H.afm t _ oi h1 K).2 (by omega)
     have YI:kt t-1<ops.size:=(Array.getElem?_eq_some_iff.1 h1).1;refine Yr.change (ok:=d.ok (kt t-1)) (fun x _ A=>acv (kt t) h0 hSk YI x A) ?_;have he:=(I _ oi h1).env;have hk1:kt t-1+1=kt t:=by omega
     rw[hk1,K] at he;rw[he];simp only[ae6,ad,if_true];exact(I _ oi h1).af2
 ·
  intro b X;rw[Zk b (by omega)];exact H.agree b X
 ·
  intro k hk hf;rw[W.frame k (Nat.lt_of_lt_of_le hk H.size) ?_,H.frame k hk hf];intro b X he;obtain⟨b0,h1,K⟩:=H.owner b (YP b X) (by rw[he];exact hk);exact hf b0 h1 (K.trans he)
 ·
  intro b X L;rcases aao b X with⟨G,g2,_,_⟩ | ⟨G,g2,g3,g4⟩
  ·rw[g2] at L ⊢
   obtain⟨b0,h0,h1⟩:=W.owner b G (Nat.lt_of_lt_of_le L H.size);obtain⟨b1,K,h3⟩:=H.owner b0 (YP b0 h0) (by rw[h1];exact L);exact⟨b1,K,h3.trans h1⟩
  ·rw[g4] at L ⊢
   exact H.owner b G L
end
variable{listed:Array Bool}
section
variable {P:Program}{T:TypeId→Option TyI}{tp:Bool}{N m0:Nat}{ops:Array Oper}{d:aeN}
def left(ops:Array Oper)(listed:Array Bool):Nat:=((List.range ops.size).filter fun i=> !listed.getD i true).length
def tw(listed:Array Bool)(i:Nat):Prop:=listed.getD i false=true
theorem zF{l:List Nat}{p q:Nat→Bool}(h:∀i∈l,q i=true→p i=true){j:Nat}(H:j∈l)(h1:p j=true)(h2:q j=false):(l.filter q).length<(l.filter p).length:=by
 induction l with
 |nil=>cases H
 |cons x xs ih=>
  have V:∀(l:List Nat),(∀i∈l,q i=true→p i=true)→(l.filter q).length≤(l.filter p).length:=by
   intro l X;induction l with
   |nil=>simp
   |cons y ys ih2=>
    have:=ih2 (fun i Z=>X i (by simp[Z]));have U:=X y (by simp);simp only[List.filter_cons];cases hq:q y<;>cases hp:p y<;>simp_all<;>omega
  have S:=V xs (fun i Z=>h i (by simp[Z]));have R:=h x (by simp);simp only[List.filter_cons];cases H with
  |head=>rw[h1,h2];simp;omega
  |tail _ hm=>
   have:=ih (fun i Z=>h i (by simp[Z])) hm;cases hq:q x<;>cases hp:p x<;>simp_all<;>omega
theorem SK{i:Nat}(H:i<listed.size):tw (listed.setIfInBounds i true)=fun k=>tw listed k∨k=i:=by
 funext k;apply propext;unfold tw;by_cases Z:i=k
 ·subst Z;simp[H]
 ·rw[getD_set_ne false Z]
  constructor
  ·exact .inl
  ·rintro (h | h)
   ·exact h
   ·exact absurd h.symm Z
theorem PF(H:sL P T N ops d)(I:listed.size=ops.size)(h:Region.ready .any ops listed=[]):∀i,i<ops.size→tw listed i:=by
 intro i;induction i using Nat.strongRecOn with
 |_ i ih=>
  intro U;obtain⟨o,Z⟩:=zH U;cases hl:listed.getD i true with
  |true=>
   unfold tw;simp only[Array.getD_eq_getD_getElem?] at hl ⊢;rw[Array.getElem?_eq_getElem (by omega)] at hl ⊢;exact hl
  |false=>
   exfalso;have:i∈Region.ready .any ops listed:=mem_ready.2 ⟨hl,o,Z,fun e X V=>ih e.on ((H i o Z).agC e X V) (by have:=(H i o Z).agC e X V;omega)⟩;rw[h] at this;cases this
theorem Ul(J:sL P T N ops d){I:Nat}{μ0 μ:Nat→Place}{w0 w:World}{S:Nat→Prop}{W Y:Nat→Nat}{tmps:Array Value}(Yh:m0≤(d.M 0).length)(H:afW d ops I μ0 w0 S μ W Y tmps w)(hS:∀i,i<ops.size→S i):
  aes I μ (d.M ops.size) w∧aeM μ (d.M ops.size).length (d.E ops.size) tmps∧m0≤(d.M ops.size).length∧Step m0 μ0 (d.M 0) w0 μ (d.M ops.size) w:=by
 have X:∀b,(d.M ops.size)[b]? =(d.M (W b))[b]? :=fun b=>DU J b (W b) _ (H.afF b) (Nat.le_refl _) fun i R V h3=>by have:=(H.afl b i V h3).1 (hS i V);omega
 have U:∀k,k≤ops.size→(d.M k).length≤(d.M ops.size).length:=fun k O=>Ab J k _ O (Nat.le_refl _)
 have m:=U 0 (Nat.zero_le _);refine⟨⟨H.aep,fun b s L=>?_,fun b K G Z F D C=>?_⟩,fun t=>?_,by omega,⟨by omega,fun b Z=>H.agree b (by omega),H.os,H.tape,H.output,H.size,H.frame,fun b Z B=>?_,H.drawn⟩⟩
 ·exact(H.slot b s (by rw[←X];exact L)).mono (U _ (H.afF b)) (fun _ _=>rfl) fun _=>rfl
 ·exact H.sep b K G ((kS (X b)).1 Z) (by rw[←X];exact F) D C
 ·have A:=DE J t (Y t) ops.size (H.af3 t) (Nat.le_refl _) fun i u R V h3 o=>by have:=(H.afm t i u h3 o).1 (hS i V);omega
  rw[A];exact(H.tmp t).mono (U _ (H.af3 t)) fun _ _=>rfl
 ·exact H.owner b ((kS (X b)).1 Z) B
theorem Bh(hm:P.follows .mixedOrders=true)(hT:cK P T){id:Nat}{st H :St}{Q:Exit→St→Prop}(hA:sL P T N ops d)(hE:d.E 0=st.env)(J:d.M 0=st.mem)(I :H =⟨d.E ops.size,d.M ops.size⟩)(hq:Q .normal H):
  AWP P tp N m0 (.region id ops true) st Q:=by
 intro ro h0 base μ0 w0 a0 YW hH hR hN YV Yh;refine wpIn_region_any hm ?_;have Y7:∀(listed:Array Bool) (a:Act) (w:World) μ kb kt,listed.size=ops.size→a.tmps.size=N→a.defers=a0.defers→
   afW d ops base μ0 w0 (tw listed) μ kb kt a.tmps w→Region.ready .any ops listed=[]→
   ∃H μ',aes base μ' H.mem w∧aeM μ' H.mem.length H.env a.tmps∧a.tmps.size=N∧MOk P base h0 w a.defers∧m0≤H.mem.length∧Step m0 μ0 st.mem w0 μ' H.mem w∧Q .normal H :=by
  intro listed a w μ kb kt Yq ha hd hI m;obtain⟨X,h2,h3,h4⟩:=Ul (m0:=m0) hA (by rw[J];exact Yh) hI (PF hA Yq m);rw[J] at h4;exact⟨H,μ,by rw[I];exact X,by rw[I];exact h2,ha,by rw[hd];exact YV.step hH h4,by rw[I];exact h3,by rw[I];exact h4,hq⟩
 have key:∀(Z:Nat) (listed:Array Bool) (a:Act) (w:World) μ kb kt,listed.size=ops.size→left ops listed≤Z→a.tmps.size=N→a.defers=a0.defers→
   uM ops (tw listed)→afW d ops base μ0 w0 (tw listed) μ kb kt a.tmps w→
   wpAnyIn (Fr ro) 0 P .any ops (fun e S w' =>∃H μ',aes base μ' H.mem w' ∧aeM μ' H.mem.length H.env S.tmps∧S.tmps.size=N∧MOk P base h0 w' S.defers∧m0≤H.mem.length∧
    Step m0 μ0 st.mem w0 μ' H.mem w' ∧Q e H) Z listed a w:=by
  intro Z;induction Z with
  |zero=>
   intro listed a w μ kb kt Yq hl ha hd hC hI;have m:Region.ready .any ops listed=[]:=by
    apply List.eq_nil_iff_forall_not_mem.2;intro i hi;obtain⟨X,o,U,_⟩:=mem_ready.1 hi;have G:i<ops.size:=(Array.getElem?_eq_some_iff.1 U).1;have:i∈(List.range ops.size).filter fun i=> !listed.getD i true:=by rw[List.mem_filter];exact⟨by simpa using G,by rw[X];rfl⟩
    have h0:((List.range ops.size).filter fun i=> !listed.getD i true)=[]:=List.eq_nil_of_length_eq_zero (Nat.le_zero.1 hl);rw[h0] at this;cases this
   exact⟨m,Y7 listed a w μ kb kt Yq ha hd hI m⟩
  |succ Z ih=>
   intro listed a w μ kb kt Yq hl ha hd hC hI;refine⟨Y7 listed a w μ kb kt Yq ha hd hI,fun i hi=>?_⟩;obtain⟨X,o,U,Y⟩:=mem_ready.1 hi;have G:i<ops.size:=(Array.getElem?_eq_some_iff.1 U).1;have R:¬tw listed i:=by unfold tw;simp only[Array.getD_eq_getD_getElem?] at X ⊢;rw[Array.getElem?_eq_getElem (by omega)] at X ⊢;simp only[Option.getD_some] at X ⊢;rw[X];simp
   have ZB:=SK (listed:=listed) (i:=i) (by omega);have ZO :uM ops (tw (listed.setIfInBounds i true)):=by
    rw[ZB];intro j oj O L e he hb;rcases L with L | rfl
    ·exact .inl (hC j oj O L e he hb)
    ·rw[U] at O;cases O;exact .inl (Y e he hb)
   have aci:left ops (listed.setIfInBounds i true)≤Z:=by
    have:left ops (listed.setIfInBounds i true)<left ops listed:=by
     unfold left;refine zF (fun k _ W=>?_) (j:=i) (by simpa using G) (by rw[X];rfl) (by simp[Yq,G]);by_cases F:i=k
     ·subst F;simp[Yq,G] at W
     ·rw[getD_set_ne true F] at W;exact W
    omega
   have D:=hA i o U;have C:=SI hA hI hC U Y R;have hGw:GOk P base w:=by
    refine⟨YV.afo.below,?_⟩;have:=YV.afo.tab;unfold Lib.TabIs at this ⊢;rw[←this];refine Ow fun k W=>hI.frame k ?_ fun b hb=>?_
    ·have:=YV.afo.below;have:=hH.aep;omega
    ·rw[J] at hb
     have:=Oa hH hb;have:=YV.afo.below;omega
   have B:=SJ hA hI hC U Y R;have next:∀V w' μ',aeg μ' (d.M' i).length (d.v i) V→aes base μ' (d.M' i) w' →Step (d.Tm i).length μ (d.Tm i) w μ' (d.M' i) w' →
     wpAnyIn (Fr ro) 0 P .any ops (fun e S w' =>∃H μ',aes base μ' H.mem w' ∧aeM μ' H.mem.length H.env S.tmps∧S.tmps.size=N∧MOk P base h0 w' S.defers∧m0≤H.mem.length∧
      Step m0 μ0 st.mem w0 μ' H.mem w' ∧Q e H) Z (listed.setIfInBounds i true) (a.put o.dst V) w' :=by
    intro V w' μ' q1 q2 q3;obtain⟨μ2,kb2,kt2,A⟩:=Uy hA hI hC U Y R ha q1 q2 q3;rw[←ZB] at A;exact ih _ _ _ μ2 kb2 kt2 (by simp[Yq]) aci (by rw[fu];exact ha) (by rw[fG];exact hd) ZO A
   unfold wpOpIn;simp only[U];rw[pj B D.wanted];cases hw:d.wb i with
   |false=>
    obtain⟨e1,e2⟩:=D.skip hw;simp only[Bool.false_eq_true,if_false];exact⟨fun _ _=>trivial,next undef w μ (by rw[e1];simp[aeg,aeh,undef]) (by rw[e2];exact C) (by rw[e2];exact .refl (Nat.le_refl _))⟩
   |true=>
    simp only[if_true];exact rD hT hGw C B ha D.dst (D.step hw) fun V w' μ' q1 q2 q3 q4=>next V w' μ' q1 q2 q4
 have hI0:afW d ops base μ0 w0 (tw (Array.replicate ops.size false)) μ0 (fun _=>0) (fun _=>0) a0.tmps { w0 with drawn:=w0.drawn+1 }:=by
  have u:∀i,¬tw (Array.replicate ops.size false) i:=by intro i;unfold tw;simp only[Array.getD_eq_getD_getElem?,Array.getElem?_replicate];split<;>simp
  have K :aes base μ0 (d.M 0) { w0 with drawn:=w0.drawn+1 }:=by rw[J];exact hH.afg rfl
  refine⟨K.aep,fun _=>Nat.zero_le _,fun b i _ _=>⟨fun h=>absurd h (u i),fun h=>by omega⟩,fun _=>.inl rfl,fun b s hs=>K.slot b s hs,
   fun b b' s' =>K.sep b b' s',fun _=>Nat.zero_le _,fun t i oi _ _=>⟨fun h=>absurd h (u i),fun h=>by omega⟩,fun _=>.inl rfl,fun t=>?_,fun _ _=>rfl,
   rfl,rfl,Nat.le_succ _,rfl,Nat.le_refl _,fun _ _ _=>rfl,fun b hb _=>⟨b,hb,rfl⟩⟩
  rw[J,hE];exact hR t
 refine key ops.size _ a0 _ μ0 _ _ (by simp) ?_ hN rfl ?_ hI0
 ·unfold left
  exact Nat.le_trans (List.length_filter_le _ _) (by simp)
 ·intro j o _ hS
  exfalso;unfold tw at hS;simp only[Array.getD_eq_getD_getElem?,Array.getElem?_replicate] at hS;split at hS<;>simp at hS
end
end Go.Eng
namespace Go.Eng
def rl:Exit→Option (Option Code)
 |.normal=>some none
 |.ret=>some (some .ret)
 |.exit id=>some (some (.exit id))
 |_=>none
def yD:Option Code→Option Exit
 |none=>some .normal
 |some .ret=>some .ret
 |some (.exit id)=>some (.exit id)
 |_=>none
def mA(j:Option Code):LoopState:=if j.isNone then .ready else .done
def yz:List Tmp→List AV→Env→Env
 |t::ts,v::vs,env=>yz ts vs ((t,v)::env)
 |_,_,env=>env
variable{L:Loop}{m0:Nat}{r:afk}
section
variable {P:Program}{T:TypeId→Option TyI}{μ:Nat→Place}{mem:Mem}{base:Nat}{w:World}
theorem aes.alloc(H:aes base μ mem w)(o:Obj):aes base μ mem (w.alloc o):=by refine⟨by simp;have:=H.aep;omega,fun b s Z=>?_,H.sep⟩;exact(H.slot b s Z).mono (Nat.le_refl _) (fun _ _=>rfl) fun X=>gF w o ((H.slot b s Z).aeY X)
theorem Step.alloc(h:m0≤mem.length)(o:Obj):Step m0 μ mem w μ mem (w.alloc o):=
 ⟨h,fun _ _=>rfl,rfl,rfl,rfl,by simp,fun k Z _=>gF w o Z,fun b X _=>⟨b,X,rfl⟩,Nat.le_refl _⟩
theorem FH{n:Nat}:∀{ts:List Tmp} {vs:List AV} {Vs:List Value} {env:Env} {tmps:Array Value},aeh μ n vs Vs→aeM μ n env tmps→vs.length=ts.length→(∀t∈ts,t<tmps.size)→
  aeM μ n (yz ts vs env) ((ts.zip Vs).foldl (fun tmps (t,a)=>tmps.setIfInBounds t a) tmps)∧((ts.zip Vs).foldl (fun tmps (t,a)=>tmps.setIfInBounds t a) tmps).size=tmps.size
 | [],[],Vs,env,tmps,hv,ht,_,_=>by exact⟨ht,rfl⟩
 |t::ts,v::vs,Vs,env,tmps,hv,ht,hl,hb=>by simp only[aeh] at hv;obtain⟨U,S,rfl,Z,X⟩:=hv;simp only[yz,List.zip_cons_cons,List.foldl_cons];have:=aeM.put (a:={ tmps:=tmps,defers:=[] }) ht (hb t (by simp)) Z;simp only[Act.put] at this;have r:=FH (env:=(t,v)::env) (tmps:=tmps.setIfInBounds t U) X this (by simpa using hl) (fun x V=>by simpa using hb x (by simp[V]));exact⟨r.1,r.2.trans (by simp)⟩
 | [],_::_,_,_,_,_,_,hl,_=>by simp at hl
 |_::_,[],_,_,_,_,_,hl,_=>by simp at hl
theorem iq{l:Nat}(h:w.heap[l]? =some (.loop L)):(Instr.getLoop l).run P w=.ok L w:=by
 have Z:(getObj l).run P w=.ok (.loop L) w:=by simp[getObj,Sem.run,h]
 simp only[Instr.getLoop,Sem.run_bind,Z,Result.andThen_ok];rfl
theorem vP{base:Nat}{b:Nat}{r' :afk}{L' :Loop}(H:aes base μ mem w)(hb:mem[b]? =some (.loop r))(I:w.heap[(μ b).blk]? =some (.loop L))(hr:afB μ mem.length r' L'):
  (setObj (μ b).blk (.loop L')).run P w=.ok () { w with heap:=w.heap.setIfInBounds (μ b).blk (.loop L') }∧
  aes base μ (mem.set b (.loop r')) { w with heap:=w.heap.setIfInBounds (μ b).blk (.loop L') }∧
  Step mem.length μ mem w μ (mem.set b (.loop r')) { w with heap:=w.heap.setIfInBounds (μ b).blk (.loop L') }:=by
 have Z:=(Array.getElem?_eq_some_iff.1 I).1;have X:=gL hb;refine⟨sI I (by intro c e f h;cases h),H.write hb (Qe hb) (fun _=>⟨_,List.getElem?_set_self X,rfl⟩) rfl rfl rfl rfl (by simp) (fun k V=>Array.getElem?_setIfInBounds_ne (Ne.symm V)) ?_⟩;simp only[aeu];have:=H.slot b _ hb;simp only[aeu] at this;obtain⟨_,_,U,_⟩:=this;exact⟨L',by simp[Z],U,hr⟩
theorem ae0.intro{b:Nat}{args:List AV}{R:AV→Mem→Prop}(hb:mem[b]? =some (.loop r))(I:r.st=.ready)(hl:args.length=r.ps.toList.length)(H:∀t∈r.ps.toList,t<r.N)(h:AWP P false r.N mem.length r.assign ⟨yz r.ps.toList args r.env,mem⟩ fun e Z=>e=.normal∧∃r1,Z.mem[b]? =some (.loop r1)∧r1.st=.ready∧
   AWP P false r.N mem.length r.body ⟨Z.env,Z.mem.set b (.loop { r1 with st:=.busy })⟩ fun e X=>∃r2 j M,rl e=some j∧X.mem[b]? =some (.loop r2)∧Di mem.length X.mem.length M=true∧
    R (.bool j.isNone) (aer mem.length M (X.mem.set b (.loop { r2 with st:=mA j,afj:=j })))):
  ae0 P b args mem R:=by
 intro base μ w Vs hG hH hV YJ;have C:=hH.slot b _ hb;simp only[aeu] at C;obtain⟨L,Y,h2,h3⟩:=C;have W:Vs.length=L.params.size:=by rw[hV.length,hl,h3.ps];simp
 refine⟨L.fn,(L.params.zip ⟨Vs⟩).foldl (fun tmps (t,a)=>tmps.setIfInBounds t a) L.tmps,L.assign,L.body,?_,?_⟩
 ·simp only[Instr.yield,Sem.run_bind,iq Y,Result.andThen_ok]
  rw[if_neg (by simp[W])];rfl
 ·refine roundIn_of_wpIn (F:=Fence.wide) trivial ?_
  have U:(L.params.zip ⟨Vs⟩).foldl (fun tmps (t,a)=>tmps.setIfInBounds t a) L.tmps=(r.ps.toList.zip Vs).foldl (fun tmps (t,a)=>tmps.setIfInBounds t a) L.tmps:=by rw[h3.ps,←Array.foldl_toList];simp
  have B:=FH (ts:=r.ps.toList) hV h3.tmps hl (fun t J=>by rw[h3.size];exact H t J);rw[h3.assign,h3.body];refine wpIn_mono (F:=Fr (some (μ b).blk)) (h (some (μ b).blk) w.heap.size base μ w ⟨_,[]⟩ (fun h=>by cases h) hH (by rw[U];exact B.1) (by rw[U,B.2];exact h3.size) (MOk.nil w hG hH.aep (Nat.le_refl _)) (Nat.le_refl _)) ?_;rintro e a1 w1 ⟨Z,μ1,c1,c2,c3,c4,c5,c6,rfl,r1,c7,c8,hbody⟩;have S:=c1.slot b _ c7;simp only[aeu] at S;obtain⟨L1,d1,d2,d3⟩:=S;have hμ:μ1 b=μ b:=c6.agree b YJ;rw[hμ] at d1;obtain⟨A,u,K⟩:=vP (P:=P) (r' :={ r1 with st:=.busy }) (L' :={ L1 with state:=.busy }) c1 c7 (by rw[hμ];exact d1) { d3 with st:=rfl };rw[hμ] at A u K;refine⟨_,?_,wpIn_mono (F:=Fr (some (μ b).blk)) (hbody (some (μ b).blk) w.heap.size base μ1 _ a1 (fun h=>by cases h) u (by rw[List.length_set];exact c2) c3 (c4.step c1 K) (by rw[List.length_set];exact c5)) ?_⟩
  ·simp only[Instr.beginRound,Sem.run_bind,iq d1,Result.andThen_ok,A]
   rw[d3.st,c8];rfl
  ·rintro e a2 w2 ⟨X,μ2,f1,f2,f3,f4,f5,f6,r2,j,M,f7,f8,f9,f10⟩
   have O:=f1.slot b _ f8;simp only[aeu] at O;obtain⟨L2,g1,g2,g3⟩:=O;have hμ2:μ2 b=μ b:=by rw[f6.agree b YJ,hμ]
   rw[hμ2] at g1;obtain⟨G,o,m⟩:=vP (P:=P) (r' :={ r2 with st:=mA j,afj:=j }) (L' :={ L2 with state:=mA j,pending:=j }) f1 f8 (by rw[hμ2];exact g1) { g3 with st:=rfl,afj:=rfl };rw[hμ2] at G o m;have XP:(Instr.endRound (μ b).blk j).run P w2=.ok (.bool j.isNone) { w2 with heap:=w2.heap.setIfInBounds (μ b).blk (.loop { L2 with state:=mA j,pending:=j }) }:=by unfold mA at G ⊢;simp only[Instr.endRound,Sem.run_bind,iq g1,Result.andThen_ok,G];rfl
   obtain⟨p1,p2,p3⟩:=o.aer (by rw[List.length_set];exact f5) (by rw[List.length_set];exact f9);have hS:Step mem.length μ mem w _ _ _:=((c6.trans (K.mono c5)).trans f6).trans ((m.mono f5).trans p3);have D:∃V v mem' μ',(Ending.returned (.bool j.isNone):Ending)=.returned V∧aeg μ' mem'.length v V∧aes base μ' mem' { w2 with heap:=w2.heap.setIfInBounds (μ b).blk (.loop { L2 with state:=mA j,pending:=j }) }∧
     Step mem.length μ mem w μ' mem' { w2 with heap:=w2.heap.setIfInBounds (μ b).blk (.loop { L2 with state:=mA j,pending:=j }) }∧R v mem' :=
    ⟨_,.bool j.isNone,_,_,rfl,by simp[aeg],p1,hS,f10⟩
   cases e<;>simp only[rl,Option.some.injEq,reduceCtorEq] at f7<;>subst f7<;>exact⟨_,_,XP,D⟩
theorem FF{N:Nat}{g:Operand}{ps:Array Tmp}{assign body:Code}{st:St}{Q:Exit→St→Prop}{f:FuncId}{caps:List AV}(hg:get st.env g=.func f caps)(h:aeQ P f (.yield st.mem.length::caps) (st.mem++[.loop ⟨.ready,none,st.env,N,ps,assign,body⟩]) fun _ S=>∃r2 e,S[st.mem.length]? =some (.loop r2)∧r2.st≠ .busy∧yD r2.afj=some e∧
   Q e ⟨st.env,S.set st.mem.length (.loop { r2 with st:=.exhausted })⟩):
  AWP P true N m0 (.rangeFunc g ps assign body) st Q:=by
 intro ro h0 base μ w a YW hH hR hN YV F;cases YW rfl;have U:=aZ hR g;rw[hg] at U;simp only[aeg] at U;obtain⟨D,hU,C⟩:=U;refine wpIn_rangeFunc fun fn _=>?_
 let o1:Obj:=.deferred (some [])
 let w1:=w.alloc o1
 let L:Loop:={ state:=.ready,pending:=none,fn,tmps:=a.tmps,params:=ps,assign,body,defers:=w.heap.size }
 have R:aes base μ st.mem w1:=hH.alloc o1;have B:Step st.mem.length μ st.mem w μ st.mem w1:=.alloc (Nat.le_refl _) o1;have Yq:w1.heap.size=w.heap.size+1:=by simp[w1]
 obtain⟨O,A⟩:=R.push (.loop L) (.loop ⟨.ready,none,st.env,N,ps,assign,body⟩) ⟨w1.heap.size,0,0,0⟩ rfl (by simp only[aeu];exact⟨L,heap_alloc_new w1 _,R.aep,rfl,rfl,rfl,rfl,rfl,hN,hR.mono (Nat.le_succ _) fun b hb=>wF hb⟩)
 have M:=B.trans A;have hμb:(upd μ st.mem.length ⟨w1.heap.size,0,0,0⟩ st.mem.length).blk=w1.heap.size:=by rw[eH]
 have W:MOk P base h0 (w1.alloc (.loop L)) ({ target:=.collected w.heap.size,args:= #[] }::a.defers):=by
  have X:=(YV.step hH M);refine⟨X.afo,X.aep,X.le,fun d K=>?_,?_⟩
  ·rcases List.mem_cons.1 K with rfl | K
   ·refine⟨w.heap.size,rfl,YV.le,?_⟩
    rw[gF w1 _ (by omega)];exact heap_alloc_new w o1
   ·exact X.each d K
  ·simp only[List.map_cons,List.nodup_cons]
   refine⟨?_,YV.nodup⟩;intro F;obtain⟨d,K,J⟩:=List.mem_map.1 F;obtain⟨r,e,_,h2⟩:=YV.each d K;rw[e] at J;simp only[Target.collected.injEq] at J;have:=(Array.getElem?_eq_some_iff.1 h2).1;omega
 have u:=h.2 base _ (w1.alloc (.loop L)) (.func (.yield w1.heap.size) #[] #[]::D) W.afo O
  (bE.2 ⟨by simp only[aeg,hμb];exact⟨by simp,trivial⟩,C.mono (by simp) fun b hb=>wF hb⟩)
 refine⟨w1.heap.size,[{ target:=.collected w.heap.size,args:= #[] }],w1.alloc (.loop L),{ target:=.fn (.func f) ⟨D⟩,args:= #[]++ #[.func (.yield w1.heap.size) #[] #[]] },w1.alloc (.loop L),f,⟨.func (.yield w1.heap.size) #[] #[]::D⟩,w1.alloc (.loop L),?_,?_,fun _ _=>trivial,?_,fun h=>by simp[Fence.wide] at h,?_⟩
 ·simp only[Instr.enterLoop,Sem.run_bind,run_newObj,Result.andThen_ok,Sem.run_pure]
  rfl
 ·have hc:(#[Operand.const (.func (.yield w1.heap.size) #[] #[])]:Array Operand).map a.eval= #[.func (.yield w1.heap.size) #[] #[]]:=by simp[Act.eval]
  simp only[resolve,hU,Deferred.ofValue,hc];rfl
 ·simp only[invoke]
  rw[yA h.1];congr 2;apply Array.ext';simp
 ·refine zU.2 (u.mono ?_)
  rintro e w3 ⟨V,v,S,μ2,rfl,q1,q2,q3,r2,e2,q4,q5,q6,q7⟩;have YJ:st.mem.length<(st.mem++[aek.loop ⟨.ready,none,st.env,N,ps,assign,body⟩]).length:=by simp
  have hμ2:(μ2 st.mem.length).blk=w1.heap.size:=by rw[q3.agree _ YJ,hμb]
  have I:=q2.slot _ _ q4;simp only[aeu] at I;obtain⟨L2,g1,g2,g3⟩:=I;obtain⟨H,k2,o⟩:=vP (P:=P) (r' :={ r2 with st:=.exhausted }) (L' :={ L2 with state:=.exhausted }) q2 q4 g1 { g3 with st:=rfl };rw[hμ2] at H k2 o g1;have G:st.mem.length≤S.length:=Nat.le_trans (by simp) q3.len;have m:=M.trans (q3.mono (m0:=st.mem.length) (by simp));have j:=m.trans (o.mono G);have Z:∃S' μ',aes base μ' S'.mem { w3 with heap:=w3.heap.setIfInBounds w1.heap.size (.loop { L2 with state:=.exhausted }) }∧aeM μ' S'.mem.length S'.env a.tmps∧a.tmps.size=N∧
    MOk P base h0 { w3 with heap:=w3.heap.setIfInBounds w1.heap.size (.loop { L2 with state:=.exhausted }) } ({ target:=.collected w.heap.size,args:= #[] }::a.defers)∧m0≤S'.mem.length∧
    Step m0 μ st.mem w μ' S'.mem { w3 with heap:=w3.heap.setIfInBounds w1.heap.size (.loop { L2 with state:=.exhausted }) }∧Q e2 S' :=by
   refine⟨_,μ2,k2,?_,hN,(W.step O q3).step q2 o,?_,j.mono F,q7⟩
   ·show aeM μ2 (S.set st.mem.length _).length st.env a.tmps
    rw[List.length_set];exact hR.mono G fun b hb=>by rw[q3.agree b (by simp;omega),wF hb]
   ·show m0≤(S.set st.mem.length _).length
    rw[List.length_set];omega
  refine⟨r2.afj,{ w3 with heap:=w3.heap.setIfInBounds w1.heap.size (.loop { L2 with state:=.exhausted }) },?_,?_⟩
  ·simp only[Instr.endLoop,Sem.run_bind,iq g1,Result.andThen_ok]
   rw[g3.st];have hb:(r2.st==LoopState.busy)=false:=by cases hx:r2.st<;>first | rfl | exact absurd hx q5
   rw[hb];have Y:L2.pending=r2.afj:=g3.afj;simp only[Bool.false_eq_true,if_false,Sem.run_bind,Sem.run_pure,H,Result.andThen_ok];rw[Y]
  ·cases hp:r2.afj with
   |none=>
    rw[hp] at q6;simp only[yD,Option.some.injEq] at q6;subst q6;exact Z
   |some c=>
    rw[hp] at q6;cases c<;>simp only[yD,Option.some.injEq,reduceCtorEq] at q6
    ·subst q6;exact wpIn_exit Z
    ·subst q6;exact wpIn_ret Z
end
end Go.Eng
namespace Go.Eng
structure aee where
 v:AV
 pre:Option Mem
 new:Mem
def aee.mem(r:aee)(mem:Mem):Mem:=(r.pre.getD mem)++r.new
inductive Callee where
 |fn (f:FuncId)
 |yld (b:Nat)
abbrev y9:=Callee→List AV→Mem→Option aee
def jD(env:Env):Op→Option (Callee×List AV)
 |.call { callee:=.value x,args,argTypes:=_ }=>match get env x with
  |.func f Z=>some (.fn f,Wk env args++Z)
  |.yield b=>some (.yld b,Wk env args)
  |_=>none
 |_=>none
structure XS where
 env:Env
 mem:Mem
 aeC:Bool
def Te:AV→List Nat
 |.ptr b _=>[b]
 |_=>[]
def ee:AV→List Nat
 |.slice b _ _ _=>[b]
 |_=>[]
def Ny:AV→List Nat
 |.map b=>[b]
 |_=>[]
def wH(env:Env):Op→List Nat
 |.store _ a _=>Te (get env a)
 |.call { callee:=.builtin .append,args:=⟨[s,_]⟩,argTypes:=_ }=>ee (get env s)
 |.call { callee:=.builtin .unsafeString,args:=⟨[x,_]⟩,argTypes:=_ }=>Te (get env x)
 |.call { callee:=.builtin .clear,args:=⟨[x]⟩,argTypes:=_ }=>ee (get env x)
 |.mapUpdate _ m _ _=>Ny (get env m)
 |.mapEntry _ m _=>Ny (get env m)
 |.entryStore _ m _ _=>Ny (get env m)
 |_=>[]
def US(T:TypeId→Option TyI)(O:y9)(m0:Nat)(env:Env)(mem:Mem)(H:Bool)(o:Oper):Option (AV×Mem×Bool):=
 match aOp T env mem o.op with
 |some (v,m)=>some (v,m,H||(wH env o.op).any fun b=>decide (b<m0))
 |none=>match jD env o.op with
  |some (c,args)=>match O c args mem with
   |some r=>some (r.v,r.mem mem,H||r.pre.isSome)
   |none=>none
  |none=>none
def dN(T:TypeId→Option TyI)(O:y9)(N m0:Nat)(ops:Array Oper):List Oper→XS→Option XS
 | [],s=>some s
 |o::os,s=>
  if Df N o then
   match rV ops s.env o with
   |some true=>match US T O m0 s.env s.mem s.aeC o with
    |some (v,m,dt)=>dN T O N m0 ops os ⟨ae6 s.env o.dst v,m,dt⟩
    |none=>none
   |some false=>dN T O N m0 ops os ⟨ae6 s.env o.dst (.tuple []),s.mem,s.aeC⟩
   |none=>none
  else none
def dT(ops:List Oper):List Nat:=
 ops.foldl (fun acc o=>acc++[o.after.toList.foldl (fun s e=>if Region.binds .any e then s ||| 2 ^ e.on ||| acc.getD e.on 0 else s) 0]) []
def bef(H:List Nat)(i j:Nat):Bool:=(H.getD j 0).testBit i
def mQ(ops:Array Oper)(H:List Nat):Bool:=
 let n:=ops.size
 (List.range n).all fun j=>match ops[j]? with
  |none=>true
  |some o=>
   o.after.toList.all (fun e=> !Region.binds .any e||decide (e.on<j))&&
   (List.range n).all fun i=>(!bef H i j||o.after.toList.any fun e=>Region.binds .any e&&(e.on==i||bef H i e.on))&&(i==j||bef H i j||bef H j i||match ops[i]? with
    |none=>true
    |some oi=>match oi.dst with
     |none=>true
     |some t=> !(o.looksAt ops).contains t&& !(o.dst==some t))
def Nh(env:Env):Op→Option (List Nat)
 |.load _ a=>match get env a with
  |.ptr b _=>some [b]
  |_=>some []
 |.store _ a _=>match get env a with
  |.ptr b _=>some [b]
  |_=>some []
 |.slice _ x _ _ _=>match get env x with
  |.slice b _ _ _=>some [b]
  |_=>some []
 |.lookup _ m _ _=>match get env m with
  |.map b=>some [b]
  |_=>some []
 |.mapUpdate _ m _ _=>match get env m with
  |.map b=>some [b]
  |_=>some []
 |.mapEntry _ m _=>match get env m with
  |.map b=>some [b]
  |_=>some []
 |.entryStore _ m _ _=>match get env m with
  |.map b=>some [b]
  |_=>some []
 |.call { callee:=.builtin .len,args:=⟨[x]⟩,argTypes:=_ }=>match get env x with
  |.map b=>some [b]
  |_=>some []
 |.call { callee:=.builtin .append,args:=⟨[s,x]⟩,argTypes:=_ }=>
  some ((match get env s with | .slice b _ _ _=>[b] | _=>[])++(match get env x with | .slice b _ _ _=>[b] | _=>[]))
 |.call { callee:=.builtin .unsafeSliceData,args:=⟨[x]⟩,argTypes:=_ }=>match get env x with
  |.slice b _ _ _=>some [b]
  |_=>some []
 |.call { callee:=.builtin .clear,args:=⟨[x]⟩,argTypes:=_ }=>match get env x with
  |.slice b _ _ _=>some [b]
  |_=>some []
 |.call { callee:=.builtin .unsafeString,args:=⟨[x,_]⟩,argTypes:=_ }=>match get env x with
  |.ptr b _=>some [b]
  |_=>some []
 |.call { callee:=.builtin _,args:=_,argTypes:=_ }=>some []
 |.call _=>none
 |_=>some []
structure Rec where
 env:Env
 en:Env
 mem:Mem
 tm:Mem
 v:AV
 m' :Mem
 nx:Mem
 wb:Bool
 wr:List Nat
def bG(H:Nat→Bool):Nat→Mem→Mem
 |_,[]=>[]
 |i,s::r=>(if H i then s else .qK)::bG H (i+1) r
def bn(wr:List Nat):Nat→Mem→Mem→Mem
 |_,[],m' =>m'
 |_,_::_,[]=>[]
 |i,s::r,s' ::r' =>(if wr.contains i then s' else s)::bn wr (i+1) r r'
def fg(mem:Mem)(b:Nat):Bool:=match mem[b]? with
 |some .qK=>false
 |some _=>true
 |none=>false
def dY:Nat→Mem→List Nat
 |_,[]=>[]
 |i,.qK::r=>dY (i+1) r
 |i,_::r=>i::dY (i+1) r
def wE(H:List Nat)(j:Nat):Nat→List Rec→List Rec
 |_,[]=>[]
 |i,r::rs=>if bef H i j then wE H j (i-1) rs else r::wE H j (i-1) rs
def VW(H:List Nat)(j:Nat)(acc:List Rec):Option (List Nat)→Nat→Bool
 |some l=>fun b=>l.contains b
 |none=>let un:=wE H j (j-1) acc;fun b=> !un.any fun f=>decide (f.mem.length≤b∧b<f.nx.length)
def UR(H:Mem):Option Mem→List Nat
 |some _=>dY 0 H
 |none=>[]
def Ga(T:TypeId→Option TyI)(O:y9)(N:Nat)(ops:Array Oper)(H:List Nat)(j:Nat)(o:Oper)(env:Env)(mem:Mem)(acc:List Rec):Option Rec:=
 if Df N o then
  let en:=(o.looksAt ops).map fun t=>(t,ad env t)
  match rV ops en o with
  |none=>none
  |some false=>some ⟨env,en,mem,bG (fun _=>false) 0 mem,.tuple [],bG (fun _=>false) 0 mem,mem,false,[]⟩
  |some true=>
   let tm:=bG (VW H j acc (Nh en o.op)) 0 mem
   match aOp T en tm o.op with
   |some (v,m)=>let wr:=wH en o.op;some ⟨env,en,mem,tm,v,m,bn wr 0 mem m,true,wr⟩
   |none=>match jD en o.op with
    |none=>none
    |some (c,args)=>match O c args tm with
     |none=>none
     |some r=>let wr:=UR tm r.pre
      some ⟨env,en,mem,tm,r.v,r.mem tm,bn wr 0 mem (r.mem tm),true,wr⟩
 else none
def mE(T:TypeId→Option TyI)(O:y9)(N:Nat)(ops:Array Oper)(H:List Nat):Nat→List Oper→Env→Mem→List Rec→Option (List Rec×Env×Mem)
 |_,[],env,mem,acc=>some (acc.reverse,env,mem)
 |j,o::os,env,mem,acc=>match Ga T O N ops H j o env mem acc with
  |none=>none
  |some r=>mE T O N ops H (j+1) os (ae6 env o.dst r.v) r.nx (r::acc)
def iz(top:Nat)(un:List (Nat×Rec))(b:Nat):Bool:=
 decide (b<top)&&un.all fun f=> !decide (f.2.mem.length≤b∧b<f.2.nx.length)
def ba:Nat→List Rec→List (Nat×Rec)
 |_,[]=>[]
 |i,r::rs=>(i,r)::ba (i+1) rs
def ie(H:List Nat)(R:List (Nat×Rec))(j:Nat)(r:Rec):Bool:=
 let un:=R.filter fun f=>decide (f.1<j)&& !bef H f.1 j
 r.wr.all (fun b=>fg r.tm b)&&
 r.v.aef (iz r.nx.length un)&&
 r.wr.all (fun b=>match r.nx[b]? with | some s=>s.aef (iz r.nx.length un) | none=>true)&&
 (r.nx.drop r.mem.length).all (fun s=>(s.own||match s with | .qK=>true | _=>false)&&s.aef (iz r.nx.length un))&&
 un.all fun f=>f.2.wr.all (fun b=> !fg r.tm b)&&r.wr.all (fun b=> !fg f.2.tm b)&&
  ((r.tm.drop f.2.mem.length).take (f.2.nx.length-f.2.mem.length)).all fun s=>match s with | .qK=>true | _=>false
def aK(T:TypeId→Option TyI)(O:y9)(N m0:Nat)(ops:Array Oper)(s:XS):Option XS:=
 let bs:=dT ops.toList
 match mE T O N ops bs 0 ops.toList s.env s.mem [] with
 |none=>none
 |some (R,env,mem)=>
  let nR:=ba 0 R
  if nR.all fun f=>ie bs nR f.1 f.2 then some ⟨env,mem,s.aeC||R.any fun r=>r.wr.any fun b=>decide (b<m0)⟩ else none
def cC:Code→Bool
 |.region _ ops true=>mQ ops (dT ops.toList)
 |.seq a b=>cC a&&cC b
 |.cond _ a b=>cC a&&cC b
 |.block _ b=>cC b
 |.loop b=>cC b
 |.scope b=>cC b
 |.rangeFunc _ _ a b=>cC a&&cC b
 |_=>true
def ae:Code→List Nat
 |.region _ ops _=>ops.toList.filterMap (·.dst)
 |.seq a b=>ae a++ae b
 |.cond _ a b=>ae a++ae b
 |.block _ b=>ae b
 |.loop b=>ae b
 |.scope b=>ae b
 |_=>[]
def aw(lv wr:List Nat)(H env:Env):Env:=lv.map (fun t=>(t,ad env t))++((wr.filter fun t=> !lv.contains t).map fun t=>(t,AV.undef))++H
mutual
def AV.refs(m0:Nat):AV→List Nat
 |.ptr b _=>if b<m0 then [] else [b]
 |.slice b _ _ _=>if b<m0 then [] else [b]
 |.map b=>if b<m0 then [] else [b]
 |.yield b=>if b<m0 then [] else [b]
 |.func _ Z=>AV.aew m0 Z
 |.iface _ v=>v.refs m0
 |.agg Z=>AV.aew m0 Z
 |.tuple Z=>AV.aew m0 Z
 |_=>[]
def AV.aew(m0:Nat):List AV→List Nat
 | []=>[]
 |v::vs=>v.refs m0++AV.aew m0 vs
end
def aek.refs(m0:Nat):aek→List Nat
 |.qK=>[]
 |.cells _ _ cs=>AV.aew m0 cs
 |.map es=>es.flatMap fun e=>e.1.refs m0++e.2.refs m0
 |.aeO es=>es.flatMap fun e=>e.1.refs m0++e.2.refs m0
 |.loop r=>r.env.flatMap fun e=>e.2.refs m0
def pR(m0:Nat)(mem:Mem):Nat→List Nat→List Nat→List Nat
 |0,_,seen=>seen
 |_,[],seen=>seen
 |k+1,b::todo,seen=>if seen.contains b then pR m0 mem k todo seen else pR m0 mem k (todo++(mem.getD b .qK).refs m0) (seen++[b])
def RB:List Nat→Bool
 |a::b::_=>a==b
 |_=>false
def wB:List Nat→Bool
 |a::b::c::_=>a==b&&b==c
 |_=>false
def Kv(lv wr:List Nat)(I:Env)(H:Nat)(s:XS):XS:=
 let ks:=pR H s.mem 1000 ((lv.flatMap fun t=>(ad s.env t).refs H)++(s.mem.take H).flatMap (aek.refs H)) []
 if Di H s.mem.length ks then
  ⟨(lv.filter fun t=>wr.contains t).map (fun t=>(t,(ad s.env t).ren (rho H ks)))++((wr.filter fun t=> !lv.contains t).map fun t=>(t,AV.undef))++I,(s.mem.take H).map (aek.ren (rho H ks))++ae1 H ks s.mem,true⟩
 else⟨aw lv wr I s.env,s.mem,s.aeC⟩
def mD(lv wr:List Nat)(I:Env)(H:Nat)(s:XS):XS:=
 if wB lv=true∨s.mem.length≤H then⟨aw lv wr I s.env,s.mem,s.aeC⟩ else
  let ks:=pR H s.mem 1000 (lv.flatMap fun t=>(ad s.env t).refs H) []
  if Di H s.mem.length ks&&(s.mem.take H).all fun s=>(s.refs H).isEmpty then
   ⟨(lv.filter fun t=>wr.contains t).map (fun t=>(t,(ad s.env t).ren (rho H ks)))++((wr.filter fun t=> !lv.contains t).map fun t=>(t,AV.undef))++I,s.mem.take H++ae1 H ks s.mem,s.aeC⟩
  else if RB lv then Kv lv wr I H s
  else⟨aw lv wr I s.env,s.mem,s.aeC⟩
def fy(lv wr:List Nat)(H:Env)(I:Nat)(f:XS→Option (Exit×XS)):Nat→XS→Option (Exit×XS)
 |0,_=>none
 |k+1,s=>match f s with
  |some (.normal,s')=>fy lv wr H I f k (mD lv wr H I s')
  |r=>r
def aS(T:TypeId→Option TyI)(lv:Code→List Nat)(O:y9)(K N m0:Nat)(tp:Bool):Code→XS→Option (Exit×XS)
 |.skip,s=>some (.normal,s)
 |.region _ ops false,s=>match dN T O N m0 ops ops.toList s with
  |some s' =>some (.normal,s')
  |none=>none
 |.region _ ops true,s=>match aK T O N m0 ops s with
  |some s' =>some (.normal,s')
  |none=>none
 |.seq a b,s=>match aS T lv O K N m0 tp a s with
  |some (.normal,s')=>aS T lv O K N m0 tp b s'
  |r=>r
 |.cond c a b,s=>match get s.env c with
  |.bool true=>aS T lv O K N m0 tp a s
  |.bool false=>aS T lv O K N m0 tp b s
  |_=>none
 |.block id b,s=>match aS T lv O K N m0 tp b s with
  |some (.exit i,s')=>if i=id then some (.normal,s') else some (.exit i,s')
  |r=>r
 |.loop b,s=>fy (lv b) (ae b) s.env s.mem.length (aS T lv O K N m0 tp b) K ⟨aw (lv b) (ae b) s.env s.env,s.mem,s.aeC⟩
 |.exit id,s=>some (.exit id,s)
 |.ret,s=>some (.ret,s)
 |.rangeFunc g ps XO body,s=>
  if tp then
   match get s.env g with
   |.func f caps=>match O (.fn f) (.yield s.mem.length::caps) (s.mem++[.loop ⟨.ready,none,s.env,N,ps,XO,body⟩]) with
    |some r=>
     let Y3:=r.mem (s.mem++[.loop ⟨.ready,none,s.env,N,ps,XO,body⟩])
     match Y3[s.mem.length]? with
     |some (.loop r2)=>if r2.st== .busy then none else match yD r2.afj with
      |some e=>some (e,⟨s.env,Y3.set s.mem.length (.loop { r2 with st:=.exhausted }),s.aeC||r.pre.isSome⟩)
      |none=>none
     |_=>none
    |none=>none
   |_=>none
  else none
 |_,_=>none
def aa(T:TypeId→Option TyI)(lv:Code→List Nat)(G:FuncId→Option Func)(O:y9)(K:Nat)(f:FuncId)(args:List AV)(mem:Mem):Option aee:=
 match G f with
 |none=>none
 |some fn=>match fn.body with
  |none=>none
  |some c=>
   if args.length≤fn.ntmps then
    match aS T lv O K fn.ntmps mem.length true c ⟨dh 0 args,mem,false⟩ with
    |some (e,s)=>
     match e with
     |.normal | .ret=>
      match iW T fn.results.toList s.env s.mem with
      |some v=>
       let m0:=mem.length
       if s.aeC then
        let ks:=pR m0 s.mem 1000 (v.refs m0++(s.mem.take m0).flatMap (aek.refs m0)) []
        if Di m0 s.mem.length ks then
         some ⟨v.ren (rho m0 ks),some ((s.mem.take m0).map (aek.ren (rho m0 ks))),ae1 m0 ks s.mem⟩
        else none
       else
        let ks:=pR m0 s.mem 1000 (v.refs m0) []
        if Di m0 s.mem.length ks then
         some ⟨v.ren (rho m0 ks),none,ae1 m0 ks s.mem⟩
        else none
      |none=>none
     |_=>none
    |none=>none
   else none
def xq(T:TypeId→Option TyI)(lv:Code→List Nat)(O:y9)(K:Nat)(b:Nat)(args:List AV)(mem:Mem):Option aee:=
 match mem[b]? with
 |some (.loop r)=>
  if r.st== .ready&&decide (args.length=r.ps.toList.length)&&r.ps.toList.all (fun t=>decide (t<r.N))&&cC r.assign&&cC r.body then
   match aS T lv O K r.N mem.length false r.assign ⟨yz r.ps.toList args r.env,mem,true⟩ with
   |some (.normal,s1)=>match s1.mem[b]? with
    |some (.loop r1)=>
     if r1.st== .ready then
      match aS T lv O K r.N mem.length false r.body ⟨s1.env,s1.mem.set b (.loop { r1 with st:=.busy }),true⟩ with
      |some (e,s2)=>match rl e,s2.mem[b]? with
       |some j,some (.loop r2)=>
        let m0:=mem.length
        let m3:=s2.mem.set b (.loop { r2 with st:=mA j,afj:=j })
        let ks:=pR m0 m3 1000 ((m3.take m0).flatMap (aek.refs m0)) []
        if Di m0 s2.mem.length ks then
         some ⟨.bool j.isNone,some ((m3.take m0).map (aek.ren (rho m0 ks))),ae1 m0 ks m3⟩
        else none
       |_,_=>none
      |none=>none
     else none
    |_=>none
   |_=>none
  else none
 |_=>none
def Dc(T:TypeId→Option TyI)(lv:Code→List Nat)(G:FuncId→Option Func)(O:y9)(K:Nat):Nat→y9
 |0=>O
 |n+1=>fun c Z mem=>match O c Z mem with
  |some r=>some r
  |none=>match c with
   |.fn f=>aa T lv G (Dc T lv G O K n) K f Z mem
   |.yld b=>xq T lv (Dc T lv G O K n) K b Z mem
structure qS (P:Program)(O:y9):Prop where
 fn:∀f args mem r,O (.fn f) args mem=some r→kO P f args mem r.v (r.mem mem)
 yld:∀b args mem r,O (.yld b) args mem=some r→fO P b args mem r.v (r.mem mem)
 pre:∀c args mem r p,O c args mem=some r→r.pre=some p→p.length=mem.length
variable{args:List AV}{c:Callee}{d:Bool}{k m x:AV}{l:List Nat}{o:Oper}{op:Op}
section
variable {P:Program}{T:TypeId→Option TyI}{O:y9}{mem mem' :Mem}{env:Env}
def aeK(wr:List Nat) (mem mem' :Mem):Prop:=mem.length≤mem'.length∧∀b:Nat,b<mem.length→b∉wr→mem'[b]? =mem[b]?
theorem aeK.refl(wr:List Nat)(mem:Mem):aeK wr mem mem:=⟨Nat.le_refl _,fun _ _ _=>rfl⟩
theorem aeK.push(wr:List Nat)(mem l:Mem):aeK wr mem (mem++l):=⟨by simp,fun b Z _=>List.getElem?_append_left Z⟩
theorem aeK.set(b0:Nat)(s:aek)(mem:Mem):aeK [b0] mem (mem.set b0 s):=
 ⟨by simp,fun b _ Z=>List.getElem?_set_ne (fun e=>Z (by simp[e]))⟩
theorem aeK.af4(b0:Nat)(s:aek)(mem l:Mem):aeK [b0] mem (mem.set b0 s++l):=
 ⟨by simp,fun b Z X=>by rw[List.getElem?_append_left (by simpa using Z)];exact List.getElem?_set_ne (fun e=>X (by simp[e]))⟩
theorem vv{t t2:TypeId}{s x v:AV}(h:oJ T mem t t2 s x=some (v,mem')):aeK (ee s) mem mem' :=by
 unfold oJ at h
 repeat' split at h
 all_goals first
  |(cases h;done)
  |(cases h;exact .refl _ _)
  |(cases h;exact .push _ _ _)
  |(cases h;exact .set _ _ _)
  |(cases h;exact .af4 _ _ _ _)
theorem JM{t:TypeId}{v:AV}(h:sW T mem t x v=some mem'):aeK (Te x) mem mem' :=by
 unfold sW at h
 repeat' split at h
 all_goals first
  |(cases h;done)
  |(cases h;rename_i Z _ _ _;exact .set _ _ _)
theorem zB{t:TypeId}{v:AV}(h:fl T mem t m k v=some mem'):aeK (Ny m) mem mem' :=by
 unfold fl at h
 repeat' split at h
 all_goals first
  |(cases h;done)
  |(cases h;exact .set _ _ _)
theorem Ba{t:TypeId}{v:AV}(h:qU T mem t m k=some (v,mem')):aeK (Ny m) mem mem' :=by
 unfold qU at h
 repeat' split at h
 all_goals first
  |(cases h;done)
  |(cases h;exact .set _ _ _)
theorem xk{m s v:AV}(h:kG mem m s v=some mem'):aeK (Ny m) mem mem' :=by
 unfold kG at h
 repeat' split at h
 all_goals first
  |(cases h;done)
  |(cases h;exact .set _ _ _)
theorem JC{e:TypeId}{v:AV}(h:sV T mem e=some (v,mem')):aeK l mem mem' :=by unfold sV at h;split at h<;>cases h;exact .push _ _ _
theorem Px{v:AV}(h:Wg mem x=some (v,mem')):aeK l mem mem' :=by unfold Wg at h;split at h<;>cases h;exact .push _ _ _
theorem xi{t:TypeId}{n:Nat}{ps}{v:AV}{l:List Nat}(h:fK T mem t n ps=some (v,mem')):aeK l mem mem' :=by
 unfold fK at h
 repeat' split at h
 all_goals first
  |(cases h;done)
  |(cases h;exact .push _ _ _)
theorem zy{t:TypeId}{y:AV}{v:AV}(h:kj T mem t x y=some (v,mem')):aeK l mem mem' :=by
 unfold kj at h
 repeat' split at h
 all_goals first
  |(cases h;done)
  |(cases h;exact .push _ _ _)
theorem FA{pt:TypeId}{l v:AV}(h:xo T mem pt x l=some (v,mem')):aeK (Te x) mem mem' :=by
 unfold xo at h
 repeat' split at h
 all_goals first
  |(cases h;done)
  |(cases h;exact .set _ _ _)
theorem zu{s d:TypeId}{v:AV}(h:mK T mem s d x=some (v,mem')):aeK l mem mem' :=by
 unfold mK at h
 repeat' split at h
 all_goals first
  |(cases h;done)
  |(cases h;exact .push _ _ _)
theorem C9{t:TypeId}{s x v:AV}(h:vu T mem t s x=some (v,mem')):aeK l mem mem' :=by
 unfold vu at h
 repeat' split at h
 all_goals first
  |(cases h;done)
  |(cases h;exact .push _ _ _)
theorem JG{t:TypeId}(h:JF T mem t x=some mem'):aeK (ee x) mem mem' :=by
 unfold JF at h
 repeat' split at h
 all_goals first
  |(cases h;done)
  |(cases h;exact .refl _ _)
  |(cases h;exact .set _ _ _)
theorem CZ{t t2:TypeId}{s x v:AV}(h:se T mem t t2 s x=some (v,mem')):aeK (ee s) mem mem' :=by
 unfold se at h
 repeat' split at h
 all_goals first
  |(cases h;done)
  |(cases h;exact .set _ _ _)
theorem vx{t:TypeId}{v:AV}{H I:Option AV}(h:xn T mem t x H I=some (v,mem')):aeK l mem mem' :=by
 unfold xn at h
 repeat' split at h
 all_goals first
  |(cases h;done)
  |(cases h;exact .push _ _ _)
theorem JK{v:AV}(h:aOp T env mem op=some (v,mem')):aeK (wH env op) mem mem' :=by
 unfold aOp at h
 repeat' split at h
 all_goals first
  |(cases h;done)
  |(cases h;exact .refl _ _)
  |exact vx h
  |(rename_i Z;cases h;exact vx Z)
  |exact CZ h
  |exact JC h
  |exact Px h
  |exact xi h
  |exact zy h
  |exact vv h
  |(rename_i Z;cases h;exact vv Z)
  |exact C9 h
  |exact zu h
  |exact FA h
  |exact Ba h
  |(cases h;exact .push _ _ _)
  |(rename_i Z;cases h;first | exact JM Z | exact zB Z | exact xk Z | exact JG Z)
theorem mL{wr:List Nat}{m0:Nat}(h:(wr.any fun b=>decide (b<m0))=false){b:Nat}(H:b<m0):b∉wr:=by intro Z;have:=List.any_eq_false.1 h b Z;simp[H] at this
theorem uI{m0:Nat}(h1:m0≤mem.length)(h2:m0≤mem'.length)(h:∀b,b<m0→mem'[b]? =mem[b]?):mem'.take m0=mem.take m0:=by
 apply List.ext_getElem?;intro b;by_cases Z:b<m0
 ·rw[List.getElem?_take_of_lt Z,List.getElem?_take_of_lt Z,h b Z]
 ·rw[List.getElem?_eq_none (by simp;omega),List.getElem?_eq_none (by simp;omega)]
def Clean(m0:Nat)(mem:Mem)(d:Bool) (mem' :Mem) (d' :Bool):Prop:=m0≤mem.length→m0≤mem'.length∧(d' =false→d=false∧mem'.take m0=mem.take m0)
theorem Clean.refl(m0:Nat)(mem:Mem)(d:Bool):Clean m0 mem d mem d:=fun h=>⟨h,fun e=>⟨e,rfl⟩⟩
theorem Clean.trans{m0:Nat}{H m2 I:Mem}{d1 d2 d3:Bool}(h:Clean m0 H d1 m2 d2)(h' :Clean m0 m2 d2 I d3):Clean m0 H d1 I d3:=fun Z=>by obtain⟨X,V⟩:=h Z;obtain⟨U,S⟩:=h' X;refine⟨U,fun e=>?_⟩;obtain⟨R,N⟩:=S e;obtain⟨M,L⟩:=V R;exact⟨M,N.trans L⟩
theorem aeK.clean{wr:List Nat}{m0:Nat}(h:aeK wr mem mem'):Clean m0 mem d mem' (d||wr.any fun b=>decide (b<m0)):=fun Z=>by have X:=Nat.le_trans Z h.1;refine⟨X,fun e=>?_⟩;simp only[Bool.or_eq_false_iff] at e;exact⟨e.1,uI Z X fun b V=>h.2 b (by omega) (mL e.2 V)⟩
theorem JP{f:FuncId}(h:jD env op=some (.fn f,args)):FI env op=some (f,args):=by
 unfold jD at h;split at h
 ·split at h
  ·cases h;rename_i Z;simp[FI,Z]
  ·cases h
  ·cases h
 ·cases h
theorem FD{b:Nat}(h:jD env op=some (.yld b,args)):Ai env op=some (b,args):=by
 unfold jD at h;split at h
 ·split at h
  ·cases h
  ·cases h;rename_i Z;simp[Ai,Z]
  ·cases h
 ·cases h
section
variable (hO:qS P O)
include hO
theorem BX{r:aee}(hc:jD env o.op=some (c,args))(h:O c args mem=some r):
  wK P T env mem o r.v (r.mem mem):=by
 cases c with
 |fn f=>exact .inr (.inl ⟨f,args,JP hc,hO.fn _ _ _ _ h⟩)
 |yld b=>exact .inr (.inr ⟨b,args,FD hc,hO.yld _ _ _ _ h⟩)
theorem xL{r:aee}(h:O c args mem=some r):mem.length≤(r.mem mem).length:=by
 unfold aee.mem;cases hp:r.pre with
 |none=>simp
 |some p=>have:=hO.pre _ _ _ _ p h hp;simp;omega
theorem Np{m0:Nat}{d' :Bool}{v:AV}(h:US T O m0 env mem d o=some (v,mem',d')):
  wK P T env mem o v mem' ∧Clean m0 mem d mem' d' :=by
 unfold US at h;split at h
 ·rename_i S R Z
  cases h;exact⟨.inl Z,(JK Z).clean⟩
 ·split at h
  ·rename_i c args U
   split at h
   ·rename_i r X
    cases h;refine⟨BX hO U X,fun V=>⟨Nat.le_trans V (xL hO X),fun e=>?_⟩⟩;simp only[Bool.or_eq_false_iff,Option.isSome_eq_false_iff,Option.isNone_iff_eq_none] at e;refine⟨e.1,?_⟩;unfold aee.mem;rw[e.2];simp[List.take_append_of_le_length V]
   ·cases h
  ·cases h
end
theorem jO(H:qS P O){N m0:Nat}{ops:Array Oper}:∀{l:List Oper}{s s' :XS},dN T O N m0 ops l s=some s' →
  mr P T N ops l ⟨s.env,s.mem⟩ ⟨s'.env,s'.mem⟩∧Clean m0 s.mem s.aeC s'.mem s'.aeC
 | [],s,s',h=>by cases h;exact⟨rfl,.refl _ _ _⟩
 |o::os,s,s',h=>by
  unfold dN at h;split at h
  ·rename_i U
   split at h
   ·rename_i Z
    split at h
    ·rename_i v m L S
     obtain⟨R,M⟩:=Np H S;obtain⟨X,V⟩:=jO H h;exact⟨⟨true,Z,U,(fun e=>by cases e),fun _=>⟨v,m,R,X⟩⟩,M.trans V⟩
    ·cases h
   ·rename_i Z
    obtain⟨X,V⟩:=jO H h;exact⟨⟨false,Z,U,(fun _=>X),(fun e=>by cases e)⟩,V⟩
   ·cases h
  ·cases h
end
end Go.Eng
namespace Go.Eng
section
variable {P:Program}{T:TypeId→Option TyI}{O:y9}{N:Nat}{ops:Array Oper}
theorem gH(H:Nat→Bool):∀(i:Nat) (m:Mem),(bG H i m).length=m.length
 |_,[]=>rfl
 |i,s::r=>by simp[bG,gH H (i+1) r]
theorem kq(H:Nat→Bool):∀(i:Nat) (m:Mem) (b:Nat),(bG H i m)[b]? =m[b]? ∨(bG H i m)[b]? =some .qK
 |_,[],b=>.inl rfl
 |i,s::r,0=>by
  simp only[bG,List.getElem?_cons_zero];split
  ·exact .inl rfl
  ·exact .inr rfl
 |i,s::r,b+1=>by simp only[bG,List.getElem?_cons_succ];exact kq H (i+1) r b
theorem BN:∀(i:Nat) (m:Mem) (b:Nat),¬il (bG (fun _=>false) i m) b
 |_,[],b=>by rintro ⟨s,h,_⟩;simp[bG] at h
 |i,s::r,0=>by rintro ⟨s,h,Z⟩;simp[bG] at h;exact Z h.symm
 |i,s::r,b+1=>by rintro ⟨s,h,Z⟩;simp only[bG,List.getElem?_cons_succ] at h;exact BN (i+1) r b ⟨s,h,Z⟩
theorem mB(wr:List Nat):∀(i:Nat) (m H :Mem),m.length≤H.length→(bn wr i m H).length=H.length
 |_,[],H,_=>rfl
 |_,_::_,[],h=>by simp at h
 |i,s::r,s' ::r',h=>by simp only[bn,List.length_cons] at h ⊢;rw[mB wr (i+1) r r' (by omega)]
theorem uA(wr:List Nat):∀(i:Nat) (m H :Mem) (b:Nat),m.length≤H.length→(bn wr i m H)[b]? =if i+b∈wr∨m.length≤b then H[b]? else m[b]?
 |_,[],H,b,_=>by simp[bn]
 |_,_::_,[],_,h=>by simp at h
 |i,s::r,s' ::r',0,h=>by simp only[bn,List.getElem?_cons_zero,List.contains_iff_mem,Nat.add_zero,List.length_cons,Nat.le_zero_eq,Nat.add_one_ne_zero,or_false];split<;>rfl
 |i,s::r,s' ::r',b+1,h=>by simp only[List.length_cons] at h;simp only[bn,List.getElem?_cons_succ];rw[uA wr (i+1) r r' b (by omega)];simp only[List.length_cons,Nat.add_le_add_iff_right];rw[show i+1+b=i+(b+1) by omega]
theorem uw{m:Mem}{b:Nat}:fg m b=true↔il m b:=by
 unfold fg il;cases h:m[b]? with
 |none=>simp
 |some s=>cases s<;>simp
theorem Dk:∀(i:Nat) (m:Mem) (b:Nat),i+b∈dY i m↔il m b:=by
 intro i m;induction m generalizing i with
 |nil=>intro b;simp[dY,il]
 |cons s r ih=>
  intro b;have Z:∀(i:Nat) (m:Mem) (x:Nat),x∈dY i m→i≤x:=by
   intro i m;induction m generalizing i with
   |nil=>intro x h;simp[dY] at h
   |cons s r ih=>
    intro x h;have:x∈dY (i+1) r∨x=i:=by cases s<;>simp only[dY,List.mem_cons] at h<;>first | exact .inl h | exact h.symm
    rcases this with h | h
    ·have:=ih (i+1) x h;omega
    ·omega
  cases b with
  |zero=>
   have X:¬(i+0∈dY (i+1) r):=fun h=>by have:=Z _ _ _ h;omega
   cases s<;>simp[dY,il]<;>simpa using X
  |succ b=>
   have:=ih (i+1) b;rw[show i+1+b=i+(b+1) by omega] at this;have V:il (s::r) (b+1)↔il r b:=by simp[il]
   rw[V,←this];cases s<;>simp[dY]
structure afN (P:Program)(T:TypeId→Option TyI)(N:Nat)(ops:Array Oper)(r:Rec)(o:Oper):Prop where
 dst:Df N o=true
 wanted:rV ops r.en o=some r.wb
 en:r.en=(o.looksAt ops).map fun t=>(t,ad r.env t)
 step:r.wb=true→wK P T r.en r.tm o r.v r.m'
 skip:r.wb=false→r.v=.tuple []∧r.m' =r.tm
 afZ:r.tm.length=r.mem.length
 af0:∀b:Nat,r.tm[b]? =r.mem[b]? ∨r.tm[b]? =some .qK
 mono:r.mem.length≤r.m'.length
 afO:r.nx.length=r.m'.length
 nx:∀b:Nat,r.nx[b]? =if b∈r.wr∨r.mem.length≤b then r.m'[b]? else r.mem[b]?
 ae1:∀b:Nat,b<r.mem.length→b∉r.wr→il r.tm b→r.m'[b]? =r.mem[b]?
theorem DA{mem H:Mem}(h:∀b:Nat,H[b]? =mem[b]? ∨H[b]? =some .qK){b:Nat}(I:il H b):H[b]? =mem[b]? :=by
 rcases h b with e | e
 ·exact e
 ·obtain⟨s,Z,X⟩:=I
  rw[Z] at e;cases e;exact absurd rfl X
theorem Gb(H:qS P O){I:List Nat}{j:Nat}{o:Oper}{env:Env}{mem:Mem}{acc:List Rec}{r:Rec}(h:Ga T O N ops I j o env mem acc=some r):
  r.env=env∧r.mem=mem∧afN P T N ops r o:=by
 unfold Ga at h;split at h
 ·rename_i L
  simp only at h;split at h
  ·cases h
  ·rename_i S
   cases h;refine⟨rfl,rfl,L,S,rfl,(fun e=>by cases e),(fun _=>⟨rfl,rfl⟩),gH _ _ _,(fun b=>kq _ _ _ _),by simp[gH],by simp[gH],fun b=>?_,fun b _ _ V=>absurd V (BN _ _ _)⟩;simp only[List.not_mem_nil,false_or];split
   ·rename_i G
    rw[List.getElem?_eq_none G,List.getElem?_eq_none (by rw[gH];exact G)]
   ·rfl
  ·rename_i S
   generalize VW I j acc (Nh (List.map (fun t=>(t,ad env t)) (o.looksAt ops)) o.op)=ZX at h;have Z:(bG ZX 0 mem).length=mem.length:=gH _ _ _;split at h
   ·rename_i v m F
    cases h;have U:=JK F;rw[aeK,Z] at U;refine⟨rfl,rfl,L,S,rfl,fun _=>.inl F,(fun e=>by cases e),Z,fun b=>kq _ _ _ _,U.1,mB _ _ _ _ U.1,fun b=>?_,fun b V K R=>?_⟩
    ·have:=uA (wH (List.map (fun t=>(t,ad env t)) (o.looksAt ops)) o.op) 0 mem m b U.1
     rw[Nat.zero_add] at this;exact this
    ·rw[U.2 b V K];exact DA (fun b=>kq ZX 0 mem b) R
   ·split at h
    ·cases h
    ·rename_i c D B
     split at h
     ·cases h
     ·rename_i X C
      simp only[Option.some.injEq] at h;subst h;have M:=xL H C;rw[Z] at M;refine⟨rfl,rfl,L,S,rfl,fun _=>BX H B C,(fun e=>by cases e),Z,fun b=>kq _ _ _ _,M,mB _ _ _ _ M,fun b=>?_,fun b V K R=>?_⟩
      ·have:=uA (UR (bG ZX 0 mem) X.pre) 0 mem (X.mem (bG ZX 0 mem)) b M
       rw[Nat.zero_add] at this;exact this
      ·cases hp:X.pre with
       |some p=>
        exfalso;apply K;show b∈UR (bG ZX 0 mem) X.pre
        rw[hp];show b∈dY 0 (bG ZX 0 mem)
        have:=(Dk 0 (bG ZX 0 mem) b).2 R
        rwa [Nat.zero_add] at this
       |none=>
        show(X.mem (bG ZX 0 mem))[b]? =mem[b]?
        unfold aee.mem;rw[hp];simp only[Option.getD_none];rw[List.getElem?_append_left (by rw[Z];exact V)];exact DA (fun b=>kq ZX 0 mem b) R
 ·cases h
def lx(P:Program)(T:TypeId→Option TyI)(N:Nat)(ops:Array Oper):List Oper→Env→Mem→List Rec→Env→Mem→Prop
 | [],env,mem,[],AC,mem' =>AC =env∧mem' =mem
 |o::os,env,mem,r::rs,AC,mem' =>r.env=env∧r.mem=mem∧afN P T N ops r o∧lx P T N ops os (ae6 env o.dst r.v) r.nx rs AC mem'
 |_,_,_,_,_,_=>False
theorem pd(J:qS P O){W:List Nat}:∀{l:List Oper} {j:Nat} {env:Env} {mem:Mem} {acc R:List Rec}{I :Env}{H :Mem},
  mE T O N ops W j l env mem acc=some (R,I,H)→∃Z,R=acc.reverse++Z∧lx P T N ops l env mem Z I H
 | [],j,env,mem,acc,R,I,H,h=>by simp only[mE,Option.some.injEq,Prod.mk.injEq] at h;obtain⟨rfl,rfl,rfl⟩:=h;exact⟨[],by simp,rfl,rfl⟩
 |o::os,j,env,mem,acc,R,I,H,h=>by
  unfold mE at h;split at h
  ·cases h
  ·rename_i r X
   obtain⟨V,U,h3⟩:=Gb J X;obtain⟨Z,e,S⟩:=pd J h;exact⟨r::Z,by rw[e];simp,V,U,h3,S⟩
def Qq(R:List Rec)(H:Env×Mem)(j:Nat):Env×Mem:=match R[j]? with
 |some r=>(r.env,r.mem)
 |none=>H
theorem yO:∀{l:List Oper} {env:Env} {mem:Mem} {R:List Rec}{I :Env}{H :Mem},lx P T N ops l env mem R I H →R.length=l.length
 | [],_,_,[],_,_,_=>rfl
 |_::_,_,_,_::_,_,_,h=>by simp only[List.length_cons];rw[yO h.2.2.2]
 | [],_,_,_::_,_,_,h=>h.elim
 |_::_,_,_,[],_,_,h=>h.elim
theorem we:∀{l:List Oper} {env:Env} {mem:Mem} {R:List Rec}{I :Env}{H :Mem},lx P T N ops l env mem R I H →Qq R (I,H) 0=(env,mem)
 | [],_,_,[],_,_,h=>by obtain⟨rfl,rfl⟩:=h;rfl
 |_::_,_,_,_::_,_,_,h=>by obtain⟨rfl,rfl,_⟩:=h;rfl
 | [],_,_,_::_,_,_,h=>h.elim
 |_::_,_,_,[],_,_,h=>h.elim
theorem B8:∀{l:List Oper} {env:Env} {mem:Mem} {R:List Rec}{I :Env}{H :Mem},lx P T N ops l env mem R I H →∀(j:Nat) (o:Oper),l[j]? =some o→
  ∃r,R[j]? =some r∧afN P T N ops r o∧Qq R (I,H) (j+1)=(ae6 r.env o.dst r.v,r.nx)
 |o::os,_,_,r::rs,I,H,h,0,o',ho=>by cases ho;obtain⟨rfl,rfl,h3,Z⟩:=h;exact⟨r,rfl,h3,we Z⟩
 |o::os,_,_,r::rs,I,H,h,j+1,o',ho=>by obtain⟨_,_,_,Z⟩:=h;obtain⟨X,V,U,g3⟩:=B8 Z j o' ho;exact⟨X,V,U,g3⟩
 | [],_,_,_,_,_,_,j,_,ho=>by simp at ho
 |_::_,_,_,[],_,_,h,_,_,_=>h.elim
theorem lW:∀(i:Nat) (R:List Rec) (j:Nat) (r:Rec),R[j]? =some r→(i+j,r)∈ba i R
 |i,x::xs,0,r,h=>by cases h;simp[ba]
 |i,x::xs,j+1,r,h=>by simp only[List.getElem?_cons_succ] at h;have:=lW (i+1) xs j r h;rw[show i+1+j=i+(j+1) by omega] at this;simp[ba,this]
 |_,[],_,_,h=>by simp at h
end
variable{R:List Rec}{bs:List Nat}{j:Nat}
section
variable {P:Program}{T:TypeId→Option TyI}{O:y9}{N:Nat}{ops:Array Oper}
def U4(bs:List Nat)(R:List Rec)(j:Nat):List (Nat×Rec):=(ba 0 R).filter fun f=>decide (f.1<j)&& !bef bs f.1 j
def oM(n:Nat)(bs:List Nat)(R:List Rec)(H:Env×Mem):aeN where
 E j:=(Qq R H j).1
 M j:=(Qq R H j).2
 En j:=match R[j]? with | some r=>r.en | none=>[]
 Tm j:=match R[j]? with | some r=>r.tm | none=>[]
 M' j:=match R[j]? with | some r=>r.m' | none=>[]
 v j:=match R[j]? with | some r=>r.v | none=>.undef
 wb j:=match R[j]? with | some r=>r.wb | none=>false
 aeX j b:=match R[j]? with | some r=>decide (b∈r.wr)||decide (r.mem.length≤b) | none=>false
 ok j b:=match R[j]? with | some r=>iz r.nx.length (U4 bs R j) b | none=>false
 cl i j:=decide (i<n)&&bef bs i j
theorem Bq(h:mQ ops bs=true){o:Oper}(H:ops[j]? =some o):
  (∀e∈o.after,Region.binds .any e=true→e.on<j)∧
  (∀i,i<ops.size→bef bs i j=true→∃e∈o.after,Region.binds .any e=true∧(e.on=i∨bef bs i e.on=true))∧
  ∀(i:Nat) X t,ops[i]? =some X→i≠j→X.dst=some t→(t∈o.looksAt ops∨o.dst=some t)→bef bs i j=true∨bef bs j i=true:=by
 have F:j<ops.size:=(Array.getElem?_eq_some_iff.1 H).1;unfold mQ at h;have:=List.all_eq_true.1 h j (by simpa using F);simp only[H,Bool.and_eq_true,List.all_eq_true,List.mem_range] at this;obtain⟨D,K⟩:=this;refine⟨fun e V U=>?_,fun i Z U=>?_,fun i X t Z C B S=>?_⟩
 ·have:=D e (by simpa using V)
  simpa [U] using this
 ·have:=(K i Z).1
  simp only[U,Bool.not_true,Bool.false_or,List.any_eq_true] at this;obtain⟨e,V,M⟩:=this;simp only[Bool.and_eq_true,Bool.or_eq_true,beq_iff_eq] at M;exact⟨e,by simpa using V,M.1,M.2⟩
 ·have L:i<ops.size:=(Array.getElem?_eq_some_iff.1 Z).1
  have:=(K i L).2;simp only[Z,B,Bool.or_eq_true,beq_iff_eq,C,false_or,Bool.and_eq_true,Bool.not_eq_true',List.contains_eq_mem,decide_eq_false_iff_not] at this;rcases this with (h3 | h3) | ⟨h3,G⟩
  ·exact .inl h3
  ·exact .inr h3
  ·rcases S with h5 | h5
   ·exact absurd h5 h3
   ·rw[h5] at G;simp at G
structure afp (bs:List Nat)(R:List Rec)(j:Nat)(r:Rec):Prop where
 wr:∀b∈r.wr,il r.tm b
 af2:r.v.aef (iz r.nx.length (U4 bs R j))=true
 agL:∀(b:Nat) s,b∈r.wr→r.nx[b]? =some s→s.aef (iz r.nx.length (U4 bs R j))=true
 fresh:∀(b:Nat) s,r.mem.length≤b→r.nx[b]? =some s→(s≠ .qK→s.own=true)∧s.aef (iz r.nx.length (U4 bs R j))=true
 agm:∀(i:Nat) f,i<j→R[i]? =some f→bef bs i j=false→(∀b∈f.wr,¬il r.tm b)∧(∀b∈r.wr,¬il f.tm b)∧∀b,f.mem.length≤b→b<f.nx.length→¬il r.tm b
theorem FL{r:Rec}(h:ie bs (ba 0 R) j r=true):afp bs R j r:=by
 unfold ie at h;simp only[Bool.and_eq_true] at h;obtain⟨⟨⟨⟨S,M⟩,h3⟩,L⟩,K⟩:=h;refine⟨fun b Z=>uw.1 (List.all_eq_true.1 S b Z),M,fun b s Z X=>?_,fun b s Z X=>?_,fun i f G F Z=>?_⟩
 ·have:=List.all_eq_true.1 h3 b Z
  rw[X] at this;exact this
 ·have U:s∈r.nx.drop r.mem.length:=by apply List.mem_of_getElem? (i:=b-r.mem.length);rw[List.getElem?_drop,←X];congr 1;omega
  have:=List.all_eq_true.1 L s U;simp only[Bool.and_eq_true,Bool.or_eq_true] at this;refine⟨fun D=>?_,this.2⟩;rcases this.1 with h | h
  ·exact h
  ·cases s<;>simp_all
 ·have C:(i,f)∈U4 bs R j:=by unfold U4;rw[List.mem_filter];have:=lW 0 R i f F;rw[Nat.zero_add] at this;exact⟨this,by simp[G,Z]⟩
  have:=List.all_eq_true.1 K (i,f) C;simp only[Bool.and_eq_true,List.all_eq_true,Bool.not_eq_true'] at this;obtain⟨⟨B,A⟩,u⟩:=this;refine⟨fun b Z V=>?_,fun b Z V=>?_,fun b o m V=>?_⟩
  ·have:=B b Z;rw[uw.2 V] at this;cases this
  ·have:=A b Z;rw[uw.2 V] at this;cases this
  ·obtain⟨s,X,D⟩:=V
   have U:s∈(r.tm.drop f.mem.length).take (f.nx.length-f.mem.length):=by apply List.mem_of_getElem? (i:=b-f.mem.length);rw[List.getElem?_take_of_lt (by omega),List.getElem?_drop,←X];congr 1;omega
   have:=u s U;cases s<;>simp_all
theorem DO{env:Env}:∀(l:List Tmp) (t:Nat),(t∈l∧ad (l.map fun t=>(t,ad env t)) t=ad env t)∨(t∉l∧ad (l.map fun t=>(t,ad env t)) t=.undef)
 | [],t=>.inr ⟨by simp,rfl⟩
 |x::xs,t=>by
  simp only[List.map_cons,ad];by_cases Z:x=t
  ·subst Z;exact .inl ⟨by simp,by simp⟩
  ·simp only[Z,if_false]
   rcases DO (env:=env) xs t with⟨X,V⟩ | ⟨X,V⟩
   ·exact .inl ⟨by simp[X],V⟩
   ·exact .inr ⟨by simp[X,Ne.symm Z],V⟩
theorem Uh{m:Mem}{b:Nat}(h:il m b):b<m.length:=by obtain⟨s,h,_⟩:=h;exact(gL h)
theorem Uc{env I :Env}{mem H :Mem}(hs:mQ ops bs=true)(hR:lx P T N ops ops.toList env mem R I H)(hC:∀(j:Nat) r,R[j]? =some r→afp bs R j r):sL P T N ops (oM ops.size bs R (I,H)):=by
 have A:∀(j:Nat) o,ops[j]? =some o→∃r,R[j]? =some r∧afN P T N ops r o∧Qq R (I,H) (j+1)=(ae6 r.env o.dst r.v,r.nx):=
  fun j o ho=>B8 hR j o (by simpa using ho)
 have M_at:∀(j:Nat) r,R[j]? =some r→(oM ops.size bs R (I,H)).M j=r.mem:=fun j r h=>by simp[oM,Qq,h]
 have lens:∀(i:Nat) V U,ops[i]? =some U→R[i]? =some V→∀(k j:Nat) D oj,j=i+1+k→ops[j]? =some oj→R[j]? =some D→V.nx.length≤D.mem.length:=by
  intro i V U B Z k;induction k with
  |zero=>
   intro j D oj hj hoj u;obtain⟨r,g1,g2,g3⟩:=A i U B;rw[Z] at g1;cases g1;have:Qq R (I,H) (i+1)=(D.env,D.mem):=by rw[show i+1=j by omega];simp[Qq,u]
   rw[this] at g3;have:=congrArg Prod.snd g3;simp only at this;rw[this];exact Nat.le_refl _
  |succ k ih=>
   intro j D oj hj hoj u;have hjs:j<ops.size:=(Array.getElem?_eq_some_iff.1 hoj).1;obtain⟨op,hop⟩:=zH (ops:=ops) (j:=j-1) (by omega);obtain⟨r,g1,g2,g3⟩:=A (j-1) op hop;have W:=ih (j-1) r op (by omega) hop g1;have:Qq R (I,H) (j-1+1)=(D.env,D.mem):=by rw[show j-1+1=j by omega];simp[Qq,u]
   rw[this] at g3;have e:=congrArg Prod.snd g3;simp only at e;have:=g2.afO;have:=g2.mono;rw[e];omega
 have aaV :∀(i j:Nat) V D U oj,i<j→ops[i]? =some U→ops[j]? =some oj→R[i]? =some V→R[j]? =some D→V.nx.length≤D.mem.length:=
  fun i j V D U oj ZN B hoj Z u=>lens i V U B Z (j-i-1) j D oj (by omega) hoj u
 intro j o ho;obtain⟨r,L,K,abv⟩:=A j o ho;have C:=hC j r L;have S:=Bq hs ho;have hjs:j<ops.size:=(Array.getElem?_eq_some_iff.1 ho).1;have J:(oM ops.size bs R (I,H)).M j=r.mem:=M_at j r L;have G:(oM ops.size bs R (I,H)).M (j+1)=r.nx:=by simp[oM,abv]
 have eE:(oM ops.size bs R (I,H)).E j=r.env:=by simp[oM,Qq,L]
 have eE1:(oM ops.size bs R (I,H)).E (j+1)=ae6 r.env o.dst r.v:=by simp[oM,abv]
 have eEn:(oM ops.size bs R (I,H)).En j=r.en:=by simp[oM,L]
 have eT:(oM ops.size bs R (I,H)).Tm j=r.tm:=by simp[oM,L]
 have m :(oM ops.size bs R (I,H)).M' j=r.m' :=by simp[oM,L]
 have ev:(oM ops.size bs R (I,H)).v j=r.v:=by simp[oM,L]
 have ew:(oM ops.size bs R (I,H)).wb j=r.wb:=by simp[oM,L]
 have Y4:∀b,(oM ops.size bs R (I,H)).aeX j b=true↔b∈r.wr∨r.mem.length≤b:=fun b=>by simp[oM,L]
 have aap:∀b,(oM ops.size bs R (I,H)).aeX j b=false↔b∉r.wr∧b<r.mem.length:=fun b=>by simp[oM,L]
 have eok:(oM ops.size bs R (I,H)).ok j=iz r.nx.length (U4 bs R j):=by funext b;simp[oM,L]
 have F:∀i k,i<ops.size→(oM ops.size bs R (I,H)).cl i k=bef bs i k:=fun i k hi=>by simp[oM,hi]
 have abw:r.mem.length≤r.nx.length:=by rw[K.afO];exact K.mono
 refine⟨by rw[eEn,ew];exact K.wanted,K.dst,?_,?_,by rw[eE1,eE,ev],?_,?_,by rw[eT,J];exact K.afZ,by rw[eT,J];exact K.af0,by rw[G,m];exact K.afO,by rw[J,G];exact abw,
  ?_,?_,?_,?_,?_,?_,?_,?_,?_,?_,S.1,?_⟩
 ·rw[ew,eEn,eT,ev,m];exact K.step
 ·rw[ew,ev,m,eT];exact K.skip
 ·intro t
  rw[eEn,eE,K.en];rcases DO (env:=r.env) (o.looksAt ops) t with⟨W,h2⟩ | ⟨W,h2⟩
  ·refine .inr ⟨h2,fun i U hi PP Y=>?_⟩
   rw[F i j (Array.getElem?_eq_some_iff.1 hi).1,F j i hjs];exact S.2.2 i U t hi PP Y (.inl W)
  ·exact .inl h2
 ·intro i U t hi PP W h2
  rw[F i j (Array.getElem?_eq_some_iff.1 hi).1,F j i hjs];exact S.2.2 i U t hi PP h2 (.inr W)
 ·intro b X
  rw[G,m,K.nx b,if_pos ((Y4 b).1 X)]
 ·intro b X Y
  rw[J] at X;rw[G,J,K.nx b,if_neg];rw[aap] at Y;rintro (h | h)
  ·exact Y.1 h
  ·omega
 ·intro b X Y hB
  rw[J] at X;rw[m,J];rw[aap] at Y;rw[eT] at hB;exact K.ae1 b X Y.1 hB
 ·intro b X
  rw[J] at X;exact(Y4 b).2 (.inr X)
 ·intro b Y X
  rw[J] at X;rw[eT];rcases (Y4 b).1 Y with h | h
  ·exact C.wr b h
  ·omega
 ·
  intro i U b B ZN hbi hti hor;obtain⟨V,Z,Ki,hni⟩:=A i U B;have Ci:=hC i V Z;have eMi:(oM ops.size bs R (I,H)).M (i+1)=V.nx:=by simp[oM,hni]
  rw[eMi] at hbi;have acA :b∈V.wr∨V.mem.length≤b:=by simpa [oM,Z] using hti
  rw[G,eT] at hor;rw[F i j (Array.getElem?_eq_some_iff.1 B).1,F j i hjs];by_cases FS:i<j
  ·cases X:bef bs i j with
   |true=>exact .inl rfl
   |false=>
    exfalso;obtain⟨p1,p2,p3⟩:=C.agm i V FS Z X;have hl:=aaV i j V r U o FS B ho Z L;have acB:¬il r.tm b:=by
     rcases acA with h | h
     ·exact p1 b h
     ·exact p3 b h hbi
    rcases hor with⟨g1,g2⟩ | g
    ·rcases (Y4 b).1 g2 with h | h
     ·exact acB (C.wr b h)
     ·omega
    ·exact acB g
  ·cases X:bef bs j i with
   |true=>exact .inr rfl
   |false=>
    exfalso;obtain⟨p1,p2,p3⟩:=Ci.agm j r (by omega) L X;have hl:=aaV j i r V o U (by omega) ho B L Z;have htl:=K.afZ;rcases acA with h | h
    ·rcases hor with⟨g1,g2⟩ | g
     ·rcases (Y4 b).1 g2 with h' | h'
      ·exact p2 b h (C.wr b h')
      ·exact p3 b h' g1 (Ci.wr b h)
     ·exact p2 b h g
    ·rcases hor with⟨g1,g2⟩ | g
     ·omega
     ·have:=Uh g;omega
 ·
  intro i b U B XT W h2;obtain⟨V,Z,Ki,hni⟩:=A i U B;have eMi:(oM ops.size bs R (I,H)).M (i+1)=V.nx:=by simp[oM,hni]
  rw[M_at i V Z] at W;rw[eMi] at h2;rw[eok] at XT;unfold iz at XT;simp only[Bool.and_eq_true,decide_eq_true_eq,List.all_eq_true,Bool.not_eq_true',decide_eq_false_iff_not] at XT;by_cases ZN:i=j
  ·exact .inl ZN
  ·refine .inr ?_
   rw[F i j (Array.getElem?_eq_some_iff.1 B).1];by_cases FS:i<j
   ·cases X:bef bs i j with
    |true=>rfl
    |false=>
     exfalso;have YN:(i,V)∈U4 bs R j:=by unfold U4;rw[List.mem_filter];have:=lW 0 R i V Z;rw[Nat.zero_add] at this;exact⟨this,by simp[FS,X]⟩
     exact XT.2 (i,V) YN ⟨W,h2⟩
   ·exfalso
    have hl:=aaV j i r V o U (by omega) ho B L Z;omega
 ·rw[ev,eok];exact C.af2
 ·intro b s Y hs
  rw[G] at hs;rw[eok];rcases (Y4 b).1 Y with h | h
  ·exact C.agL b s h hs
  ·exact(C.fresh b s h hs).2
 ·intro b s X hs PP
  rw[J] at X;rw[G] at hs ⊢;exact⟨s,hs,(C.fresh b s X hs).1 PP⟩
 ·intro i X
  simp only[oM,Bool.and_eq_true,decide_eq_true_eq] at X;obtain⟨e,W,h2,h3⟩:=S.2.1 i X.1 X.2;refine⟨e,W,h2,?_⟩;rcases h3 with h | h
  ·exact .inl h
  ·exact .inr (by simp[oM,X.1,h])
theorem Gg(H:P.follows .mixedOrders=true)(hT:cK P T)(I:qS P O){m0:Nat}{s s' :XS}(J:mQ ops (dT ops.toList)=true)(h:aK T O N m0 ops s=some s'):
  (∀(tp:Bool) (id:Nat) (Q:Exit→St→Prop),Q .normal ⟨s'.env,s'.mem⟩→AWP P tp N m0 (.region id ops true) ⟨s.env,s.mem⟩ Q)∧Clean m0 s.mem s.aeC s'.mem s'.aeC:=by
 unfold aK at h;simp only at h
 ·split at h
  ·cases h
  ·rename_i R env mem C
   split at h
   ·rename_i B
    cases h;obtain⟨Z,e,V⟩:=pd I C;simp only[List.reverse_nil,List.nil_append] at e;subst e;have A:∀(j:Nat) r,R[j]? =some r→afp (dT ops.toList) R j r:=by intro j r u;have:=lW 0 R j r u;rw[Nat.zero_add] at this;exact FL (List.all_eq_true.1 B _ this)
    have Y:=Uc J V A;have D:=we V;have W:=yO V;have U:Qq R (env,mem) ops.size=(env,mem):=by unfold Qq;rw[List.getElem?_eq_none (by rw[W];simp)]
    refine⟨fun tp id Q hq=>Bh H hT (d:=oM ops.size (dT ops.toList) R (env,mem)) Y (by simp[oM,D]) (by simp[oM,D]) (by simp[oM,U]) hq,?_⟩;have S:∀(l:List Oper) (e:Env) (m:Mem) (Z:List Rec),lx P T N ops l e m Z env mem→m0≤m.length→m0≤mem.length∧((Z.any fun r=>r.wr.any fun b=>decide (b<m0))=false→mem.take m0=m.take m0):=by
     intro l;induction l with
     |nil=>
      intro e m Z h X;cases Z with
      |nil=>obtain⟨rfl,rfl⟩:=h;exact⟨X,fun _=>rfl⟩
      |cons=>exact h.elim
     |cons o os ih=>
      intro e m Z h X;cases Z with
      |nil=>exact h.elim
      |cons r Z=>
       obtain⟨rfl,rfl,K,h4⟩:=h;have abw:r.mem.length≤r.nx.length:=by rw[K.afO];exact K.mono
       obtain⟨M,L⟩:=ih _ _ _ h4 (by omega);refine⟨M,fun G=>?_⟩;simp only[List.any_cons,Bool.or_eq_false_iff] at G;rw[L G.2];refine uI X (by omega) fun b hb=>?_
       rw[K.nx b,if_neg];rintro (h | h)
       ·exact mL G.1 hb h
       ·omega
    intro X;obtain⟨M,L⟩:=S _ _ _ _ V X;refine⟨M,fun F=>?_⟩;simp only[Bool.or_eq_false_iff] at F;exact⟨F.1,L F.2⟩
   ·cases h
end
end Go.Eng
namespace Go.Eng
variable{e z':Env}
section
variable {P:Program}{T:TypeId→Option TyI}{lv:Code→List Nat}{O:y9}{K N m0:Nat}{tp:Bool}
def W3(P:Program)(tp:Bool)(N m0:Nat)(c:Code)(s:XS)(e:Exit) (s' :XS):Prop:=
 (∀Q:Exit→St→Prop,Q e ⟨s'.env,s'.mem⟩→AWP P tp N m0 c ⟨s.env,s.mem⟩ Q)∧Clean m0 s.mem s.aeC s'.mem s'.aeC
def aeU(wr:List Nat) (e H :Env):Prop:=∀t,t∉wr→ad H t=ad e t
theorem aeU.refl(wr:List Nat)(e:Env):aeU wr e e:=fun _ _=>rfl
theorem aeU.trans{wr:List Nat}{H I J:Env}(h:aeU wr H I)(h' :aeU wr I J):aeU wr H J:=fun t Z=>(h' t Z).trans (h t Z)
theorem aeU.mono{wr wr' :List Nat}{H :Env}(h:aeU wr e H)(I:∀t,t∈wr→t∈wr'):aeU wr' e H :=fun t Z=>h t fun X=>Z (I t X)
theorem iv(a b:Env)(t:Nat)(h:∀e∈a,e.1≠t):ad (a++b) t=ad b t:=by
 induction a with
 |nil=>rfl
 |cons e r ih=>
  obtain⟨k,v⟩:=e;simp only[List.cons_append,ad];rw[if_neg (h (k,v) (by simp))];exact ih fun e Z=>h e (by simp[Z])
theorem gu(l:List Nat)(g:Nat→AV)(b:Env)(t:Nat)(h:t∈l):ad (l.map (fun t=>(t,g t))++b) t=g t:=by
 induction l with
 |nil=>cases h
 |cons x r ih=>
  simp only[List.map_cons,List.cons_append,ad];by_cases Z:x=t
  ·subst Z;rw[if_pos rfl]
  ·rw[if_neg Z]
   exact ih (by cases h with
    |head=>exact absurd rfl Z
    |tail _ h=>exact h)
theorem su{lv wr:List Nat}{env:Env}(h:aeU wr z' env)(t:Nat):ad (aw lv wr z' env) t=ad env t∨ad (aw lv wr z' env) t=.undef:=by
 unfold aw;rw[List.append_assoc];by_cases X:t∈lv
 ·rw[gu lv (fun t=>ad env t) _ t X];exact .inl rfl
 ·rw[iv _ _ t (by intro e Z;simp only[List.mem_map] at Z;obtain⟨x,V,rfl⟩:=Z;intro e;exact X (e▸V))]
  by_cases U:t∈wr
  ·rw[gu (wr.filter fun t=> !lv.contains t) (fun _=>AV.undef) _ t (by rw[List.mem_filter];exact⟨U,by simpa using X⟩)];exact .inr rfl
  ·rw[iv _ _ t (by intro e Z;simp only[List.mem_map,List.mem_filter] at Z;obtain⟨x,V,rfl⟩:=Z;intro e;exact U (e▸V.1))]
   exact .inl (h t U).symm
theorem nn{lv wr:List Nat}{env:Env}(H:aeU wr z' env):aeU wr z' (aw lv wr z' env):=by
 intro t V;unfold aw;rw[List.append_assoc];by_cases U:t∈lv
 ·rw[gu lv (fun t=>ad env t) _ t U];exact H t V
 ·rw[iv _ _ t (by intro e Z;simp only[List.mem_map] at Z;obtain⟨x,X,rfl⟩:=Z;intro e;exact U (e▸X)),
   iv _ _ t (by intro e Z;simp only[List.mem_map,List.mem_filter] at Z;obtain⟨x,X,rfl⟩:=Z;intro e;exact V (e▸X.1))]
theorem Cj{wr:List Nat}{o:Oper}{v:AV}(h:∀d,o.dst=some d→d∈wr):aeU wr e (ae6 e o.dst v):=by intro t Z;exact Km fun X=>Z (h t X)
theorem pc{m0:Nat}{ops:Array Oper}:∀{l:List Oper}{s s' :XS},dN T O N m0 ops l s=some s' →aeU (l.filterMap (·.dst)) s.env s'.env
 | [],s,s',h=>by cases h;exact .refl _ _
 |o::os,s,s',h=>by
  have X:∀t,t∈os.filterMap (·.dst)→t∈(o::os).filterMap (·.dst):=fun t V=>by
   rw[List.filterMap_cons];split
   ·exact V
   ·exact List.mem_cons_of_mem _ V
  have Z:∀d,o.dst=some d→d∈(o::os).filterMap (·.dst):=fun d Z=>by rw[List.filterMap_cons];simp[Z]
  unfold dN at h;split at h
  ·split at h
   ·split at h
    ·exact(Cj Z).trans ((pc h).mono X)
    ·cases h
   ·exact(Cj Z).trans ((pc h).mono X)
   ·cases h
  ·cases h
theorem KI{ops:Array Oper}:∀{l:List Oper} {env:Env} {mem:Mem} {R:List Rec}{I :Env}{H :Mem},lx P T N ops l env mem R I H →aeU (l.filterMap (·.dst)) env I
 | [],_,_,[],_,_,h=>by obtain⟨rfl,_⟩:=h;exact .refl _ _
 |o::os,_,_,r::rs,_,_,h=>by
  obtain⟨rfl,_,_,V⟩:=h;have U:∀t,t∈os.filterMap (·.dst)→t∈(o::os).filterMap (·.dst):=fun t X=>by
   rw[List.filterMap_cons];split
   ·exact X
   ·exact List.mem_cons_of_mem _ X
  have Z:∀d,o.dst=some d→d∈(o::os).filterMap (·.dst):=fun d Z=>by rw[List.filterMap_cons];simp[Z]
  exact(Cj Z).trans ((KI V).mono U)
 | [],_,_,_::_,_,_,h=>h.elim
 |_::_,_,_,[],_,_,h=>h.elim
theorem KP(H:qS P O){m0:Nat}{ops:Array Oper}{s s' :XS}(h:aK T O N m0 ops s=some s'):aeU (ops.toList.filterMap (·.dst)) s.env s'.env:=by
 unfold aK at h;simp only at h;split at h
 ·cases h
 ·rename_i R env mem Z
  split at h
  ·cases h
   obtain⟨V,e,X⟩:=pd H Z;exact KI X
  ·cases h
mutual
theorem aeg.refs{μ:Nat→Place}{n:Nat}:∀{v V},aeg μ n v V→v.refs n=[]
 |.undef,_,_=>rfl
 |.bool _,_,_=>rfl
 |.int _ _,_,_=>rfl
 |.str _,_,_=>rfl
 |.ptr b o,V,h=>by simp only[aeg] at h;simp[AV.refs,h.1]
 |.aet,_,_=>rfl
 |.slice b o l c,V,h=>by simp only[aeg] at h;simp[AV.refs,h.1]
 |.qF,_,_=>rfl
 |.map b,V,h=>by simp only[aeg] at h;simp[AV.refs,h.1]
 |.yield b,V,h=>by simp only[aeg] at h;simp[AV.refs,h.1]
 |.aeF,_,_=>rfl
 |.func f Z,V,h=>by simp only[aeg] at h;obtain⟨X,_,h⟩:=h;simp[AV.refs,aeh.refs h]
 |.nilFunc,_,_=>rfl
 |.iface t v,V,h=>by simp only[aeg] at h;obtain⟨U,_,h⟩:=h;simp[AV.refs,aeg.refs h]
 |.nilIface,_,_=>rfl
 |.agg Z,V,h=>by simp only[aeg] at h;obtain⟨X,_,h⟩:=h;simp[AV.refs,aeh.refs h]
 |.tuple Z,V,h=>by simp only[aeg] at h;obtain⟨X,_,h⟩:=h;simp[AV.refs,aeh.refs h]
theorem aeh.refs{μ:Nat→Place}{n:Nat}:∀{vs Us},aeh μ n vs Us→AV.aew n vs=[]
 | [],_,_=>rfl
 |v::vs,_,h=>by simp only[aeh] at h;obtain⟨U,V,_,Z,X⟩:=h;simp[AV.aew,aeg.refs Z,aeh.refs X]
end
mutual
theorem AV.aex{H:Nat}{ks:List Nat}:∀{v:AV},v.refs H=[]→v.ren (rho H ks)=v
 |.undef,_=>rfl
 |.bool _,_=>rfl
 |.int _ _,_=>rfl
 |.str _,_=>rfl
 |.ptr b o,h=>by
  have Z:b<H:=by
   by_cases Z:b<H
   ·exact Z
   ·simp[AV.refs,Z] at h
  simp[AV.ren,rho,Z]
 |.aet,_=>rfl
 |.slice b o l c,h=>by
  have Z:b<H:=by
   by_cases Z:b<H
   ·exact Z
   ·simp[AV.refs,Z] at h
  simp[AV.ren,rho,Z]
 |.qF,_=>rfl
 |.map b,h=>by
  have Z:b<H:=by
   by_cases Z:b<H
   ·exact Z
   ·simp[AV.refs,Z] at h
  simp[AV.ren,rho,Z]
 |.yield b,h=>by
  have Z:b<H:=by
   by_cases Z:b<H
   ·exact Z
   ·simp[AV.refs,Z] at h
  simp[AV.ren,rho,Z]
 |.aeF,_=>rfl
 |.func f X,h=>by simp only[AV.refs] at h;simp[AV.ren,AV.aeV h]
 |.nilFunc,_=>rfl
 |.iface t v,h=>by simp only[AV.refs] at h;simp[AV.ren,AV.aex h]
 |.nilIface,_=>rfl
 |.agg X,h=>by simp only[AV.refs] at h;simp[AV.ren,AV.aeV h]
 |.tuple X,h=>by simp only[AV.refs] at h;simp[AV.ren,AV.aeV h]
theorem AV.aeV{H:Nat}{ks:List Nat}:∀{vs:List AV},AV.aew H vs=[]→AV.aez (rho H ks) vs=vs
 | [],_=>rfl
 |v::vs,h=>by simp only[AV.aew,List.append_eq_nil_iff] at h;simp[AV.aez,AV.aex h.1,AV.aeV h.2]
end
variable{ks:List Nat}{m1:Nat}
theorem aek.aex{s:aek}(h:s.refs m1=[]):s.ren (rho m1 ks)=s:=by
 cases s with
 |qK=>rfl
 |cells own es cs=>simp only[aek.refs] at h;simp only[aek.ren,AV.aeV h]
 |map es=>
  simp only[aek.refs,List.flatMap_eq_nil_iff] at h;simp only[aek.ren];congr 1;conv=>rhs;rw[←List.map_id es]
  apply List.map_congr_left;intro e Z;have:=h e Z;rw[List.append_eq_nil_iff] at this;rw[AV.aex this.1,AV.aex this.2];rfl
 |aeO es=>
  simp only[aek.refs,List.flatMap_eq_nil_iff] at h;simp only[aek.ren];congr 1;conv=>rhs;rw[←List.map_id es]
  apply List.map_congr_left;intro e Z;have:=h e Z;rw[List.append_eq_nil_iff] at this;rw[AV.aex this.1,AV.aex this.2];rfl
 |loop r=>
  simp only[aek.refs,List.flatMap_eq_nil_iff] at h;simp only[aek.ren,rK];congr 1;have:r.env.map (fun e=>(e.1,e.2.ren (rho m1 ks)))=r.env:=by
   conv=>rhs;rw[←List.map_id r.env]
   apply List.map_congr_left;intro e Z;rw[AV.aex (h e Z)];rfl
  rw[this]
variable{Q:Exit→St→Prop}
theorem AWP.assume{c:Code}{H:St}(h:m0≤H.mem.length→(∀t,(ad H.env t).refs H.mem.length=[])→AWP P tp N m0 c H Q):AWP P tp N m0 c H Q:=
 fun ro h0 base μ w a YW h1 h2 h3 h4 h5=>h h5 (fun t=>(h2 t).refs) ro h0 base μ w a YW h1 h2 h3 h4 h5
theorem J1{mem:Mem}(h:(mem.take m1).all (fun s=>(s.refs m1).isEmpty)=true):aer m1 ks mem=mem.take m1++ae1 m1 ks mem:=by
 unfold aer;congr 1;conv=>rhs;rw[←List.map_id (mem.take m1)]
 apply List.map_congr_left;intro s Z;have:=List.all_eq_true.1 h s Z;rw[List.isEmpty_iff] at this;rw[aek.aex this];rfl
variable{lw:List Nat}
section
variable{wr:List Nat}
include wr
theorem sw{g:Nat→AV}(t:Nat):
  ad ((lw.filter fun t=>wr.contains t).map (fun t=>(t,g t))++((wr.filter fun t=> !lw.contains t).map fun t=>(t,AV.undef))++z') t=
   if t∈wr then (if t∈lw then g t else .undef) else ad z' t:=by
 rw[List.append_assoc];by_cases X:t∈wr
 ·by_cases V:t∈lw
  ·rw[if_pos X,if_pos V]
   exact gu _ g _ t (by rw[List.mem_filter];exact⟨V,by simpa using X⟩)
  ·rw[if_pos X,if_neg V,iv _ _ t (by intro e Z;simp only[List.mem_map,List.mem_filter] at Z;obtain⟨x,U,rfl⟩:=Z;intro e;exact V (e▸U.1))]
   exact gu (wr.filter fun t=> !lw.contains t) (fun _=>AV.undef) _ t (by rw[List.mem_filter];exact⟨X,by simpa using V⟩)
 ·rw[if_neg X,iv _ _ t (by intro e Z;simp only[List.mem_map,List.mem_filter] at Z;obtain⟨x,U,rfl⟩:=Z;intro e;exact X (e▸by simpa using U.2)),
   iv _ _ t (by intro e Z;simp only[List.mem_map,List.mem_filter] at Z;obtain⟨x,U,rfl⟩:=Z;intro e;exact X (e▸U.1))]
theorem Qk{s:XS}(h:aeU wr z' s.env):aeU wr z' (Kv lw wr z' m1 s).env:=by
 unfold Kv;simp only;split
 ·intro t Z
  simp only;rw[sw,if_neg Z]
 ·exact nn h
theorem Ea{s:XS}(h:aeU wr z' s.env):aeU wr z' (mD lw wr z' m1 s).env:=by
 unfold mD;split
 ·exact nn h
 ·simp only
  split
  ·intro t Z
   simp only;rw[sw,if_neg Z]
  ·split
   ·exact Qk h
   ·exact nn h
theorem MR{s:XS}(H:m0≤m1):Clean m0 s.mem s.aeC (mD lw wr z' m1 s).mem (mD lw wr z' m1 s).aeC:=by
 unfold mD;split
 ·exact .refl _ _ _
 ·rename_i Z
  have Z:=fun h=>Z (.inr h)
  simp only;split
  ·intro h
   refine⟨by simp only[List.length_append,List.length_take];omega,fun e=>⟨e,?_⟩⟩;simp only;rw[List.take_append_of_le_length (by simp only[List.length_take];omega),List.take_take];congr 1;omega
  ·split
   ·unfold Kv
    simp only;split
    ·intro h
     exact⟨by show m0≤(aer m1 _ s.mem).length;rw[fv (by omega)];omega,fun e=>by cases e⟩
    ·exact .refl _ _ _
   ·exact .refl _ _ _
theorem QB{s:XS}(h:aeU wr z' s.env)(h0:∀t,(ad z' t).refs m1=[])(H:m0≤m1)(I:m1≤s.mem.length):
  afa m0 ⟨s.env,s.mem⟩ ⟨(Kv lw wr z' m1 s).env,(Kv lw wr z' m1 s).mem⟩:=by
 unfold Kv;simp only;split
 ·rename_i V
  obtain⟨ks,U⟩:=xE (pR m1 s.mem 1000 ((lw.flatMap fun t=>(ad s.env t).refs m1)++(s.mem.take m1).flatMap (aek.refs m1)) []);rw[←U] at V ⊢;have S:afa m0 ⟨s.env,s.mem⟩ ⟨rK (rho m1 ks) s.env,aer m1 ks s.mem⟩:=by intro base μ w tmps Z X h3;obtain⟨μ1,R,M,L,G⟩:=afa.aer (env:=s.env) _ V base μ w tmps Z X I;exact⟨μ1,R,M,Nat.le_trans H L,G.mono H⟩
  refine S.trans (afa.env fun t=>?_);rw[sw,iw];by_cases Z:t∈wr
  ·rw[if_pos Z]
   by_cases X:t∈lw
   ·rw[if_pos X];exact .inl rfl
   ·rw[if_neg X];exact .inr rfl
  ·rw[if_neg Z,h t Z,AV.aex (h0 t)];exact .inl rfl
 ·exact afa.env fun t=>su h t
theorem QC{s:XS}(h:aeU wr z' s.env)(h0:∀t,(ad z' t).refs m1=[])(H:m0≤m1):
  afa m0 ⟨s.env,s.mem⟩ ⟨(mD lw wr z' m1 s).env,(mD lw wr z' m1 s).mem⟩:=by
 unfold mD;split
 ·exact afa.env fun t=>su h t
 ·rename_i U
  have U:=fun h=>U (.inr h)
  simp only;split
  ·rename_i S
   rw[Bool.and_eq_true] at S;obtain⟨M,L⟩:=S;have R:afa m0 ⟨s.env,s.mem⟩ ⟨rK (rho m1 (pR m1 s.mem 1000 (lw.flatMap fun t=>(ad s.env t).refs m1) [])) s.env,aer m1 (pR m1 s.mem 1000 (lw.flatMap fun t=>(ad s.env t).refs m1) []) s.mem⟩:=by
    intro base μ w tmps Z X h3;have V :m1≤s.mem.length:=by omega
    obtain⟨μ1,G,F,D,C⟩:=afa.aer (env:=s.env) _ M base μ w tmps Z X V;exact⟨μ1,G,F,Nat.le_trans H D,C.mono H⟩
   rw[J1 L] at R;refine R.trans (afa.env fun t=>?_);rw[sw,iw];by_cases Z:t∈wr
   ·rw[if_pos Z]
    by_cases X:t∈lw
    ·rw[if_pos X];exact .inl rfl
    ·rw[if_neg X];exact .inr rfl
   ·rw[if_neg Z,h t Z,AV.aex (h0 t)];exact .inl rfl
  ·split
   ·exact QB h h0 H (by omega)
   ·exact afa.env fun t=>su h t
end
variable{f:XS→Option (Exit×XS)}
theorem R3{b:Code}(hf:∀s e s',f s=some (e,s')→aeU (ae b) s.env s'.env):
  ∀(k:Nat) (s:XS) (e:Exit) (s' :XS),aeU (ae b) z' s.env→fy lw (ae b) z' m1 f k s=some (e,s')→aeU (ae b) z' s'.env:=by
 intro k;induction k with
 |zero=>intro s e s' _ h;cases h
 |succ k ih=>
  intro s e s' Z h;unfold fy at h;split at h
  ·rename_i V X
   exact ih _ _ _ (Ea (Z.trans (hf _ _ _ X))) h
  ·exact Z.trans (hf _ _ _ h)
theorem P0{b:Code}(hf:∀s e s',f s=some (e,s')→W3 P tp N m0 b s e s')(H:m0≤m1):
  ∀(k:Nat) (s:XS) (e:Exit) (s' :XS),fy lw (ae b) z' m1 f k s=some (e,s')→Clean m0 s.mem s.aeC s'.mem s'.aeC:=by
 intro k;induction k with
 |zero=>intro s e s' h;cases h
 |succ k ih=>
  intro s e s' h;unfold fy at h;split at h
  ·rename_i V Z
   obtain⟨_,X⟩:=hf _ _ _ Z;exact(X.trans (MR H)).trans (ih _ _ _ h)
  ·exact(hf _ _ _ h).2
theorem P4{b:Code}(hf:∀s e s',f s=some (e,s')→W3 P tp N m0 b s e s' ∧aeU (ae b) s.env s'.env)(h0:∀t,(ad z' t).refs m1=[])(I:m0≤m1)(k:Nat)(s:XS)(e:Exit)(s' :XS)(H:aeU (ae b) z' s.env)(h:fy lw (ae b) z' m1 f k s=some (e,s'))(hq:Q e ⟨s'.env,s'.mem⟩):AWP P tp N m0 (.loop b) ⟨s.env,s.mem⟩ Q:=by
 refine Ue (σ:=Nat) (fun k S=>∃s,S=⟨s.env,s.mem⟩∧aeU (ae b) z' s.env∧fy lw (ae b) z' m1 f k s=some (e,s')) id (s:=k) ⟨s,rfl,H,h⟩ ?_;rintro k S ⟨s,rfl,H,hk⟩;cases k with
 |zero=>cases hk
 |succ k=>
  unfold fy at hk;split at hk
  ·rename_i X M
   obtain⟨⟨L,_⟩,R⟩:=hf _ _ _ M;refine AWP.agG (L (fun e Z=>e=.normal∧Z=⟨X.env,X.mem⟩) ⟨rfl,rfl⟩) ?_;rintro V Z ⟨rfl,rfl⟩;exact⟨⟨(mD lw (ae b) z' m1 X).env,(mD lw (ae b) z' m1 X).mem⟩,QC (H.trans R) h0 I,k,⟨_,rfl,Ea (H.trans R),hk⟩,Nat.lt_succ_self k⟩
  ·rename_i G
   have U :e≠ .normal:=by rintro rfl;exact G s' hk
   refine((hf _ _ _ hk).1.1 (fun V Z=>V=e∧Z=⟨s'.env,s'.mem⟩) ⟨rfl,rfl⟩).mono ?_;rintro V Z ⟨rfl,rfl⟩;cases V<;>first | exact absurd rfl U | exact hq
theorem fE(H:qS P O):∀{c:Code} {s:XS} {e:Exit}{s' :XS},aS T lv O K N m0 tp c s=some (e,s')→aeU (ae c) s.env s'.env
 |.skip,s,e,s',h=>by simp only[aS,Option.some.injEq,Prod.mk.injEq] at h;obtain⟨_,rfl⟩:=h;exact .refl _ _
 |.exit id,s,e,s',h=>by simp only[aS,Option.some.injEq,Prod.mk.injEq] at h;obtain⟨_,rfl⟩:=h;exact .refl _ _
 |.ret,s,e,s',h=>by simp only[aS,Option.some.injEq,Prod.mk.injEq] at h;obtain⟨_,rfl⟩:=h;exact .refl _ _
 |.region id ops false,s,e,s',h=>by
  unfold aS at h;split at h
  next V X=>cases h;exact pc X
  ·cases h
 |.region id ops true,s,e,s',h=>by
  unfold aS at h;split at h
  next V X=>cases h;exact KP H X
  ·cases h
 |.seq x y,s,e,s',h=>by
  unfold aS at h;split at h
  ·rename_i V X
   exact((fE H X).mono fun t Z=>by simp[ae,Z]).trans ((fE H h).mono fun t Z=>by simp[ae,Z])
  ·exact(fE H h).mono fun t Z=>by simp[ae,Z]
 |.cond c x y,s,e,s',h=>by
  unfold aS at h;split at h
  ·exact(fE H h).mono fun t Z=>by simp[ae,Z]
  ·exact(fE H h).mono fun t Z=>by simp[ae,Z]
  ·cases h
 |.block id b,s,e,s',h=>by
  show aeU (ae b) s.env s'.env
  unfold aS at h;split at h
  ·rename_i i V X
   split at h
   ·cases h;exact fE H X
   ·cases h;exact fE H X
  ·exact fE H h
 |.loop b,s,e,s',h=>by
  show aeU (ae b) s.env s'.env
  unfold aS at h;exact R3 (fun s e s' h=>fE H h) _ _ _ _ (nn (.refl _ _)) h
 |.rangeFunc g ps XO body,s,e,s',h=>by
  unfold aS at h;split at h
  ·split at h
   ·split at h
    ·simp only at h
     split at h
     ·split at h
      ·cases h
      ·split at h
       ·cases h;exact .refl _ _
       ·cases h
     ·cases h
    ·cases h
   ·cases h
  ·cases h
 |.label _,s,e,s',h=>by cases h
 |.goto _,s,e,s',h=>by cases h
 |.scope _,s,e,s',h=>by cases h
 |.refuse _,s,e,s',h=>by cases h
theorem cY(I:P.follows .mixedOrders=true)(hT:cK P T)(H:qS P O):∀{c:Code} {s:XS} {e:Exit}{s' :XS},cC c=true→aS T lv O K N m0 tp c s=some (e,s')→W3 P tp N m0 c s e s'
 |.skip,s,e,s',XL,h=>by simp only[aS,Option.some.injEq,Prod.mk.injEq] at h;obtain⟨rfl,rfl⟩:=h;exact⟨fun Q Z=>Uf Z,.refl _ _ _⟩
 |.exit id,s,e,s',XL,h=>by simp only[aS,Option.some.injEq,Prod.mk.injEq] at h;obtain⟨rfl,rfl⟩:=h;exact⟨fun Q Z=>Ud Z,.refl _ _ _⟩
 |.ret,s,e,s',XL,h=>by simp only[aS,Option.some.injEq,Prod.mk.injEq] at h;obtain⟨rfl,rfl⟩:=h;exact⟨fun Q Z=>VA Z,.refl _ _ _⟩
 |.region id ops false,s,e,s',XL,h=>by
  unfold aS at h;split at h
  ·rename_i R U
   cases h;obtain⟨X,V⟩:=jO H U;exact⟨fun Q Z=>PG hT X Z,V⟩
  ·cases h
 |.region id ops true,s,e,s',XL,h=>by
  unfold aS at h;split at h
  ·rename_i R U
   cases h;obtain⟨X,V⟩:=Gg I hT H XL U;exact⟨fun Q Z=>X tp id Q Z,V⟩
  ·cases h
 |.seq x y,s,e,s',XL,h=>by
  unfold aS at h;split at h
  ·rename_i R U
   simp only[cC,Bool.and_eq_true] at XL;obtain⟨X,V⟩:=cY I hT H XL.1 U;obtain⟨Y,W⟩:=cY I hT H XL.2 h;exact⟨fun Q Z=>xp (X _ (Y Q Z)),V.trans W⟩
  ·rename_i M
   simp only[cC,Bool.and_eq_true] at XL;obtain⟨X,V⟩:=cY I hT H XL.1 h;refine⟨fun Q Z=>xp (X _ ?_),V⟩;cases e<;>first | exact absurd h (M s') | exact Z
 |.cond c x y,s,e,s',XL,h=>by
  unfold aS at h;split at h
  ·rename_i L
   simp only[cC,Bool.and_eq_true] at XL;obtain⟨X,V⟩:=cY I hT H XL.1 h;exact⟨fun Q Z=>NI L (fun _=>X Q Z) (fun e=>by cases e),V⟩
  ·rename_i L
   simp only[cC,Bool.and_eq_true] at XL;obtain⟨X,V⟩:=cY I hT H XL.2 h;exact⟨fun Q Z=>NI L (fun e=>by cases e) (fun _=>X Q Z),V⟩
  ·cases h
 |.block id b,s,e,s',XL,h=>by
  unfold aS at h;split at h
  ·rename_i i R U
   obtain⟨X,V⟩:=cY I hT H (by simpa only[cC] using XL) U;split at h
   ·rename_i G
    cases h;exact⟨fun Q Z=>Bg (X _ (by simp only[NL];rw[if_pos G];exact Z)),V⟩
   ·rename_i G
    cases h;exact⟨fun Q Z=>Bg (X _ (by simp only[NL];rw[if_neg G];exact Z)),V⟩
  ·rename_i M
   obtain⟨X,V⟩:=cY I hT H (by simpa only[cC] using XL) h;refine⟨fun Q Z=>Bg (X _ ?_),V⟩;cases e<;>first | exact absurd h (M _ s') | exact Z
 |.loop b,s,e,s',XL,h=>by
  unfold aS at h;have B:∀s e s',aS T lv O K N m0 tp b s=some (e,s')→W3 P tp N m0 b s e s' ∧aeU (ae b) s.env s'.env:=fun s e s' h=>⟨cY I hT H (by simpa only[cC] using XL) h,fE H h⟩
  refine⟨fun Q Z=>AWP.assume fun S F=>Ug (afa.env fun t=>su (.refl _ _) t) (P4 B F S _ _ _ _ (nn (.refl _ _)) h Z),fun S=>?_⟩;exact P0 (fun s e s' h=>(B s e s' h).1) S _ ⟨aw (lv b) (ae b) s.env s.env,s.mem,s.aeC⟩ _ _ h S
 |.rangeFunc g ps XO body,s,e,s',XL,h=>by
  unfold aS at h;split at h
  ·rename_i D
   subst D;split at h
   ·rename_i f A J
    split at h
    ·rename_i r u
     simp only at h;split at h
     ·rename_i r2 Yu
      split at h
      ·cases h
      ·rename_i o
       split at h
       ·rename_i e1 F
        cases h;have j:=xL H u;refine⟨fun Q Z=>FF J ((H.fn _ _ _ _ u).mono ?_),fun S=>⟨?_,fun C=>?_⟩⟩
        ·rintro v m ⟨rfl,rfl⟩
         exact⟨r2,e,Yu,fun e=>o (by rw[e];rfl),F,Z⟩
        ·simp only[List.length_set]
         simp only[List.length_append] at j;omega
        ·simp only[Bool.or_eq_false_iff,Option.isSome_eq_false_iff,Option.isNone_iff_eq_none] at C
         refine⟨C.1,uI S ?_ fun b o=>?_⟩
         ·simp only[List.length_set]
          simp only[List.length_append] at j;omega
         ·have XQ :b<s.mem.length:=by omega
          show((r.mem _).set s.mem.length _)[b]? =_
          rw[List.getElem?_set_ne (by omega)];unfold aee.mem;rw[C.2];simp only[Option.getD_none];rw[List.append_assoc,List.getElem?_append_left XQ]
       ·cases h
     ·cases h
    ·cases h
   ·cases h
  ·cases h
 |.label _,s,e,s',XL,h=>by cases h
 |.goto _,s,e,s',XL,h=>by cases h
 |.scope _,s,e,s',XL,h=>by cases h
 |.refuse _,s,e,s',XL,h=>by cases h
structure afw (P:Program)(G:FuncId→Option Func):Prop where
 fn:∀f fn,G f=some fn→P.funcs[f]? =some fn∧(fn.name == "runtime.NumGoroutine")=false∧∀c,fn.body=some c→cC c=true
section
variable (hm:P.follows .mixedOrders=true)(hT:cK P T)(hO:qS P O)
include hm hT hO
theorem aq{G:FuncId→Option Func}(H:afw P G){f:FuncId}{args:List AV}{mem:Mem}{r:aee}(h:aa T lv G O K f args mem=some r):kO P f args mem r.v (r.mem mem)∧∀p,r.pre=some p→p.length=mem.length:=by
 unfold aa at h;split at h
 ·cases h
 ·rename_i fn U
  obtain⟨L,F,g3⟩:=H.fn _ _ U;split at h
  ·cases h
  ·rename_i c S
   split at h
   ·rename_i D
    split at h
    ·rename_i e s A
     obtain⟨C,u⟩:=cY hm hT hO (g3 c S) A;obtain⟨j,o⟩:=u (Nat.le_refl _);have Z:(e=.normal∨e=.ret)→(match iW T fn.results.toList s.env s.mem with
      |some v=>
       let m0:=mem.length
       if s.aeC then
        let ks:=pR m0 s.mem 1000 (v.refs m0++(s.mem.take m0).flatMap (aek.refs m0)) []
        if Di m0 s.mem.length ks then
         some ⟨v.ren (rho m0 ks),some ((s.mem.take m0).map (aek.ren (rho m0 ks))),ae1 m0 ks s.mem⟩
        else none
       else
        let ks:=pR m0 s.mem 1000 (v.refs m0) []
        if Di m0 s.mem.length ks then
         some ⟨v.ren (rho m0 ks),none,ae1 m0 ks s.mem⟩
        else none
      |none=>none:Option aee)=some r→kO P f args mem r.v (r.mem mem)∧∀p,r.pre=some p→p.length=mem.length:=by
      intro X h;split at h
      ·rename_i v B
       simp only at h;split at h
       ·split at h
        ·rename_i R
         cases h;refine⟨aeQ.intro hT L S F D (C _ ⟨X,v,B,_,R,.inr ⟨rfl,rfl⟩⟩),fun p M=>?_⟩;cases M;simp only[List.length_map,List.length_take];omega
        ·cases h
       ·rename_i m
        split at h
        ·rename_i R
         cases h;have V :=(o (by simpa using m)).2;rw[List.take_of_length_le (Nat.le_refl _)] at V;exact⟨aeQ.intro hT L S F D (C _ ⟨X,v,B,_,R,.inl ⟨V,rfl,rfl⟩⟩),fun p M=>by cases M⟩
        ·cases h
      ·cases h
     split at h
     ·exact Z (.inl rfl) h
     ·exact Z (.inr rfl) h
     ·cases h
    ·cases h
   ·cases h
theorem oL{b:Nat}{args:List AV}{mem:Mem}{r:aee}(h:xq T lv O K b args mem=some r):fO P b args mem r.v (r.mem mem)∧∀p,r.pre=some p→p.length=mem.length:=by
 unfold xq at h;split at h
 ·rename_i I X
  split at h
  ·rename_i V
   simp only[Bool.and_eq_true,decide_eq_true_eq,List.all_eq_true] at V;obtain⟨⟨⟨⟨U,S⟩,R⟩,M⟩,L⟩:=V;have Z:∀{x:LoopState},(x== .ready)=true→x=.ready:=fun {x} h=>by cases x<;>first | rfl | cases h
   split at h
   ·rename_i H G
    obtain⟨F,D⟩:=cY hm hT hO M G;split at h
    ·rename_i r1 C
     split at h
     ·rename_i B
      split at h
      ·rename_i e s2 A
       obtain⟨u,o⟩:=cY hm hT hO L A;split at h
       ·rename_i j r2 m Y
        simp only at h;split at h
        ·rename_i W
         cases h;obtain⟨d1,_⟩:=D (Nat.le_refl _);obtain⟨d2,_⟩:=o (by simpa using d1);refine⟨ae0.intro X (Z U) S R (F _ ⟨rfl,r1,C,Z B,u _ ⟨r2,j,_,m,Y,W,rfl,rfl⟩⟩),fun p J=>?_⟩;cases J;simp only[List.length_map,List.length_take,List.length_set];omega
        ·cases h
       ·cases h
      ·cases h
     ·cases h
    ·cases h
   ·cases h
  ·cases h
 ·cases h
end
theorem oK(H:P.follows .mixedOrders=true)(hT:cK P T){G:FuncId→Option Func}(J:afw P G)(I:qS P O):∀n,qS P (Dc T lv G O K n)
 |0=>I
 |n+1=>by
  have V:=oK H hT J I n;have X:∀c Z mem r,Dc T lv G O K (n+1) c Z mem=some r→O c Z mem=some r∨(match c with
   |.fn f=>aa T lv G (Dc T lv G O K n) K f Z mem
   |.yld b=>xq T lv (Dc T lv G O K n) K b Z mem)=some r:=by
   intro c Z mem r h;unfold Dc at h;split at h
   next R S=>cases h;exact .inl S
   ·exact .inr h
  refine⟨fun f Z mem r h=>?_,fun b Z mem r h=>?_,fun c Z mem r p h U=>?_⟩
  ·rcases X _ _ _ _ h with h | h
   ·exact I.fn _ _ _ _ h
   ·exact(aq H hT V J h).1
  ·rcases X _ _ _ _ h with h | h
   ·exact I.yld _ _ _ _ h
   ·exact(oL H hT V h).1
  ·rcases X _ _ _ _ h with h | h
   ·exact I.pre _ _ _ _ _ h U
   ·cases c with
    |fn f=>exact(aq H hT V J h).2 p U
    |yld b=>exact(oL H hT V h).2 p U
end
end Go.Eng
namespace Go.Eng
def aV(P:Program)(t:TypeId):Option TyI:=
 match P.info? t,P.underlying t with
 |some i,some d=>match i.zero with
  |some z=>if z.cells.size=i.size then some ⟨d,i.size,i.bytes,z,!P.stoodInHeld t&& !P.eqGuardType P.depth t⟩ else none
  |none=>none
 |_,_=>none
theorem aO(P:Program):cK P (aV P):=by
 intro t i h;unfold aV at h;split at h
 ·rename_i f d X V
  split at h
  ·rename_i z U
   split at h
   ·rename_i S
    cases h;refine⟨V,⟨f,X,rfl,rfl,U⟩,S,fun Z=>?_⟩;simp only[Bool.and_eq_true,Bool.not_eq_true'] at Z;exact Z
   ·cases h
  ·cases h
 ·cases h
def aT(P:Program)(f:FuncId):Option Func:=match P.funcs[f]? with
 |some fn=>if fn.name == "runtime.NumGoroutine" then none else match fn.body with
  |some c=>if cC c then some fn else none
  |none=>some fn
 |none=>none
theorem aR(P:Program):afw P (aT P):=by
 refine⟨fun f fn h=>?_⟩;unfold aT at h;split at h
 ·rename_i S V
  split at h
  ·cases h
  ·rename_i U
   split at h
   ·rename_i c X
    split at h
    ·rename_i R
     cases h;refine⟨V,by simpa using U,fun O Z=>?_⟩;rw[X] at Z;cases Z;exact R
    ·cases h
   ·rename_i X
    cases h;refine⟨V,by simpa using U,fun O Z=>?_⟩;rw[X] at Z;cases Z
 ·cases h
def cu:y9:=fun _ _ _=>none
theorem az(P:Program):qS P cu:=⟨(fun _ _ _ _ h=>by cases h),(fun _ _ _ _ h=>by cases h),(fun _ _ _ _ _ h=>by cases h)⟩
structure aeJ (w w' :World):Prop where
 size:w.heap.size≤w'.heap.size
 heap:∀k,k<w.heap.size→w'.heap[k]? =w.heap[k]?
 os:w'.os=w.os
 tape:w'.tape=w.tape
 output:w'.output=w.output
 drawn:w.drawn≤w'.drawn
section
variable {P:Program}{μ:Nat→Place}{mem:Mem}{base:Nat}{w w' :World}
theorem aeJ.refl(w:World):aeJ w w:=⟨Nat.le_refl _,fun _ _=>rfl,rfl,rfl,rfl,Nat.le_refl _⟩
theorem aeJ.agR(h:aeJ w w')(H:aes base μ mem w):aes base μ mem w' :=by refine⟨Nat.le_trans H.aep h.size,fun b s Z=>?_,H.sep⟩;exact(H.slot b s Z).mono (Nat.le_refl _) (fun _ _=>rfl) fun X=>h.heap _ ((H.slot b s Z).aeY X)
theorem aeJ.step(h:aeJ w w'){m0:Nat}(H:m0≤mem.length):Step m0 μ mem w μ mem w' :=
 ⟨H,fun _ _=>rfl,h.os,h.tape,h.output,h.size,fun k Z _=>h.heap k Z,fun b X _=>⟨b,X,rfl⟩,h.drawn⟩
theorem kO.aeT{f:FuncId}{args:List AV}{Vs:List Value}{v:AV}{V:Value}(hf:Tk P f)(H:∀μ n Us,aeh μ n args Us→Us=Vs)(I:∀μ n,aeg μ n v V)(h:∀base w,GOk P base w→Calls P f ⟨Vs⟩ w fun e w' =>e=.returned V∧aeJ w w')(mem:Mem):kO P f args mem v mem:=by refine⟨hf,fun base μ w Us hG hH hV=>?_⟩;rw[H _ _ _ hV];refine(h base w hG).mono ?_;rintro e w' ⟨rfl,hg⟩;exact⟨V,v,mem,μ,rfl,I _ _,hg.agR hH,hg.step (Nat.le_refl _),rfl,rfl⟩
theorem aeJ.grow(w:World)(k:Nat)(os:Array Obj):aeJ w { w with heap:=w.heap++os,drawn:=w.drawn+k }:=by
 refine⟨by simp,fun i hi=>?_,rfl,rfl,rfl,Nat.le_add_right _ _⟩;show(w.heap++os)[i]? =_
 rw[Array.getElem?_append_left hi]
mutual
def AV.closed:AV→Bool
 |.ptr _ _=>false
 |.slice _ _ _ _=>false
 |.map _=>false
 |.yield _=>false
 |.func _ Z=>AV.aej Z
 |.iface _ v=>v.closed
 |.agg Z=>AV.aej Z
 |.tuple Z=>AV.aej Z
 |_=>true
def AV.aej:List AV→Bool
 | []=>true
 |v::vs=>v.closed&&AV.aej vs
end
mutual
theorem aeg.closed{μ μ' :Nat→Place}{n n' :Nat}:∀{v V},v.closed=true→aeg μ n v V→aeg μ' n' v V
 |.undef,V,_,_=>by simp[aeg]
 |.bool b,V,_,h=>by simpa [aeg] using h
 |.int k i,V,_,h=>by simpa [aeg] using h
 |.str s,V,_,h=>by simpa [aeg] using h
 |.ptr b o,V,hc,_=>by simp[AV.closed] at hc
 |.aet,V,_,h=>by simpa [aeg] using h
 |.slice b o l c,V,hc,_=>by simp[AV.closed] at hc
 |.qF,V,_,h=>by simpa [aeg] using h
 |.map b,V,hc,_=>by simp[AV.closed] at hc
 |.yield b,V,hc,_=>by simp[AV.closed] at hc
 |.aeF,V,_,h=>by simpa [aeg] using h
 |.func f X,V,hc,h=>by simp only[aeg] at h ⊢;simp only[AV.closed] at hc;obtain⟨Z,rfl,h⟩:=h;exact⟨Z,rfl,aeh.closed hc h⟩
 |.nilFunc,V,_,h=>by simpa [aeg] using h
 |.iface t v,V,hc,h=>by simp only[aeg] at h ⊢;simp only[AV.closed] at hc;obtain⟨U,rfl,h⟩:=h;exact⟨U,rfl,aeg.closed hc h⟩
 |.nilIface,V,_,h=>by simpa [aeg] using h
 |.agg X,V,hc,h=>by simp only[aeg] at h ⊢;simp only[AV.closed] at hc;obtain⟨Z,rfl,h⟩:=h;exact⟨Z,rfl,aeh.closed hc h⟩
 |.tuple X,V,hc,h=>by simp only[aeg] at h ⊢;simp only[AV.closed] at hc;obtain⟨Z,rfl,h⟩:=h;exact⟨Z,rfl,aeh.closed hc h⟩
theorem aeh.closed{μ μ' :Nat→Place}{n n' :Nat}:∀{vs Us},AV.aej vs=true→aeh μ n vs Us→aeh μ' n' vs Us
 | [],Us,_,h=>by simpa [aeh] using h
 |v::vs,Us,hc,h=>by simp only[AV.aej,Bool.and_eq_true] at hc;simp only[aeh] at h ⊢;obtain⟨U,Z,rfl,X,V⟩:=h;exact⟨U,Z,rfl,aeg.closed hc.1 X,aeh.closed hc.2 V⟩
end
theorem kO.lift{f:FuncId}{args:List AV}{v:AV}(H:AV.aej args=true)(I:v.closed=true)(h:kO P f args [] v [])(mem:Mem):kO P f args mem v mem:=by refine⟨h.1,fun base μ w Us hG hH hV=>?_⟩;have S:aes base μ [] w:=⟨hH.aep,fun b s Z=>by simp at Z,fun b O N X=>by obtain⟨s,Z,_⟩:=X;simp at Z⟩;refine(h.2 base μ w Us hG S (aeh.closed H hV)).mono ?_;rintro e w' ⟨V,v',m',μ',rfl,q1,q2,q3,rfl,rfl⟩;have U:aeJ w w' :=⟨q3.size,fun k R=>q3.frame k R fun b X=>by obtain⟨s,Z,_⟩:=X;simp at Z,q3.os,q3.tape,q3.output,q3.drawn⟩;exact⟨V,v',mem,μ,rfl,aeg.closed I q1,U.agR hH,U.step (Nat.le_refl _),rfl,rfl⟩
variable{O:y9}
theorem kO.agn{T:TypeId→Option TyI}{G:FuncId→Option Func}{K:Nat}(H:P.follows .mixedOrders=true)(hT:cK P T)(I:qS P O)(J:afw P G){f:FuncId}{args:List AV}{v:AV}(W:AV.aej args=true)(Y:v.closed=true){lv:Code→List Nat}(h:aa T lv G O K f args []=some ⟨v,none,[]⟩)(mem:Mem):kO P f args mem v mem:=
 kO.lift W Y (aq H hT I J h).1 mem
def y9.or(O H :y9):y9:=fun c Z mem=>match O c Z mem with
 |some r=>some r
 |none=>H c Z mem
theorem qS.or{H :y9}(h:qS P O)(h' :qS P H):qS P (O.or H):=by
 have U:∀c Z mem r,O.or H c Z mem=some r→O c Z mem=some r∨H c Z mem=some r:=by
  intro c Z mem r V;unfold y9.or at V;split at V
  next R X=>cases V;exact .inl X
  ·exact .inr V
 refine⟨fun f Z mem r V=>?_,fun b Z mem r V=>?_,fun c Z mem r p V S=>?_⟩
 ·rcases U _ _ _ _ V with X | X
  ·exact h.fn _ _ _ _ X
  ·exact h'.fn _ _ _ _ X
 ·rcases U _ _ _ _ V with X | X
  ·exact h.yld _ _ _ _ X
  ·exact h'.yld _ _ _ _ X
 ·rcases U _ _ _ _ V with X | X
  ·exact h.pre _ _ _ _ _ X S
  ·exact h'.pre _ _ _ _ _ X S
def ag(F:FuncId→List AV→Option AV):y9:=fun c Z _=>match c with
 |.fn f=>match F f Z with
  |some v=>some ⟨v,none,[]⟩
  |none=>none
 |.yld _=>none
theorem bM{F:FuncId→List AV→Option AV}(h:∀f Z v,F f Z=some v→∀mem,kO P f Z mem v mem):qS P (ag F):=by
 refine⟨fun f Z mem r X=>?_,(fun b Z mem r X=>by cases X),fun c Z mem r p X V=>?_⟩
 ·unfold ag at X
  simp only at X;split at X
  ·rename_i v U
   cases X;have:=h f Z v U mem;simpa [aee.mem] using this
  ·cases X
 ·unfold ag at X
  split at X
  ·split at X
   ·cases X;cases V
   ·cases X
  ·cases X
end
end Go.Eng
