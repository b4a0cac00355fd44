/- See F54. -/
import Derived.Test.YtgafjliihahjgaaGreatDoorF02
set_option linter.all false
namespace Go.Eng
mutual
def AV.aeR(ok:Nat→Bool):AV→Bool
 |.ptr b _=>ok b
 |.slice b _ _ _=>ok b
 |.map b=>ok b
 |.yield b=>ok b
 |.func _ Z=>AV.aeW ok Z
 |.iface _ v=>v.aeR ok
 |.agg Z=>AV.aeW ok Z
 |.tuple Z=>AV.aeW ok Z
 |_=>true
def AV.aeW(ok:Nat→Bool):List AV→Bool
 | []=>true
 |v::vs=>v.aeR ok&&AV.aeW ok vs
end
def aeY.aeR(ok:Nat→Bool):aeY→Bool
 |.aeP=>true
 |.cells _ _ cs=>AV.aeW ok cs
 |.map es=>es.all fun e=>e.1.aeR ok&&e.2.aeR ok
 |.afr es=>es.all fun e=>e.1.aeR ok&&e.2.aeR ok
 |.loop r=>r.env.all fun e=>e.2.aeR ok
theorem CB{ok:Nat→Bool}:∀{env:Env},(env.all fun e=>e.2.aeR ok)=true→∀t,(ad env t).aeR ok=true
 | [],_,_=>rfl
 |(k,v)::r,h,t=>by
  simp only[List.all_cons,Bool.and_eq_true] at h;simp only[ad];split
  ·exact h.1
  ·exact CB h.2 t
mutual
theorem aeU.change{μ μ' :Nat→Place}{n:Nat}{ok:Nat→Bool}(hμ:∀b,b<n→ok b=true→μ' b=μ b):
  ∀{v V},v.aeR ok=true→aeU μ n v V→aeU μ' n v V
 |.undef,_,_,_=>by simp[aeU]
 |.bool _,_,_,h=>by simpa [aeU] using h
 |.int _ _,_,_,h=>by simpa [aeU] using h
 |.str _,_,_,h=>by simpa [aeU] using h
 |.ptr b o,V,hk,h=>by simp only[aeU] at h ⊢;simp only[AV.aeR] at hk;exact⟨h.1,by rw[hμ b h.1 hk];exact h.2⟩
 |.afd,_,_,h=>by simpa [aeU] using h
 |.slice b o l c,V,hk,h=>by simp only[aeU] at h ⊢;simp only[AV.aeR] at hk;exact⟨h.1,by rw[hμ b h.1 hk];exact h.2⟩
 |.y9,_,_,h=>by simpa [aeU] using h
 |.map b,V,hk,h=>by simp only[aeU] at h ⊢;simp only[AV.aeR] at hk;exact⟨h.1,by rw[hμ b h.1 hk];exact h.2⟩
 |.yield b,V,hk,h=>by simp only[aeU] at h ⊢;simp only[AV.aeR] at hk;exact⟨h.1,by rw[hμ b h.1 hk];exact h.2⟩
 |.afl,_,_,h=>by simpa [aeU] using h
 |.func f X,V,hk,h=>by simp only[aeU] at h ⊢;simp only[AV.aeR] at hk;obtain⟨Z,e,h⟩:=h;exact⟨Z,e,aeV.change hμ hk h⟩
 |.nilFunc,_,_,h=>by simpa [aeU] using h
 |.iface t v,V,hk,h=>by simp only[aeU] at h ⊢;simp only[AV.aeR] at hk;obtain⟨U,e,h⟩:=h;exact⟨U,e,aeU.change hμ hk h⟩
 |.nilIface,_,_,h=>by simpa [aeU] using h
 |.agg X,V,hk,h=>by simp only[aeU] at h ⊢;simp only[AV.aeR] at hk;obtain⟨Z,e,h⟩:=h;exact⟨Z,e,aeV.change hμ hk h⟩
 |.tuple X,V,hk,h=>by simp only[aeU] at h ⊢;simp only[AV.aeR] at hk;obtain⟨Z,e,h⟩:=h;exact⟨Z,e,aeV.change hμ hk h⟩
theorem aeV.change{μ μ' :Nat→Place}{n:Nat}{ok:Nat→Bool}(hμ:∀b,b<n→ok b=true→μ' b=μ b):
  ∀{vs Us},AV.aeW ok vs=true→aeV μ n vs Us→aeV μ' n vs Us
 | [],_,_,h=>by simpa [aeV] using h
 |v::vs,Us,hk,h=>by simp only[aeV] at h ⊢;simp only[AV.aeW,Bool.and_eq_true] at hk;obtain⟨U,Z,e,X,W⟩:=h;exact⟨U,Z,e,aeU.change hμ hk.1 X,aeV.change hμ hk.2 W⟩
end
variable{s:aeY}
theorem ae7.change{μ μ' :Nat→Place}{n base:Nat}{w:World}{p:Place}{ok:Nat→Bool}(hμ:∀b,b<n→ok b=true→μ' b=μ b)(A:s.aeR ok=true)(h:ae7 μ n base w p s):ae7 μ' n base w p s:=by
 cases s with
 |aeP=>trivial
 |cells own es cs=>
  simp only[ae7] at h ⊢;simp only[aeY.aeR] at A;obtain⟨K,e,fr,Z,X,h3,M,C⟩:=h;refine⟨K,e,fr,Z,X,h3,fun j v O=>?_,C⟩;obtain⟨V,B,z⟩:=M j v O;refine⟨V,B,z.change hμ ?_⟩;have:∀(l:List AV),AV.aeW ok l=true→∀v∈l,v.aeR ok=true:=by
   intro l;induction l with
   |nil=>intro _ v O;cases O
   |cons x xs ih=>
    intro hl v O;simp only[AV.aeW,Bool.and_eq_true] at hl;cases O with
    |head=>exact hl.1
    |tail _ hm=>exact ih hl.2 v hm
  exact this cs A v (List.mem_of_getElem? O)
 |map es=>
  simp only[ae7] at h ⊢;simp only[aeY.aeR,List.all_eq_true,Bool.and_eq_true] at A;obtain⟨J,F,Z,X,h3,M⟩:=h;refine⟨J,F,Z,X,h3,fun j e he=>?_⟩;obtain⟨E,D,W,S⟩:=M j e he;have:=A e (List.mem_of_getElem? he);exact⟨E,D,W.change hμ this.1,S.change hμ this.2⟩
 |afr es=>
  simp only[ae7] at h ⊢;simp only[aeY.aeR,List.all_eq_true,Bool.and_eq_true] at A;obtain⟨J,F,Z,X,h3,M⟩:=h;refine⟨J,F,Z,X,h3,fun j e he=>?_⟩;obtain⟨E,D,W,S⟩:=M j e he;have:=A e (List.mem_of_getElem? he);exact⟨E,D,W.change hμ this.1,S.change hμ this.2⟩
 |loop r=>
  simp only[ae7] at h ⊢;obtain⟨L,Z,X,h3⟩:=h;exact⟨L,Z,X,{ h3 with tmps:=fun t=>(h3.tmps t).change hμ (CB A t) }⟩
structure afs where
 E:Nat→Env
 En:Nat→Env
 M:Nat→Mem
 Tm:Nat→Mem
 M' :Nat→Mem
 v:Nat→AV
 wb:Nat→Bool
 afD:Nat→Nat→Bool
 ok:Nat→Nat→Bool
 cl:Nat→Nat→Bool
def iA(mem:Mem)(b:Nat):Prop:=∃s,mem[b]? =some s∧s≠ .aeP
structure ag3 (P:Program)(T:TypeId→Option TyI)(N:Nat)(ops:Array Oper)(d:afs)(j:Nat)(o:Oper):Prop where
 wanted:rQ ops (d.En j) o=some (d.wb j)
 dst:DH N o=true
 step:d.wb j=true→wJ P T (d.En j) (d.Tm j) o (d.v j) (d.M' j)
 skip:d.wb j=false→d.v j=.tuple []∧d.M' j=d.Tm j
 env:d.E (j+1)=afO (d.E j) o.dst (d.v j)
 named:∀t,ad (d.En j) t=.undef∨(ad (d.En j) t=ad (d.E j) t∧∀(i:Nat) oi,ops[i]? =some oi→i≠j→oi.dst=some t→d.cl i j=true∨d.cl j i=true)
 ahB:∀(i:Nat) oi t,ops[i]? =some oi→i≠j→o.dst=some t→oi.dst=some t→d.cl i j=true∨d.cl j i=true
 agL:(d.Tm j).length=(d.M j).length
 agM:∀b:Nat,(d.Tm j)[b]? =(d.M j)[b]? ∨(d.Tm j)[b]? =some .aeP
 ahf:(d.M (j+1)).length=(d.M' j).length
 agN:(d.M j).length≤(d.M (j+1)).length
 ahg:∀b:Nat,d.afD j b=true→(d.M (j+1))[b]? =(d.M' j)[b]?
 ahl:∀b:Nat,b<(d.M j).length→d.afD j b=false→(d.M (j+1))[b]? =(d.M j)[b]?
 ahm:∀b:Nat,b<(d.M j).length→d.afD j b=false→iA (d.Tm j) b→(d.M' j)[b]? =(d.M j)[b]?
 ahn:∀b:Nat,(d.M j).length≤b→d.afD j b=true
 ag4:∀b:Nat,d.afD j b=true→b<(d.M j).length→iA (d.Tm j) b
 sep:∀(i:Nat) oi (b:Nat),ops[i]? =some oi→i≠j→b<(d.M (i+1)).length→d.afD i b=true→(b<(d.M (j+1)).length∧d.afD j b=true)∨iA (d.Tm j) b→d.cl i j=true∨d.cl j i=true
 okc:∀(i:Nat) (b:Nat) oi,ops[i]? =some oi→d.ok j b=true→(d.M i).length≤b→b<(d.M (i+1)).length→i=j∨d.cl i j=true
 agO:(d.v j).aeR (d.ok j)=true
 aho:∀(b:Nat) s,d.afD j b=true→(d.M (j+1))[b]? =some s→s.aeR (d.ok j)=true
 ag5:∀(b:Nat) s,(d.M j).length≤b→(d.M (j+1))[b]? =some s→s≠ .aeP→eh (d.M (j+1)) b
 ahh:∀e∈o.after,Region.binds .any e=true→e.on<j
 ag6:∀i,d.cl i j=true→∃e∈o.after,Region.binds .any e=true∧(e.on=i∨d.cl i e.on=true)
variable{b t:Nat}
section
variable {P:Program}{T:TypeId→Option TyI}{N:Nat}{ops:Array Oper}{d:afs}
def sJ(P:Program)(T:TypeId→Option TyI)(N:Nat)(ops:Array Oper)(d:afs):Prop:=∀(j:Nat) o,ops[j]? =some o→ag3 P T N ops d j o
def Tch(d:afs)(i b:Nat):Prop:=d.afD i b=true∧b<(d.M (i+1)).length
theorem zX{j:Nat}(h:j<ops.size):∃o,ops[j]? =some o:=⟨ops[j],by simp[h]⟩
theorem L7{env:Env}{A:Option Tmp}{v:AV}(h:A≠some t):ad (afO env A v) t=ad env t:=by
 cases A with
 |none=>rfl
 |some x=>
  have:¬x=t:=fun e=>h (by rw[e])
  simp[afO,ad,this]
section
variable (hA:sJ P T N ops d)
include hA
theorem Ek(t:Nat)(j:Nat):∀k,j≤k→k≤ops.size→(∀(i:Nat) W,j≤i→i<k→ops[i]? =some W→W.dst≠some t)→ad (d.E k) t=ad (d.E j) t:=by
 intro k Z;induction Z with
 |refl=>intro _ _;rfl
 | @step k Z ih=>
  intro O X;obtain⟨o,V⟩:=zX (ops:=ops) (j:=k) (by omega);rw[(hA k o V).env,L7 (X k o Z (Nat.lt_succ_self k) V)];exact ih (by omega) fun i W S M h3=>X i W S (by omega) h3
theorem Al(j:Nat):∀k,j≤k→k≤ops.size→(d.M j).length≤(d.M k).length:=by
 intro k Z;induction Z with
 |refl=>intro _;exact Nat.le_refl _
 | @step k Z ih=>
  intro W;obtain⟨o,X⟩:=zX (ops:=ops) (j:=k) (by omega);exact Nat.le_trans (ih (by omega)) (hA k o X).agN
theorem EF(b:Nat)(j:Nat):∀k,j≤k→k≤ops.size→(∀i,j≤i→i<k→¬Tch d i b)→(d.M k)[b]? =(d.M j)[b]? :=by
 intro k Z;induction Z with
 |refl=>intro _ _;rfl
 | @step k Z ih=>
  intro J X;obtain⟨o,W⟩:=zX (ops:=ops) (j:=k) (by omega);have V:=ih (by omega) fun i V F=>X i V (by omega)
  have K:=X k Z (Nat.lt_succ_self k);rw[←V];by_cases S:b<(d.M k).length
  ·have:d.afD k b=false:=by
    cases O:d.afD k b with
    |false=>rfl
    |true=>exact absurd ⟨O,Nat.lt_of_lt_of_le S (hA k o W).agN⟩ K
   exact(hA k o W).ahl b S this
  ·have O:=(hA k o W).ahn b (by omega)
   have:¬b<(d.M (k+1)).length:=fun h=>K ⟨O,h⟩
   exact(List.getElem?_eq_none (Nat.le_of_not_lt this)).trans (List.getElem?_eq_none (Nat.le_of_not_lt S)).symm
end
structure agH (d:afs)(ops:Array Oper)(base:Nat) (μ0:Nat→Place)(w0:World)(S:Nat→Prop) (μ:Nat→Place)(kb kt:Nat→Nat)(tmps:Array Value)(w:World):Prop where
 ae1:base≤w.heap.size
 agq:∀b,kb b≤ops.size
 af1:∀b i,i<ops.size→Tch d i b→(S i↔i<kb b)
 agr:∀b,kb b=0∨Tch d (kb b-1) b
 slot:∀(b:Nat) s,(d.M (kb b))[b]? =some s→ae7 μ (d.M (kb b)).length base w (μ b) s
 sep:∀b b' s',eh (d.M (kb b)) b→(d.M (kb b'))[b']? =some s' →s' ≠ .aeP→b≠b' →(μ b).blk≠(μ b').blk
 agP:∀t,kt t≤ops.size
 af2:∀(t i:Nat) oi,ops[i]? =some oi→oi.dst=some t→(S i↔i<kt t)
 ags:∀t,kt t=0∨∃oi,ops[kt t-1]? =some oi∧oi.dst=some t
 tmp:∀t,aeU μ (d.M (kt t)).length (ad (d.E (kt t)) t) (tmps.getD t undef)
 agree:∀b,b<(d.M 0).length→μ b=μ0 b
 os:w.os=w0.os
 tape:w.tape=w0.tape
 drawn:w0.drawn≤w.drawn
 output:w.output=w0.output
 size:w0.heap.size≤w.heap.size
 frame:∀k,k<w0.heap.size→(∀b,eh (d.M 0) b→(μ0 b).blk≠k)→w.heap[k]? =w0.heap[k]?
 owner:∀b,eh (d.M (kb b)) b→(μ b).blk<w0.heap.size→∃b0,eh (d.M 0) b0∧(μ0 b0).blk=(μ b).blk
theorem YN(A:sJ P T N ops d):∀(j i:Nat),j<ops.size→d.cl i j=true→i<j:=by
 intro j;induction j using Nat.strongRecOn with
 |_ j ih=>
  intro i W h;obtain⟨o,X⟩:=zX W;obtain⟨e,he,V,hc⟩:=(A j o X).ag6 i h;have Z:=(A j o X).ahh e he V;rcases hc with rfl | hc
  ·exact Z
  ·exact Nat.lt_trans (ih e.on Z i (by omega) hc) Z
def uW(ops:Array Oper)(S:Nat→Prop):Prop:=∀(j:Nat) o,ops[j]? =some o→S j→∀e∈o.after,Region.binds .any e=true→S e.on
section
variable (hA:sJ P T N ops d){S:Nat→Prop}(hS:uW ops S)
include hA S hS
theorem T8:∀(j:Nat) o,ops[j]? =some o→(∀e∈o.after,Region.binds .any e=true→S e.on)→∀i,d.cl i j=true→S i:=by
 intro j;induction j using Nat.strongRecOn with
 |_ j ih=>
  intro o W M i h;have K:j<ops.size:=(Array.getElem?_eq_some_iff.1 W).1;obtain⟨e,he,V,hc⟩:=(hA j o W).ag6 i h;have J:=(hA j o W).ahh e he V;have Z:=M e he V;rcases hc with rfl | hc
  ·exact Z
  ·obtain⟨O,X⟩:=zX (ops:=ops) (j:=e.on) (by omega)
   exact ih e.on J O X (hS e.on O X Z) i hc
theorem nA{j:Nat}{o:Oper}(A:ops[j]? =some o)(H:∀e∈o.after,Region.binds .any e=true→S e.on)(I:¬S j){i:Nat}(G:i<ops.size)(h:d.cl i j=true∨d.cl j i=true):S i↔i<j:=by
 have X:j<ops.size:=(Array.getElem?_eq_some_iff.1 A).1;obtain⟨V,Z⟩:=zX G;rcases h with h | h
 ·exact⟨fun _=>YN hA j i X h,fun _=>T8 hA hS j o A H i h⟩
 ·have O:=YN hA i j G h
  constructor
  ·intro W
   exact absurd (T8 hA hS i V Z (hS i V Z W) j h) I
  ·intro;omega
end
section step
variable {base:Nat}{μ0:Nat→Place}{w0:World}{S:Nat→Prop}{μ:Nat→Place}{kb kt:Nat→Nat}{a:Act}{w:World}{j:Nat}{o:Oper}
section
variable (hA:sJ P T N ops d)(hI:agH d ops base μ0 w0 S μ kb kt a.tmps w)(hS:uW ops S)(ho:ops[j]? =some o)(hr:∀e∈o.after,Region.binds .any e=true→S e.on)(hj:¬S j)
include hA hI hS ho hr hj
theorem WS(A:∀(i:Nat) Z,ops[i]? =some Z→i≠j→Z.dst=some t→d.cl i j=true∨d.cl j i=true):
  kt t≤j∧ad (d.E j) t=ad (d.E (kt t)) t:=by
 have K:j<ops.size:=(Array.getElem?_eq_some_iff.1 ho).1;have X:kt t≤j:=by
  rcases hI.ags t with J | ⟨Z,V,O⟩
  ·omega
  ·have F:=(hI.af2 t (kt t-1) Z V O)
   by_cases J:kt t=0
   ·omega
   ·have W:S (kt t-1):=F.2 (by omega)
    have D:kt t-1≠j:=fun e=>hj (e▸W)
    have C:kt t-1<ops.size:=(Array.getElem?_eq_some_iff.1 V).1;have:=(nA hA hS ho hr hj C (A _ Z V D O)).1 W;omega
 refine⟨X,Ek hA t (kt t) j X (by omega) fun i Z V O h3 M=>?_⟩;have:=(nA hA hS ho hr hj (by omega) (A i Z h3 (by omega) M)).2 O;have:=(hI.af2 t i Z h3 M).1 this;omega
theorem xF(A:iA (d.Tm j) b):kb b≤j∧(d.M j)[b]? =(d.M (kb b))[b]? :=by
 have C:j<ops.size:=(Array.getElem?_eq_some_iff.1 ho).1;have Z:∀i,i<ops.size→i≠j→Tch d i b→(S i↔i<j):=by intro i J V F;obtain⟨B,O⟩:=zX J;exact nA hA hS ho hr hj J ((hA j o ho).sep i B b O V F.2 F.1 (.inr A))
 have X:kb b≤j:=by
  rcases hI.agr b with z | K
  ·omega
  ·by_cases z:kb b=0
   ·omega
   ·have D:kb b-1<ops.size:=by have:=hI.agq b;omega
    have W:S (kb b-1):=(hI.af1 b _ D K).2 (by omega);have V:kb b-1≠j:=fun e=>hj (e▸W)
    have:=(Z _ D V K).1 W;omega
 refine⟨X,EF hA b (kb b) j X (by omega) fun i K u h3=>?_⟩;have:=(Z i (by omega) (by omega) h3).2 u;have:=(hI.af1 b i (by omega) h3).1 this;omega
end
theorem qS(A:sJ P T N ops d)(G:ops[j]? =some o)(h:(d.Tm j)[b]? =some s)(hs:s≠ .aeP):(d.M j)[b]? =some s:=by
 rcases (A j o G).agM b with e | e
 ·rw[←e];exact h
 ·rw[h] at e;cases e;exact absurd rfl hs
theorem kX{mem:Mem}(h:eh mem b):iA mem b:=by obtain⟨s,h,Z⟩:=h;exact⟨s,h,aeY.aft Z⟩
theorem kY{m A :Mem}(h:m[b]? =A[b]?):eh m b↔eh A b:=by simp[eh,h]
section
variable (hA:sJ P T N ops d)(hI:agH d ops base μ0 w0 S μ kb kt a.tmps w)(hS:uW ops S)(ho:ops[j]? =some o)(hr:∀e∈o.after,Region.binds .any e=true→S e.on)(hj:¬S j)
include hA hI hS ho hr hj
theorem Vg:ae5 base μ (d.Tm j) w:=by
 have z:j<ops.size:=(Array.getElem?_eq_some_iff.1 ho).1;refine⟨hI.ae1,fun b s K=>?_,fun b u J F D X W=>?_⟩
 ·by_cases V:s=.aeP
  ·subst V;trivial
  ·have O:iA (d.Tm j) b:=⟨s,K,V⟩
   obtain⟨C,M⟩:=xF hA hI hS ho hr hj O;have B:=qS hA ho K V;rw[M] at B;rw[(hA j o ho).agL];exact(hI.slot b s B).mono (Al hA _ j C (by omega)) (fun _ _=>rfl) fun _=>rfl
 ·obtain⟨C,M⟩:=xF hA hI hS ho hr hj (kX F)
  obtain⟨Y,m⟩:=xF hA hI hS ho hr hj ⟨J,D,X⟩;refine hI.sep b u J ?_ ?_ X W
  ·refine(kY M).1 ?_
   obtain⟨s,h,Z⟩:=F;exact⟨s,qS hA ho h (aeY.aft Z),Z⟩
  ·rw[←m];exact qS hA ho D X
theorem Vh:afo μ (d.Tm j).length (d.En j) a.tmps:=by
 have Z:j<ops.size:=(Array.getElem?_eq_some_iff.1 ho).1;intro t;rcases (hA j o ho).named t with h | ⟨h,X⟩
 ·rw[h];simp[aeU]
 ·obtain⟨W,V⟩:=WS hA hI hS ho hr hj X
  rw[h,V,(hA j o ho).agL];exact(hI.tmp t).mono (Al hA _ j W (by omega)) fun _ _=>rfl
end
end step
end
end Go.Eng
namespace Go.Eng
section
variable {P:Program}{T:TypeId→Option TyI}{N:Nat}{ops:Array Oper}{d:afs}
variable {base:Nat}{μ0:Nat→Place}{w0:World}{S:Nat→Prop}{μ μ' :Nat→Place}{kb kt:Nat→Nat}{a:Act}{w w' :World}{j:Nat}{o:Oper}{V:Value}
open Classical in
theorem WN(H:sJ P T N ops d)(A:agH d ops base μ0 w0 S μ kb kt a.tmps w)(hS:uW ops S)(ho:ops[j]? =some o)(hr:∀e∈o.after,Region.binds .any e=true→S e.on)(hj:¬S j)(hN:a.tmps.size=N)(hV:aeU μ' (d.M' j).length (d.v j) V)(hH:ae5 base μ' (d.M' j) w')(G:Step (d.Tm j).length μ (d.Tm j) w μ' (d.M' j) w'):
  ∃μ2 kb2 kt2,agH d ops base μ0 w0 (fun i=>S i∨i=j) μ2 kb2 kt2 (a.put o.dst V).tmps w' :=by
 have hjs:j<ops.size:=(Array.getElem?_eq_some_iff.1 ho).1;have D:=H j o ho;have hlj:∀k,k≤j→(d.M k).length≤(d.M j).length:=fun k hk=>Al H k j hk (by omega)
 have hl1:=D.agN;have h0j:=hlj 0 (Nat.zero_le _);have hag:∀b,b<(d.M j).length→μ' b=μ b:=fun b X=>G.agree b (by rw[D.agL];exact X)
 let μ2:Nat→Place:=fun b=>if b<(d.M (j+1)).length then μ' b else μ b
 have u:∀b,b<(d.M j).length→μ2 b=μ b:=by
  intro b X;show(if b<(d.M (j+1)).length then μ' b else μ b)=μ b
  rw[if_pos (by omega),hag b X]
 have aa9:∀b,b<(d.M (j+1)).length→μ2 b=μ' b:=by
  intro b X;show(if b<(d.M (j+1)).length then μ' b else μ b)=μ' b
  rw[if_pos X]
 have abX:∀b,¬b<(d.M (j+1)).length→μ2 b=μ b:=by
  intro b X;show(if b<(d.M (j+1)).length then μ' b else μ b)=μ b
  rw[if_neg X]
 have ac4:∀k,0<k→S (k-1)→k-1<ops.size→∀b,d.ok (k-1) b=true→μ2 b=μ b:=by
  intro k hk hSk hks b X;by_cases W:b<(d.M j).length
  ·exact u b W
  ·by_cases z:b<(d.M (j+1)).length
   ·obtain⟨ok,hok⟩:=zX hks
    rcases (H _ ok hok).okc j b o ho X (by omega) z with e | e
    ·exact absurd (e▸hSk) hj
    ·exact absurd (T8 H hS _ ok hok (hS _ ok hok hSk) j e) hj
   ·exact abX b z
 let kb2:Nat→Nat:=fun b=>if Tch d j b then j+1 else kb b
 let kt2:Nat→Nat:=fun t=>if o.dst=some t then j+1 else kt t
 have abF:∀b,Tch d j b→kb2 b=j+1:=fun b X=>if_pos X
 have abG:∀b,¬Tch d j b→kb2 b=kb b:=fun b X=>if_neg X
 have kbS:∀b,kb b=0∨(0<kb b∧S (kb b-1)∧kb b-1<ops.size∧Tch d (kb b-1) b):=by
  intro b;rcases Nat.eq_zero_or_pos (kb b) with K | K
  ·exact .inl K
  ·rcases A.agr b with W | W
   ·exact .inl W
   ·have B:kb b-1<ops.size:=by have:=A.agq b;omega
    exact .inr ⟨K,(A.af1 b _ B W).2 (by omega),B,W⟩
 have acR:∀b,¬Tch d j b→b<(d.M j).length∨¬b<(d.M (j+1)).length:=by
  intro b X;by_cases W:b<(d.M j).length
  ·exact .inl W
  ·refine .inr fun z=>X ⟨D.ahn b (by omega),z⟩
 have ac5:∀b,¬Tch d j b→μ2 b=μ b:=by
  intro b X;rcases acR b X with h | h
  ·exact u b h
  ·exact abX b h
 have abY:∀b,iA (d.Tm j) b→¬Tch d j b→kb b≤j∧b<(d.M j).length∧(d.M' j)[b]? =(d.M (kb b))[b]? ∧(d.M (kb b))[b]? =(d.M j)[b]? :=by
  intro b X hnt;obtain⟨k1,I⟩:=xF H A hS ho hr hj X;obtain⟨s,F,S'⟩:=X;have B:b<(d.M j).length:=by have:=gL F;rw[D.agL] at this;exact this
  have hf:d.afD j b=false:=by
   cases Z:d.afD j b with
   |false=>rfl
   |true=>exact absurd ⟨Z,by omega⟩ hnt
  exact⟨k1,B,(D.ahm b B hf ⟨s,F,S'⟩).trans I,I.symm⟩
 have ac6:∀b s,(d.M (kb2 b))[b]? =some s→s≠ .aeP→((d.M' j)[b]? =some s∧μ2 b=μ' b∧b<(d.M (j+1)).length∧(Tch d j b∨iA (d.Tm j) b))∨
   ((d.M (kb b))[b]? =some s∧¬iA (d.Tm j) b∧¬Tch d j b∧μ2 b=μ b):=by
  intro b s F S';by_cases Z:Tch d j b
  ·rw[abF b Z] at F
   exact .inl ⟨by rw[←D.ahg b Z.1];exact F,aa9 b Z.2,Z.2,.inl Z⟩
  ·rw[abG b Z] at F
   by_cases X:iA (d.Tm j) b
   ·obtain⟨k1,I,k3,k4⟩:=abY b X Z
    exact .inl ⟨by rw[k3];exact F,by rw[u b I,hag b I],by omega,.inr X⟩
   ·exact .inr ⟨F,X,Z,ac5 b Z⟩
 have aaU:∀b,eh (d.M (kb2 b)) b→(eh (d.M' j) b∧μ2 b=μ' b∧b<(d.M (j+1)).length∧(Tch d j b∨iA (d.Tm j) b))∨
   (eh (d.M (kb b)) b∧¬iA (d.Tm j) b∧¬Tch d j b∧μ2 b=μ b):=by
  intro b X;obtain⟨s,h,O⟩:=X;rcases ac6 b _ h (aeY.aft O) with⟨m,g2⟩ | ⟨m,g2⟩
  ·exact .inl ⟨⟨s,m,O⟩,g2⟩
  ·exact .inr ⟨⟨s,m,O⟩,g2⟩
 have aak:∀b,eh (d.Tm j) b→eh (d.M (kb b)) b:=by intro b X;obtain⟨k1,I⟩:=xF H A hS ho hr hj (kX X);refine(kY I).1 ?_;obtain⟨s,h,O⟩:=X;exact⟨s,qS H ho h (aeY.aft O),O⟩
 have abZ:∀b s,(d.M (kb b))[b]? =some s→s≠ .aeP→(μ b).blk<w.heap.size:=fun b s F S'=>(A.slot b s F).afE S'
 refine⟨μ2,kb2,kt2,⟨Nat.le_trans A.ae1 G.size,?_,?_,?_,?_,?_,?_,?_,?_,?_,?_,G.os.trans A.os,G.tape.trans A.tape,Nat.le_trans A.drawn G.drawn,G.output.trans A.output,Nat.le_trans A.size G.size,?_,?_⟩⟩
 ·
  intro b;by_cases Z:Tch d j b
  ·rw[abF b Z];omega
  ·rw[abG b Z];exact A.agq b
 ·
  intro b i hi hti;obtain⟨oi,Y⟩:=zX hi;by_cases Z:Tch d j b
  ·rw[abF b Z]
   by_cases J:i=j
   ·subst J;simp
   ·have:=nA H hS ho hr hj hi (D.sep i oi b Y J hti.2 hti.1 (.inl ⟨Z.2,Z.1⟩))
    constructor
    ·rintro (h | h)
     ·have:=this.1 h;omega
     ·omega
    ·intro h;exact .inl (this.2 (by omega))
  ·rw[abG b Z]
   have J:i≠j:=fun e=>Z (e▸hti)
   rw[←A.af1 b i hi hti];constructor
   ·rintro (h | h)
    ·exact h
    ·exact absurd h J
   ·exact .inl
 ·
  intro b;by_cases Z:Tch d j b
  ·rw[abF b Z];exact .inr Z
  ·rw[abG b Z];exact A.agr b
 ·
  intro b s F;by_cases K:s=.aeP
  ·subst K;trivial
  by_cases Z:Tch d j b
  ·rw[abF b Z] at F ⊢
   have W:=hH.slot b s (by rw[←D.ahg b Z.1];exact F);rw[aa9 b Z.2,D.ahf];exact W.mono (Nat.le_refl _) (fun x hx=>aa9 x (by rw[D.ahf];exact hx)) fun _=>rfl
  ·rw[abG b Z] at F ⊢
   have R:=A.slot b s F;rw[ac5 b Z];by_cases X:iA (d.Tm j) b
   ·obtain⟨k1,I,k3,k4⟩:=abY b X Z
    have W:=hH.slot b s (by rw[k3];exact F);rw[hag b I] at W;have hlk:=hlj (kb b) k1;have z:=R.lower (fun x hx=>hag x (by omega)) W;exact z.mono (Nat.le_refl _) (fun x hx=>u x (by omega)) fun _=>rfl
   ·have acS:w'.heap[(μ b).blk]? =w.heap[(μ b).blk]? :=by
     refine G.frame _ (R.afE K) fun b1 hb1=>?_
     refine A.sep b1 b s (aak b1 hb1) F K ?_;rintro rfl;exact X (kX hb1)
    have z:ae7 μ (d.M (kb b)).length base w' (μ b) s:=R.mono (Nat.le_refl _) (fun _ _=>rfl) fun _=>acS
    rcases kbS b with h3 | ⟨h3,h4,h5,h6⟩
    ·refine z.mono (Nat.le_refl _) (fun x hx=>u x ?_) fun _=>rfl
     rw[h3] at hx;omega
    ·obtain⟨ok,hok⟩:=zX h5
     have hk1:kb b-1+1=kb b:=by omega
     refine z.change (ok:=d.ok (kb b-1)) (fun x _ hx=>ac4 (kb b) h3 h4 h5 x hx) ?_;exact(H _ ok hok).aho b s h6.1 (by rw[hk1];exact F)
 ·
  intro b C s' X Z8 S' hbb;rcases aaU b X with⟨m,g2,_,_⟩ | ⟨m,g2,g3,g4⟩<;>rcases ac6 C s' Z8 S' with⟨k1,I,k3,k4⟩ | ⟨k1,I,k3,k4⟩
  ·rw[g2,I];exact hH.sep b C s' m k1 S' hbb
  ·rw[g2,k4]
   have B:=abZ C s' k1 S';by_cases acb:(μ' b).blk<w.heap.size
   ·obtain⟨b0,K,W⟩:=G.owner b m acb
    rw[←W];refine A.sep b0 C s' (aak b0 K) k1 S' ?_;rintro rfl;exact I (kX K)
   ·omega
  ·rw[g4,I]
   by_cases B:C <(d.M j).length
   ·have hbd:iA (d.Tm j) C :=by
     rcases k4 with Z | hb1
     ·exact D.ag4 C Z.1 B
     ·exact hb1
    obtain⟨q1,q2⟩:=xF H A hS ho hr hj hbd;obtain⟨s0,hs0,ac7⟩:=hbd;rw[hag C B];exact A.sep b C s0 m (by rw[←q2];exact qS H ho hs0 ac7) ac7 hbb
   ·have ht' :=D.ahn C (by omega)
    have hM1:(d.M (j+1))[C]? =some s' :=by rw[D.ahg C ht'];exact k1
    have aau:=D.ag5 C s' (by omega) hM1 S';have abV :eh (d.M' j) C :=(kY (D.ahg C ht')).1 aau;have hbl:(μ b).blk<w.heap.size:=by obtain⟨s,h,O⟩:=m;exact abZ b _ h (aeY.aft O)
    by_cases acb:(μ' C).blk<w.heap.size
    ·obtain⟨b0,K,W⟩:=G.owner C abV acb
     rw[←W];have hob:=aak b0 K;have adI:b≠b0:=by rintro rfl;exact g2 (kX K)
     obtain⟨s,h,O⟩:=hob;exact A.sep b b0 _ m h (aeY.aft O) adI
    ·omega
  ·rw[g4,k4];exact A.sep b C s' m k1 S' hbb
 ·
  intro t;show(if o.dst=some t then j+1 else kt t)≤ops.size
  split
  ·omega
  ·exact A.agP t
 ·
  intro t i oi Y hd;show(S i∨i=j)↔i<(if o.dst=some t then j+1 else kt t)
  have hi:i<ops.size:=(Array.getElem?_eq_some_iff.1 Y).1;by_cases Z:o.dst=some t
  ·rw[if_pos Z]
   by_cases J:i=j
   ·subst J;simp
   ·have:=nA H hS ho hr hj hi (D.ahB i oi t Y J Z hd)
    constructor
    ·rintro (h | h)
     ·have:=this.1 h;omega
     ·omega
    ·intro h;exact .inl (this.2 (by omega))
  ·rw[if_neg Z]
   have J:i≠j:=by rintro rfl;rw[ho] at Y;cases Y;exact Z hd
   rw[←A.af2 t i oi Y hd];constructor
   ·rintro (h | h)
    ·exact h
    ·exact absurd h J
   ·exact .inl
 ·
  intro t;show(if o.dst=some t then j+1 else kt t)=0∨∃oi,ops[(if o.dst=some t then j+1 else kt t)-1]? =some oi∧oi.dst=some t
  by_cases Z:o.dst=some t
  ·rw[if_pos Z];exact .inr ⟨o,by simpa using ho,Z⟩
  ·rw[if_neg Z];exact A.ags t
 ·
  intro t;show aeU μ2 (d.M (if o.dst=some t then j+1 else kt t)).length (ad (d.E (if o.dst=some t then j+1 else kt t)) t) ((a.put o.dst V).tmps.getD t undef)
  by_cases Z:o.dst=some t
  ·rw[if_pos Z,D.env,Z]
   have B:t<a.tmps.size:=by have:=D.dst;unfold DH at this;rw[Z] at this;simp only[decide_eq_true_eq] at this;rw[hN];exact this
   have e1:ad (afO (d.E j) (some t) (d.v j)) t=d.v j:=by simp[afO,ad]
   have e2:(a.put (some t) V).tmps.getD t undef=V:=by simp[Act.put,B]
   rw[e1,e2,D.ahf];exact hV.mono (Nat.le_refl _) fun x hx=>aa9 x (by rw[D.ahf];exact hx)
  ·rw[if_neg Z]
   have e2:(a.put o.dst V).tmps.getD t undef=a.tmps.getD t undef:=by
    cases hd:o.dst with
    |none=>rfl
    |some x=>
     have S':x≠t:=by rintro rfl;exact Z hd
     simp[Act.put,Array.getElem?_setIfInBounds_ne S']
   rw[e2];have R:=A.tmp t;rcases Nat.eq_zero_or_pos (kt t) with K | K
   ·rw[K] at R ⊢
    exact R.mono (Nat.le_refl _) fun x hx=>u x (by omega)
   ·rcases A.ags t with W | ⟨oi,W,z⟩
    ·omega
    ·have hSk:S (kt t-1):=(A.af2 t _ oi W z).2 (by omega)
     have hks:kt t-1<ops.size:=(Array.getElem?_eq_some_iff.1 W).1;refine R.change (ok:=d.ok (kt t-1)) (fun x _ hx=>ac4 (kt t) K hSk hks x hx) ?_;have he:=(H _ oi W).env;have hk1:kt t-1+1=kt t:=by omega
     rw[hk1,z] at he;rw[he];simp only[afO,ad,if_true];exact(H _ oi W).agO
 ·
  intro b X;rw[u b (by omega)];exact A.agree b X
 ·
  intro k hk hf;rw[G.frame k (Nat.lt_of_lt_of_le hk A.size) ?_,A.frame k hk hf];intro b X he;obtain⟨b0,W,z⟩:=A.owner b (aak b X) (by rw[he];exact hk);exact hf b0 W (z.trans he)
 ·
  intro b X B;rcases aaU b X with⟨m,g2,_,_⟩ | ⟨m,g2,g3,g4⟩
  ·rw[g2] at B ⊢
   obtain⟨b0,K,W⟩:=G.owner b m (Nat.lt_of_lt_of_le B A.size);obtain⟨b1,z,h3⟩:=A.owner b0 (aak b0 K) (by rw[W];exact B);exact⟨b1,z,h3.trans W⟩
  ·rw[g4] at B ⊢
   exact A.owner b m B
end
variable{listed:Array Bool}
section
variable {P:Program}{T:TypeId→Option TyI}{tp:Bool}{N m0:Nat}{ops:Array Oper}{d:afs}
def left(ops:Array Oper)(listed:Array Bool):Nat:=((List.range ops.size).filter fun i=> !listed.getD i true).length
def tH(listed:Array Bool)(i:Nat):Prop:=listed.getD i false=true
theorem zR{l:List Nat}{p q:Nat→Bool}(h:∀i∈l,q i=true→p i=true){j:Nat}(A:j∈l)(G:p j=true)(H:q j=false):(l.filter q).length<(l.filter p).length:=by
 induction l with
 |nil=>cases A
 |cons x xs ih=>
  have X:∀(l:List Nat),(∀i∈l,q i=true→p i=true)→(l.filter q).length≤(l.filter p).length:=by
   intro l W;induction l with
   |nil=>simp
   |cons y ys ih2=>
    have:=ih2 (fun i Z=>W i (by simp[Z]));have S:=W y (by simp);simp only[List.filter_cons];cases hq:q y<;>cases hp:p y<;>simp_all<;>omega
  have V:=X xs (fun i Z=>h i (by simp[Z]));have O:=h x (by simp);simp only[List.filter_cons];cases A with
  |head=>rw[G,H];simp;omega
  |tail _ hm=>
   have:=ih (fun i Z=>h i (by simp[Z])) hm;cases hq:q x<;>cases hp:p x<;>simp_all<;>omega
theorem Vi{i:Nat}(A:i<listed.size):tH (listed.setIfInBounds i true)=fun k=>tH listed k∨k=i:=by
 funext k;apply propext;unfold tH;by_cases Z:i=k
 ·subst Z;simp[A]
 ·rw[getD_set_ne false Z]
  constructor
  ·exact .inl
  ·rintro (h | h)
   ·exact h
   ·exact absurd h.symm Z
theorem Ry(A:sJ P T N ops d)(G:listed.size=ops.size)(h:Region.ready .any ops listed=[]):∀i,i<ops.size→tH listed i:=by
 intro i;induction i using Nat.strongRecOn with
 |_ i ih=>
  intro W;obtain⟨o,Z⟩:=zX W;cases hl:listed.getD i true with
  |true=>
   unfold tH;simp only[Array.getD_eq_getD_getElem?] at hl ⊢;rw[Array.getElem?_eq_getElem (by omega)] at hl ⊢;exact hl
  |false=>
   exfalso;have:i∈Region.ready .any ops listed:=mem_ready.2 ⟨hl,o,Z,fun e he X=>ih e.on ((A i o Z).ahh e he X) (by have:=(A i o Z).ahh e he X;omega)⟩;rw[h] at this;cases this
theorem WC(H:sJ P T N ops d){G:Nat}{μ0 μ:Nat→Place}{w0 w:World}{S:Nat→Prop}{I R:Nat→Nat}{tmps:Array Value}(hm0:m0≤(d.M 0).length)(A:agH d ops G μ0 w0 S μ I R tmps w)(Y:∀i,i<ops.size→S i):
  ae5 G μ (d.M ops.size) w∧afo μ (d.M ops.size).length (d.E ops.size) tmps∧m0≤(d.M ops.size).length∧Step m0 μ0 (d.M 0) w0 μ (d.M ops.size) w:=by
 have X:∀b,(d.M ops.size)[b]? =(d.M (I b))[b]? :=fun b=>EF H b (I b) _ (A.agq b) (Nat.le_refl _) fun i J W h3=>by have:=(A.af1 b i W h3).1 (Y i W);omega
 have V:∀k,k≤ops.size→(d.M k).length≤(d.M ops.size).length:=fun k F=>Al H k _ F (Nat.le_refl _)
 have h0:=V 0 (Nat.zero_le _);refine⟨⟨A.ae1,fun b s D=>?_,fun b C B Z O z K=>?_⟩,fun t=>?_,by omega,⟨by omega,fun b Z=>A.agree b (by omega),A.os,A.tape,A.output,A.size,A.frame,fun b Z u=>?_,A.drawn⟩⟩
 ·exact(A.slot b s (by rw[←X];exact D)).mono (V _ (A.agq b)) (fun _ _=>rfl) fun _=>rfl
 ·exact A.sep b C B ((kY (X b)).1 Z) (by rw[←X];exact O) z K
 ·have he:=Ek H t (R t) ops.size (A.agP t) (Nat.le_refl _) fun i m J W h3 j=>by have:=(A.af2 t i m h3 j).1 (Y i W);omega
  rw[he];exact(A.tmp t).mono (V _ (A.agP t)) fun _ _=>rfl
 ·exact A.owner b ((kY (X b)).1 Z) u
theorem BK(hm:P.follows .mixedOrders=true)(hT:cW P T){id:Nat}{st A :St}{Q:Exit→St→Prop}(hA:sJ P T N ops d)(hE:d.E 0=st.env)(H:d.M 0=st.mem)(G :A =⟨d.E ops.size,d.M ops.size⟩)(hq:Q .normal A):
  AWP P tp N m0 (.region id ops true) st Q:=by
 intro ro h0 base μ0 w0 a0 hro hH hR hN hdf hm0;refine wpIn_region_any hm ?_;have z:∀(listed:Array Bool) (a:Act) (w:World) μ kb kt,listed.size=ops.size→a.tmps.size=N→a.defers=a0.defers→
   agH d ops base μ0 w0 (tH listed) μ kb kt a.tmps w→Region.ready .any ops listed=[]→
   ∃A μ',ae5 base μ' A.mem w∧afo μ' A.mem.length A.env a.tmps∧a.tmps.size=N∧MOk P base h0 w a.defers∧m0≤A.mem.length∧Step m0 μ0 st.mem w0 μ' A.mem w∧Q .normal A :=by
  intro listed a w μ kb kt hsz ha hd hI hr;obtain⟨X,h2,h3,h4⟩:=WC (m0:=m0) hA (by rw[H];exact hm0) hI (Ry hA hsz hr);rw[H] at h4;exact⟨A,μ,by rw[G];exact X,by rw[G];exact h2,ha,by rw[hd];exact hdf.step hH h4,by rw[G];exact h3,by rw[G];exact h4,hq⟩
 have key:∀(Z:Nat) (listed:Array Bool) (a:Act) (w:World) μ kb kt,listed.size=ops.size→left ops listed≤Z→a.tmps.size=N→a.defers=a0.defers→
   uW ops (tH listed)→agH d ops base μ0 w0 (tH listed) μ kb kt a.tmps w→
   wpAnyIn (Fr ro) 0 P .any ops (fun e O w' =>∃A μ',ae5 base μ' A.mem w' ∧afo μ' A.mem.length A.env O.tmps∧O.tmps.size=N∧MOk P base h0 w' O.defers∧m0≤A.mem.length∧
    Step m0 μ0 st.mem w0 μ' A.mem w' ∧Q e A) Z listed a w:=by
  intro Z;induction Z with
  |zero=>
   intro listed a w μ kb kt hsz hl ha hd hC hI;have hr:Region.ready .any ops listed=[]:=by
    apply List.eq_nil_iff_forall_not_mem.2;intro i hi;obtain⟨X,o,W,_⟩:=mem_ready.1 hi;have u:i<ops.size:=(Array.getElem?_eq_some_iff.1 W).1;have:i∈(List.range ops.size).filter fun i=> !listed.getD i true:=by rw[List.mem_filter];exact⟨by simpa using u,by rw[X];rfl⟩
    have h0:((List.range ops.size).filter fun i=> !listed.getD i true)=[]:=List.eq_nil_of_length_eq_zero (Nat.le_zero.1 hl);rw[h0] at this;cases this
   exact⟨hr,z listed a w μ kb kt hsz ha hd hI hr⟩
  |succ Z ih=>
   intro listed a w μ kb kt hsz hl ha hd hC hI;refine⟨z listed a w μ kb kt hsz ha hd hI,fun i hi=>?_⟩;obtain⟨X,o,W,S⟩:=mem_ready.1 hi;have u:i<ops.size:=(Array.getElem?_eq_some_iff.1 W).1;have K:¬tH listed i:=by unfold tH;simp only[Array.getD_eq_getD_getElem?] at X ⊢;rw[Array.getElem?_eq_getElem (by omega)] at X ⊢;simp only[Option.getD_some] at X ⊢;rw[X];simp
   have m:=Vi (listed:=listed) (i:=i) (by omega);have hC' :uW ops (tH (listed.setIfInBounds i true)):=by
    rw[m];intro j oj J F e he C;rcases F with F | rfl
    ·exact .inl (hC j oj J F e he C)
    ·rw[W] at J;cases J;exact .inl (S e he C)
   have acT:left ops (listed.setIfInBounds i true)≤Z:=by
    have:left ops (listed.setIfInBounds i true)<left ops listed:=by
     unfold left;refine zR (fun k _ hk=>?_) (j:=i) (by simpa using u) (by rw[X];rfl) (by simp[hsz,u]);by_cases Y:i=k
     ·subst Y;simp[hsz,u] at hk
     ·rw[getD_set_ne true Y] at hk;exact hk
    omega
   have D:=hA i o W;have R:=Vg hA hI hC W S K;have hGw:GOk P base w:=by
    refine⟨hdf.af7.below,?_⟩;have:=hdf.af7.tab;unfold Lib.TabIs at this ⊢;rw[←this];refine Qe fun k hk=>hI.frame k ?_ fun b C=>?_
    ·have:=hdf.af7.below;have:=hH.ae1;omega
    ·rw[H] at C
     have:=PV hH C;have:=hdf.af7.below;omega
   have I:=Vh hA hI hC W S K;have next:∀V w' μ',aeU μ' (d.M' i).length (d.v i) V→ae5 base μ' (d.M' i) w' →Step (d.Tm i).length μ (d.Tm i) w μ' (d.M' i) w' →
     wpAnyIn (Fr ro) 0 P .any ops (fun e O w' =>∃A μ',ae5 base μ' A.mem w' ∧afo μ' A.mem.length A.env O.tmps∧O.tmps.size=N∧MOk P base h0 w' O.defers∧m0≤A.mem.length∧
      Step m0 μ0 st.mem w0 μ' A.mem w' ∧Q e A) Z (listed.setIfInBounds i true) (a.put o.dst V) w' :=by
    intro V w' μ' q1 q2 q3;obtain⟨μ2,kb2,kt2,hI2⟩:=WN hA hI hC W S K ha q1 q2 q3;rw[←m] at hI2;exact ih _ _ _ μ2 kb2 kt2 (by simp[hsz]) acT (by rw[fD];exact ha) (by rw[fQ];exact hd) hC' hI2
   unfold wpOpIn;simp only[W];rw[oZ I D.wanted];cases hw:d.wb i with
   |false=>
    obtain⟨e1,e2⟩:=D.skip hw;simp only[Bool.false_eq_true,if_false];exact⟨fun _ _=>trivial,next undef w μ (by rw[e1];simp[aeU,aeV,undef]) (by rw[e2];exact R) (by rw[e2];exact .refl (Nat.le_refl _))⟩
   |true=>
    simp only[if_true];exact rA hT hGw R I ha D.dst (D.step hw) fun V w' μ' q1 q2 q3 q4=>next V w' μ' q1 q2 q4
 have hI0:agH d ops base μ0 w0 (tH (Array.replicate ops.size false)) μ0 (fun _=>0) (fun _=>0) a0.tmps { w0 with drawn:=w0.drawn+1 }:=by
  have hno:∀i,¬tH (Array.replicate ops.size false) i:=by intro i;unfold tH;simp only[Array.getD_eq_getD_getElem?,Array.getElem?_replicate];split<;>simp
  have B :ae5 base μ0 (d.M 0) { w0 with drawn:=w0.drawn+1 }:=by rw[H];exact hH.afX rfl
  refine⟨B.ae1,fun _=>Nat.zero_le _,fun b i _ _=>⟨fun h=>absurd h (hno i),fun h=>by omega⟩,fun _=>.inl rfl,fun b s hs=>B.slot b s hs,
   fun b b' s' =>B.sep b b' s',fun _=>Nat.zero_le _,fun t i oi _ _=>⟨fun h=>absurd h (hno i),fun h=>by omega⟩,fun _=>.inl rfl,fun t=>?_,fun _ _=>rfl,
   rfl,rfl,Nat.le_succ _,rfl,Nat.le_refl _,fun _ _ _=>rfl,fun b C _=>⟨b,C,rfl⟩⟩
  rw[H,hE];exact hR t
 refine key ops.size _ a0 _ μ0 _ _ (by simp) ?_ hN rfl ?_ hI0
 ·unfold left
  exact Nat.le_trans (List.length_filter_le _ _) (by simp)
 ·intro j o _ hS
  exfalso;unfold tH at hS;simp only[Array.getD_eq_getD_getElem?,Array.getElem?_replicate] at hS;split at hS<;>simp at hS
end
end Go.Eng
namespace Go.Eng
def B9:Exit→Option (Option Code)
 |.normal=>some none
 |.ret=>some (some .ret)
 |.exit id=>some (some (.exit id))
 |_=>none
def qV:Option Code→Option Exit
 |none=>some .normal
 |some .ret=>some .ret
 |some (.exit id)=>some (.exit id)
 |_=>none
def mW(j:Option Code):LoopState:=if j.isNone then .ready else .done
def yp:List Tmp→List AV→Env→Env
 |t::ts,v::vs,env=>yp ts vs ((t,v)::env)
 |_,_,env=>env
variable{L:Loop}{m0:Nat}{r:afT}
section
variable {P:Program}{T:TypeId→Option TyI}{μ:Nat→Place}{mem:Mem}{base:Nat}{w:World}
theorem ae5.alloc(A:ae5 base μ mem w)(o:Obj):ae5 base μ mem (w.alloc o):=by refine⟨by simp;have:=A.ae1;omega,fun b s Z=>?_,A.sep⟩;exact(A.slot b s Z).mono (Nat.le_refl _) (fun _ _=>rfl) fun X=>gR w o ((A.slot b s Z).afE X)
theorem Step.alloc(h:m0≤mem.length)(o:Obj):Step m0 μ mem w μ mem (w.alloc o):=
 ⟨h,fun _ _=>rfl,rfl,rfl,rfl,by simp,fun k Z _=>gR w o Z,fun b X _=>⟨b,X,rfl⟩,Nat.le_refl _⟩
theorem GD{n:Nat}:∀{ts:List Tmp}{vs:List AV}{Vs:List Value}{env:Env}{tmps:Array Value},aeV μ n vs Vs→afo μ n env tmps→vs.length=ts.length→(∀t∈ts,t<tmps.size)→
  afo μ n (yp ts vs env) ((ts.zip Vs).foldl (fun tmps (t,a)=>tmps.setIfInBounds t a) tmps)∧((ts.zip Vs).foldl (fun tmps (t,a)=>tmps.setIfInBounds t a) tmps).size=tmps.size
 | [],[],Vs,env,tmps,hv,ht,_,_=>by exact⟨ht,rfl⟩
 |t::ts,v::vs,Vs,env,tmps,hv,ht,hl,hb=>by simp only[aeV] at hv;obtain⟨U,V,rfl,Z,X⟩:=hv;simp only[yp,List.zip_cons_cons,List.foldl_cons];have:=afo.put (a:={ tmps:=tmps,defers:=[] }) ht (hb t (by simp)) Z;simp only[Act.put] at this;have r:=GD (env:=(t,v)::env) (tmps:=tmps.setIfInBounds t U) X this (by simpa using hl) (fun x W=>by simpa using hb x (by simp[W]));exact⟨r.1,r.2.trans (by simp)⟩
 | [],_::_,_,_,_,_,_,hl,_=>by simp at hl
 |_::_,[],_,_,_,_,_,hl,_=>by simp at hl
theorem iE{l:Nat}(h:w.heap[l]? =some (.loop L)):(Instr.getLoop l).run P w=.ok L w:=by
 have Z:(getObj l).run P w=.ok (.loop L) w:=by simp[getObj,Sem.run,h]
 simp only[Instr.getLoop,Sem.run_bind,Z,Result.andThen_ok];rfl
theorem vX{base:Nat}{b:Nat}{r' :afT}{L' :Loop}(G:ae5 base μ mem w)(A:mem[b]? =some (.loop r))(H:w.heap[(μ b).blk]? =some (.loop L))(I:agn μ mem.length r' L'):
  (setObj (μ b).blk (.loop L')).run P w=.ok () { w with heap:=w.heap.setIfInBounds (μ b).blk (.loop L') }∧
  ae5 base μ (mem.set b (.loop r')) { w with heap:=w.heap.setIfInBounds (μ b).blk (.loop L') }∧
  Step mem.length μ mem w μ (mem.set b (.loop r')) { w with heap:=w.heap.setIfInBounds (μ b).blk (.loop L') }:=by
 have X:=(Array.getElem?_eq_some_iff.1 H).1;have Z:=gL A;refine⟨sG H (by intro c e f h;cases h),G.write A (R3 A) (fun _=>⟨_,List.getElem?_set_self Z,rfl⟩) rfl rfl rfl rfl (by simp) (fun k W=>Array.getElem?_setIfInBounds_ne (Ne.symm W)) ?_⟩;simp only[ae7];have:=G.slot b _ A;simp only[ae7] at this;obtain⟨_,_,V,_⟩:=this;exact⟨L',by simp[X],V,I⟩
theorem afH.intro{b:Nat}{args:List AV}{R:AV→Mem→Prop}(G:mem[b]? =some (.loop r))(H:r.st=.ready)(hl:args.length=r.ps.toList.length)(A:∀t∈r.ps.toList,t<r.N)(h:AWP P false r.N mem.length r.assign ⟨yp r.ps.toList args r.env,mem⟩ fun e Z=>e=.normal∧∃r1,Z.mem[b]? =some (.loop r1)∧r1.st=.ready∧
   AWP P false r.N mem.length r.body ⟨Z.env,Z.mem.set b (.loop { r1 with st:=.busy })⟩ fun e X=>∃r2 j K,B9 e=some j∧X.mem[b]? =some (.loop r2)∧L3 mem.length X.mem.length K=true∧
    R (.bool j.isNone) (ae4 mem.length K (X.mem.set b (.loop { r2 with st:=mW j,afy:=j })))):
  afH P b args mem R:=by
 intro base μ w Vs hG hH hV hbl;have W:=hH.slot b _ G;simp only[ae7] at W;obtain⟨L,h1,h2,h3⟩:=W;have H':Vs.length=L.params.size:=by rw[hV.length,hl,h3.ps];simp
 refine⟨L.fn,(L.params.zip ⟨Vs⟩).foldl (fun tmps (t,a)=>tmps.setIfInBounds t a) L.tmps,L.assign,L.body,?_,?_⟩
 ·simp only[Instr.yield,Sem.run_bind,iE h1,Result.andThen_ok]
  rw[if_neg (by simp[H'])];rfl
 ·refine roundIn_of_wpIn (F:=Fence.wide) trivial ?_
  have S:(L.params.zip ⟨Vs⟩).foldl (fun tmps (t,a)=>tmps.setIfInBounds t a) L.tmps=(r.ps.toList.zip Vs).foldl (fun tmps (t,a)=>tmps.setIfInBounds t a) L.tmps:=by rw[h3.ps,←Array.foldl_toList];simp
  have z:=GD (ts:=r.ps.toList) hV h3.tmps hl (fun t ht=>by rw[h3.size];exact A t ht);rw[h3.assign,h3.body];refine wpIn_mono (F:=Fr (some (μ b).blk)) (h (some (μ b).blk) w.heap.size base μ w ⟨_,[]⟩ (fun h=>by cases h) hH (by rw[S];exact z.1) (by rw[S,z.2];exact h3.size) (MOk.nil w hG hH.ae1 (Nat.le_refl _)) (Nat.le_refl _)) ?_;rintro e a1 w1 ⟨Z,μ1,c1,c2,c3,c4,c5,c6,rfl,r1,c7,c8,hbody⟩;have O:=c1.slot b _ c7;simp only[ae7] at O;obtain⟨L1,d1,d2,d3⟩:=O;have hμ:μ1 b=μ b:=c6.agree b hbl;rw[hμ] at d1;obtain⟨u,m,J⟩:=vX (P:=P) (r' :={ r1 with st:=.busy }) (L' :={ L1 with state:=.busy }) c1 c7 (by rw[hμ];exact d1) { d3 with st:=rfl };rw[hμ] at u m J;refine⟨_,?_,wpIn_mono (F:=Fr (some (μ b).blk)) (hbody (some (μ b).blk) w.heap.size base μ1 _ a1 (fun h=>by cases h) m (by rw[List.length_set];exact c2) c3 (c4.step c1 J) (by rw[List.length_set];exact c5)) ?_⟩
  ·simp only[Instr.beginRound,Sem.run_bind,iE d1,Result.andThen_ok,u]
   rw[d3.st,c8];rfl
  ·rintro e a2 w2 ⟨X,μ2,f1,f2,f3,f4,f5,f6,r2,j,K,f7,f8,f9,f10⟩
   have M:=f1.slot b _ f8;simp only[ae7] at M;obtain⟨L2,D,g2,g3⟩:=M;have hμ2:μ2 b=μ b:=by rw[f6.agree b hbl,hμ]
   rw[hμ2] at D;obtain⟨C,Y,I⟩:=vX (P:=P) (r' :={ r2 with st:=mW j,afy:=j }) (L' :={ L2 with state:=mW j,pending:=j }) f1 f8 (by rw[hμ2];exact D) { g3 with st:=rfl,afy:=rfl };rw[hμ2] at C Y I;have X':(Instr.endRound (μ b).blk j).run P w2=.ok (.bool j.isNone) { w2 with heap:=w2.heap.setIfInBounds (μ b).blk (.loop { L2 with state:=mW j,pending:=j }) }:=by unfold mW at C ⊢;simp only[Instr.endRound,Sem.run_bind,iE D,Result.andThen_ok,C];rfl
   obtain⟨p1,p2,p3⟩:=Y.ae4 (by rw[List.length_set];exact f5) (by rw[List.length_set];exact f9);have hS:Step mem.length μ mem w _ _ _:=((c6.trans (J.mono c5)).trans f6).trans ((I.mono f5).trans p3);have B:∃V v mem' μ',(Ending.returned (.bool j.isNone):Ending)=.returned V∧aeU μ' mem'.length v V∧ae5 base μ' mem' { w2 with heap:=w2.heap.setIfInBounds (μ b).blk (.loop { L2 with state:=mW j,pending:=j }) }∧
     Step mem.length μ mem w μ' mem' { w2 with heap:=w2.heap.setIfInBounds (μ b).blk (.loop { L2 with state:=mW j,pending:=j }) }∧R v mem' :=
    ⟨_,.bool j.isNone,_,_,rfl,by simp[aeU],p1,hS,f10⟩
   cases e<;>simp only[B9,Option.some.injEq,reduceCtorEq] at f7<;>subst f7<;>exact⟨_,_,X',B⟩
theorem GB{N:Nat}{g:Operand}{ps:Array Tmp}{assign body:Code}{st:St}{Q:Exit→St→Prop}{f:FuncId}{caps:List AV}(hg:get st.env g=.func f caps)(h:afu P f (.yield st.mem.length::caps) (st.mem++[.loop ⟨.ready,none,st.env,N,ps,assign,body⟩]) fun _ Z=>∃r2 e,Z[st.mem.length]? =some (.loop r2)∧r2.st≠ .busy∧qV r2.afy=some e∧
   Q e ⟨st.env,Z.set st.mem.length (.loop { r2 with st:=.exhausted })⟩):
  AWP P true N m0 (.rangeFunc g ps assign body) st Q:=by
 intro ro h0 base μ w a hro hH hR hN hdf B;cases hro rfl;have S:=aZ hR g;rw[hg] at S;simp only[aeU] at S;obtain⟨z,hU,u⟩:=S;refine wpIn_rangeFunc fun fn _=>?_
 let o1:Obj:=.deferred (some [])
 let w1:=w.alloc o1
 let L:Loop:={ state:=.ready,pending:=none,fn,tmps:=a.tmps,params:=ps,assign,body,defers:=w.heap.size }
 have M:ae5 base μ st.mem w1:=hH.alloc o1;have m:Step st.mem.length μ st.mem w μ st.mem w1:=.alloc (Nat.le_refl _) o1;have hsz:w1.heap.size=w.heap.size+1:=by simp[w1]
 obtain⟨K,j⟩:=M.push (.loop L) (.loop ⟨.ready,none,st.env,N,ps,assign,body⟩) ⟨w1.heap.size,0,0,0⟩ rfl (by simp only[ae7];exact⟨L,heap_alloc_new w1 _,M.ae1,rfl,rfl,rfl,rfl,rfl,hN,hR.mono (Nat.le_succ _) fun b O=>wE O⟩)
 have J:=m.trans j;have hμb:(upd μ st.mem.length ⟨w1.heap.size,0,0,0⟩ st.mem.length).blk=w1.heap.size:=by rw[eX]
 have hM:MOk P base h0 (w1.alloc (.loop L)) ({ target:=.collected w.heap.size,args:= #[] }::a.defers):=by
  have W:=(hdf.step hH J);refine⟨W.af7,W.ae1,W.le,fun d F=>?_,?_⟩
  ·rcases List.mem_cons.1 F with rfl | F
   ·refine⟨w.heap.size,rfl,hdf.le,?_⟩
    rw[gR w1 _ (by omega)];exact heap_alloc_new w o1
   ·exact W.each d F
  ·simp only[List.map_cons,List.nodup_cons]
   refine⟨?_,hdf.nodup⟩;intro B;obtain⟨d,F,he⟩:=List.mem_map.1 B;obtain⟨r,e,_,h2⟩:=hdf.each d F;rw[e] at he;simp only[Target.collected.injEq] at he;have:=(Array.getElem?_eq_some_iff.1 h2).1;omega
 have Y:=h.2 base _ (w1.alloc (.loop L)) (.func (.yield w1.heap.size) #[] #[]::z) hM.af7 K
  (br.2 ⟨by simp only[aeU,hμb];exact⟨by simp,trivial⟩,u.mono (by simp) fun b O=>wE O⟩)
 refine⟨w1.heap.size,[{ target:=.collected w.heap.size,args:= #[] }],w1.alloc (.loop L),{ target:=.fn (.func f) ⟨z⟩,args:= #[]++ #[.func (.yield w1.heap.size) #[] #[]] },w1.alloc (.loop L),f,⟨.func (.yield w1.heap.size) #[] #[]::z⟩,w1.alloc (.loop L),?_,?_,fun _ _=>trivial,?_,fun h=>by simp[Fence.wide] at h,?_⟩
 ·simp only[Instr.enterLoop,Sem.run_bind,run_newObj,Result.andThen_ok,Sem.run_pure]
  rfl
 ·have hc:(#[Operand.const (.func (.yield w1.heap.size) #[] #[])]:Array Operand).map a.eval= #[.func (.yield w1.heap.size) #[] #[]]:=by simp[Act.eval]
  simp only[resolve,hU,Deferred.ofValue,hc];rfl
 ·simp only[invoke]
  rw[yq h.1];congr 2;apply Array.ext';simp
 ·refine Ag.2 (Y.mono ?_)
  rintro e w3 ⟨V,v,Z,μ2,rfl,q1,q2,q3,r2,e2,q4,q5,q6,q7⟩;have R:st.mem.length<(st.mem++[aeY.loop ⟨.ready,none,st.env,N,ps,assign,body⟩]).length:=by simp
  have hμ2:(μ2 st.mem.length).blk=w1.heap.size:=by rw[q3.agree _ R,hμb]
  have D:=q2.slot _ _ q4;simp only[ae7] at D;obtain⟨L2,I,g2,g3⟩:=D;obtain⟨k1,k2,H⟩:=vX (P:=P) (r' :={ r2 with st:=.exhausted }) (L' :={ L2 with state:=.exhausted }) q2 q4 I { g3 with st:=rfl };rw[hμ2] at k1 k2 H I;have C:st.mem.length≤Z.length:=Nat.le_trans (by simp) q3.len;have G:=J.trans (q3.mono (m0:=st.mem.length) (by simp));have A:=G.trans (H.mono C);have X:∃P' μ',ae5 base μ' P'.mem { w3 with heap:=w3.heap.setIfInBounds w1.heap.size (.loop { L2 with state:=.exhausted }) }∧afo μ' P'.mem.length P'.env a.tmps∧a.tmps.size=N∧
    MOk P base h0 { w3 with heap:=w3.heap.setIfInBounds w1.heap.size (.loop { L2 with state:=.exhausted }) } ({ target:=.collected w.heap.size,args:= #[] }::a.defers)∧m0≤P'.mem.length∧
    Step m0 μ st.mem w μ' P'.mem { w3 with heap:=w3.heap.setIfInBounds w1.heap.size (.loop { L2 with state:=.exhausted }) }∧Q e2 P' :=by
   refine⟨_,μ2,k2,?_,hN,(hM.step K q3).step q2 H,?_,A.mono B,q7⟩
   ·show afo μ2 (Z.set st.mem.length _).length st.env a.tmps
    rw[List.length_set];exact hR.mono C fun b O=>by rw[q3.agree b (by simp;omega),wE O]
   ·show m0≤(Z.set st.mem.length _).length
    rw[List.length_set];omega
  refine⟨r2.afy,{ w3 with heap:=w3.heap.setIfInBounds w1.heap.size (.loop { L2 with state:=.exhausted }) },?_,?_⟩
  ·simp only[Instr.endLoop,Sem.run_bind,iE I,Result.andThen_ok]
   rw[g3.st];have O:(r2.st==LoopState.busy)=false:=by cases hx:r2.st<;>first | rfl | exact absurd hx q5
   rw[O];have adK:L2.pending=r2.afy:=g3.afy;simp only[Bool.false_eq_true,if_false,Sem.run_bind,Sem.run_pure,k1,Result.andThen_ok];rw[adK]
  ·cases hp:r2.afy with
   |none=>
    rw[hp] at q6;simp only[qV,Option.some.injEq] at q6;subst q6;exact X
   |some c=>
    rw[hp] at q6;cases c<;>simp only[qV,Option.some.injEq,reduceCtorEq] at q6
    ·subst q6;exact wpIn_exit X
    ·subst q6;exact wpIn_ret X
end
end Go.Eng
namespace Go.Eng
structure aeQ where
 v:AV
 pre:Option Mem
 new:Mem
def aeQ.mem(r:aeQ)(mem:Mem):Mem:=(r.pre.getD mem)++r.new
inductive Callee where
 |fn (f:FuncId)
 |yld (b:Nat)
abbrev aeT:=Callee→List AV→Mem→Option aeQ
def jK(env:Env):Op→Option (Callee×List AV)
 |.call { callee:=.value x,args,argTypes:=_ }=>match get env x with
  |.func f Z=>some (.fn f,YI env args++Z)
  |.yield b=>some (.yld b,YI env args)
  |_=>none
 |_=>none
structure XS where
 env:Env
 mem:Mem
 ae9:Bool
def Vu:AV→List Nat
 |.ptr b _=>[b]
 |_=>[]
def bL:AV→List Nat
 |.slice b _ _ _=>[b]
 |_=>[]
def Pm:AV→List Nat
 |.map b=>[b]
 |_=>[]
def wH(env:Env):Op→List Nat
 |.store _ a _=>Vu (get env a)
 |.call { callee:=.builtin .append,args:=⟨[s,_]⟩,argTypes:=_ }=>bL (get env s)
 |.call { callee:=.builtin .unsafeString,args:=⟨[x,_]⟩,argTypes:=_ }=>Vu (get env x)
 |.call { callee:=.builtin .clear,args:=⟨[x]⟩,argTypes:=_ }=>bL (get env x)
 |.mapUpdate _ m _ _=>Pm (get env m)
 |.mapEntry _ m _=>Pm (get env m)
 |.entryStore _ m _ _=>Pm (get env m)
 |_=>[]
def Xa(T:TypeId→Option TyI)(O:aeT)(m0:Nat)(env:Env)(mem:Mem)(A:Bool)(o:Oper):Option (AV×Mem×Bool):=
 match aOp T env mem o.op with
 |some (v,m)=>some (v,m,A||(wH env o.op).any fun b=>decide (b<m0))
 |none=>match jK env o.op with
  |some (c,args)=>match O c args mem with
   |some r=>some (r.v,r.mem mem,A||r.pre.isSome)
   |none=>none
  |none=>none
def fa(T:TypeId→Option TyI)(O:aeT)(N m0:Nat)(ops:Array Oper):List Oper→XS→Option XS
 | [],s=>some s
 |o::os,s=>
  if DH N o then
   match rQ ops s.env o with
   |some true=>match Xa T O m0 s.env s.mem s.ae9 o with
    |some (v,m,dt)=>fa T O N m0 ops os ⟨afO s.env o.dst v,m,dt⟩
    |none=>none
   |some false=>fa T O N m0 ops os ⟨afO s.env o.dst (.tuple []),s.mem,s.ae9⟩
   |none=>none
  else none
def dB(ops:List Oper):List Nat:=
 ops.foldl (fun acc o=>acc++[o.after.toList.foldl (fun s e=>if Region.binds .any e then s ||| 2 ^ e.on ||| acc.getD e.on 0 else s) 0]) []
def bef(A:List Nat)(i j:Nat):Bool:=(A.getD j 0).testBit i
def nE(ops:Array Oper)(A:List Nat):Bool:=
 let n:=ops.size
 (List.range n).all fun j=>match ops[j]? with
  |none=>true
  |some o=>
   o.after.toList.all (fun e=> !Region.binds .any e||decide (e.on<j))&&
   (List.range n).all fun i=>(!bef A i j||o.after.toList.any fun e=>Region.binds .any e&&(e.on==i||bef A i e.on))&&(i==j||bef A i j||bef A j i||match ops[i]? with
    |none=>true
    |some oi=>match oi.dst with
     |none=>true
     |some t=> !(o.looksAt ops).contains t&& !(o.dst==some t))
def O5(env:Env):Op→Option (List Nat)
 |.load _ a=>match get env a with
  |.ptr b _=>some [b]
  |_=>some []
 |.store _ a _=>match get env a with
  |.ptr b _=>some [b]
  |_=>some []
 |.slice _ x _ _ _=>match get env x with
  |.slice b _ _ _=>some [b]
  |_=>some []
 |.lookup _ m _ _=>match get env m with
  |.map b=>some [b]
  |_=>some []
 |.mapUpdate _ m _ _=>match get env m with
  |.map b=>some [b]
  |_=>some []
 |.mapEntry _ m _=>match get env m with
  |.map b=>some [b]
  |_=>some []
 |.entryStore _ m _ _=>match get env m with
  |.map b=>some [b]
  |_=>some []
 |.call { callee:=.builtin .len,args:=⟨[x]⟩,argTypes:=_ }=>match get env x with
  |.map b=>some [b]
  |_=>some []
 |.call { callee:=.builtin .append,args:=⟨[s,x]⟩,argTypes:=_ }=>
  some ((match get env s with | .slice b _ _ _=>[b] | _=>[])++(match get env x with | .slice b _ _ _=>[b] | _=>[]))
 |.call { callee:=.builtin .unsafeSliceData,args:=⟨[x]⟩,argTypes:=_ }=>match get env x with
  |.slice b _ _ _=>some [b]
  |_=>some []
 |.call { callee:=.builtin .clear,args:=⟨[x]⟩,argTypes:=_ }=>match get env x with
  |.slice b _ _ _=>some [b]
  |_=>some []
 |.call { callee:=.builtin .unsafeString,args:=⟨[x,_]⟩,argTypes:=_ }=>match get env x with
  |.ptr b _=>some [b]
  |_=>some []
 |.call { callee:=.builtin _,args:=_,argTypes:=_ }=>some []
 |.call _=>none
 |_=>some []
structure Rec where
 env:Env
 en:Env
 mem:Mem
 tm:Mem
 v:AV
 m' :Mem
 nx:Mem
 wb:Bool
 wr:List Nat
def bl(A:Nat→Bool):Nat→Mem→Mem
 |_,[]=>[]
 |i,s::r=>(if A i then s else .aeP)::bl A (i+1) r
def aW(wr:List Nat):Nat→Mem→Mem→Mem
 |_,[],m' =>m'
 |_,_::_,[]=>[]
 |i,s::r,s' ::r' =>(if wr.contains i then s' else s)::aW wr (i+1) r r'
def eK(mem:Mem)(b:Nat):Bool:=match mem[b]? with
 |some .aeP=>false
 |some _=>true
 |none=>false
def cO:Nat→Mem→List Nat
 |_,[]=>[]
 |i,.aeP::r=>cO (i+1) r
 |i,_::r=>i::cO (i+1) r
def wD(A:List Nat)(j:Nat):Nat→List Rec→List Rec
 |_,[]=>[]
 |i,r::rs=>if bef A i j then wD A j (i-1) rs else r::wD A j (i-1) rs
def Yq(A:List Nat)(j:Nat)(acc:List Rec):Option (List Nat)→Nat→Bool
 |some l=>fun b=>l.contains b
 |none=>let un:=wD A j (j-1) acc;fun b=> !un.any fun f=>decide (f.mem.length≤b∧b<f.nx.length)
def W7(A:Mem):Option Mem→List Nat
 |some _=>cO 0 A
 |none=>[]
def Hb(T:TypeId→Option TyI)(O:aeT)(N:Nat)(ops:Array Oper)(A:List Nat)(j:Nat)(o:Oper)(env:Env)(mem:Mem)(acc:List Rec):Option Rec:=
 if DH N o then
  let en:=(o.looksAt ops).map fun t=>(t,ad env t)
  match rQ ops en o with
  |none=>none
  |some false=>some ⟨env,en,mem,bl (fun _=>false) 0 mem,.tuple [],bl (fun _=>false) 0 mem,mem,false,[]⟩
  |some true=>
   let tm:=bl (Yq A j acc (O5 en o.op)) 0 mem
   match aOp T en tm o.op with
   |some (v,m)=>let wr:=wH en o.op;some ⟨env,en,mem,tm,v,m,aW wr 0 mem m,true,wr⟩
   |none=>match jK en o.op with
    |none=>none
    |some (c,args)=>match O c args tm with
     |none=>none
     |some r=>let wr:=W7 tm r.pre
      some ⟨env,en,mem,tm,r.v,r.mem tm,aW wr 0 mem (r.mem tm),true,wr⟩
 else none
def lh(T:TypeId→Option TyI)(O:aeT)(N:Nat)(ops:Array Oper)(A:List Nat):Nat→List Oper→Env→Mem→List Rec→Option (List Rec×Env×Mem)
 |_,[],env,mem,acc=>some (acc.reverse,env,mem)
 |j,o::os,env,mem,acc=>match Hb T O N ops A j o env mem acc with
  |none=>none
  |some r=>lh T O N ops A (j+1) os (afO env o.dst r.v) r.nx (r::acc)
def ig(A:Nat)(un:List (Nat×Rec))(b:Nat):Bool:=
 decide (b<A)&&un.all fun f=> !decide (f.2.mem.length≤b∧b<f.2.nx.length)
def aJ:Nat→List Rec→List (Nat×Rec)
 |_,[]=>[]
 |i,r::rs=>(i,r)::aJ (i+1) rs
def gu(A:List Nat)(R:List (Nat×Rec))(j:Nat)(r:Rec):Bool:=
 let un:=R.filter fun f=>decide (f.1<j)&& !bef A f.1 j
 r.wr.all (fun b=>eK r.tm b)&&
 r.v.aeR (ig r.nx.length un)&&
 r.wr.all (fun b=>match r.nx[b]? with | some s=>s.aeR (ig r.nx.length un) | none=>true)&&
 (r.nx.drop r.mem.length).all (fun s=>(s.own||match s with | .aeP=>true | _=>false)&&s.aeR (ig r.nx.length un))&&
 un.all fun f=>f.2.wr.all (fun b=> !eK r.tm b)&&r.wr.all (fun b=> !eK f.2.tm b)&&
  ((r.tm.drop f.2.mem.length).take (f.2.nx.length-f.2.mem.length)).all fun s=>match s with | .aeP=>true | _=>false
def aB(T:TypeId→Option TyI)(O:aeT)(N m0:Nat)(ops:Array Oper)(s:XS):Option XS:=
 let bs:=dB ops.toList
 match lh T O N ops bs 0 ops.toList s.env s.mem [] with
 |none=>none
 |some (R,env,mem)=>
  let nR:=aJ 0 R
  if nR.all fun f=>gu bs nR f.1 f.2 then some ⟨env,mem,s.ae9||R.any fun r=>r.wr.any fun b=>decide (b<m0)⟩ else none
def dK:Code→Bool
 |.region _ ops true=>nE ops (dB ops.toList)
 |.seq a b=>dK a&&dK b
 |.cond _ a b=>dK a&&dK b
 |.block _ b=>dK b
 |.loop b=>dK b
 |.scope b=>dK b
 |.rangeFunc _ _ a b=>dK a&&dK b
 |_=>true
def ab:Code→List Nat
 |.region _ ops _=>ops.toList.filterMap (·.dst)
 |.seq a b=>ab a++ab b
 |.cond _ a b=>ab a++ab b
 |.block _ b=>ab b
 |.loop b=>ab b
 |.scope b=>ab b
 |_=>[]
def aD(lv wr:List Nat)(A env:Env):Env:=lv.map (fun t=>(t,ad env t))++((wr.filter fun t=> !lv.contains t).map fun t=>(t,AV.undef))++A
mutual
def AV.refs(m0:Nat):AV→List Nat
 |.ptr b _=>if b<m0 then [] else [b]
 |.slice b _ _ _=>if b<m0 then [] else [b]
 |.map b=>if b<m0 then [] else [b]
 |.yield b=>if b<m0 then [] else [b]
 |.func _ Z=>AV.afc m0 Z
 |.iface _ v=>v.refs m0
 |.agg Z=>AV.afc m0 Z
 |.tuple Z=>AV.afc m0 Z
 |_=>[]
def AV.afc(m0:Nat):List AV→List Nat
 | []=>[]
 |v::vs=>v.refs m0++AV.afc m0 vs
end
def aeY.refs(m0:Nat):aeY→List Nat
 |.aeP=>[]
 |.cells _ _ cs=>AV.afc m0 cs
 |.map es=>es.flatMap fun e=>e.1.refs m0++e.2.refs m0
 |.afr es=>es.flatMap fun e=>e.1.refs m0++e.2.refs m0
 |.loop r=>r.env.flatMap fun e=>e.2.refs m0
def uO(m0:Nat)(mem:Mem):Nat→List Nat→List Nat→List Nat
 |0,_,seen=>seen
 |_,[],seen=>seen
 |k+1,b::todo,seen=>if seen.contains b then uO m0 mem k todo seen else uO m0 mem k (todo++(mem.getD b .aeP).refs m0) (seen++[b])
def Ue:List Nat→Bool
 |a::b::_=>a==b
 |_=>false
def jE:List Nat→Bool
 |a::b::c::_=>a==b&&b==c
 |_=>false
def Me(lv wr:List Nat)(A:Env)(m1:Nat)(s:XS):XS:=
 let ks:=uO m1 s.mem 1000 ((lv.flatMap fun t=>(ad s.env t).refs m1)++(s.mem.take m1).flatMap (aeY.refs m1)) []
 if L3 m1 s.mem.length ks then
  ⟨(lv.filter fun t=>wr.contains t).map (fun t=>(t,(ad s.env t).ren (rho m1 ks)))++((wr.filter fun t=> !lv.contains t).map fun t=>(t,AV.undef))++A,(s.mem.take m1).map (aeY.ren (rho m1 ks))++afI m1 ks s.mem,true⟩
 else⟨aD lv wr A s.env,s.mem,s.ae9⟩
def ic(lv wr:List Nat)(A:Env)(m1:Nat)(s:XS):XS:=
 if jE lv=true∨s.mem.length≤m1 then⟨aD lv wr A s.env,s.mem,s.ae9⟩ else
  let ks:=uO m1 s.mem 1000 (lv.flatMap fun t=>(ad s.env t).refs m1) []
  if L3 m1 s.mem.length ks&&(s.mem.take m1).all fun s=>(s.refs m1).isEmpty then
   ⟨(lv.filter fun t=>wr.contains t).map (fun t=>(t,(ad s.env t).ren (rho m1 ks)))++((wr.filter fun t=> !lv.contains t).map fun t=>(t,AV.undef))++A,s.mem.take m1++afI m1 ks s.mem,s.ae9⟩
  else if Ue lv then Me lv wr A m1 s
  else⟨aD lv wr A s.env,s.mem,s.ae9⟩
def er(lv wr:List Nat)(A:Env)(m1:Nat)(f:XS→Option (Exit×XS)):Nat→XS→Option (Exit×XS)
 |0,_=>none
 |k+1,s=>match f s with
  |some (.normal,s')=>er lv wr A m1 f k (ic lv wr A m1 s')
  |r=>r
def aM(T:TypeId→Option TyI)(lv:Code→List Nat)(O:aeT)(K N m0:Nat)(tp:Bool):Code→XS→Option (Exit×XS)
 |.skip,s=>some (.normal,s)
 |.region _ ops false,s=>match fa T O N m0 ops ops.toList s with
  |some s' =>some (.normal,s')
  |none=>none
 |.region _ ops true,s=>match aB T O N m0 ops s with
  |some s' =>some (.normal,s')
  |none=>none
 |.seq a b,s=>match aM T lv O K N m0 tp a s with
  |some (.normal,s')=>aM T lv O K N m0 tp b s'
  |r=>r
 |.cond c a b,s=>match get s.env c with
  |.bool true=>aM T lv O K N m0 tp a s
  |.bool false=>aM T lv O K N m0 tp b s
  |_=>none
 |.block id b,s=>match aM T lv O K N m0 tp b s with
  |some (.exit i,s')=>if i=id then some (.normal,s') else some (.exit i,s')
  |r=>r
 |.loop b,s=>er (lv b) (ab b) s.env s.mem.length (aM T lv O K N m0 tp b) K ⟨aD (lv b) (ab b) s.env s.env,s.mem,s.ae9⟩
 |.exit id,s=>some (.exit id,s)
 |.ret,s=>some (.ret,s)
 |.rangeFunc g ps asg body,s=>
  if tp then
   match get s.env g with
   |.func f caps=>match O (.fn f) (.yield s.mem.length::caps) (s.mem++[.loop ⟨.ready,none,s.env,N,ps,asg,body⟩]) with
    |some r=>
     let aaG:=r.mem (s.mem++[.loop ⟨.ready,none,s.env,N,ps,asg,body⟩])
     match aaG[s.mem.length]? with
     |some (.loop r2)=>if r2.st== .busy then none else match qV r2.afy with
      |some e=>some (e,⟨s.env,aaG.set s.mem.length (.loop { r2 with st:=.exhausted }),s.ae9||r.pre.isSome⟩)
      |none=>none
     |_=>none
    |none=>none
   |_=>none
  else none
 |_,_=>none
def aa(T:TypeId→Option TyI)(lv:Code→List Nat)(G:FuncId→Option Func)(O:aeT)(K:Nat)(f:FuncId)(args:List AV)(mem:Mem):Option aeQ:=
 match G f with
 |none=>none
 |some fn=>match fn.body with
  |none=>none
  |some c=>
   if args.length≤fn.ntmps then
    match aM T lv O K fn.ntmps mem.length true c ⟨dX 0 args,mem,false⟩ with
    |some (e,s)=>
     match e with
     |.normal | .ret=>
      match kq T fn.results.toList s.env s.mem with
      |some v=>
       let m0:=mem.length
       if s.ae9 then
        let ks:=uO m0 s.mem 1000 (v.refs m0++(s.mem.take m0).flatMap (aeY.refs m0)) []
        if L3 m0 s.mem.length ks then
         some ⟨v.ren (rho m0 ks),some ((s.mem.take m0).map (aeY.ren (rho m0 ks))),afI m0 ks s.mem⟩
        else none
       else
        let ks:=uO m0 s.mem 1000 (v.refs m0) []
        if L3 m0 s.mem.length ks then
         some ⟨v.ren (rho m0 ks),none,afI m0 ks s.mem⟩
        else none
      |none=>none
     |_=>none
    |none=>none
   else none
def GF(T:TypeId→Option TyI)(lv:Code→List Nat)(O:aeT)(K:Nat)(b:Nat)(args:List AV)(mem:Mem):Option aeQ:=
 match mem[b]? with
 |some (.loop r)=>
  if r.st== .ready&&decide (args.length=r.ps.toList.length)&&r.ps.toList.all (fun t=>decide (t<r.N))&&dK r.assign&&dK r.body then
   match aM T lv O K r.N mem.length false r.assign ⟨yp r.ps.toList args r.env,mem,true⟩ with
   |some (.normal,s1)=>match s1.mem[b]? with
    |some (.loop r1)=>
     if r1.st== .ready then
      match aM T lv O K r.N mem.length false r.body ⟨s1.env,s1.mem.set b (.loop { r1 with st:=.busy }),true⟩ with
      |some (e,s2)=>match B9 e,s2.mem[b]? with
       |some j,some (.loop r2)=>
        let m0:=mem.length
        let m3:=s2.mem.set b (.loop { r2 with st:=mW j,afy:=j })
        let ks:=uO m0 m3 1000 ((m3.take m0).flatMap (aeY.refs m0)) []
        if L3 m0 s2.mem.length ks then
         some ⟨.bool j.isNone,some ((m3.take m0).map (aeY.ren (rho m0 ks))),afI m0 ks m3⟩
        else none
       |_,_=>none
      |none=>none
     else none
    |_=>none
   |_=>none
  else none
 |_=>none
def sN(T:TypeId→Option TyI)(lv:Code→List Nat)(G:FuncId→Option Func)(O:aeT)(K:Nat):Nat→aeT
 |0=>O
 |n+1=>fun c Z mem=>match O c Z mem with
  |some r=>some r
  |none=>match c with
   |.fn f=>aa T lv G (sN T lv G O K n) K f Z mem
   |.yld b=>GF T lv (sN T lv G O K n) K b Z mem
structure HS (P:Program)(O:aeT):Prop where
 fn:∀f args mem r,O (.fn f) args mem=some r→kO P f args mem r.v (r.mem mem)
 yld:∀b args mem r,O (.yld b) args mem=some r→pG P b args mem r.v (r.mem mem)
 pre:∀c args mem r p,O c args mem=some r→r.pre=some p→p.length=mem.length
variable{args:List AV}{c:Callee}{d:Bool}{k m x:AV}{l:List Nat}{o:Oper}{op:Op}
section
variable {P:Program}{T:TypeId→Option TyI}{O:aeT}{mem mem' :Mem}{env:Env}
def afk(wr:List Nat) (mem mem' :Mem):Prop:=mem.length≤mem'.length∧∀b:Nat,b<mem.length→b∉wr→mem'[b]? =mem[b]?
theorem afk.refl(wr:List Nat)(mem:Mem):afk wr mem mem:=⟨Nat.le_refl _,fun _ _ _=>rfl⟩
theorem afk.push(wr:List Nat)(mem l:Mem):afk wr mem (mem++l):=⟨by simp,fun b Z _=>List.getElem?_append_left Z⟩
theorem afk.set(b0:Nat)(s:aeY)(mem:Mem):afk [b0] mem (mem.set b0 s):=
 ⟨by simp,fun b _ Z=>List.getElem?_set_ne (fun e=>Z (by simp[e]))⟩
theorem afk.agQ(b0:Nat)(s:aeY)(mem l:Mem):afk [b0] mem (mem.set b0 s++l):=
 ⟨by simp,fun b Z X=>by rw[List.getElem?_append_left (by simpa using Z)];exact List.getElem?_set_ne (fun e=>X (by simp[e]))⟩
theorem vH{t t2:TypeId}{s x v:AV}(h:jk T mem t t2 s x=some (v,mem')):afk (bL s) mem mem' :=by
 unfold jk at h
 repeat' split at h
 all_goals first
  |(cases h;done)
  |(cases h;exact .refl _ _)
  |(cases h;exact .push _ _ _)
  |(cases h;exact .set _ _ _)
  |(cases h;exact .agQ _ _ _ _)
theorem Lm{t:TypeId}{v:AV}(h:tl T mem t x v=some mem'):afk (Vu x) mem mem' :=by
 unfold tl at h
 repeat' split at h
 all_goals first
  |(cases h;done)
  |(cases h;rename_i Z _ _ _;exact .set _ _ _)
theorem zM{t:TypeId}{v:AV}(h:fA T mem t m k v=some mem'):afk (Pm m) mem mem' :=by
 unfold fA at h
 repeat' split at h
 all_goals first
  |(cases h;done)
  |(cases h;exact .set _ _ _)
theorem BF{t:TypeId}{v:AV}(h:qP T mem t m k=some (v,mem')):afk (Pm m) mem mem' :=by
 unfold qP at h
 repeat' split at h
 all_goals first
  |(cases h;done)
  |(cases h;exact .set _ _ _)
theorem xo{m s v:AV}(h:kQ mem m s v=some mem'):afk (Pm m) mem mem' :=by
 unfold kQ at h
 repeat' split at h
 all_goals first
  |(cases h;done)
  |(cases h;exact .set _ _ _)
theorem Lc{e:TypeId}{v:AV}(h:th T mem e=some (v,mem')):afk l mem mem' :=by unfold th at h;split at h<;>cases h;exact .push _ _ _
theorem Rq{v:AV}(h:YH mem x=some (v,mem')):afk l mem mem' :=by unfold YH at h;split at h<;>cases h;exact .push _ _ _
theorem xm{t:TypeId}{n:Nat}{ps}{v:AV}{l:List Nat}(h:fZ T mem t n ps=some (v,mem')):afk l mem mem' :=by
 unfold fZ at h
 repeat' split at h
 all_goals first
  |(cases h;done)
  |(cases h;exact .push _ _ _)
theorem zK{t:TypeId}{y:AV}{v:AV}(h:kD T mem t x y=some (v,mem')):afk l mem mem' :=by
 unfold kD at h
 repeat' split at h
 all_goals first
  |(cases h;done)
  |(cases h;exact .push _ _ _)
theorem Gv{pt:TypeId}{l v:AV}(h:xr T mem pt x l=some (v,mem')):afk (Vu x) mem mem' :=by
 unfold xr at h
 repeat' split at h
 all_goals first
  |(cases h;done)
  |(cases h;exact .set _ _ _)
theorem zG{s d:TypeId}{v:AV}(h:nr T mem s d x=some (v,mem')):afk l mem mem' :=by
 unfold nr at h
 repeat' split at h
 all_goals first
  |(cases h;done)
  |(cases h;exact .push _ _ _)
theorem Dy{t:TypeId}{s x v:AV}(h:vG T mem t s x=some (v,mem')):afk l mem mem' :=by
 unfold vG at h
 repeat' split at h
 all_goals first
  |(cases h;done)
  |(cases h;exact .push _ _ _)
theorem Lg{t:TypeId}(h:Lf T mem t x=some mem'):afk (bL x) mem mem' :=by
 unfold Lf at h
 repeat' split at h
 all_goals first
  |(cases h;done)
  |(cases h;exact .refl _ _)
  |(cases h;exact .set _ _ _)
theorem Dw{t t2:TypeId}{s x v:AV}(h:rZ T mem t t2 s x=some (v,mem')):afk (bL s) mem mem' :=by
 unfold rZ at h
 repeat' split at h
 all_goals first
  |(cases h;done)
  |(cases h;exact .set _ _ _)
theorem vI{t:TypeId}{v:AV}{A G:Option AV}(h:xq T mem t x A G=some (v,mem')):afk l mem mem' :=by
 unfold xq at h
 repeat' split at h
 all_goals first
  |(cases h;done)
  |(cases h;exact .push _ _ _)
theorem Lk{v:AV}(h:aOp T env mem op=some (v,mem')):afk (wH env op) mem mem' :=by
 unfold aOp at h
 repeat' split at h
 all_goals first
  |(cases h;done)
  |(cases h;exact .refl _ _)
  |exact vI h
  |(rename_i Z;cases h;exact vI Z)
  |exact Dw h
  |exact Lc h
  |exact Rq h
  |exact xm h
  |exact zK h
  |exact vH h
  |(rename_i Z;cases h;exact vH Z)
  |exact Dy h
  |exact zG h
  |exact Gv h
  |exact BF h
  |(cases h;exact .push _ _ _)
  |(rename_i Z;cases h;first | exact Lm Z | exact zM Z | exact xo Z | exact Lg Z)
theorem nt{wr:List Nat}{m0:Nat}(h:(wr.any fun b=>decide (b<m0))=false){b:Nat}(A:b<m0):b∉wr:=by intro Z;have:=List.any_eq_false.1 h b Z;simp[A] at this
theorem uS{m0:Nat}(A:m0≤mem.length)(G:m0≤mem'.length)(h:∀b,b<m0→mem'[b]? =mem[b]?):mem'.take m0=mem.take m0:=by
 apply List.ext_getElem?;intro b;by_cases Z:b<m0
 ·rw[List.getElem?_take_of_lt Z,List.getElem?_take_of_lt Z,h b Z]
 ·rw[List.getElem?_eq_none (by simp;omega),List.getElem?_eq_none (by simp;omega)]
def Clean(m0:Nat)(mem:Mem)(d:Bool) (mem' :Mem) (A :Bool):Prop:=m0≤mem.length→m0≤mem'.length∧(A =false→d=false∧mem'.take m0=mem.take m0)
theorem Clean.refl(m0:Nat)(mem:Mem)(d:Bool):Clean m0 mem d mem d:=fun h=>⟨h,fun e=>⟨e,rfl⟩⟩
theorem Clean.trans{m0:Nat}{m1 A G:Mem}{d1 d2 d3:Bool}(h:Clean m0 m1 d1 A d2)(H :Clean m0 A d2 G d3):Clean m0 m1 d1 G d3:=fun Z=>by obtain⟨X,W⟩:=h Z;obtain⟨V,S⟩:=H X;refine⟨V,fun e=>?_⟩;obtain⟨M,K⟩:=S e;obtain⟨J,F⟩:=W M;exact⟨J,K.trans F⟩
theorem afk.clean{wr:List Nat}{m0:Nat}(h:afk wr mem mem'):Clean m0 mem d mem' (d||wr.any fun b=>decide (b<m0)):=fun Z=>by have X:=Nat.le_trans Z h.1;refine⟨X,fun e=>?_⟩;simp only[Bool.or_eq_false_iff] at e;exact⟨e.1,uS Z X fun b W=>h.2 b (by omega) (nt e.2 W)⟩
theorem Lp{f:FuncId}(h:jK env op=some (.fn f,args)):GG env op=some (f,args):=by
 unfold jK at h;split at h
 ·split at h
  ·cases h;rename_i Z;simp[GG,Z]
  ·cases h
  ·cases h
 ·cases h
theorem Gy{b:Nat}(h:jK env op=some (.yld b,args)):As env op=some (b,args):=by
 unfold jK at h;split at h
 ·split at h
  ·cases h
  ·cases h;rename_i Z;simp[As,Z]
  ·cases h
 ·cases h
section
variable (hO:HS P O)
include hO
theorem Ct{r:aeQ}(hc:jK env o.op=some (c,args))(h:O c args mem=some r):
  wJ P T env mem o r.v (r.mem mem):=by
 cases c with
 |fn f=>exact .inr (.inl ⟨f,args,Lp hc,hO.fn _ _ _ _ h⟩)
 |yld b=>exact .inr (.inr ⟨b,args,Gy hc,hO.yld _ _ _ _ h⟩)
theorem xJ{r:aeQ}(h:O c args mem=some r):mem.length≤(r.mem mem).length:=by
 unfold aeQ.mem;cases hp:r.pre with
 |none=>simp
 |some p=>have:=hO.pre _ _ _ _ p h hp;simp;omega
theorem Pa{m0:Nat}{A :Bool}{v:AV}(h:Xa T O m0 env mem d o=some (v,mem',A)):
  wJ P T env mem o v mem' ∧Clean m0 mem d mem' A :=by
 unfold Xa at h;split at h
 ·rename_i V S Z
  cases h;exact⟨.inl Z,(Lk Z).clean⟩
 ·split at h
  ·rename_i c args hc
   split at h
   ·rename_i r X
    cases h;refine⟨Ct hO hc X,fun W=>⟨Nat.le_trans W (xJ hO X),fun e=>?_⟩⟩;simp only[Bool.or_eq_false_iff,Option.isSome_eq_false_iff,Option.isNone_iff_eq_none] at e;refine⟨e.1,?_⟩;unfold aeQ.mem;rw[e.2];simp[List.take_append_of_le_length W]
   ·cases h
  ·cases h
end
theorem jP(A:HS P O){N m0:Nat}{ops:Array Oper}:∀{l:List Oper}{s s' :XS},fa T O N m0 ops l s=some s' →
  mN P T N ops l ⟨s.env,s.mem⟩ ⟨s'.env,s'.mem⟩∧Clean m0 s.mem s.ae9 s'.mem s'.ae9
 | [],s,s',h=>by cases h;exact⟨rfl,.refl _ _ _⟩
 |o::os,s,s',h=>by
  unfold fa at h;split at h
  ·rename_i V
   split at h
   ·rename_i Z
    split at h
    ·rename_i v m J S
     obtain⟨M,K⟩:=Pa A S;obtain⟨X,W⟩:=jP A h;exact⟨⟨true,Z,V,(fun e=>by cases e),fun _=>⟨v,m,M,X⟩⟩,K.trans W⟩
    ·cases h
   ·rename_i Z
    obtain⟨X,W⟩:=jP A h;exact⟨⟨false,Z,V,(fun _=>X),(fun e=>by cases e)⟩,W⟩
   ·cases h
  ·cases h
end
end Go.Eng
namespace Go.Eng
section
variable {P:Program}{T:TypeId→Option TyI}{O:aeT}{N:Nat}{ops:Array Oper}
theorem gV(A:Nat→Bool):∀(i:Nat)(m:Mem),(bl A i m).length=m.length
 |_,[]=>rfl
 |i,s::r=>by simp[bl,gV A (i+1) r]
theorem kH(A:Nat→Bool):∀(i:Nat)(m:Mem)(b:Nat),(bl A i m)[b]? =m[b]? ∨(bl A i m)[b]? =some .aeP
 |_,[],b=>.inl rfl
 |i,s::r,0=>by
  simp only[bl,List.getElem?_cons_zero];split
  ·exact .inl rfl
  ·exact .inr rfl
 |i,s::r,b+1=>by simp only[bl,List.getElem?_cons_succ];exact kH A (i+1) r b
theorem Ck:∀(i:Nat)(m:Mem)(b:Nat),¬iA (bl (fun _=>false) i m) b
 |_,[],b=>by rintro ⟨s,h,_⟩;simp[bl] at h
 |i,s::r,0=>by rintro ⟨s,h,Z⟩;simp[bl] at h;exact Z h.symm
 |i,s::r,b+1=>by rintro ⟨s,h,Z⟩;simp only[bl,List.getElem?_cons_succ] at h;exact Ck (i+1) r b ⟨s,h,Z⟩
theorem mZ(wr:List Nat):∀(i:Nat) (m A :Mem),m.length≤A.length→(aW wr i m A).length=A.length
 |_,[],A,_=>rfl
 |_,_::_,[],h=>by simp at h
 |i,s::r,s' ::r',h=>by simp only[aW,List.length_cons] at h ⊢;rw[mZ wr (i+1) r r' (by omega)]
theorem uL(wr:List Nat):∀(i:Nat) (m A :Mem)(b:Nat),m.length≤A.length→(aW wr i m A)[b]? =if i+b∈wr∨m.length≤b then A[b]? else m[b]?
 |_,[],A,b,_=>by simp[aW]
 |_,_::_,[],_,h=>by simp at h
 |i,s::r,s' ::r',0,h=>by simp only[aW,List.getElem?_cons_zero,List.contains_iff_mem,Nat.add_zero,List.length_cons,Nat.le_zero_eq,Nat.add_one_ne_zero,or_false];split<;>rfl
 |i,s::r,s' ::r',b+1,h=>by simp only[List.length_cons] at h;simp only[aW,List.getElem?_cons_succ];rw[uL wr (i+1) r r' b (by omega)];simp only[List.length_cons,Nat.add_le_add_iff_right];rw[show i+1+b=i+(b+1) by omega]
theorem uH{m:Mem}{b:Nat}:eK m b=true↔iA m b:=by
 unfold eK iA;cases h:m[b]? with
 |none=>simp
 |some s=>cases s<;>simp
theorem DL:∀(i:Nat)(m:Mem)(b:Nat),i+b∈cO i m↔iA m b:=by
 intro i m;induction m generalizing i with
 |nil=>intro b;simp[cO,iA]
 |cons s r ih=>
  intro b;have Z:∀(i:Nat) (m:Mem) (x:Nat),x∈cO i m→i≤x:=by
   intro i m;induction m generalizing i with
   |nil=>intro x h;simp[cO] at h
   |cons s r ih=>
    intro x h;have:x∈cO (i+1) r∨x=i:=by cases s<;>simp only[cO,List.mem_cons] at h<;>first | exact .inl h | exact h.symm
    rcases this with h | h
    ·have:=ih (i+1) x h;omega
    ·omega
  cases b with
  |zero=>
   have X:¬(i+0∈cO (i+1) r):=fun h=>by have:=Z _ _ _ h;omega
   cases s<;>simp[cO,iA]<;>simpa using X
  |succ b=>
   have:=ih (i+1) b;rw[show i+1+b=i+(b+1) by omega] at this;have W:iA (s::r) (b+1)↔iA r b:=by simp[iA]
   rw[W,←this];cases s<;>simp[cO]
structure agE (P:Program)(T:TypeId→Option TyI)(N:Nat)(ops:Array Oper)(r:Rec)(o:Oper):Prop where
 dst:DH N o=true
 wanted:rQ ops r.en o=some r.wb
 en:r.en=(o.looksAt ops).map fun t=>(t,ad r.env t)
 step:r.wb=true→wJ P T r.en r.tm o r.v r.m'
 skip:r.wb=false→r.v=.tuple []∧r.m' =r.tm
 agL:r.tm.length=r.mem.length
 agM:∀b:Nat,r.tm[b]? =r.mem[b]? ∨r.tm[b]? =some .aeP
 mono:r.mem.length≤r.m'.length
 agF:r.nx.length=r.m'.length
 nx:∀b:Nat,r.nx[b]? =if b∈r.wr∨r.mem.length≤b then r.m'[b]? else r.mem[b]?
 afI:∀b:Nat,b<r.mem.length→b∉r.wr→iA r.tm b→r.m'[b]? =r.mem[b]?
theorem Ef{mem A:Mem}(h:∀b:Nat,A[b]? =mem[b]? ∨A[b]? =some .aeP){b:Nat}(G:iA A b):A[b]? =mem[b]? :=by
 rcases h b with e | e
 ·exact e
 ·obtain⟨s,Z,X⟩:=G
  rw[Z] at e;cases e;exact absurd rfl X
theorem Hc(A:HS P O){G:List Nat}{j:Nat}{o:Oper}{env:Env}{mem:Mem}{acc:List Rec}{r:Rec}(h:Hb T O N ops G j o env mem acc=some r):
  r.env=env∧r.mem=mem∧agE P T N ops r o:=by
 unfold Hb at h;split at h
 ·rename_i D
  simp only at h;split at h
  ·cases h
  ·rename_i J
   cases h;refine⟨rfl,rfl,D,J,rfl,(fun e=>by cases e),(fun _=>⟨rfl,rfl⟩),gV _ _ _,(fun b=>kH _ _ _ _),by simp[gV],by simp[gV],fun b=>?_,fun b _ _ V=>absurd V (Ck _ _ _)⟩;simp only[List.not_mem_nil,false_or];split
   ·rename_i S
    rw[List.getElem?_eq_none S,List.getElem?_eq_none (by rw[gV];exact S)]
   ·rfl
  ·rename_i J
   generalize Yq G j acc (O5 (List.map (fun t=>(t,ad env t)) (o.looksAt ops)) o.op)=see at h;have Z:(bl see 0 mem).length=mem.length:=gV _ _ _;split at h
   ·rename_i v m B
    cases h;have M:=Lk B;rw[afk,Z] at M;refine⟨rfl,rfl,D,J,rfl,fun _=>.inl B,(fun e=>by cases e),Z,fun b=>kH _ _ _ _,M.1,mZ _ _ _ _ M.1,fun b=>?_,fun b V C W=>?_⟩
    ·have:=uL (wH (List.map (fun t=>(t,ad env t)) (o.looksAt ops)) o.op) 0 mem m b M.1
     rw[Nat.zero_add] at this;exact this
    ·rw[M.2 b V C];exact Ef (fun b=>kH see 0 mem b) W
   ·split at h
    ·cases h
    ·rename_i c z hc
     split at h
     ·cases h
     ·rename_i X K
      simp only[Option.some.injEq] at h;subst h;have F:=xJ A K;rw[Z] at F;refine⟨rfl,rfl,D,J,rfl,fun _=>Ct A hc K,(fun e=>by cases e),Z,fun b=>kH _ _ _ _,F,mZ _ _ _ _ F,fun b=>?_,fun b V C W=>?_⟩
      ·have:=uL (W7 (bl see 0 mem) X.pre) 0 mem (X.mem (bl see 0 mem)) b F
       rw[Nat.zero_add] at this;exact this
      ·cases hp:X.pre with
       |some p=>
        exfalso;apply C;show b∈W7 (bl see 0 mem) X.pre
        rw[hp];show b∈cO 0 (bl see 0 mem)
        have:=(DL 0 (bl see 0 mem) b).2 W
        rwa [Nat.zero_add] at this
       |none=>
        show(X.mem (bl see 0 mem))[b]? =mem[b]?
        unfold aeQ.mem;rw[hp];simp only[Option.getD_none];rw[List.getElem?_append_left (by rw[Z];exact V)];exact Ef (fun b=>kH see 0 mem b) W
 ·cases h
def lK(P:Program)(T:TypeId→Option TyI)(N:Nat)(ops:Array Oper):List Oper→Env→Mem→List Rec→Env→Mem→Prop
 | [],env,mem,[],AC,mem' =>AC =env∧mem' =mem
 |o::os,env,mem,r::rs,AC,mem' =>r.env=env∧r.mem=mem∧agE P T N ops r o∧lK P T N ops os (afO env o.dst r.v) r.nx rs AC mem'
 |_,_,_,_,_,_=>False
theorem oY(H:HS P O){I:List Nat}:∀{l:List Oper}{j:Nat}{env:Env}{mem:Mem}{acc R:List Rec}{G :Env}{A :Mem},
  lh T O N ops I j l env mem acc=some (R,G,A)→∃Z,R=acc.reverse++Z∧lK P T N ops l env mem Z G A
 | [],j,env,mem,acc,R,G,A,h=>by simp only[lh,Option.some.injEq,Prod.mk.injEq] at h;obtain⟨rfl,rfl,rfl⟩:=h;exact⟨[],by simp,rfl,rfl⟩
 |o::os,j,env,mem,acc,R,G,A,h=>by
  unfold lh at h;split at h
  ·cases h
  ·rename_i r X
   obtain⟨W,V,h3⟩:=Hc H X;obtain⟨Z,e,S⟩:=oY H h;exact⟨r::Z,by rw[e];simp,W,V,h3,S⟩
def Sg(R:List Rec)(A:Env×Mem)(j:Nat):Env×Mem:=match R[j]? with
 |some r=>(r.env,r.mem)
 |none=>A
theorem yM:∀{l:List Oper}{env:Env}{mem:Mem}{R:List Rec}{G :Env}{A :Mem},lK P T N ops l env mem R G A →R.length=l.length
 | [],_,_,[],_,_,_=>rfl
 |_::_,_,_,_::_,_,_,h=>by simp only[List.length_cons];rw[yM h.2.2.2]
 | [],_,_,_::_,_,_,h=>h.elim
 |_::_,_,_,[],_,_,h=>h.elim
theorem wq:∀{l:List Oper}{env:Env}{mem:Mem}{R:List Rec}{G :Env}{A :Mem},lK P T N ops l env mem R G A →Sg R (G,A) 0=(env,mem)
 | [],_,_,[],_,_,h=>by obtain⟨rfl,rfl⟩:=h;rfl
 |_::_,_,_,_::_,_,_,h=>by obtain⟨rfl,rfl,_⟩:=h;rfl
 | [],_,_,_::_,_,_,h=>h.elim
 |_::_,_,_,[],_,_,h=>h.elim
theorem CA:∀{l:List Oper}{env:Env}{mem:Mem}{R:List Rec}{G :Env}{A :Mem},lK P T N ops l env mem R G A →∀(j:Nat)(o:Oper),l[j]? =some o→
  ∃r,R[j]? =some r∧agE P T N ops r o∧Sg R (G,A) (j+1)=(afO r.env o.dst r.v,r.nx)
 |o::os,_,_,r::rs,G,A,h,0,o',ho=>by cases ho;obtain⟨rfl,rfl,h3,Z⟩:=h;exact⟨r,rfl,h3,wq Z⟩
 |o::os,_,_,r::rs,G,A,h,j+1,o',ho=>by obtain⟨_,_,_,Z⟩:=h;obtain⟨X,W,V,g3⟩:=CA Z j o' ho;exact⟨X,W,V,g3⟩
 | [],_,_,_,_,_,_,j,_,ho=>by simp at ho
 |_::_,_,_,[],_,_,h,_,_,_=>h.elim
theorem mI:∀(i:Nat)(R:List Rec)(j:Nat)(r:Rec),R[j]? =some r→(i+j,r)∈aJ i R
 |i,x::xs,0,r,h=>by cases h;simp[aJ]
 |i,x::xs,j+1,r,h=>by simp only[List.getElem?_cons_succ] at h;have:=mI (i+1) xs j r h;rw[show i+1+j=i+(j+1) by omega] at this;simp[aJ,this]
 |_,[],_,_,h=>by simp at h
end
variable{R:List Rec}{bs:List Nat}{j:Nat}
section
variable {P:Program}{T:TypeId→Option TyI}{O:aeT}{N:Nat}{ops:Array Oper}
def Xi(bs:List Nat)(R:List Rec)(j:Nat):List (Nat×Rec):=(aJ 0 R).filter fun f=>decide (f.1<j)&& !bef bs f.1 j
def oJ(n:Nat)(bs:List Nat)(R:List Rec)(A:Env×Mem):afs where
 E j:=(Sg R A j).1
 M j:=(Sg R A j).2
 En j:=match R[j]? with | some r=>r.en | none=>[]
 Tm j:=match R[j]? with | some r=>r.tm | none=>[]
 M' j:=match R[j]? with | some r=>r.m' | none=>[]
 v j:=match R[j]? with | some r=>r.v | none=>.undef
 wb j:=match R[j]? with | some r=>r.wb | none=>false
 afD j b:=match R[j]? with | some r=>decide (b∈r.wr)||decide (r.mem.length≤b) | none=>false
 ok j b:=match R[j]? with | some r=>ig r.nx.length (Xi bs R j) b | none=>false
 cl i j:=decide (i<n)&&bef bs i j
theorem BV(h:nE ops bs=true){o:Oper}(A:ops[j]? =some o):
  (∀e∈o.after,Region.binds .any e=true→e.on<j)∧
  (∀i,i<ops.size→bef bs i j=true→∃e∈o.after,Region.binds .any e=true∧(e.on=i∨bef bs i e.on=true))∧
  ∀(i:Nat) X t,ops[i]? =some X→i≠j→X.dst=some t→(t∈o.looksAt ops∨o.dst=some t)→bef bs i j=true∨bef bs j i=true:=by
 have F:j<ops.size:=(Array.getElem?_eq_some_iff.1 A).1;unfold nE at h;have:=List.all_eq_true.1 h j (by simpa using F);simp only[A,Bool.and_eq_true,List.all_eq_true,List.mem_range] at this;obtain⟨D,K⟩:=this;refine⟨fun e he W=>?_,fun i Z W=>?_,fun i X t Z C B V=>?_⟩
 ·have:=D e (by simpa using he)
  simpa [W] using this
 ·have:=(K i Z).1
  simp only[W,Bool.not_true,Bool.false_or,List.any_eq_true] at this;obtain⟨e,he,S⟩:=this;simp only[Bool.and_eq_true,Bool.or_eq_true,beq_iff_eq] at S;exact⟨e,by simpa using he,S.1,S.2⟩
 ·have M:i<ops.size:=(Array.getElem?_eq_some_iff.1 Z).1
  have:=(K i M).2;simp only[Z,B,Bool.or_eq_true,beq_iff_eq,C,false_or,Bool.and_eq_true,Bool.not_eq_true',List.contains_eq_mem,decide_eq_false_iff_not] at this;rcases this with (h3 | h3) | ⟨h3,J⟩
  ·exact .inl h3
  ·exact .inr h3
  ·rcases V with h5 | h5
   ·exact absurd h5 h3
   ·rw[h5] at J;simp at J
structure af8 (bs:List Nat)(R:List Rec)(j:Nat)(r:Rec):Prop where
 wr:∀b∈r.wr,iA r.tm b
 agO:r.v.aeR (ig r.nx.length (Xi bs R j))=true
 ahp:∀(b:Nat) s,b∈r.wr→r.nx[b]? =some s→s.aeR (ig r.nx.length (Xi bs R j))=true
 fresh:∀(b:Nat) s,r.mem.length≤b→r.nx[b]? =some s→(s≠ .aeP→s.own=true)∧s.aeR (ig r.nx.length (Xi bs R j))=true
 ag7:∀(i:Nat) f,i<j→R[i]? =some f→bef bs i j=false→(∀b∈f.wr,¬iA r.tm b)∧(∀b∈r.wr,¬iA f.tm b)∧∀b,f.mem.length≤b→b<f.nx.length→¬iA r.tm b
theorem GI{r:Rec}(h:gu bs (aJ 0 R) j r=true):af8 bs R j r:=by
 unfold gu at h;simp only[Bool.and_eq_true] at h;obtain⟨⟨⟨⟨M,K⟩,h3⟩,J⟩,F⟩:=h;refine⟨fun b Z=>uH.1 (List.all_eq_true.1 M b Z),K,fun b s Z X=>?_,fun b s Z X=>?_,fun i f D C Z=>?_⟩
 ·have:=List.all_eq_true.1 h3 b Z
  rw[X] at this;exact this
 ·have V:s∈r.nx.drop r.mem.length:=by apply List.mem_of_getElem? (i:=b-r.mem.length);rw[List.getElem?_drop,←X];congr 1;omega
  have:=List.all_eq_true.1 J s V;simp only[Bool.and_eq_true,Bool.or_eq_true] at this;refine⟨fun B=>?_,this.2⟩;rcases this.1 with h | h
  ·exact h
  ·cases s<;>simp_all
 ·have S:(i,f)∈Xi bs R j:=by unfold Xi;rw[List.mem_filter];have:=mI 0 R i f C;rw[Nat.zero_add] at this;exact⟨this,by simp[D,Z]⟩
  have:=List.all_eq_true.1 F (i,f) S;simp only[Bool.and_eq_true,List.all_eq_true,Bool.not_eq_true'] at this;obtain⟨⟨z,u⟩,m⟩:=this;refine⟨fun b Z W=>?_,fun b Z W=>?_,fun b Y I W=>?_⟩
  ·have:=z b Z;rw[uH.2 W] at this;cases this
  ·have:=u b Z;rw[uH.2 W] at this;cases this
  ·obtain⟨s,X,B⟩:=W
   have V:s∈(r.tm.drop f.mem.length).take (f.nx.length-f.mem.length):=by apply List.mem_of_getElem? (i:=b-f.mem.length);rw[List.getElem?_take_of_lt (by omega),List.getElem?_drop,←X];congr 1;omega
   have:=m s V;cases s<;>simp_all
theorem EB{env:Env}:∀(l:List Tmp)(t:Nat),(t∈l∧ad (l.map fun t=>(t,ad env t)) t=ad env t)∨(t∉l∧ad (l.map fun t=>(t,ad env t)) t=.undef)
 | [],t=>.inr ⟨by simp,rfl⟩
 |x::xs,t=>by
  simp only[List.map_cons,ad];by_cases Z:x=t
  ·subst Z;exact .inl ⟨by simp,by simp⟩
  ·simp only[Z,if_false]
   rcases EB (env:=env) xs t with⟨X,W⟩ | ⟨X,W⟩
   ·exact .inl ⟨by simp[X],W⟩
   ·exact .inr ⟨by simp[X,Ne.symm Z],W⟩
theorem Wv{m:Mem}{b:Nat}(h:iA m b):b<m.length:=by obtain⟨s,h,_⟩:=h;exact(gL h)
theorem Wp{env G :Env}{mem A :Mem}(hs:nE ops bs=true)(hR:lK P T N ops ops.toList env mem R G A)(hC:∀(j:Nat) r,R[j]? =some r→af8 bs R j r):sJ P T N ops (oJ ops.size bs R (G,A)):=by
 have m:∀(j:Nat) o,ops[j]? =some o→∃r,R[j]? =some r∧agE P T N ops r o∧Sg R (G,A) (j+1)=(afO r.env o.dst r.v,r.nx):=
  fun j o ho=>CA hR j o (by simpa using ho)
 have M_at:∀(j:Nat) r,R[j]? =some r→(oJ ops.size bs R (G,A)).M j=r.mem:=fun j r h=>by simp[oJ,Sg,h]
 have lens:∀(i:Nat) V J,ops[i]? =some J→R[i]? =some V→∀(k j:Nat) z oj,j=i+1+k→ops[j]? =some oj→R[j]? =some z→V.nx.length≤z.mem.length:=by
  intro i V J X Z k;induction k with
  |zero=>
   intro j z oj hj hoj Y;obtain⟨r,g1,g2,g3⟩:=m i J X;rw[Z] at g1;cases g1;have:Sg R (G,A) (i+1)=(z.env,z.mem):=by rw[show i+1=j by omega];simp[Sg,Y]
   rw[this] at g3;have:=congrArg Prod.snd g3;simp only at this;rw[this];exact Nat.le_refl _
  |succ k ih=>
   intro j z oj hj hoj Y;have hjs:j<ops.size:=(Array.getElem?_eq_some_iff.1 hoj).1;obtain⟨op,hop⟩:=zX (ops:=ops) (j:=j-1) (by omega);obtain⟨r,g1,g2,g3⟩:=m (j-1) op hop;have h1:=ih (j-1) r op (by omega) hop g1;have:Sg R (G,A) (j-1+1)=(z.env,z.mem):=by rw[show j-1+1=j by omega];simp[Sg,Y]
   rw[this] at g3;have e:=congrArg Prod.snd g3;simp only at e;have:=g2.agF;have:=g2.mono;rw[e];omega
 have abo :∀(i j:Nat) V z J oj,i<j→ops[i]? =some J→ops[j]? =some oj→R[i]? =some V→R[j]? =some z→V.nx.length≤z.mem.length:=
  fun i j V z J oj hij X hoj Z Y=>lens i V J X Z (j-i-1) j z oj (by omega) hoj Y
 intro j o ho;obtain⟨r,F,K,ab0⟩:=m j o ho;have C:=hC j r F;have S:=BV hs ho;have hjs:j<ops.size:=(Array.getElem?_eq_some_iff.1 ho).1;have eM:(oJ ops.size bs R (G,A)).M j=r.mem:=M_at j r F;have D:(oJ ops.size bs R (G,A)).M (j+1)=r.nx:=by simp[oJ,ab0]
 have eE:(oJ ops.size bs R (G,A)).E j=r.env:=by simp[oJ,Sg,F]
 have eE1:(oJ ops.size bs R (G,A)).E (j+1)=afO r.env o.dst r.v:=by simp[oJ,ab0]
 have eEn:(oJ ops.size bs R (G,A)).En j=r.en:=by simp[oJ,F]
 have eT:(oJ ops.size bs R (G,A)).Tm j=r.tm:=by simp[oJ,F]
 have I :(oJ ops.size bs R (G,A)).M' j=r.m' :=by simp[oJ,F]
 have ev:(oJ ops.size bs R (G,A)).v j=r.v:=by simp[oJ,F]
 have ew:(oJ ops.size bs R (G,A)).wb j=r.wb:=by simp[oJ,F]
 have u:∀b,(oJ ops.size bs R (G,A)).afD j b=true↔b∈r.wr∨r.mem.length≤b:=fun b=>by simp[oJ,F]
 have aaV:∀b,(oJ ops.size bs R (G,A)).afD j b=false↔b∉r.wr∧b<r.mem.length:=fun b=>by simp[oJ,F]
 have eok:(oJ ops.size bs R (G,A)).ok j=ig r.nx.length (Xi bs R j):=by funext b;simp[oJ,F]
 have B:∀i k,i<ops.size→(oJ ops.size bs R (G,A)).cl i k=bef bs i k:=fun i k hi=>by simp[oJ,hi]
 have ab1:r.mem.length≤r.nx.length:=by rw[K.agF];exact K.mono
 refine⟨by rw[eEn,ew];exact K.wanted,K.dst,?_,?_,by rw[eE1,eE,ev],?_,?_,by rw[eT,eM];exact K.agL,by rw[eT,eM];exact K.agM,by rw[D,I];exact K.agF,by rw[eM,D];exact ab1,
  ?_,?_,?_,?_,?_,?_,?_,?_,?_,?_,S.1,?_⟩
 ·rw[ew,eEn,eT,ev,I];exact K.step
 ·rw[ew,ev,I,eT];exact K.skip
 ·intro t
  rw[eEn,eE,K.en];rcases EB (env:=r.env) (o.looksAt ops) t with⟨h1,h2⟩ | ⟨h1,h2⟩
  ·refine .inr ⟨h2,fun i J hi S' H=>?_⟩
   rw[B i j (Array.getElem?_eq_some_iff.1 hi).1,B j i hjs];exact S.2.2 i J t hi S' H (.inl h1)
  ·exact .inl h2
 ·intro i J t hi S' h1 h2
  rw[B i j (Array.getElem?_eq_some_iff.1 hi).1,B j i hjs];exact S.2.2 i J t hi S' h2 (.inr h1)
 ·intro b W
  rw[D,I,K.nx b,if_pos ((u b).1 W)]
 ·intro b W H
  rw[eM] at W;rw[D,eM,K.nx b,if_neg];rw[aaV] at H;rintro (h | h)
  ·exact H.1 h
  ·omega
 ·intro b W H hB
  rw[eM] at W;rw[I,eM];rw[aaV] at H;rw[eT] at hB;exact K.afI b W H.1 hB
 ·intro b W
  rw[eM] at W;exact(u b).2 (.inr W)
 ·intro b H W
  rw[eM] at W;rw[eT];rcases (u b).1 H with h | h
  ·exact C.wr b h
  ·omega
 ·
  intro i J b X hij hbi hti hor;obtain⟨V,Z,Ki,hni⟩:=m i J X;have Ci:=hC i V Z;have eMi:(oJ ops.size bs R (G,A)).M (i+1)=V.nx:=by simp[oJ,hni]
  rw[eMi] at hbi;have ac' :b∈V.wr∨V.mem.length≤b:=by simpa [oJ,Z] using hti
  rw[D,eT] at hor;rw[B i j (Array.getElem?_eq_some_iff.1 X).1,B j i hjs];by_cases FS:i<j
  ·cases W:bef bs i j with
   |true=>exact .inl rfl
   |false=>
    exfalso;obtain⟨p1,p2,p3⟩:=C.ag7 i V FS Z W;have hl:=abo i j V r J o FS X ho Z F;have ada:¬iA r.tm b:=by
     rcases ac' with h | h
     ·exact p1 b h
     ·exact p3 b h hbi
    rcases hor with⟨g1,g2⟩ | g
    ·rcases (u b).1 g2 with h | h
     ·exact ada (C.wr b h)
     ·omega
    ·exact ada g
  ·cases W:bef bs j i with
   |true=>exact .inr rfl
   |false=>
    exfalso;obtain⟨p1,p2,p3⟩:=Ci.ag7 j r (by omega) F W;have hl:=abo j i r V o J (by omega) ho X F Z;have htl:=K.agL;rcases ac' with h | h
    ·rcases hor with⟨g1,g2⟩ | g
     ·rcases (u b).1 g2 with h' | h'
      ·exact p2 b h (C.wr b h')
      ·exact p3 b h' g1 (Ci.wr b h)
     ·exact p2 b h g
    ·rcases hor with⟨g1,g2⟩ | g
     ·omega
     ·have:=Wv g;omega
 ·
  intro i b J X hok h1 h2;obtain⟨V,Z,Ki,hni⟩:=m i J X;have eMi:(oJ ops.size bs R (G,A)).M (i+1)=V.nx:=by simp[oJ,hni]
  rw[M_at i V Z] at h1;rw[eMi] at h2;rw[eok] at hok;unfold ig at hok;simp only[Bool.and_eq_true,decide_eq_true_eq,List.all_eq_true,Bool.not_eq_true',decide_eq_false_iff_not] at hok;by_cases hij:i=j
  ·exact .inl hij
  ·refine .inr ?_
   rw[B i j (Array.getElem?_eq_some_iff.1 X).1];by_cases FS:i<j
   ·cases W:bef bs i j with
    |true=>rfl
    |false=>
     exfalso;have aas:(i,V)∈Xi bs R j:=by unfold Xi;rw[List.mem_filter];have:=mI 0 R i V Z;rw[Nat.zero_add] at this;exact⟨this,by simp[FS,W]⟩
     exact hok.2 (i,V) aas ⟨h1,h2⟩
   ·exfalso
    have hl:=abo j i r V o J (by omega) ho X F Z;omega
 ·rw[ev,eok];exact C.agO
 ·intro b s H hs
  rw[D] at hs;rw[eok];rcases (u b).1 H with h | h
  ·exact C.ahp b s h hs
  ·exact(C.fresh b s h hs).2
 ·intro b s W hs S'
  rw[eM] at W;rw[D] at hs ⊢;exact⟨s,hs,(C.fresh b s W hs).1 S'⟩
 ·intro i W
  simp only[oJ,Bool.and_eq_true,decide_eq_true_eq] at W;obtain⟨e,h1,h2,h3⟩:=S.2.1 i W.1 W.2;refine⟨e,h1,h2,?_⟩;rcases h3 with h | h
  ·exact .inl h
  ·exact .inr (by simp[oJ,W.1,h])
theorem Hg(G:P.follows .mixedOrders=true)(hT:cW P T)(H:HS P O){m0:Nat}{s s' :XS}(A:nE ops (dB ops.toList)=true)(h:aB T O N m0 ops s=some s'):
  (∀(tp:Bool) (id:Nat) (Q:Exit→St→Prop),Q .normal ⟨s'.env,s'.mem⟩→AWP P tp N m0 (.region id ops true) ⟨s.env,s.mem⟩ Q)∧Clean m0 s.mem s.ae9 s'.mem s'.ae9:=by
 unfold aB at h;simp only at h
 ·split at h
  ·cases h
  ·rename_i R env mem B
   split at h
   ·rename_i hc
    cases h;obtain⟨X,e,W⟩:=oY H B;simp only[List.reverse_nil,List.nil_append] at e;subst e;have z:∀(j:Nat) r,R[j]? =some r→af8 (dB ops.toList) R j r:=by intro j r u;have:=mI 0 R j r u;rw[Nat.zero_add] at this;exact GI (List.all_eq_true.1 hc _ this)
    have Y:=Wp A W z;have C:=wq W;have I:=yM W;have V:Sg R (env,mem) ops.size=(env,mem):=by unfold Sg;rw[List.getElem?_eq_none (by rw[I];simp)]
    refine⟨fun tp id Q hq=>BK G hT (d:=oJ ops.size (dB ops.toList) R (env,mem)) Y (by simp[oJ,C]) (by simp[oJ,C]) (by simp[oJ,V]) hq,?_⟩;have S:∀(l:List Oper) (e:Env) (m:Mem) (X:List Rec),lK P T N ops l e m X env mem→m0≤m.length→m0≤mem.length∧((X.any fun r=>r.wr.any fun b=>decide (b<m0))=false→mem.take m0=m.take m0):=by
     intro l;induction l with
     |nil=>
      intro e m X h Z;cases X with
      |nil=>obtain⟨rfl,rfl⟩:=h;exact⟨Z,fun _=>rfl⟩
      |cons=>exact h.elim
     |cons o os ih=>
      intro e m X h Z;cases X with
      |nil=>exact h.elim
      |cons r X=>
       obtain⟨rfl,rfl,K,h4⟩:=h;have ab1:r.mem.length≤r.nx.length:=by rw[K.agF];exact K.mono
       obtain⟨M,J⟩:=ih _ _ _ h4 (by omega);refine⟨M,fun F=>?_⟩;simp only[List.any_cons,Bool.or_eq_false_iff] at F;rw[J F.2];refine uS Z (by omega) fun b hb=>?_
       rw[K.nx b,if_neg];rintro (h | h)
       ·exact nt F.1 hb h
       ·omega
    intro Z;obtain⟨M,J⟩:=S _ _ _ _ W Z;refine⟨M,fun D=>?_⟩;simp only[Bool.or_eq_false_iff] at D;exact⟨D.1,J D.2⟩
   ·cases h
end
end Go.Eng
namespace Go.Eng
variable{e z':Env}
section
variable {P:Program}{T:TypeId→Option TyI}{lv:Code→List Nat}{O:aeT}{K N m0:Nat}{tp:Bool}
def Zr(P:Program)(tp:Bool)(N m0:Nat)(c:Code)(s:XS)(e:Exit) (s' :XS):Prop:=
 (∀Q:Exit→St→Prop,Q e ⟨s'.env,s'.mem⟩→AWP P tp N m0 c ⟨s.env,s.mem⟩ Q)∧Clean m0 s.mem s.ae9 s'.mem s'.ae9
def afx(wr:List Nat) (e A :Env):Prop:=∀t,t∉wr→ad A t=ad e t
theorem afx.refl(wr:List Nat)(e:Env):afx wr e e:=fun _ _=>rfl
theorem afx.trans{wr:List Nat}{A G H:Env}(h:afx wr A G)(I :afx wr G H):afx wr A H:=fun t Z=>(I t Z).trans (h t Z)
theorem afx.mono{wr wr' :List Nat}{A :Env}(h:afx wr e A)(G:∀t,t∈wr→t∈wr'):afx wr' e A :=fun t Z=>h t fun X=>Z (G t X)
theorem iF(a b:Env)(t:Nat)(h:∀e∈a,e.1≠t):ad (a++b) t=ad b t:=by
 induction a with
 |nil=>rfl
 |cons e r ih=>
  obtain⟨k,v⟩:=e;simp only[List.cons_append,ad];rw[if_neg (h (k,v) (by simp))];exact ih fun e he=>h e (by simp[he])
theorem gI(l:List Nat)(g:Nat→AV)(b:Env)(t:Nat)(h:t∈l):ad (l.map (fun t=>(t,g t))++b) t=g t:=by
 induction l with
 |nil=>cases h
 |cons x r ih=>
  simp only[List.map_cons,List.cons_append,ad];by_cases Z:x=t
  ·subst Z;rw[if_pos rfl]
  ·rw[if_neg Z]
   exact ih (by cases h with
    |head=>exact absurd rfl Z
    |tail _ h=>exact h)
theorem sr{lv wr:List Nat}{env:Env}(h:afx wr z' env)(t:Nat):ad (aD lv wr z' env) t=ad env t∨ad (aD lv wr z' env) t=.undef:=by
 unfold aD;rw[List.append_assoc];by_cases Z:t∈lv
 ·rw[gI lv (fun t=>ad env t) _ t Z];exact .inl rfl
 ·rw[iF _ _ t (by intro e he;simp only[List.mem_map] at he;obtain⟨x,X,rfl⟩:=he;intro e;exact Z (e▸X))]
  by_cases W:t∈wr
  ·rw[gI (wr.filter fun t=> !lv.contains t) (fun _=>AV.undef) _ t (by rw[List.mem_filter];exact⟨W,by simpa using Z⟩)];exact .inr rfl
  ·rw[iF _ _ t (by intro e he;simp only[List.mem_map,List.mem_filter] at he;obtain⟨x,X,rfl⟩:=he;intro e;exact W (e▸X.1))]
   exact .inl (h t W).symm
theorem nP{lv wr:List Nat}{env:Env}(A:afx wr z' env):afx wr z' (aD lv wr z' env):=by
 intro t X;unfold aD;rw[List.append_assoc];by_cases W:t∈lv
 ·rw[gI lv (fun t=>ad env t) _ t W];exact A t X
 ·rw[iF _ _ t (by intro e he;simp only[List.mem_map] at he;obtain⟨x,Z,rfl⟩:=he;intro e;exact W (e▸Z)),
   iF _ _ t (by intro e he;simp only[List.mem_map,List.mem_filter] at he;obtain⟨x,Z,rfl⟩:=he;intro e;exact X (e▸Z.1))]
theorem CH{wr:List Nat}{o:Oper}{v:AV}(h:∀d,o.dst=some d→d∈wr):afx wr e (afO e o.dst v):=by intro t Z;exact L7 fun he=>Z (h t he)
theorem oW{m0:Nat}{ops:Array Oper}:∀{l:List Oper}{s s' :XS},fa T O N m0 ops l s=some s' →afx (l.filterMap (·.dst)) s.env s'.env
 | [],s,s',h=>by cases h;exact .refl _ _
 |o::os,s,s',h=>by
  have X:∀t,t∈os.filterMap (·.dst)→t∈(o::os).filterMap (·.dst):=fun t W=>by
   rw[List.filterMap_cons];split
   ·exact W
   ·exact List.mem_cons_of_mem _ W
  have Z:∀d,o.dst=some d→d∈(o::os).filterMap (·.dst):=fun d Z=>by rw[List.filterMap_cons];simp[Z]
  unfold fa at h;split at h
  ·split at h
   ·split at h
    ·exact(CH Z).trans ((oW h).mono X)
    ·cases h
   ·exact(CH Z).trans ((oW h).mono X)
   ·cases h
  ·cases h
theorem Mt{ops:Array Oper}:∀{l:List Oper}{env:Env}{mem:Mem}{R:List Rec}{G :Env}{A :Mem},lK P T N ops l env mem R G A →afx (l.filterMap (·.dst)) env G
 | [],_,_,[],_,_,h=>by obtain⟨rfl,_⟩:=h;exact .refl _ _
 |o::os,_,_,r::rs,_,_,h=>by
  obtain⟨rfl,_,_,W⟩:=h;have V:∀t,t∈os.filterMap (·.dst)→t∈(o::os).filterMap (·.dst):=fun t X=>by
   rw[List.filterMap_cons];split
   ·exact X
   ·exact List.mem_cons_of_mem _ X
  have Z:∀d,o.dst=some d→d∈(o::os).filterMap (·.dst):=fun d Z=>by rw[List.filterMap_cons];simp[Z]
  exact(CH Z).trans ((Mt W).mono V)
 | [],_,_,_::_,_,_,h=>h.elim
 |_::_,_,_,[],_,_,h=>h.elim
theorem Mz(A:HS P O){m0:Nat}{ops:Array Oper}{s s' :XS}(h:aB T O N m0 ops s=some s'):afx (ops.toList.filterMap (·.dst)) s.env s'.env:=by
 unfold aB at h;simp only at h;split at h
 ·cases h
 ·rename_i R env mem Z
  split at h
  ·cases h
   obtain⟨W,e,X⟩:=oY A Z;exact Mt X
  ·cases h
mutual
theorem aeU.refs{μ:Nat→Place}{n:Nat}:∀{v V},aeU μ n v V→v.refs n=[]
 |.undef,_,_=>rfl
 |.bool _,_,_=>rfl
 |.int _ _,_,_=>rfl
 |.str _,_,_=>rfl
 |.ptr b o,V,h=>by simp only[aeU] at h;simp[AV.refs,h.1]
 |.afd,_,_=>rfl
 |.slice b o l c,V,h=>by simp only[aeU] at h;simp[AV.refs,h.1]
 |.y9,_,_=>rfl
 |.map b,V,h=>by simp only[aeU] at h;simp[AV.refs,h.1]
 |.yield b,V,h=>by simp only[aeU] at h;simp[AV.refs,h.1]
 |.afl,_,_=>rfl
 |.func f Z,V,h=>by simp only[aeU] at h;obtain⟨X,_,h⟩:=h;simp[AV.refs,aeV.refs h]
 |.nilFunc,_,_=>rfl
 |.iface t v,V,h=>by simp only[aeU] at h;obtain⟨U,_,h⟩:=h;simp[AV.refs,aeU.refs h]
 |.nilIface,_,_=>rfl
 |.agg Z,V,h=>by simp only[aeU] at h;obtain⟨X,_,h⟩:=h;simp[AV.refs,aeV.refs h]
 |.tuple Z,V,h=>by simp only[aeU] at h;obtain⟨X,_,h⟩:=h;simp[AV.refs,aeV.refs h]
theorem aeV.refs{μ:Nat→Place}{n:Nat}:∀{vs Us},aeV μ n vs Us→AV.afc n vs=[]
 | [],_,_=>rfl
 |v::vs,_,h=>by simp only[aeV] at h;obtain⟨U,W,_,Z,X⟩:=h;simp[AV.afc,aeU.refs Z,aeV.refs X]
end
mutual
theorem AV.afh{m1:Nat}{ks:List Nat}:∀{v:AV},v.refs m1=[]→v.ren (rho m1 ks)=v
 |.undef,_=>rfl
 |.bool _,_=>rfl
 |.int _ _,_=>rfl
 |.str _,_=>rfl
 |.ptr b o,h=>by
  have Z:b<m1:=by
   by_cases Z:b<m1
   ·exact Z
   ·simp[AV.refs,Z] at h
  simp[AV.ren,rho,Z]
 |.afd,_=>rfl
 |.slice b o l c,h=>by
  have Z:b<m1:=by
   by_cases Z:b<m1
   ·exact Z
   ·simp[AV.refs,Z] at h
  simp[AV.ren,rho,Z]
 |.y9,_=>rfl
 |.map b,h=>by
  have Z:b<m1:=by
   by_cases Z:b<m1
   ·exact Z
   ·simp[AV.refs,Z] at h
  simp[AV.ren,rho,Z]
 |.yield b,h=>by
  have Z:b<m1:=by
   by_cases Z:b<m1
   ·exact Z
   ·simp[AV.refs,Z] at h
  simp[AV.ren,rho,Z]
 |.afl,_=>rfl
 |.func f X,h=>by simp only[AV.refs] at h;simp[AV.ren,AV.afz h]
 |.nilFunc,_=>rfl
 |.iface t v,h=>by simp only[AV.refs] at h;simp[AV.ren,AV.afh h]
 |.nilIface,_=>rfl
 |.agg X,h=>by simp only[AV.refs] at h;simp[AV.ren,AV.afz h]
 |.tuple X,h=>by simp only[AV.refs] at h;simp[AV.ren,AV.afz h]
theorem AV.afz{m1:Nat}{ks:List Nat}:∀{vs:List AV},AV.afc m1 vs=[]→AV.ae3 (rho m1 ks) vs=vs
 | [],_=>rfl
 |v::vs,h=>by simp only[AV.afc,List.append_eq_nil_iff] at h;simp[AV.ae3,AV.afh h.1,AV.afz h.2]
end
variable{ks:List Nat}{m1:Nat}
theorem aeY.afh{s:aeY}(h:s.refs m1=[]):s.ren (rho m1 ks)=s:=by
 cases s with
 |aeP=>rfl
 |cells own es cs=>simp only[aeY.refs] at h;simp only[aeY.ren,AV.afz h]
 |map es=>
  simp only[aeY.refs,List.flatMap_eq_nil_iff] at h;simp only[aeY.ren];congr 1;conv=>rhs;rw[←List.map_id es]
  apply List.map_congr_left;intro e he;have:=h e he;rw[List.append_eq_nil_iff] at this;rw[AV.afh this.1,AV.afh this.2];rfl
 |afr es=>
  simp only[aeY.refs,List.flatMap_eq_nil_iff] at h;simp only[aeY.ren];congr 1;conv=>rhs;rw[←List.map_id es]
  apply List.map_congr_left;intro e he;have:=h e he;rw[List.append_eq_nil_iff] at this;rw[AV.afh this.1,AV.afh this.2];rfl
 |loop r=>
  simp only[aeY.refs,List.flatMap_eq_nil_iff] at h;simp only[aeY.ren,yP];congr 1;have:r.env.map (fun e=>(e.1,e.2.ren (rho m1 ks)))=r.env:=by
   conv=>rhs;rw[←List.map_id r.env]
   apply List.map_congr_left;intro e he;rw[AV.afh (h e he)];rfl
  rw[this]
variable{Q:Exit→St→Prop}
theorem AWP.assume{c:Code}{A:St}(h:m0≤A.mem.length→(∀t,(ad A.env t).refs A.mem.length=[])→AWP P tp N m0 c A Q):AWP P tp N m0 c A Q:=
 fun ro h0 base μ w a hro h1 h2 h3 h4 h5=>h h5 (fun t=>(h2 t).refs) ro h0 base μ w a hro h1 h2 h3 h4 h5
theorem LC{mem:Mem}(h:(mem.take m1).all (fun s=>(s.refs m1).isEmpty)=true):ae4 m1 ks mem=mem.take m1++afI m1 ks mem:=by
 unfold ae4;congr 1;conv=>rhs;rw[←List.map_id (mem.take m1)]
 apply List.map_congr_left;intro s Z;have:=List.all_eq_true.1 h s Z;rw[List.isEmpty_iff] at this;rw[aeY.afh this];rfl
variable{lw:List Nat}
section
variable{wr:List Nat}
include wr
theorem ss{g:Nat→AV}(t:Nat):
  ad ((lw.filter fun t=>wr.contains t).map (fun t=>(t,g t))++((wr.filter fun t=> !lw.contains t).map fun t=>(t,AV.undef))++z') t=
   if t∈wr then (if t∈lw then g t else .undef) else ad z' t:=by
 rw[List.append_assoc];by_cases Z:t∈wr
 ·by_cases X:t∈lw
  ·rw[if_pos Z,if_pos X]
   exact gI _ g _ t (by rw[List.mem_filter];exact⟨X,by simpa using Z⟩)
  ·rw[if_pos Z,if_neg X,iF _ _ t (by intro e he;simp only[List.mem_map,List.mem_filter] at he;obtain⟨x,W,rfl⟩:=he;intro e;exact X (e▸W.1))]
   exact gI (wr.filter fun t=> !lw.contains t) (fun _=>AV.undef) _ t (by rw[List.mem_filter];exact⟨Z,by simpa using X⟩)
 ·rw[if_neg Z,iF _ _ t (by intro e he;simp only[List.mem_map,List.mem_filter] at he;obtain⟨x,W,rfl⟩:=he;intro e;exact Z (e▸by simpa using W.2)),
   iF _ _ t (by intro e he;simp only[List.mem_map,List.mem_filter] at he;obtain⟨x,W,rfl⟩:=he;intro e;exact Z (e▸W.1))]
theorem Sb{s:XS}(h:afx wr z' s.env):afx wr z' (Me lw wr z' m1 s).env:=by
 unfold Me;simp only;split
 ·intro t Z
  simp only;rw[ss,if_neg Z]
 ·exact nP h
theorem EN{s:XS}(h:afx wr z' s.env):afx wr z' (ic lw wr z' m1 s).env:=by
 unfold ic;split
 ·exact nP h
 ·simp only
  split
  ·intro t Z
   simp only;rw[ss,if_neg Z]
  ·split
   ·exact Sb h
   ·exact nP h
theorem OB{s:XS}(A:m0≤m1):Clean m0 s.mem s.ae9 (ic lw wr z' m1 s).mem (ic lw wr z' m1 s).ae9:=by
 unfold ic;split
 ·exact .refl _ _ _
 ·rename_i Z
  have Z:=fun h=>Z (.inr h)
  simp only;split
  ·intro h
   refine⟨by simp only[List.length_append,List.length_take];omega,fun e=>⟨e,?_⟩⟩;simp only;rw[List.take_append_of_le_length (by simp only[List.length_take];omega),List.take_take];congr 1;omega
  ·split
   ·unfold Me
    simp only;split
    ·intro h
     exact⟨by show m0≤(ae4 m1 _ s.mem).length;rw[fF (by omega)];omega,fun e=>by cases e⟩
    ·exact .refl _ _ _
   ·exact .refl _ _ _
theorem Sl{s:XS}(h:afx wr z' s.env)(h0:∀t,(ad z' t).refs m1=[])(A:m0≤m1)(G:m1≤s.mem.length):
  afP m0 ⟨s.env,s.mem⟩ ⟨(Me lw wr z' m1 s).env,(Me lw wr z' m1 s).mem⟩:=by
 unfold Me;simp only;split
 ·rename_i V
  obtain⟨ks,W⟩:=xE (uO m1 s.mem 1000 ((lw.flatMap fun t=>(ad s.env t).refs m1)++(s.mem.take m1).flatMap (aeY.refs m1)) []);rw[←W] at V ⊢;have S:afP m0 ⟨s.env,s.mem⟩ ⟨yP (rho m1 ks) s.env,ae4 m1 ks s.mem⟩:=by intro base μ w tmps Z X h3;obtain⟨μ1,M,J,F,D⟩:=afP.ae4 (env:=s.env) _ V base μ w tmps Z X G;exact⟨μ1,M,J,Nat.le_trans A F,D.mono A⟩
  refine S.trans (afP.env fun t=>?_);rw[ss,iG];by_cases Z:t∈wr
  ·rw[if_pos Z]
   by_cases X:t∈lw
   ·rw[if_pos X];exact .inl rfl
   ·rw[if_neg X];exact .inr rfl
  ·rw[if_neg Z,h t Z,AV.afh (h0 t)];exact .inl rfl
 ·exact afP.env fun t=>sr h t
theorem Sn{s:XS}(h:afx wr z' s.env)(h0:∀t,(ad z' t).refs m1=[])(A:m0≤m1):
  afP m0 ⟨s.env,s.mem⟩ ⟨(ic lw wr z' m1 s).env,(ic lw wr z' m1 s).mem⟩:=by
 unfold ic;split
 ·exact afP.env fun t=>sr h t
 ·rename_i V
  have V:=fun h=>V (.inr h)
  simp only;split
  ·rename_i hc
   rw[Bool.and_eq_true] at hc;obtain⟨M,J⟩:=hc;have S:afP m0 ⟨s.env,s.mem⟩ ⟨yP (rho m1 (uO m1 s.mem 1000 (lw.flatMap fun t=>(ad s.env t).refs m1) [])) s.env,ae4 m1 (uO m1 s.mem 1000 (lw.flatMap fun t=>(ad s.env t).refs m1) []) s.mem⟩:=by
    intro base μ w tmps Z X h3;have W :m1≤s.mem.length:=by omega
    obtain⟨μ1,F,D,C,B⟩:=afP.ae4 (env:=s.env) _ M base μ w tmps Z X W;exact⟨μ1,F,D,Nat.le_trans A C,B.mono A⟩
   rw[LC J] at S;refine S.trans (afP.env fun t=>?_);rw[ss,iG];by_cases Z:t∈wr
   ·rw[if_pos Z]
    by_cases X:t∈lw
    ·rw[if_pos X];exact .inl rfl
    ·rw[if_neg X];exact .inr rfl
   ·rw[if_neg Z,h t Z,AV.afh (h0 t)];exact .inl rfl
  ·split
   ·exact Sl h h0 A (by omega)
   ·exact afP.env fun t=>sr h t
end
variable{f:XS→Option (Exit×XS)}
theorem Ux{b:Code}(A:∀s e s',f s=some (e,s')→afx (ab b) s.env s'.env):
  ∀(k:Nat) (s:XS) (e:Exit) (s' :XS),afx (ab b) z' s.env→er lw (ab b) z' m1 f k s=some (e,s')→afx (ab b) z' s'.env:=by
 intro k;induction k with
 |zero=>intro s e s' _ h;cases h
 |succ k ih=>
  intro s e s' Z h;unfold er at h;split at h
  ·rename_i W X
   exact ih _ _ _ (EN (Z.trans (A _ _ _ X))) h
  ·exact Z.trans (A _ _ _ h)
theorem RR{b:Code}(A:∀s e s',f s=some (e,s')→Zr P tp N m0 b s e s')(G:m0≤m1):
  ∀(k:Nat) (s:XS) (e:Exit) (s' :XS),er lw (ab b) z' m1 f k s=some (e,s')→Clean m0 s.mem s.ae9 s'.mem s'.ae9:=by
 intro k;induction k with
 |zero=>intro s e s' h;cases h
 |succ k ih=>
  intro s e s' h;unfold er at h;split at h
  ·rename_i W Z
   obtain⟨_,X⟩:=A _ _ _ Z;exact(X.trans (OB G)).trans (ih _ _ _ h)
  ·exact(A _ _ _ h).2
theorem RS{b:Code}(G:∀s e s',f s=some (e,s')→Zr P tp N m0 b s e s' ∧afx (ab b) s.env s'.env)(h0:∀t,(ad z' t).refs m1=[])(H:m0≤m1)(k:Nat)(s:XS)(e:Exit)(s' :XS)(A:afx (ab b) z' s.env)(h:er lw (ab b) z' m1 f k s=some (e,s'))(hq:Q e ⟨s'.env,s'.mem⟩):AWP P tp N m0 (.loop b) ⟨s.env,s.mem⟩ Q:=by
 refine Wr (σ:=Nat) (fun k S=>∃s,S=⟨s.env,s.mem⟩∧afx (ab b) z' s.env∧er lw (ab b) z' m1 f k s=some (e,s')) id (s:=k) ⟨s,rfl,A,h⟩ ?_;rintro k S ⟨s,rfl,A,hk⟩;cases k with
 |zero=>cases hk
 |succ k=>
  unfold er at hk;split at hk
  ·rename_i X J
   obtain⟨⟨F,_⟩,M⟩:=G _ _ _ J;refine AWP.ahk (F (fun e Z=>e=.normal∧Z=⟨X.env,X.mem⟩) ⟨rfl,rfl⟩) ?_;rintro W Z ⟨rfl,rfl⟩;exact⟨⟨(ic lw (ab b) z' m1 X).env,(ic lw (ab b) z' m1 X).mem⟩,Sn (A.trans M) h0 H,k,⟨_,rfl,EN (A.trans M),hk⟩,Nat.lt_succ_self k⟩
  ·rename_i D
   have V :e≠ .normal:=by rintro rfl;exact D s' hk
   refine((G _ _ _ hk).1.1 (fun W Z=>W=e∧Z=⟨s'.env,s'.mem⟩) ⟨rfl,rfl⟩).mono ?_;rintro W Z ⟨rfl,rfl⟩;cases W<;>first | exact absurd rfl V | exact hq
theorem fP(A:HS P O):∀{c:Code}{s:XS}{e:Exit}{s' :XS},aM T lv O K N m0 tp c s=some (e,s')→afx (ab c) s.env s'.env
 |.skip,s,e,s',h=>by simp only[aM,Option.some.injEq,Prod.mk.injEq] at h;obtain⟨_,rfl⟩:=h;exact .refl _ _
 |.exit id,s,e,s',h=>by simp only[aM,Option.some.injEq,Prod.mk.injEq] at h;obtain⟨_,rfl⟩:=h;exact .refl _ _
 |.ret,s,e,s',h=>by simp only[aM,Option.some.injEq,Prod.mk.injEq] at h;obtain⟨_,rfl⟩:=h;exact .refl _ _
 |.region id ops false,s,e,s',h=>by
  unfold aM at h;split at h
  next W X=>cases h;exact oW X
  ·cases h
 |.region id ops true,s,e,s',h=>by
  unfold aM at h;split at h
  next W X=>cases h;exact Mz A X
  ·cases h
 |.seq x y,s,e,s',h=>by
  unfold aM at h;split at h
  ·rename_i W X
   exact((fP A X).mono fun t Z=>by simp[ab,Z]).trans ((fP A h).mono fun t Z=>by simp[ab,Z])
  ·exact(fP A h).mono fun t Z=>by simp[ab,Z]
 |.cond c x y,s,e,s',h=>by
  unfold aM at h;split at h
  ·exact(fP A h).mono fun t Z=>by simp[ab,Z]
  ·exact(fP A h).mono fun t Z=>by simp[ab,Z]
  ·cases h
 |.block id b,s,e,s',h=>by
  show afx (ab b) s.env s'.env
  unfold aM at h;split at h
  ·rename_i i W X
   split at h
   ·cases h;exact fP A X
   ·cases h;exact fP A X
  ·exact fP A h
 |.loop b,s,e,s',h=>by
  show afx (ab b) s.env s'.env
  unfold aM at h;exact Ux (fun s e s' h=>fP A h) _ _ _ _ (nP (.refl _ _)) h
 |.rangeFunc g ps asg body,s,e,s',h=>by
  unfold aM at h;split at h
  ·split at h
   ·split at h
    ·simp only at h
     split at h
     ·split at h
      ·cases h
      ·split at h
       ·cases h;exact .refl _ _
       ·cases h
     ·cases h
    ·cases h
   ·cases h
  ·cases h
 |.label _,s,e,s',h=>by cases h
 |.goto _,s,e,s',h=>by cases h
 |.scope _,s,e,s',h=>by cases h
 |.refuse _,s,e,s',h=>by cases h
theorem dw(G:P.follows .mixedOrders=true)(hT:cW P T)(A:HS P O):∀{c:Code}{s:XS}{e:Exit}{s' :XS},dK c=true→aM T lv O K N m0 tp c s=some (e,s')→Zr P tp N m0 c s e s'
 |.skip,s,e,s',hst,h=>by simp only[aM,Option.some.injEq,Prod.mk.injEq] at h;obtain⟨rfl,rfl⟩:=h;exact⟨fun Q hq=>Wt hq,.refl _ _ _⟩
 |.exit id,s,e,s',hst,h=>by simp only[aM,Option.some.injEq,Prod.mk.injEq] at h;obtain⟨rfl,rfl⟩:=h;exact⟨fun Q hq=>Wq hq,.refl _ _ _⟩
 |.ret,s,e,s',hst,h=>by simp only[aM,Option.some.injEq,Prod.mk.injEq] at h;obtain⟨rfl,rfl⟩:=h;exact⟨fun Q hq=>XM hq,.refl _ _ _⟩
 |.region id ops false,s,e,s',hst,h=>by
  unfold aM at h;split at h
  ·rename_i S V
   cases h;obtain⟨Z,X⟩:=jP A V;exact⟨fun Q hq=>RA hT Z hq,X⟩
  ·cases h
 |.region id ops true,s,e,s',hst,h=>by
  unfold aM at h;split at h
  ·rename_i S V
   cases h;obtain⟨Z,X⟩:=Hg G hT A hst V;exact⟨fun Q hq=>Z tp id Q hq,X⟩
  ·cases h
 |.seq x y,s,e,s',hst,h=>by
  unfold aM at h;split at h
  ·rename_i S V
   simp only[dK,Bool.and_eq_true] at hst;obtain⟨Z,X⟩:=dw G hT A hst.1 V;obtain⟨R,I⟩:=dw G hT A hst.2 h;exact⟨fun Q hq=>xt (Z _ (R Q hq)),X.trans I⟩
  ·rename_i M
   simp only[dK,Bool.and_eq_true] at hst;obtain⟨Z,X⟩:=dw G hT A hst.1 h;refine⟨fun Q hq=>xt (Z _ ?_),X⟩;cases e<;>first | exact absurd h (M s') | exact hq
 |.cond c x y,s,e,s',hst,h=>by
  unfold aM at h;split at h
  ·rename_i hc
   simp only[dK,Bool.and_eq_true] at hst;obtain⟨Z,X⟩:=dw G hT A hst.1 h;exact⟨fun Q hq=>Px hc (fun _=>Z Q hq) (fun e=>by cases e),X⟩
  ·rename_i hc
   simp only[dK,Bool.and_eq_true] at hst;obtain⟨Z,X⟩:=dw G hT A hst.2 h;exact⟨fun Q hq=>Px hc (fun e=>by cases e) (fun _=>Z Q hq),X⟩
  ·cases h
 |.block id b,s,e,s',hst,h=>by
  unfold aM at h;split at h
  ·rename_i i S V
   obtain⟨Z,X⟩:=dw G hT A (by simpa only[dK] using hst) V;split at h
   ·rename_i J
    cases h;exact⟨fun Q hq=>BJ (Z _ (by simp only[Pz];rw[if_pos J];exact hq)),X⟩
   ·rename_i J
    cases h;exact⟨fun Q hq=>BJ (Z _ (by simp only[Pz];rw[if_neg J];exact hq)),X⟩
  ·rename_i M
   obtain⟨Z,X⟩:=dw G hT A (by simpa only[dK] using hst) h;refine⟨fun Q hq=>BJ (Z _ ?_),X⟩;cases e<;>first | exact absurd h (M _ s') | exact hq
 |.loop b,s,e,s',hst,h=>by
  unfold aM at h;have B:∀s e s',aM T lv O K N m0 tp b s=some (e,s')→Zr P tp N m0 b s e s' ∧afx (ab b) s.env s'.env:=fun s e s' h=>⟨dw G hT A (by simpa only[dK] using hst) h,fP A h⟩
  refine⟨fun Q hq=>AWP.assume fun W he=>Wu (afP.env fun t=>sr (.refl _ _) t) (RS B he W _ _ _ _ (nP (.refl _ _)) h hq),fun W=>?_⟩;exact RR (fun s e s' h=>(B s e s' h).1) W _ ⟨aD (lv b) (ab b) s.env s.env,s.mem,s.ae9⟩ _ _ h W
 |.rangeFunc g ps asg body,s,e,s',hst,h=>by
  unfold aM at h;split at h
  ·rename_i F
   subst F;split at h
   ·rename_i f z H
    split at h
    ·rename_i r u
     simp only at h;split at h
     ·rename_i r2 D
      split at h
      ·cases h
      ·rename_i j
       split at h
       ·rename_i e1 he
        cases h;have Y:=xJ A u;refine⟨fun Q hq=>GB H ((A.fn _ _ _ _ u).mono ?_),fun W=>⟨?_,fun C=>?_⟩⟩
        ·rintro v m ⟨rfl,rfl⟩
         exact⟨r2,e,D,fun e=>j (by rw[e];rfl),he,hq⟩
        ·simp only[List.length_set]
         simp only[List.length_append] at Y;omega
        ·simp only[Bool.or_eq_false_iff,Option.isSome_eq_false_iff,Option.isNone_iff_eq_none] at C
         refine⟨C.1,uS W ?_ fun b j=>?_⟩
         ·simp only[List.length_set]
          simp only[List.length_append] at Y;omega
         ·have Z8 :b<s.mem.length:=by omega
          show((r.mem _).set s.mem.length _)[b]? =_
          rw[List.getElem?_set_ne (by omega)];unfold aeQ.mem;rw[C.2];simp only[Option.getD_none];rw[List.append_assoc,List.getElem?_append_left Z8]
       ·cases h
     ·cases h
    ·cases h
   ·cases h
  ·cases h
 |.label _,s,e,s',hst,h=>by cases h
 |.goto _,s,e,s',hst,h=>by cases h
 |.scope _,s,e,s',hst,h=>by cases h
 |.refuse _,s,e,s',hst,h=>by cases h
structure agi (P:Program)(G:FuncId→Option Func):Prop where
 fn:∀f fn,G f=some fn→P.funcs[f]? =some fn∧(fn.name == "runtime.NumGoroutine")=false∧∀c,fn.body=some c→dK c=true
section
variable (hm:P.follows .mixedOrders=true)(hT:cW P T)(hO:HS P O)
include hm hT hO
theorem ah{G:FuncId→Option Func}(A:agi P G){f:FuncId}{args:List AV}{mem:Mem}{r:aeQ}(h:aa T lv G O K f args mem=some r):kO P f args mem r.v (r.mem mem)∧∀p,r.pre=some p→p.length=mem.length:=by
 unfold aa at h;split at h
 ·cases h
 ·rename_i fn S
  obtain⟨F,D,g3⟩:=A.fn _ _ S;split at h
  ·cases h
  ·rename_i c M
   split at h
   ·rename_i C
    split at h
    ·rename_i e s he
     obtain⟨B,u⟩:=dw hm hT hO (g3 c M) he;obtain⟨Y,m⟩:=u (Nat.le_refl _);have X:(e=.normal∨e=.ret)→(match kq T fn.results.toList s.env s.mem with
      |some v=>
       let m0:=mem.length
       if s.ae9 then
        let ks:=uO m0 s.mem 1000 (v.refs m0++(s.mem.take m0).flatMap (aeY.refs m0)) []
        if L3 m0 s.mem.length ks then
         some ⟨v.ren (rho m0 ks),some ((s.mem.take m0).map (aeY.ren (rho m0 ks))),afI m0 ks s.mem⟩
        else none
       else
        let ks:=uO m0 s.mem 1000 (v.refs m0) []
        if L3 m0 s.mem.length ks then
         some ⟨v.ren (rho m0 ks),none,afI m0 ks s.mem⟩
        else none
      |none=>none:Option aeQ)=some r→kO P f args mem r.v (r.mem mem)∧∀p,r.pre=some p→p.length=mem.length:=by
      intro W h;split at h
      ·rename_i v z
       simp only at h;split at h
       ·split at h
        ·rename_i Z
         cases h;refine⟨afu.intro hT F M D C (B _ ⟨W,v,z,_,Z,.inr ⟨rfl,rfl⟩⟩),fun p J=>?_⟩;cases J;simp only[List.length_map,List.length_take];omega
        ·cases h
       ·rename_i j
        split at h
        ·rename_i Z
         cases h;have V :=(m (by simpa using j)).2;rw[List.take_of_length_le (Nat.le_refl _)] at V;exact⟨afu.intro hT F M D C (B _ ⟨W,v,z,_,Z,.inl ⟨V,rfl,rfl⟩⟩),fun p J=>by cases J⟩
        ·cases h
      ·cases h
     split at h
     ·exact X (.inl rfl) h
     ·exact X (.inr rfl) h
     ·cases h
    ·cases h
   ·cases h
theorem vO{b:Nat}{args:List AV}{mem:Mem}{r:aeQ}(h:GF T lv O K b args mem=some r):pG P b args mem r.v (r.mem mem)∧∀p,r.pre=some p→p.length=mem.length:=by
 unfold GF at h;split at h
 ·rename_i A X
  split at h
  ·rename_i hc
   simp only[Bool.and_eq_true,decide_eq_true_eq,List.all_eq_true] at hc;obtain⟨⟨⟨⟨J,F⟩,D⟩,C⟩,B⟩:=hc;have Z:∀{x:LoopState},(x== .ready)=true→x=.ready:=fun {x} h=>by cases x<;>first | rfl | cases h
   split at h
   ·rename_i s1 z
    obtain⟨u,m⟩:=dw hm hT hO C z;split at h
    ·rename_i r1 W
     split at h
     ·rename_i V
      split at h
      ·rename_i e s2 Y
       obtain⟨R,I⟩:=dw hm hT hO B Y;split at h
       ·rename_i j r2 H S
        simp only at h;split at h
        ·rename_i M
         cases h;obtain⟨d1,_⟩:=m (Nat.le_refl _);obtain⟨d2,_⟩:=I (by simpa using d1);refine⟨afH.intro X (Z J) F D (u _ ⟨rfl,r1,W,Z V,R _ ⟨r2,j,_,H,S,M,rfl,rfl⟩⟩),fun p G=>?_⟩;cases G;simp only[List.length_map,List.length_take,List.length_set];omega
        ·cases h
       ·cases h
      ·cases h
     ·cases h
    ·cases h
   ·cases h
  ·cases h
 ·cases h
end
theorem gG(A:P.follows .mixedOrders=true)(hT:cW P T){G:FuncId→Option Func}(I:agi P G)(H:HS P O):∀n,HS P (sN T lv G O K n)
 |0=>H
 |n+1=>by
  have W:=gG A hT I H n;have X:∀c Z mem r,sN T lv G O K (n+1) c Z mem=some r→O c Z mem=some r∨(match c with
   |.fn f=>aa T lv G (sN T lv G O K n) K f Z mem
   |.yld b=>GF T lv (sN T lv G O K n) K b Z mem)=some r:=by
   intro c Z mem r h;unfold sN at h;split at h
   next M S=>cases h;exact .inl S
   ·exact .inr h
  refine⟨fun f Z mem r h=>?_,fun b Z mem r h=>?_,fun c Z mem r p h V=>?_⟩
  ·rcases X _ _ _ _ h with h | h
   ·exact H.fn _ _ _ _ h
   ·exact(ah A hT W I h).1
  ·rcases X _ _ _ _ h with h | h
   ·exact H.yld _ _ _ _ h
   ·exact(vO A hT W h).1
  ·rcases X _ _ _ _ h with h | h
   ·exact H.pre _ _ _ _ _ h V
   ·cases c with
    |fn f=>exact(ah A hT W I h).2 p V
    |yld b=>exact(vO A hT W h).2 p V
end
end Go.Eng
namespace Go.Eng
def aN(P:Program)(t:TypeId):Option TyI:=
 match P.info? t,P.underlying t with
 |some i,some d=>match i.zero with
  |some z=>if z.cells.size=i.size then some ⟨d,i.size,i.bytes,z,!P.stoodInHeld t&& !P.eqGuardType P.depth t⟩ else none
  |none=>none
 |_,_=>none
theorem ar(P:Program):cW P (aN P):=by
 intro t i h;unfold aN at h;split at h
 ·rename_i f d Z X
  split at h
  ·rename_i z W
   split at h
   ·rename_i V
    cases h;refine⟨X,⟨f,Z,rfl,rfl,W⟩,V,fun he=>?_⟩;simp only[Bool.and_eq_true,Bool.not_eq_true'] at he;exact he
   ·cases h
  ·cases h
 ·cases h
def aK(P:Program)(f:FuncId):Option Func:=match P.funcs[f]? with
 |some fn=>if fn.name == "runtime.NumGoroutine" then none else match fn.body with
  |some c=>if dK c then some fn else none
  |none=>some fn
 |none=>none
theorem au(P:Program):agi P (aK P):=by
 refine⟨fun f fn h=>?_⟩;unfold aK at h;split at h
 ·rename_i V X
  split at h
  ·cases h
  ·rename_i W
   split at h
   ·rename_i c Z
    split at h
    ·rename_i S
     cases h;refine⟨X,by simpa using W,fun O hc=>?_⟩;rw[Z] at hc;cases hc;exact S
    ·cases h
   ·rename_i Z
    cases h;refine⟨X,by simpa using W,fun O hc=>?_⟩;rw[Z] at hc;cases hc
 ·cases h
def bM:aeT:=fun _ _ _=>none
theorem al(P:Program):HS P bM:=⟨(fun _ _ _ _ h=>by cases h),(fun _ _ _ _ h=>by cases h),(fun _ _ _ _ _ h=>by cases h)⟩
structure afn (w w' :World):Prop where
 size:w.heap.size≤w'.heap.size
 heap:∀k,k<w.heap.size→w'.heap[k]? =w.heap[k]?
 os:w'.os=w.os
 tape:w'.tape=w.tape
 output:w'.output=w.output
 drawn:w.drawn≤w'.drawn
section
variable {P:Program}{μ:Nat→Place}{mem:Mem}{base:Nat}{w w' :World}
theorem afn.refl(w:World):afn w w:=⟨Nat.le_refl _,fun _ _=>rfl,rfl,rfl,rfl,Nat.le_refl _⟩
theorem afn.ahy(h:afn w w')(A:ae5 base μ mem w):ae5 base μ mem w' :=by refine⟨Nat.le_trans A.ae1 h.size,fun b s Z=>?_,A.sep⟩;exact(A.slot b s Z).mono (Nat.le_refl _) (fun _ _=>rfl) fun X=>h.heap _ ((A.slot b s Z).afE X)
theorem afn.step(h:afn w w'){m0:Nat}(A:m0≤mem.length):Step m0 μ mem w μ mem w' :=
 ⟨A,fun _ _=>rfl,h.os,h.tape,h.output,h.size,fun k Z _=>h.heap k Z,fun b X _=>⟨b,X,rfl⟩,h.drawn⟩
theorem kO.afw{f:FuncId}{args:List AV}{Vs:List Value}{v:AV}{V:Value}(G:VC P f)(A:∀μ n Us,aeV μ n args Us→Us=Vs)(H:∀μ n,aeU μ n v V)(h:∀base w,GOk P base w→Calls P f ⟨Vs⟩ w fun e w' =>e=.returned V∧afn w w')(mem:Mem):kO P f args mem v mem:=by refine⟨G,fun base μ w Us hG hH hV=>?_⟩;rw[A _ _ _ hV];refine(h base w hG).mono ?_;rintro e w' ⟨rfl,hg⟩;exact⟨V,v,mem,μ,rfl,H _ _,hg.ahy hH,hg.step (Nat.le_refl _),rfl,rfl⟩
theorem afn.grow(w:World)(k:Nat)(os:Array Obj):afn w { w with heap:=w.heap++os,drawn:=w.drawn+k }:=by
 refine⟨by simp,fun i hi=>?_,rfl,rfl,rfl,Nat.le_add_right _ _⟩;show(w.heap++os)[i]? =_
 rw[Array.getElem?_append_left hi]
mutual
def AV.closed:AV→Bool
 |.ptr _ _=>false
 |.slice _ _ _ _=>false
 |.map _=>false
 |.yield _=>false
 |.func _ Z=>AV.ae0 Z
 |.iface _ v=>v.closed
 |.agg Z=>AV.ae0 Z
 |.tuple Z=>AV.ae0 Z
 |_=>true
def AV.ae0:List AV→Bool
 | []=>true
 |v::vs=>v.closed&&AV.ae0 vs
end
mutual
theorem aeU.closed{μ μ' :Nat→Place}{n A :Nat}:∀{v V},v.closed=true→aeU μ n v V→aeU μ' A v V
 |.undef,V,_,_=>by simp[aeU]
 |.bool b,V,_,h=>by simpa [aeU] using h
 |.int k i,V,_,h=>by simpa [aeU] using h
 |.str s,V,_,h=>by simpa [aeU] using h
 |.ptr b o,V,hc,_=>by simp[AV.closed] at hc
 |.afd,V,_,h=>by simpa [aeU] using h
 |.slice b o l c,V,hc,_=>by simp[AV.closed] at hc
 |.y9,V,_,h=>by simpa [aeU] using h
 |.map b,V,hc,_=>by simp[AV.closed] at hc
 |.yield b,V,hc,_=>by simp[AV.closed] at hc
 |.afl,V,_,h=>by simpa [aeU] using h
 |.func f X,V,hc,h=>by simp only[aeU] at h ⊢;simp only[AV.closed] at hc;obtain⟨Z,rfl,h⟩:=h;exact⟨Z,rfl,aeV.closed hc h⟩
 |.nilFunc,V,_,h=>by simpa [aeU] using h
 |.iface t v,V,hc,h=>by simp only[aeU] at h ⊢;simp only[AV.closed] at hc;obtain⟨U,rfl,h⟩:=h;exact⟨U,rfl,aeU.closed hc h⟩
 |.nilIface,V,_,h=>by simpa [aeU] using h
 |.agg X,V,hc,h=>by simp only[aeU] at h ⊢;simp only[AV.closed] at hc;obtain⟨Z,rfl,h⟩:=h;exact⟨Z,rfl,aeV.closed hc h⟩
 |.tuple X,V,hc,h=>by simp only[aeU] at h ⊢;simp only[AV.closed] at hc;obtain⟨Z,rfl,h⟩:=h;exact⟨Z,rfl,aeV.closed hc h⟩
theorem aeV.closed{μ μ' :Nat→Place}{n A :Nat}:∀{vs Us},AV.ae0 vs=true→aeV μ n vs Us→aeV μ' A vs Us
 | [],Us,_,h=>by simpa [aeV] using h
 |v::vs,Us,hc,h=>by simp only[AV.ae0,Bool.and_eq_true] at hc;simp only[aeV] at h ⊢;obtain⟨U,Z,rfl,X,W⟩:=h;exact⟨U,Z,rfl,aeU.closed hc.1 X,aeV.closed hc.2 W⟩
end
theorem kO.lift{f:FuncId}{args:List AV}{v:AV}(A:AV.ae0 args=true)(G:v.closed=true)(h:kO P f args [] v [])(mem:Mem):kO P f args mem v mem:=by refine⟨h.1,fun base μ w Us hG hH hV=>?_⟩;have S:ae5 base μ [] w:=⟨hH.ae1,fun b s Z=>by simp at Z,fun b M K X=>by obtain⟨s,Z,_⟩:=X;simp at Z⟩;refine(h.2 base μ w Us hG S (aeV.closed A hV)).mono ?_;rintro e w' ⟨V,v',m',μ',rfl,q1,q2,q3,rfl,rfl⟩;have W:afn w w' :=⟨q3.size,fun k O=>q3.frame k O fun b X=>by obtain⟨s,Z,_⟩:=X;simp at Z,q3.os,q3.tape,q3.output,q3.drawn⟩;exact⟨V,v',mem,μ,rfl,aeU.closed G q1,W.ahy hH,W.step (Nat.le_refl _),rfl,rfl⟩
variable{O:aeT}
theorem kO.ag8{T:TypeId→Option TyI}{G:FuncId→Option Func}{K:Nat}(A:P.follows .mixedOrders=true)(hT:cW P T)(H:HS P O)(I:agi P G){f:FuncId}{args:List AV}{v:AV}(R:AV.ae0 args=true)(Y:v.closed=true){lv:Code→List Nat}(h:aa T lv G O K f args []=some ⟨v,none,[]⟩)(mem:Mem):kO P f args mem v mem:=
 kO.lift R Y (ah A hT H I h).1 mem
def aeT.or(O A :aeT):aeT:=fun c Z mem=>match O c Z mem with
 |some r=>some r
 |none=>A c Z mem
theorem HS.or{A :aeT}(h:HS P O)(G :HS P A):HS P (O.or A):=by
 have V:∀c Z mem r,O.or A c Z mem=some r→O c Z mem=some r∨A c Z mem=some r:=by
  intro c Z mem r W;unfold aeT.or at W;split at W
  next M X=>cases W;exact .inl X
  ·exact .inr W
 refine⟨fun f Z mem r W=>?_,fun b Z mem r W=>?_,fun c Z mem r p W S=>?_⟩
 ·rcases V _ _ _ _ W with X | X
  ·exact h.fn _ _ _ _ X
  ·exact G.fn _ _ _ _ X
 ·rcases V _ _ _ _ W with X | X
  ·exact h.yld _ _ _ _ X
  ·exact G.yld _ _ _ _ X
 ·rcases V _ _ _ _ W with X | X
  ·exact h.pre _ _ _ _ _ X S
  ·exact G.pre _ _ _ _ _ X S
def af(F:FuncId→List AV→Option AV):aeT:=fun c Z _=>match c with
 |.fn f=>match F f Z with
  |some v=>some ⟨v,none,[]⟩
  |none=>none
 |.yld _=>none
theorem bH{F:FuncId→List AV→Option AV}(h:∀f Z v,F f Z=some v→∀mem,kO P f Z mem v mem):HS P (af F):=by
 refine⟨fun f Z mem r X=>?_,(fun b Z mem r X=>by cases X),fun c Z mem r p X W=>?_⟩
 ·unfold af at X
  simp only at X;split at X
  ·rename_i v V
   cases X;have:=h f Z v V mem;simpa [aeQ.mem] using this
  ·cases X
 ·unfold af at X
  split at X
  ·split at X
   ·cases X;cases W
   ·cases X
  ·cases X
end
end Go.Eng
