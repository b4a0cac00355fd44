/- See K51. -/
import Derived.Test.YtffdedmakncfmaaGreatDoorK02
set_option linter.all false
namespace Go.Eng
mutual
def AV.refsOk(ok:Nat→Bool):AV→Bool
 |.ptr b _=>ok b
 |.slice b _ _ _=>ok b
 |.map b=>ok b
 |.yield b=>ok b
 |.func _ cs=>AV.refsOkL ok cs
 |.iface _ v=>v.refsOk ok
 |.agg cs=>AV.refsOkL ok cs
 |.tuple cs=>AV.refsOkL ok cs
 |_=>true
def AV.refsOkL(ok:Nat→Bool):List AV→Bool
 | []=>true
 |v::vs=>v.refsOk ok&&AV.refsOkL ok vs
end
def Slot.refsOk(ok:Nat→Bool):Slot→Bool
 |.absent=>true
 |.cells _ _ cs=>AV.refsOkL ok cs
 |.map es=>es.all fun e=>e.1.refsOk ok&&e.2.refsOk ok
 |.fmap es=>es.all fun e=>e.1.refsOk ok&&e.2.refsOk ok
 |.loop r=>r.env.all fun e=>e.2.refsOk ok
theorem zH{ok:Nat→Bool}:∀{env:Env},(env.all fun e=>e.2.refsOk ok)=true→∀t,(ab env t).refsOk ok=true
 | [],_,_=>rfl
 |(k,v)::r,h,t=>by
  simp only[List.all_cons,Bool.and_eq_true] at h
  simp only[ab]
  split
  ·exact h.1
  ·exact zH h.2 t
mutual
theorem VRel.change{μ μ' :Nat→Place}{n:Nat}{ok:Nat→Bool}(hμ:∀b,b<n→ok b=true→μ' b=μ b):
  ∀{v V},v.refsOk ok=true→VRel μ n v V→VRel μ' n v V
 |.undef,_,_,_=>by simp[VRel]
 |.bool _,_,_,h=>by simpa [VRel] using h
 |.int _ _,_,_,h=>by simpa [VRel] using h
 |.str _,_,_,h=>by simpa [VRel] using h
 |.ptr b o,V,hk,h=>by simp only[VRel] at h ⊢;simp only[AV.refsOk] at hk;exact⟨h.1,by rw[hμ b h.1 hk];exact h.2⟩
 |.nilptr,_,_,h=>by simpa [VRel] using h
 |.slice b o l c,V,hk,h=>by simp only[VRel] at h ⊢;simp only[AV.refsOk] at hk;exact⟨h.1,by rw[hμ b h.1 hk];exact h.2⟩
 |.nilslice,_,_,h=>by simpa [VRel] using h
 |.map b,V,hk,h=>by simp only[VRel] at h ⊢;simp only[AV.refsOk] at hk;exact⟨h.1,by rw[hμ b h.1 hk];exact h.2⟩
 |.yield b,V,hk,h=>by simp only[VRel] at h ⊢;simp only[AV.refsOk] at hk;exact⟨h.1,by rw[hμ b h.1 hk];exact h.2⟩
 |.nilmap,_,_,h=>by simpa [VRel] using h
 |.func f cs,V,hk,h=>by
  simp only[VRel] at h ⊢;simp only[AV.refsOk] at hk
  obtain⟨Us,e,h⟩:=h
  exact⟨Us,e,VRels.change hμ hk h⟩
 |.nilFunc,_,_,h=>by simpa [VRel] using h
 |.iface t v,V,hk,h=>by
  simp only[VRel] at h ⊢;simp only[AV.refsOk] at hk
  obtain⟨U,e,h⟩:=h
  exact⟨U,e,VRel.change hμ hk h⟩
 |.nilIface,_,_,h=>by simpa [VRel] using h
 |.agg cs,V,hk,h=>by
  simp only[VRel] at h ⊢;simp only[AV.refsOk] at hk
  obtain⟨Us,e,h⟩:=h
  exact⟨Us,e,VRels.change hμ hk h⟩
 |.tuple cs,V,hk,h=>by
  simp only[VRel] at h ⊢;simp only[AV.refsOk] at hk
  obtain⟨Us,e,h⟩:=h
  exact⟨Us,e,VRels.change hμ hk h⟩
theorem VRels.change{μ μ' :Nat→Place}{n:Nat}{ok:Nat→Bool}(hμ:∀b,b<n→ok b=true→μ' b=μ b):
  ∀{vs Us},AV.refsOkL ok vs=true→VRels μ n vs Us→VRels μ' n vs Us
 | [],_,_,h=>by simpa [VRels] using h
 |v::vs,Us,hk,h=>by
  simp only[VRels] at h ⊢
  simp only[AV.refsOkL,Bool.and_eq_true] at hk
  obtain⟨U,Ws,e,h1,h2⟩:=h
  exact⟨U,Ws,e,VRel.change hμ hk.1 h1,VRels.change hμ hk.2 h2⟩
end
theorem SRel.change{μ μ' :Nat→Place}{n base:Nat}{w:World}{p:Place}{s:Slot}{ok:Nat→Bool}(hμ:∀b,b<n→ok b=true→μ' b=μ b)
  (hk:s.refsOk ok=true) (h:SRel μ n base w p s):SRel μ' n base w p s:=by
 cases s with
 |absent=>trivial
 |cells own es cs=>
  simp only[SRel] at h ⊢
  simp only[Slot.refsOk] at hk
  obtain⟨cur,e,fr,h1,h2,h3,h4,h5⟩:=h
  refine⟨cur,e,fr,h1,h2,h3,fun j v hv=>?_,h5⟩
  obtain⟨V,hV,hr⟩:=h4 j v hv
  refine⟨V,hV,hr.change hμ ?_⟩
  have:∀(l:List AV),AV.refsOkL ok l=true→∀v∈l,v.refsOk ok=true:=by
   intro l
   induction l with
   |nil=>intro _ v hv;cases hv
   |cons x xs ih=>
    intro hl v hv
    simp only[AV.refsOkL,Bool.and_eq_true] at hl
    cases hv with
    |head=>exact hl.1
    |tail _ hm=>exact ih hl.2 v hm
  exact this cs hk v (List.mem_of_getElem? hv)
 |map es=>
  simp only[SRel] at h ⊢
  simp only[Slot.refsOk,List.all_eq_true,Bool.and_eq_true] at hk
  obtain⟨ents,clock,h1,h2,h3,h4⟩:=h
  refine⟨ents,clock,h1,h2,h3,fun j e he=>?_⟩
  obtain⟨E,hE,hr1,hr2⟩:=h4 j e he
  have:=hk e (List.mem_of_getElem? he)
  exact⟨E,hE,hr1.change hμ this.1,hr2.change hμ this.2⟩
 |fmap es=>
  simp only[SRel] at h ⊢
  simp only[Slot.refsOk,List.all_eq_true,Bool.and_eq_true] at hk
  obtain⟨ents,clock,h1,h2,h3,h4⟩:=h
  refine⟨ents,clock,h1,h2,h3,fun j e he=>?_⟩
  obtain⟨E,hE,hr1,hr2⟩:=h4 j e he
  have:=hk e (List.mem_of_getElem? he)
  exact⟨E,hE,hr1.change hμ this.1,hr2.change hμ this.2⟩
 |loop r=>
  simp only[SRel] at h ⊢
  obtain⟨L,h1,h2,h3⟩:=h
  exact⟨L,h1,h2,{ h3 with tmps:=fun t=>(h3.tmps t).change hμ (zH hk t) }⟩
structure DrawData where
 E:Nat→Env
 En:Nat→Env
 M:Nat→Mem
 Tm:Nat→Mem
 M' :Nat→Mem
 v:Nat→AV
 wb:Nat→Bool
 touch:Nat→Nat→Bool
 ok:Nat→Nat→Bool
 cl:Nat→Nat→Bool
def fO(mem:Mem) (b:Nat):Prop:=∃s,mem[b]? =some s∧s≠ .absent
structure DrawOk (P:Program) (T:TypeId→Option TyI) (N:Nat) (ops:Array Oper) (d:DrawData) (j:Nat) (o:Oper):Prop where
 wanted:pf ops (d.En j) o=some (d.wb j)
 dst:AJ N o=true
 step:d.wb j=true→tT P T (d.En j) (d.Tm j) o (d.v j) (d.M' j)
 skip:d.wb j=false→d.v j=.tuple []∧d.M' j=d.Tm j
 env:d.E (j+1)=putE (d.E j) o.dst (d.v j)
 named:∀t,ab (d.En j) t=.undef∨(ab (d.En j) t=ab (d.E j) t∧∀(i:Nat) oi,ops[i]? =some oi→i≠j→oi.dst=some t→d.cl i j=true∨d.cl j i=true)
 dsts:∀(i:Nat) oi t,ops[i]? =some oi→i≠j→o.dst=some t→oi.dst=some t→d.cl i j=true∨d.cl j i=true
 tlen:(d.Tm j).length=(d.M j).length
 tmask:∀b:Nat,(d.Tm j)[b]? =(d.M j)[b]? ∨(d.Tm j)[b]? =some .absent
 mlen:(d.M (j+1)).length=(d.M' j).length
 mmono:(d.M j).length≤(d.M (j+1)).length
 mval:∀b:Nat,d.touch j b=true→(d.M (j+1))[b]? =(d.M' j)[b]?
 mkeep:∀b:Nat,b<(d.M j).length→d.touch j b=false→(d.M (j+1))[b]? =(d.M j)[b]?
 keepT:∀b:Nat,b<(d.M j).length→d.touch j b=false→fO (d.Tm j) b→(d.M' j)[b]? =(d.M j)[b]?
 tnew:∀b:Nat,(d.M j).length≤b→d.touch j b=true
 touchT:∀b:Nat,d.touch j b=true→b<(d.M j).length→fO (d.Tm j) b
 sep:∀(i:Nat) oi (b:Nat),ops[i]? =some oi→i≠j→b<(d.M (i+1)).length→d.touch i b=true→(b<(d.M (j+1)).length∧d.touch j b=true)∨fO (d.Tm j) b→d.cl i j=true∨d.cl j i=true
 okc:∀(i:Nat) (b:Nat) oi,ops[i]? =some oi→d.ok j b=true→(d.M i).length≤b→b<(d.M (i+1)).length→i=j∨d.cl i j=true
 refsV:(d.v j).refsOk (d.ok j)=true
 refsM:∀(b:Nat) s,d.touch j b=true→(d.M (j+1))[b]? =some s→s.refsOk (d.ok j)=true
 newOwn:∀(b:Nat) s,(d.M j).length≤b→(d.M (j+1))[b]? =some s→s≠ .absent→dn (d.M (j+1)) b
 edge:∀e∈o.after,Region.binds .any e=true→e.on<j
 clAnc:∀i,d.cl i j=true→∃e∈o.after,Region.binds .any e=true∧(e.on=i∨d.cl i e.on=true)
section
variable {P:Program}{T:TypeId→Option TyI}{N:Nat}{ops:Array Oper}{d:DrawData}
def qe(P:Program) (T:TypeId→Option TyI) (N:Nat) (ops:Array Oper) (d:DrawData):Prop:=∀(j:Nat) o,ops[j]? =some o→DrawOk P T N ops d j o
def Tch(d:DrawData) (i b:Nat):Prop:=d.touch i b=true∧b<(d.M (i+1)).length
theorem xm{j:Nat}(h:j<ops.size):∃o,ops[j]? =some o:=⟨ops[j],by simp[h]⟩
theorem G3{env:Env}{dst:Option Tmp}{v:AV}{t:Nat}(h:dst≠some t):ab (putE env dst v) t=ab env t:=by
 cases dst with
 |none=>rfl
 |some x=>
  have:¬x=t:=fun e=>h (by rw[e])
  simp[putE,ab,this]
theorem A9(hA:qe P T N ops d) (t:Nat) (j:Nat):∀k,j≤k→k≤ops.size→(∀(i:Nat) oi,j≤i→i<k→ops[i]? =some oi→oi.dst≠some t)→ab (d.E k) t=ab (d.E j) t:=by
 intro k hjk
 induction hjk with
 |refl=>intro _ _;rfl
 | @step k hjk ih=>
  intro hk hno
  obtain⟨o,ho⟩:=xm (ops:=ops) (j:=k) (by omega)
  rw[(hA k o ho).env,G3 (hno k o hjk (Nat.lt_succ_self k) ho)]
  exact ih (by omega) fun i oi h1 h2 h3=>hno i oi h1 (by omega) h3
theorem xF(hA:qe P T N ops d) (j:Nat):∀k,j≤k→k≤ops.size→(d.M j).length≤(d.M k).length:=by
 intro k hjk
 induction hjk with
 |refl=>intro _;exact Nat.le_refl _
 | @step k hjk ih=>
  intro hk
  obtain⟨o,ho⟩:=xm (ops:=ops) (j:=k) (by omega)
  exact Nat.le_trans (ih (by omega)) (hA k o ho).mmono
theorem Bm(hA:qe P T N ops d) (b:Nat) (j:Nat):∀k,j≤k→k≤ops.size→(∀i,j≤i→i<k→¬Tch d i b)→(d.M k)[b]? =(d.M j)[b]? :=by
 intro k hjk
 induction hjk with
 |refl=>intro _ _;rfl
 | @step k hjk ih=>
  intro hk hno
  obtain⟨o,ho⟩:=xm (ops:=ops) (j:=k) (by omega)
  have h1:=ih (by omega) fun i h1 h2=>hno i h1 (by omega)
  have hn:=hno k hjk (Nat.lt_succ_self k)
  rw[←h1]
  by_cases hb:b<(d.M k).length
  ·have:d.touch k b=false:=by
    cases ht:d.touch k b with
    |false=>rfl
    |true=>exact absurd ⟨ht,Nat.lt_of_lt_of_le hb (hA k o ho).mmono⟩ hn
   exact(hA k o ho).mkeep b hb this
  ·have ht:=(hA k o ho).tnew b (by omega)
   have:¬b<(d.M (k+1)).length:=fun h=>hn ⟨ht,h⟩
   exact(List.getElem?_eq_none (Nat.le_of_not_lt this)).trans (List.getElem?_eq_none (Nat.le_of_not_lt hb)).symm
structure DInv (d:DrawData) (ops:Array Oper) (base:Nat) (μ0:Nat→Place) (w0:World) (S:Nat→Prop) (μ:Nat→Place) (kb kt:Nat→Nat) (tmps:Array Value) (w:World):Prop where
 base_le:base≤w.heap.size
 kb_le:∀b,kb b≤ops.size
 kb_iff:∀b i,i<ops.size→Tch d i b→(S i↔i<kb b)
 kb_min:∀b,kb b=0∨Tch d (kb b-1) b
 slot:∀(b:Nat) s,(d.M (kb b))[b]? =some s→SRel μ (d.M (kb b)).length base w (μ b) s
 sep:∀b b' s',dn (d.M (kb b)) b→(d.M (kb b'))[b']? =some s' →s' ≠ .absent→b≠b' →(μ b).blk≠(μ b').blk
 kt_le:∀t,kt t≤ops.size
 kt_iff:∀(t i:Nat) oi,ops[i]? =some oi→oi.dst=some t→(S i↔i<kt t)
 kt_min:∀t,kt t=0∨∃oi,ops[kt t-1]? =some oi∧oi.dst=some t
 tmp:∀t,VRel μ (d.M (kt t)).length (ab (d.E (kt t)) t) (tmps.getD t undef)
 agree:∀b,b<(d.M 0).length→μ b=μ0 b
 os:w.os=w0.os
 tape:w.tape=w0.tape
 drawn:w0.drawn≤w.drawn
 output:w.output=w0.output
 size:w0.heap.size≤w.heap.size
 frame:∀k,k<w0.heap.size→(∀b,dn (d.M 0) b→(μ0 b).blk≠k)→w.heap[k]? =w0.heap[k]?
 owner:∀b,dn (d.M (kb b)) b→(μ b).blk<w0.heap.size→∃b0,dn (d.M 0) b0∧(μ0 b0).blk=(μ b).blk
theorem Ry(hA:qe P T N ops d):∀(j i:Nat),j<ops.size→d.cl i j=true→i<j:=by
 intro j
 induction j using Nat.strongRecOn with
 |_ j ih=>
  intro i hj h
  obtain⟨o,ho⟩:=xm hj
  obtain⟨e,he,hb,hc⟩:=(hA j o ho).clAnc i h
  have hlt:=(hA j o ho).edge e he hb
  rcases hc with rfl | hc
  ·exact hlt
  ·exact Nat.lt_trans (ih e.on hlt i (by omega) hc) hlt
def rY(ops:Array Oper) (S:Nat→Prop):Prop:=∀(j:Nat) o,ops[j]? =some o→S j→∀e∈o.after,Region.binds .any e=true→S e.on
theorem Nw(hA:qe P T N ops d) {S:Nat→Prop}(hS:rY ops S):∀(j:Nat) o,ops[j]? =some o→(∀e∈o.after,Region.binds .any e=true→S e.on)→∀i,d.cl i j=true→S i:=by
 intro j
 induction j using Nat.strongRecOn with
 |_ j ih=>
  intro o ho hp i h
  have hjs:j<ops.size:=(Array.getElem?_eq_some_iff.1 ho).1
  obtain⟨e,he,hb,hc⟩:=(hA j o ho).clAnc i h
  have hlt:=(hA j o ho).edge e he hb
  have hSe:=hp e he hb
  rcases hc with rfl | hc
  ·exact hSe
  ·obtain⟨oe,hoe⟩:=xm (ops:=ops) (j:=e.on) (by omega)
   exact ih e.on hlt oe hoe (hS e.on oe hoe hSe) i hc
theorem kJ(hA:qe P T N ops d) {S:Nat→Prop}(hS:rY ops S) {j:Nat}{o:Oper}(ho:ops[j]? =some o) (hr:∀e∈o.after,Region.binds .any e=true→S e.on) (hj:¬S j)
  {i:Nat}(hi:i<ops.size) (h:d.cl i j=true∨d.cl j i=true):S i↔i<j:=by
 have hjs:j<ops.size:=(Array.getElem?_eq_some_iff.1 ho).1
 obtain⟨oi,hoi⟩:=xm hi
 rcases h with h | h
 ·exact⟨fun _=>Ry hA j i hjs h,fun _=>Nw hA hS j o ho hr i h⟩
 ·have hlt:=Ry hA i j hi h
  constructor
  ·intro hSi
   exact absurd (Nw hA hS i oi hoi (hS i oi hoi hSi) j h) hj
  ·intro;omega
section step
variable {base:Nat}{μ0:Nat→Place}{w0:World}{S:Nat→Prop}{μ:Nat→Place}{kb kt:Nat→Nat}{a:Act}{w:World}{j:Nat}{o:Oper}
theorem PX(hA:qe P T N ops d) (hI:DInv d ops base μ0 w0 S μ kb kt a.tmps w) (hS:rY ops S) (ho:ops[j]? =some o)
  (hr:∀e∈o.after,Region.binds .any e=true→S e.on) (hj:¬S j) {t:Nat}(hn:∀(i:Nat) oi,ops[i]? =some oi→i≠j→oi.dst=some t→d.cl i j=true∨d.cl j i=true):
  kt t≤j∧ab (d.E j) t=ab (d.E (kt t)) t:=by
 have hjs:j<ops.size:=(Array.getElem?_eq_some_iff.1 ho).1
 have hle:kt t≤j:=by
  rcases hI.kt_min t with h0 | ⟨oi,h1,h2⟩
  ·omega
  ·have hk:=(hI.kt_iff t (kt t-1) oi h1 h2)
   by_cases h0:kt t=0
   ·omega
   ·have hSi:S (kt t-1):=hk.2 (by omega)
    have hne:kt t-1≠j:=fun e=>hj (e▸hSi)
    have hlt:kt t-1<ops.size:=(Array.getElem?_eq_some_iff.1 h1).1
    have:=(kJ hA hS ho hr hj hlt (hn _ oi h1 hne h2)).1 hSi
    omega
 refine⟨hle,A9 hA t (kt t) j hle (by omega) fun i oi h1 h2 h3 h4=>?_⟩
 have:=(kJ hA hS ho hr hj (by omega) (hn i oi h3 (by omega) h4)).2 h2
 have:=(hI.kt_iff t i oi h3 h4).1 this
 omega
theorem uR(hA:qe P T N ops d) (hI:DInv d ops base μ0 w0 S μ kb kt a.tmps w) (hS:rY ops S) (ho:ops[j]? =some o)
  (hr:∀e∈o.after,Region.binds .any e=true→S e.on) (hj:¬S j) {b:Nat}(hb:fO (d.Tm j) b):kb b≤j∧(d.M j)[b]? =(d.M (kb b))[b]? :=by
 have hjs:j<ops.size:=(Array.getElem?_eq_some_iff.1 ho).1
 have hcmp:∀i,i<ops.size→i≠j→Tch d i b→(S i↔i<j):=by
  intro i hi hne ht
  obtain⟨oi,hoi⟩:=xm hi
  exact kJ hA hS ho hr hj hi ((hA j o ho).sep i oi b hoi hne ht.2 ht.1 (.inr hb))
 have hle:kb b≤j:=by
  rcases hI.kb_min b with h0 | h1
  ·omega
  ·by_cases h0:kb b=0
   ·omega
   ·have hlt:kb b-1<ops.size:=by have:=hI.kb_le b;omega
    have hSi:S (kb b-1):=(hI.kb_iff b _ hlt h1).2 (by omega)
    have hne:kb b-1≠j:=fun e=>hj (e▸hSi)
    have:=(hcmp _ hlt hne h1).1 hSi
    omega
 refine⟨hle,Bm hA b (kb b) j hle (by omega) fun i h1 h2 h3=>?_⟩
 have:=(hcmp i (by omega) (by omega) h3).2 h2
 have:=(hI.kb_iff b i (by omega) h3).1 this
 omega
theorem oh(hA:qe P T N ops d) (ho:ops[j]? =some o) {b:Nat}{s:Slot}(h:(d.Tm j)[b]? =some s) (hs:s≠ .absent):(d.M j)[b]? =some s:=by
 rcases (hA j o ho).tmask b with e | e
 ·rw[←e];exact h
 ·rw[h] at e;cases e;exact absurd rfl hs
theorem jv{mem:Mem}{b:Nat}(h:dn mem b):fO mem b:=by
 obtain⟨s,h,ho⟩:=h
 exact⟨s,h,Slot.own_ne ho⟩
theorem jw{m m' :Mem}{b:Nat}(h:m[b]? =m'[b]?):dn m b↔dn m' b:=by simp[dn,h]
theorem Ow(hA:qe P T N ops d) (hI:DInv d ops base μ0 w0 S μ kb kt a.tmps w) (hS:rY ops S) (ho:ops[j]? =some o)
  (hr:∀e∈o.after,Region.binds .any e=true→S e.on) (hj:¬S j):HRel base μ (d.Tm j) w:=by
 have hjs:j<ops.size:=(Array.getElem?_eq_some_iff.1 ho).1
 refine⟨hI.base_le,fun b s hs=>?_,fun b b' s' hb hb' hne hbb=>?_⟩
 ·by_cases h0:s=.absent
  ·subst h0;trivial
  ·have hbd:fO (d.Tm j) b:=⟨s,hs,h0⟩
   obtain⟨k1,k2⟩:=uR hA hI hS ho hr hj hbd
   have hM:=oh hA ho hs h0
   rw[k2] at hM
   rw[(hA j o ho).tlen]
   exact(hI.slot b s hM).mono (xF hA _ j k1 (by omega)) (fun _ _=>rfl) fun _=>rfl
 ·obtain⟨k1,k2⟩:=uR hA hI hS ho hr hj (jv hb)
  obtain⟨k3,k4⟩:=uR hA hI hS ho hr hj ⟨s',hb',hne⟩
  refine hI.sep b b' s' ?_ ?_ hne hbb
  ·refine(jw k2).1 ?_
   obtain⟨s,h,hso⟩:=hb
   exact⟨s,oh hA ho h (Slot.own_ne hso),hso⟩
  ·rw[←k4];exact oh hA ho hb' hne
theorem Ox(hA:qe P T N ops d) (hI:DInv d ops base μ0 w0 S μ kb kt a.tmps w) (hS:rY ops S) (ho:ops[j]? =some o)
  (hr:∀e∈o.after,Region.binds .any e=true→S e.on) (hj:¬S j):TRel μ (d.Tm j).length (d.En j) a.tmps:=by
 have hjs:j<ops.size:=(Array.getElem?_eq_some_iff.1 ho).1
 intro t
 rcases (hA j o ho).named t with h | ⟨h,hn⟩
 ·rw[h];simp[VRel]
 ·obtain⟨k1,k2⟩:=PX hA hI hS ho hr hj hn
  rw[h,k2,(hA j o ho).tlen]
  exact(hI.tmp t).mono (xF hA _ j k1 (by omega)) fun _ _=>rfl
end step
end
end Go.Eng
namespace Go.Eng
section
variable {P:Program}{T:TypeId→Option TyI}{N:Nat}{ops:Array Oper}{d:DrawData}
variable {base:Nat}{μ0:Nat→Place}{w0:World}{S:Nat→Prop}{μ μ' :Nat→Place}{kb kt:Nat→Nat}{a:Act}{w w' :World}{j:Nat}{o:Oper}{V:Value}
open Classical in
theorem PV(hA:qe P T N ops d) (hI:DInv d ops base μ0 w0 S μ kb kt a.tmps w) (hS:rY ops S) (ho:ops[j]? =some o)
  (hr:∀e∈o.after,Region.binds .any e=true→S e.on) (hj:¬S j) (hN:a.tmps.size=N)
  (hV:VRel μ' (d.M' j).length (d.v j) V) (hH:HRel base μ' (d.M' j) w') (hst:Step (d.Tm j).length μ (d.Tm j) w μ' (d.M' j) w'):
  ∃μ2 kb2 kt2,DInv d ops base μ0 w0 (fun i=>S i∨i=j) μ2 kb2 kt2 (a.put o.dst V).tmps w' :=by
 have hjs:j<ops.size:=(Array.getElem?_eq_some_iff.1 ho).1
 have D:=hA j o ho
 have hlj:∀k,k≤j→(d.M k).length≤(d.M j).length:=fun k hk=>xF hA k j hk (by omega)
 have hl1:=D.mmono
 have h0j:=hlj 0 (Nat.zero_le _)
 have hag:∀b,b<(d.M j).length→μ' b=μ b:=fun b hb=>hst.agree b (by rw[D.tlen];exact hb)
 let μ2:Nat→Place:=fun b=>if b<(d.M (j+1)).length then μ' b else μ b
 have m2old:∀b,b<(d.M j).length→μ2 b=μ b:=by
  intro b hb
  show(if b<(d.M (j+1)).length then μ' b else μ b)=μ b
  rw[if_pos (by omega),hag b hb]
 have m2new:∀b,b<(d.M (j+1)).length→μ2 b=μ' b:=by
  intro b hb
  show(if b<(d.M (j+1)).length then μ' b else μ b)=μ' b
  rw[if_pos hb]
 have m2far:∀b,¬b<(d.M (j+1)).length→μ2 b=μ b:=by
  intro b hb
  show(if b<(d.M (j+1)).length then μ' b else μ b)=μ b
  rw[if_neg hb]
 have m2ok:∀k,0<k→S (k-1)→k-1<ops.size→∀b,d.ok (k-1) b=true→μ2 b=μ b:=by
  intro k hk hSk hks b hb
  by_cases h1:b<(d.M j).length
  ·exact m2old b h1
  ·by_cases h2:b<(d.M (j+1)).length
   ·obtain⟨ok,hok⟩:=xm hks
    rcases (hA _ ok hok).okc j b o ho hb (by omega) h2 with e | e
    ·exact absurd (e▸hSk) hj
    ·exact absurd (Nw hA hS _ ok hok (hS _ ok hok hSk) j e) hj
   ·exact m2far b h2
 let kb2:Nat→Nat:=fun b=>if Tch d j b then j+1 else kb b
 let kt2:Nat→Nat:=fun t=>if o.dst=some t then j+1 else kt t
 have kb2t:∀b,Tch d j b→kb2 b=j+1:=fun b hb=>if_pos hb
 have kb2n:∀b,¬Tch d j b→kb2 b=kb b:=fun b hb=>if_neg hb
 have kbS:∀b,kb b=0∨(0<kb b∧S (kb b-1)∧kb b-1<ops.size∧Tch d (kb b-1) b):=by
  intro b
  rcases Nat.eq_zero_or_pos (kb b) with h0 | h0
  ·exact .inl h0
  ·rcases hI.kb_min b with h1 | h1
   ·exact .inl h1
   ·have hlt:kb b-1<ops.size:=by have:=hI.kb_le b;omega
    exact .inr ⟨h0,(hI.kb_iff b _ hlt h1).2 (by omega),hlt,h1⟩
 have noNew:∀b,¬Tch d j b→b<(d.M j).length∨¬b<(d.M (j+1)).length:=by
  intro b hb
  by_cases h1:b<(d.M j).length
  ·exact .inl h1
  ·refine .inr fun h2=>hb ⟨D.tnew b (by omega),h2⟩
 have m2un:∀b,¬Tch d j b→μ2 b=μ b:=by
  intro b hb
  rcases noNew b hb with h | h
  ·exact m2old b h
  ·exact m2far b h
 have tpart:∀b,fO (d.Tm j) b→¬Tch d j b→kb b≤j∧b<(d.M j).length∧(d.M' j)[b]? =(d.M (kb b))[b]? ∧(d.M (kb b))[b]? =(d.M j)[b]? :=by
  intro b hb hnt
  obtain⟨k1,k2⟩:=uR hA hI hS ho hr hj hb
  obtain⟨s,hs,hne⟩:=hb
  have hlt:b<(d.M j).length:=by
   have:=(List.getElem?_eq_some_iff.1 hs).1
   rw[D.tlen] at this;exact this
  have hf:d.touch j b=false:=by
   cases ht:d.touch j b with
   |false=>rfl
   |true=>exact absurd ⟨ht,by omega⟩ hnt
  exact⟨k1,hlt,(D.keepT b hlt hf ⟨s,hs,hne⟩).trans k2,k2.symm⟩
 have view:∀b s,(d.M (kb2 b))[b]? =some s→s≠ .absent→((d.M' j)[b]? =some s∧μ2 b=μ' b∧b<(d.M (j+1)).length∧(Tch d j b∨fO (d.Tm j) b))∨
   ((d.M (kb b))[b]? =some s∧¬fO (d.Tm j) b∧¬Tch d j b∧μ2 b=μ b):=by
  intro b s hs hne
  by_cases ht:Tch d j b
  ·rw[kb2t b ht] at hs
   exact .inl ⟨by rw[←D.mval b ht.1];exact hs,m2new b ht.2,ht.2,.inl ht⟩
  ·rw[kb2n b ht] at hs
   by_cases hb:fO (d.Tm j) b
   ·obtain⟨k1,k2,k3,k4⟩:=tpart b hb ht
    exact .inl ⟨by rw[k3];exact hs,by rw[m2old b k2,hag b k2],by omega,.inr hb⟩
   ·exact .inr ⟨hs,hb,ht,m2un b ht⟩
 have viewOwn:∀b,dn (d.M (kb2 b)) b→(dn (d.M' j) b∧μ2 b=μ' b∧b<(d.M (j+1)).length∧(Tch d j b∨fO (d.Tm j) b))∨
   (dn (d.M (kb b)) b∧¬fO (d.Tm j) b∧¬Tch d j b∧μ2 b=μ b):=by
  intro b hb
  obtain⟨s,h,hso⟩:=hb
  rcases view b _ h (Slot.own_ne hso) with⟨g1,g2⟩ | ⟨g1,g2⟩
  ·exact .inl ⟨⟨s,g1,hso⟩,g2⟩
  ·exact .inr ⟨⟨s,g1,hso⟩,g2⟩
 have ownSeen:∀b,dn (d.Tm j) b→dn (d.M (kb b)) b:=by
  intro b hb
  obtain⟨k1,k2⟩:=uR hA hI hS ho hr hj (jv hb)
  refine(jw k2).1 ?_
  obtain⟨s,h,hso⟩:=hb
  exact⟨s,oh hA ho h (Slot.own_ne hso),hso⟩
 have blkLt:∀b s,(d.M (kb b))[b]? =some s→s≠ .absent→(μ b).blk<w.heap.size:=fun b s hs hne=>(hI.slot b s hs).blk_lt hne
 refine⟨μ2,kb2,kt2,⟨Nat.le_trans hI.base_le hst.size,?_,?_,?_,?_,?_,?_,?_,?_,?_,?_,hst.os.trans hI.os,hst.tape.trans hI.tape,Nat.le_trans hI.drawn hst.drawn,hst.output.trans hI.output,Nat.le_trans hI.size hst.size,?_,?_⟩⟩
 ·
  intro b
  by_cases ht:Tch d j b
  ·rw[kb2t b ht];omega
  ·rw[kb2n b ht];exact hI.kb_le b
 ·
  intro b i hi hti
  obtain⟨oi,hoi⟩:=xm hi
  by_cases ht:Tch d j b
  ·rw[kb2t b ht]
   by_cases hij:i=j
   ·subst hij;simp
   ·have:=kJ hA hS ho hr hj hi (D.sep i oi b hoi hij hti.2 hti.1 (.inl ⟨ht.2,ht.1⟩))
    constructor
    ·rintro (h | h)
     ·have:=this.1 h;omega
     ·omega
    ·intro h;exact .inl (this.2 (by omega))
  ·rw[kb2n b ht]
   have hij:i≠j:=fun e=>ht (e▸hti)
   rw[←hI.kb_iff b i hi hti]
   constructor
   ·rintro (h | h)
    ·exact h
    ·exact absurd h hij
   ·exact .inl
 ·
  intro b
  by_cases ht:Tch d j b
  ·rw[kb2t b ht];exact .inr ht
  ·rw[kb2n b ht];exact hI.kb_min b
 ·
  intro b s hs
  by_cases h0:s=.absent
  ·subst h0;trivial
  by_cases ht:Tch d j b
  ·rw[kb2t b ht] at hs ⊢
   have h1:=hH.slot b s (by rw[←D.mval b ht.1];exact hs)
   rw[m2new b ht.2,D.mlen]
   exact h1.mono (Nat.le_refl _) (fun x hx=>m2new x (by rw[D.mlen];exact hx)) fun _=>rfl
  ·rw[kb2n b ht] at hs ⊢
   have hold:=hI.slot b s hs
   rw[m2un b ht]
   by_cases hb:fO (d.Tm j) b
   ·obtain⟨k1,k2,k3,k4⟩:=tpart b hb ht
    have h1:=hH.slot b s (by rw[k3];exact hs)
    rw[hag b k2] at h1
    have hlk:=hlj (kb b) k1
    have h2:=hold.lower (fun x hx=>hag x (by omega)) h1
    exact h2.mono (Nat.le_refl _) (fun x hx=>m2old x (by omega)) fun _=>rfl
   ·have hheap:w'.heap[(μ b).blk]? =w.heap[(μ b).blk]? :=by
     refine hst.frame _ (hold.blk_lt h0) fun b1 hb1=>?_
     refine hI.sep b1 b s (ownSeen b1 hb1) hs h0 ?_
     rintro rfl;exact hb (jv hb1)
    have h2:SRel μ (d.M (kb b)).length base w' (μ b) s:=hold.mono (Nat.le_refl _) (fun _ _=>rfl) fun _=>hheap
    rcases kbS b with h3 | ⟨h3,h4,h5,h6⟩
    ·refine h2.mono (Nat.le_refl _) (fun x hx=>m2old x ?_) fun _=>rfl
     rw[h3] at hx;omega
    ·obtain⟨ok,hok⟩:=xm h5
     have hk1:kb b-1+1=kb b:=by omega
     refine h2.change (ok:=d.ok (kb b-1)) (fun x _ hx=>m2ok (kb b) h3 h4 h5 x hx) ?_
     exact(hA _ ok hok).refsM b s h6.1 (by rw[hk1];exact hs)
 ·
  intro b b' s' hb hb' hne hbb
  rcases viewOwn b hb with⟨g1,g2,_,_⟩ | ⟨g1,g2,g3,g4⟩<;>rcases view b' s' hb' hne with⟨k1,k2,k3,k4⟩ | ⟨k1,k2,k3,k4⟩
  ·rw[g2,k2];exact hH.sep b b' s' g1 k1 hne hbb
  ·rw[g2,k4]
   have hlt:=blkLt b' s' k1 hne
   by_cases hlt2:(μ' b).blk<w.heap.size
   ·obtain⟨b0,h0,h1⟩:=hst.owner b g1 hlt2
    rw[←h1]
    refine hI.sep b0 b' s' (ownSeen b0 h0) k1 hne ?_
    rintro rfl;exact k2 (jv h0)
   ·omega
  ·rw[g4,k2]
   by_cases hlt:b' <(d.M j).length
   ·have hbd:fO (d.Tm j) b' :=by
     rcases k4 with ht | hb1
     ·exact D.touchT b' ht.1 hlt
     ·exact hb1
    obtain⟨q1,q2⟩:=uR hA hI hS ho hr hj hbd
    obtain⟨s0,hs0,hne0⟩:=hbd
    rw[hag b' hlt]
    exact hI.sep b b' s0 g1 (by rw[←q2];exact oh hA ho hs0 hne0) hne0 hbb
   ·have ht' :=D.tnew b' (by omega)
    have hM1:(d.M (j+1))[b']? =some s' :=by rw[D.mval b' ht'];exact k1
    have hown:=D.newOwn b' s' (by omega) hM1 hne
    have hown' :dn (d.M' j) b' :=(jw (D.mval b' ht')).1 hown
    have hbl:(μ b).blk<w.heap.size:=by
     obtain⟨s,h,hso⟩:=g1
     exact blkLt b _ h (Slot.own_ne hso)
    by_cases hlt2:(μ' b').blk<w.heap.size
    ·obtain⟨b0,h0,h1⟩:=hst.owner b' hown' hlt2
     rw[←h1]
     have hob:=ownSeen b0 h0
     have hbb0:b≠b0:=by rintro rfl;exact g2 (jv h0)
     obtain⟨s,h,hso⟩:=hob
     exact hI.sep b b0 _ g1 h (Slot.own_ne hso) hbb0
    ·omega
  ·rw[g4,k4];exact hI.sep b b' s' g1 k1 hne hbb
 ·
  intro t
  show(if o.dst=some t then j+1 else kt t)≤ops.size
  split
  ·omega
  ·exact hI.kt_le t
 ·
  intro t i oi hoi hd
  show(S i∨i=j)↔i<(if o.dst=some t then j+1 else kt t)
  have hi:i<ops.size:=(Array.getElem?_eq_some_iff.1 hoi).1
  by_cases ht:o.dst=some t
  ·rw[if_pos ht]
   by_cases hij:i=j
   ·subst hij;simp
   ·have:=kJ hA hS ho hr hj hi (D.dsts i oi t hoi hij ht hd)
    constructor
    ·rintro (h | h)
     ·have:=this.1 h;omega
     ·omega
    ·intro h;exact .inl (this.2 (by omega))
  ·rw[if_neg ht]
   have hij:i≠j:=by rintro rfl;rw[ho] at hoi;cases hoi;exact ht hd
   rw[←hI.kt_iff t i oi hoi hd]
   constructor
   ·rintro (h | h)
    ·exact h
    ·exact absurd h hij
   ·exact .inl
 ·
  intro t
  show(if o.dst=some t then j+1 else kt t)=0∨∃oi,ops[(if o.dst=some t then j+1 else kt t)-1]? =some oi∧oi.dst=some t
  by_cases ht:o.dst=some t
  ·rw[if_pos ht];exact .inr ⟨o,by simpa using ho,ht⟩
  ·rw[if_neg ht];exact hI.kt_min t
 ·
  intro t
  show VRel μ2 (d.M (if o.dst=some t then j+1 else kt t)).length (ab (d.E (if o.dst=some t then j+1 else kt t)) t) ((a.put o.dst V).tmps.getD t undef)
  by_cases ht:o.dst=some t
  ·rw[if_pos ht,D.env,ht]
   have hlt:t<a.tmps.size:=by
    have:=D.dst
    unfold AJ at this
    rw[ht] at this
    simp only[decide_eq_true_eq] at this
    rw[hN];exact this
   have e1:ab (putE (d.E j) (some t) (d.v j)) t=d.v j:=by simp[putE,ab]
   have e2:(a.put (some t) V).tmps.getD t undef=V:=by simp[Act.put,hlt]
   rw[e1,e2,D.mlen]
   exact hV.mono (Nat.le_refl _) fun x hx=>m2new x (by rw[D.mlen];exact hx)
  ·rw[if_neg ht]
   have e2:(a.put o.dst V).tmps.getD t undef=a.tmps.getD t undef:=by
    cases hd:o.dst with
    |none=>rfl
    |some x=>
     have hne:x≠t:=by rintro rfl;exact ht hd
     simp[Act.put,Array.getElem?_setIfInBounds_ne hne]
   rw[e2]
   have hold:=hI.tmp t
   rcases Nat.eq_zero_or_pos (kt t) with h0 | h0
   ·rw[h0] at hold ⊢
    exact hold.mono (Nat.le_refl _) fun x hx=>m2old x (by omega)
   ·rcases hI.kt_min t with h1 | ⟨oi,h1,h2⟩
    ·omega
    ·have hSk:S (kt t-1):=(hI.kt_iff t _ oi h1 h2).2 (by omega)
     have hks:kt t-1<ops.size:=(Array.getElem?_eq_some_iff.1 h1).1
     refine hold.change (ok:=d.ok (kt t-1)) (fun x _ hx=>m2ok (kt t) h0 hSk hks x hx) ?_
     have he:=(hA _ oi h1).env
     have hk1:kt t-1+1=kt t:=by omega
     rw[hk1,h2] at he
     rw[he]
     simp only[putE,ab,if_true]
     exact(hA _ oi h1).refsV
 ·
  intro b hb
  rw[m2old b (by omega)]
  exact hI.agree b hb
 ·
  intro k hk hf
  rw[hst.frame k (Nat.lt_of_lt_of_le hk hI.size) ?_,hI.frame k hk hf]
  intro b hb he
  obtain⟨b0,h1,h2⟩:=hI.owner b (ownSeen b hb) (by rw[he];exact hk)
  exact hf b0 h1 (h2.trans he)
 ·
  intro b hb hlt
  rcases viewOwn b hb with⟨g1,g2,_,_⟩ | ⟨g1,g2,g3,g4⟩
  ·rw[g2] at hlt ⊢
   obtain⟨b0,h0,h1⟩:=hst.owner b g1 (Nat.lt_of_lt_of_le hlt hI.size)
   obtain⟨b1,h2,h3⟩:=hI.owner b0 (ownSeen b0 h0) (by rw[h1];exact hlt)
   exact⟨b1,h2,h3.trans h1⟩
  ·rw[g4] at hlt ⊢
   exact hI.owner b g1 hlt
end
end Go.Eng
namespace Go.Eng
section
variable {P:Program}{T:TypeId→Option TyI}{tp:Bool}{N m0:Nat}{ops:Array Oper}{d:DrawData}
def left(ops:Array Oper) (listed:Array Bool):Nat:=((List.range ops.size).filter fun i=> !listed.getD i true).length
def qz(listed:Array Bool) (i:Nat):Prop:=listed.getD i false=true
theorem xi{l:List Nat}{p q:Nat→Bool}(h:∀i∈l,q i=true→p i=true) {j:Nat}(hj:j∈l) (h1:p j=true) (h2:q j=false):(l.filter q).length<(l.filter p).length:=by
 induction l with
 |nil=>cases hj
 |cons x xs ih=>
  have hle:∀(l:List Nat),(∀i∈l,q i=true→p i=true)→(l.filter q).length≤(l.filter p).length:=by
   intro l hl
   induction l with
   |nil=>simp
   |cons y ys ih2=>
    have:=ih2 (fun i hi=>hl i (by simp[hi]))
    have hy:=hl y (by simp)
    simp only[List.filter_cons]
    cases hq:q y<;>cases hp:p y<;>simp_all<;>omega
  have hxs:=hle xs (fun i hi=>h i (by simp[hi]))
  have hx:=h x (by simp)
  simp only[List.filter_cons]
  cases hj with
  |head=>rw[h1,h2];simp;omega
  |tail _ hm=>
   have:=ih (fun i hi=>h i (by simp[hi])) hm
   cases hq:q x<;>cases hp:p x<;>simp_all<;>omega
theorem Oy{listed:Array Bool}{i:Nat}(hi:i<listed.size):qz (listed.setIfInBounds i true)=fun k=>qz listed k∨k=i:=by
 funext k
 apply propext
 unfold qz
 by_cases hk:i=k
 ·subst hk;simp[hi]
 ·rw[getD_set_ne false hk]
  constructor
  ·exact .inl
  ·rintro (h | h)
   ·exact h
   ·exact absurd h.symm hk
theorem LK(hA:qe P T N ops d) {listed:Array Bool}(hsz:listed.size=ops.size) (h:Region.ready .any ops listed=[]):∀i,i<ops.size→qz listed i:=by
 intro i
 induction i using Nat.strongRecOn with
 |_ i ih=>
  intro hi
  obtain⟨o,ho⟩:=xm hi
  cases hl:listed.getD i true with
  |true=>
   unfold qz
   simp only[Array.getD_eq_getD_getElem?] at hl ⊢
   rw[Array.getElem?_eq_getElem (by omega)] at hl ⊢
   exact hl
  |false=>
   exfalso
   have:i∈Region.ready .any ops listed:=mem_ready.2 ⟨hl,o,ho,fun e he hb=>ih e.on ((hA i o ho).edge e he hb) (by have:=(hA i o ho).edge e he hb;omega)⟩
   rw[h] at this;cases this
theorem PK(hA:qe P T N ops d) {base:Nat}{μ0 μ:Nat→Place}{w0 w:World}{S:Nat→Prop}{kb kt:Nat→Nat}{tmps:Array Value}(hm0:m0≤(d.M 0).length)
  (hI:DInv d ops base μ0 w0 S μ kb kt tmps w) (hS:∀i,i<ops.size→S i):
  HRel base μ (d.M ops.size) w∧TRel μ (d.M ops.size).length (d.E ops.size) tmps∧m0≤(d.M ops.size).length∧Step m0 μ0 (d.M 0) w0 μ (d.M ops.size) w:=by
 have hb:∀b,(d.M ops.size)[b]? =(d.M (kb b))[b]? :=fun b=>Bm hA b (kb b) _ (hI.kb_le b) (Nat.le_refl _) fun i h1 h2 h3=>by
  have:=(hI.kb_iff b i h2 h3).1 (hS i h2)
  omega
 have hl:∀k,k≤ops.size→(d.M k).length≤(d.M ops.size).length:=fun k hk=>xF hA k _ hk (Nat.le_refl _)
 have h0:=hl 0 (Nat.zero_le _)
 refine⟨⟨hI.base_le,fun b s hs=>?_,fun b b' s' hb1 hb2 hne hbb=>?_⟩,fun t=>?_,by omega,⟨by omega,fun b hb1=>hI.agree b (by omega),hI.os,hI.tape,hI.output,hI.size,hI.frame,fun b hb1 hlt=>?_,hI.drawn⟩⟩
 ·exact(hI.slot b s (by rw[←hb];exact hs)).mono (hl _ (hI.kb_le b)) (fun _ _=>rfl) fun _=>rfl
 ·exact hI.sep b b' s' ((jw (hb b)).1 hb1) (by rw[←hb];exact hb2) hne hbb
 ·have he:=A9 hA t (kt t) ops.size (hI.kt_le t) (Nat.le_refl _) fun i oi h1 h2 h3 h4=>by
   have:=(hI.kt_iff t i oi h3 h4).1 (hS i h2)
   omega
  rw[he]
  exact(hI.tmp t).mono (hl _ (hI.kt_le t)) fun _ _=>rfl
 ·exact hI.owner b ((jw (hb b)).1 hb1) hlt
theorem yP(hm:P.follows .mixedOrders=true) (hT:cf P T) {id:Nat}{st st' :St}{Q:Exit→St→Prop}
  (hA:qe P T N ops d) (hE:d.E 0=st.env) (hM:d.M 0=st.mem) (hst' :st' =⟨d.E ops.size,d.M ops.size⟩) (hq:Q .normal st'):
  AWP P tp N m0 (.region id ops true) st Q:=by
 intro ro h0 base μ0 w0 a0 hro hH hR hN hdf hm0
 refine wpIn_region_any hm ?_
 have fin:∀(listed:Array Bool) (a:Act) (w:World) μ kb kt,listed.size=ops.size→a.tmps.size=N→a.defers=a0.defers→
   DInv d ops base μ0 w0 (qz listed) μ kb kt a.tmps w→Region.ready .any ops listed=[]→
   ∃st' μ',HRel base μ' st'.mem w∧TRel μ' st'.mem.length st'.env a.tmps∧a.tmps.size=N∧MOk P base h0 w a.defers∧m0≤st'.mem.length∧Step m0 μ0 st.mem w0 μ' st'.mem w∧Q .normal st' :=by
  intro listed a w μ kb kt hsz ha hd hI hr
  obtain⟨h1,h2,h3,h4⟩:=PK (m0:=m0) hA (by rw[hM];exact hm0) hI (LK hA hsz hr)
  rw[hM] at h4
  exact⟨st',μ,by rw[hst'];exact h1,by rw[hst'];exact h2,ha,by rw[hd];exact hdf.step hH h4,by rw[hst'];exact h3,by rw[hst'];exact h4,hq⟩
 have key:∀(fuel:Nat) (listed:Array Bool) (a:Act) (w:World) μ kb kt,listed.size=ops.size→left ops listed≤fuel→a.tmps.size=N→a.defers=a0.defers→
   rY ops (qz listed)→DInv d ops base μ0 w0 (qz listed) μ kb kt a.tmps w→
   wpAnyIn (Fr ro) 0 P .any ops (fun e a' w' =>∃st' μ',HRel base μ' st'.mem w' ∧TRel μ' st'.mem.length st'.env a'.tmps∧a'.tmps.size=N∧MOk P base h0 w' a'.defers∧m0≤st'.mem.length∧
    Step m0 μ0 st.mem w0 μ' st'.mem w' ∧Q e st') fuel listed a w:=by
  intro fuel
  induction fuel with
  |zero=>
   intro listed a w μ kb kt hsz hl ha hd hC hI
   have hr:Region.ready .any ops listed=[]:=by
    apply List.eq_nil_iff_forall_not_mem.2
    intro i hi
    obtain⟨h1,o,ho,_⟩:=mem_ready.1 hi
    have hlt:i<ops.size:=(Array.getElem?_eq_some_iff.1 ho).1
    have:i∈(List.range ops.size).filter fun i=> !listed.getD i true:=by
     rw[List.mem_filter];exact⟨by simpa using hlt,by rw[h1];rfl⟩
    have h0:((List.range ops.size).filter fun i=> !listed.getD i true)=[]:=List.eq_nil_of_length_eq_zero (Nat.le_zero.1 hl)
    rw[h0] at this;cases this
   exact⟨hr,fin listed a w μ kb kt hsz ha hd hI hr⟩
  |succ fuel ih=>
   intro listed a w μ kb kt hsz hl ha hd hC hI
   refine⟨fin listed a w μ kb kt hsz ha hd hI,fun i hi=>?_⟩
   obtain⟨h1,o,ho,hpre⟩:=mem_ready.1 hi
   have hlt:i<ops.size:=(Array.getElem?_eq_some_iff.1 ho).1
   have hnS:¬qz listed i:=by
    unfold qz
    simp only[Array.getD_eq_getD_getElem?] at h1 ⊢
    rw[Array.getElem?_eq_getElem (by omega)] at h1 ⊢
    simp only[Option.getD_some] at h1 ⊢
    rw[h1];simp
   have hset:=Oy (listed:=listed) (i:=i) (by omega)
   have hC' :rY ops (qz (listed.setIfInBounds i true)):=by
    rw[hset]
    intro j oj hoj hSj e he hb
    rcases hSj with hSj | rfl
    ·exact .inl (hC j oj hoj hSj e he hb)
    ·rw[ho] at hoj;cases hoj;exact .inl (hpre e he hb)
   have hleft:left ops (listed.setIfInBounds i true)≤fuel:=by
    have:left ops (listed.setIfInBounds i true)<left ops listed:=by
     unfold left
     refine xi (fun k _ hk=>?_) (j:=i) (by simpa using hlt) (by rw[h1];rfl) (by simp[hsz,hlt])
     by_cases hik:i=k
     ·subst hik;simp[hsz,hlt] at hk
     ·rw[getD_set_ne true hik] at hk;exact hk
    omega
   have D:=hA i o ho
   have hHs:=Ow hA hI hC ho hpre hnS
   have hGw:GOk P base w:=by
    refine⟨hdf.glob.below,?_⟩
    have:=hdf.glob.tab
    unfold Lib.TabIs at this ⊢
    rw[←this]
    refine Ks fun k hk=>hI.frame k ?_ fun b hb=>?_
    ·have:=hdf.glob.below;have:=hH.base_le;omega
    ·rw[hM] at hb
     have:=Kc hH hb;have:=hdf.glob.below;omega
   have hRs:=Ox hA hI hC ho hpre hnS
   have next:∀V w' μ',VRel μ' (d.M' i).length (d.v i) V→HRel base μ' (d.M' i) w' →Step (d.Tm i).length μ (d.Tm i) w μ' (d.M' i) w' →
     wpAnyIn (Fr ro) 0 P .any ops (fun e a' w' =>∃st' μ',HRel base μ' st'.mem w' ∧TRel μ' st'.mem.length st'.env a'.tmps∧a'.tmps.size=N∧MOk P base h0 w' a'.defers∧m0≤st'.mem.length∧
      Step m0 μ0 st.mem w0 μ' st'.mem w' ∧Q e st') fuel (listed.setIfInBounds i true) (a.put o.dst V) w' :=by
    intro V w' μ' q1 q2 q3
    obtain⟨μ2,kb2,kt2,hI2⟩:=PV hA hI hC ho hpre hnS ha q1 q2 q3
    rw[←hset] at hI2
    exact ih _ _ _ μ2 kb2 kt2 (by simp[hsz]) hleft (by rw[dN];exact ha) (by rw[ee];exact hd) hC' hI2
   unfold wpOpIn
   simp only[ho]
   rw[mI hRs D.wanted]
   cases hw:d.wb i with
   |false=>
    obtain⟨e1,e2⟩:=D.skip hw
    simp only[Bool.false_eq_true,if_false]
    exact⟨fun _ _=>trivial,next undef w μ (by rw[e1];simp[VRel,VRels,undef]) (by rw[e2];exact hHs) (by rw[e2];exact .refl (Nat.le_refl _))⟩
   |true=>
    simp only[if_true]
    exact oO hT hGw hHs hRs ha D.dst (D.step hw) fun V w' μ' q1 q2 q3 q4=>next V w' μ' q1 q2 q4
 have hI0:DInv d ops base μ0 w0 (qz (Array.replicate ops.size false)) μ0 (fun _=>0) (fun _=>0) a0.tmps { w0 with drawn:=w0.drawn+1 }:=by
  have hno:∀i,¬qz (Array.replicate ops.size false) i:=by
   intro i;unfold qz
   simp only[Array.getD_eq_getD_getElem?,Array.getElem?_replicate]
   split<;>simp
  have hH' :HRel base μ0 (d.M 0) { w0 with drawn:=w0.drawn+1 }:=by rw[hM];exact hH.sameHeap rfl
  refine⟨hH'.base_le,fun _=>Nat.zero_le _,fun b i _ _=>⟨fun h=>absurd h (hno i),fun h=>by omega⟩,fun _=>.inl rfl,fun b s hs=>hH'.slot b s hs,
   fun b b' s' =>hH'.sep b b' s',fun _=>Nat.zero_le _,fun t i oi _ _=>⟨fun h=>absurd h (hno i),fun h=>by omega⟩,fun _=>.inl rfl,fun t=>?_,fun _ _=>rfl,
   rfl,rfl,Nat.le_succ _,rfl,Nat.le_refl _,fun _ _ _=>rfl,fun b hb _=>⟨b,hb,rfl⟩⟩
  rw[hM,hE];exact hR t
 refine key ops.size _ a0 _ μ0 _ _ (by simp) ?_ hN rfl ?_ hI0
 ·unfold left
  exact Nat.le_trans (List.length_filter_le _ _) (by simp)
 ·intro j o _ hS
  exfalso
  unfold qz at hS
  simp only[Array.getD_eq_getD_getElem?,Array.getElem?_replicate] at hS
  split at hS<;>simp at hS
end
end Go.Eng
namespace Go.Eng
def oH:Exit→Option (Option Code)
 |.normal=>some none
 |.ret=>some (some .ret)
 |.exit id=>some (some (.exit id))
 |_=>none
def vB:Option Code→Option Exit
 |none=>some .normal
 |some .ret=>some .ret
 |some (.exit id)=>some (.exit id)
 |_=>none
def ku(j:Option Code):LoopState:=if j.isNone then .ready else .done
def vw:List Tmp→List AV→Env→Env
 |t::ts,v::vs,env=>vw ts vs ((t,v)::env)
 |_,_,env=>env
section
variable {P:Program}{T:TypeId→Option TyI}{μ:Nat→Place}{mem:Mem}{base:Nat}{w:World}
theorem HRel.alloc(hH:HRel base μ mem w) (o:Obj):HRel base μ mem (w.alloc o):=by
 refine⟨by simp;have:=hH.base_le;omega,fun b s hs=>?_,hH.sep⟩
 exact(hH.slot b s hs).mono (Nat.le_refl _) (fun _ _=>rfl) fun hne=>fu w o ((hH.slot b s hs).blk_lt hne)
theorem Step.alloc{m0:Nat}(h:m0≤mem.length) (o:Obj):Step m0 μ mem w μ mem (w.alloc o):=
 ⟨h,fun _ _=>rfl,rfl,rfl,rfl,by simp,fun k hk _=>fu w o hk,fun b hb _=>⟨b,hb,rfl⟩,Nat.le_refl _⟩
theorem CA{n:Nat}:∀{ts:List Tmp} {vs:List AV} {Vs:List Value} {env:Env} {tmps:Array Value},VRels μ n vs Vs→TRel μ n env tmps→vs.length=ts.length→(∀t∈ts,t<tmps.size)→
  TRel μ n (vw ts vs env) ((ts.zip Vs).foldl (fun tmps (t,a)=>tmps.setIfInBounds t a) tmps)∧((ts.zip Vs).foldl (fun tmps (t,a)=>tmps.setIfInBounds t a) tmps).size=tmps.size
 | [],[],Vs,env,tmps,hv,ht,_,_=>by exact⟨ht,rfl⟩
 |t::ts,v::vs,Vs,env,tmps,hv,ht,hl,hb=>by
  simp only[VRels] at hv
  obtain⟨U,Us,rfl,h1,h2⟩:=hv
  simp only[vw,List.zip_cons_cons,List.foldl_cons]
  have:=TRel.put (a:={ tmps:=tmps,defers:=[] }) ht (hb t (by simp)) h1
  simp only[Act.put] at this
  have r:=CA (env:=(t,v)::env) (tmps:=tmps.setIfInBounds t U) h2 this (by simpa using hl) (fun x hx=>by simpa using hb x (by simp[hx]))
  exact⟨r.1,r.2.trans (by simp)⟩
 | [],_::_,_,_,_,_,_,hl,_=>by simp at hl
 |_::_,[],_,_,_,_,_,hl,_=>by simp at hl
theorem fR{l:Nat}{L:Loop}(h:w.heap[l]? =some (.loop L)):(Instr.getLoop l).run P w=.ok L w:=by
 have hg:(getObj l).run P w=.ok (.loop L) w:=by simp[getObj,Sem.run,h]
 simp only[Instr.getLoop,Sem.run_bind,hg,Result.andThen_ok]
 rfl
theorem sY{base:Nat}{b:Nat}{r r' :LoopA}{L L' :Loop}(hH:HRel base μ mem w) (hb:mem[b]? =some (.loop r)) (hL:w.heap[(μ b).blk]? =some (.loop L)) (hr:LoopRel μ mem.length r' L'):
  (setObj (μ b).blk (.loop L')).run P w=.ok () { w with heap:=w.heap.setIfInBounds (μ b).blk (.loop L') }∧
  HRel base μ (mem.set b (.loop r')) { w with heap:=w.heap.setIfInBounds (μ b).blk (.loop L') }∧
  Step mem.length μ mem w μ (mem.set b (.loop r')) { w with heap:=w.heap.setIfInBounds (μ b).blk (.loop L') }:=by
 have hlt:=(Array.getElem?_eq_some_iff.1 hL).1
 have hbl:=(List.getElem?_eq_some_iff.1 hb).1
 refine⟨p9 hL (by intro c e f h;cases h),hH.write hb (Ml hb) (fun _=>⟨_,List.getElem?_set_self hbl,rfl⟩) rfl rfl rfl rfl (by simp) (fun k hk=>Array.getElem?_setIfInBounds_ne (Ne.symm hk)) ?_⟩
 simp only[SRel]
 have:=hH.slot b _ hb
 simp only[SRel] at this
 obtain⟨_,_,h2,_⟩:=this
 exact⟨L',by simp[hlt],h2,hr⟩
theorem AYields.intro{b:Nat}{args:List AV}{R:AV→Mem→Prop}{r:LoopA}(hb:mem[b]? =some (.loop r)) (_hst:r.st=.ready) (hl:args.length=r.ps.toList.length) (hps:∀t∈r.ps.toList,t<r.N)
  (h:AWP P false r.N mem.length r.assign ⟨vw r.ps.toList args r.env,mem⟩ fun e st1=>e=.normal∧∃r1,st1.mem[b]? =some (.loop r1)∧r1.st=.ready∧
   AWP P false r.N mem.length r.body ⟨st1.env,st1.mem.set b (.loop { r1 with st:=.busy })⟩ fun e st2=>∃r2 j ks,oH e=some j∧st2.mem[b]? =some (.loop r2)∧AM mem.length st2.mem.length ks=true∧
    R (.bool j.isNone) (compact mem.length ks (st2.mem.set b (.loop { r2 with st:=ku j,pend:=j })))):
  AYields P b args mem R:=by
 intro base μ w Vs hG hH hV hbl
 have hsl:=hH.slot b _ hb
 simp only[SRel] at hsl
 obtain⟨L,h1,h2,h3⟩:=hsl
 have hlen:Vs.length=L.params.size:=by rw[hV.length,hl,h3.ps];simp
 refine⟨L.fn,(L.params.zip ⟨Vs⟩).foldl (fun tmps (t,a)=>tmps.setIfInBounds t a) L.tmps,L.assign,L.body,?_,?_⟩
 ·simp only[Instr.yield,Sem.run_bind,fR h1,Result.andThen_ok]
  rw[if_neg (by simp[hlen])]
  rfl
 ·refine roundIn_of_wpIn (F:=Fence.wide) trivial ?_
  have hzip:(L.params.zip ⟨Vs⟩).foldl (fun tmps (t,a)=>tmps.setIfInBounds t a) L.tmps=(r.ps.toList.zip Vs).foldl (fun tmps (t,a)=>tmps.setIfInBounds t a) L.tmps:=by
   rw[h3.ps,←Array.foldl_toList]
   simp
  have hb0:=CA (ts:=r.ps.toList) hV h3.tmps hl (fun t ht=>by rw[h3.size];exact hps t ht)
  rw[h3.assign,h3.body]
  refine wpIn_mono (F:=Fr (some (μ b).blk)) (h (some (μ b).blk) w.heap.size base μ w ⟨_,[]⟩ (fun h=>by cases h) hH (by rw[hzip];exact hb0.1) (by rw[hzip,hb0.2];exact h3.size) (MOk.nil w hG hH.base_le (Nat.le_refl _)) (Nat.le_refl _)) ?_
  rintro e a1 w1 ⟨st1,μ1,c1,c2,c3,c4,c5,c6,rfl,r1,c7,c8,hbody⟩
  have hsl1:=c1.slot b _ c7
  simp only[SRel] at hsl1
  obtain⟨L1,d1,d2,d3⟩:=hsl1
  have hμ:μ1 b=μ b:=c6.agree b hbl
  rw[hμ] at d1
  obtain⟨e1,e2,e3⟩:=sY (P:=P) (r' :={ r1 with st:=.busy }) (L' :={ L1 with state:=.busy }) c1 c7 (by rw[hμ];exact d1) { d3 with st:=rfl }
  rw[hμ] at e1 e2 e3
  refine⟨_,?_,wpIn_mono (F:=Fr (some (μ b).blk)) (hbody (some (μ b).blk) w.heap.size base μ1 _ a1 (fun h=>by cases h) e2 (by rw[List.length_set];exact c2) c3 (c4.step c1 e3) (by rw[List.length_set];exact c5)) ?_⟩
  ·simp only[Instr.beginRound,Sem.run_bind,fR d1,Result.andThen_ok,e1]
   rw[d3.st,c8]
   rfl
  ·rintro e a2 w2 ⟨st2,μ2,f1,f2,f3,f4,f5,f6,r2,j,ks,f7,f8,f9,f10⟩
   have hsl2:=f1.slot b _ f8
   simp only[SRel] at hsl2
   obtain⟨L2,g1,g2,g3⟩:=hsl2
   have hμ2:μ2 b=μ b:=by rw[f6.agree b hbl,hμ]
   rw[hμ2] at g1
   obtain⟨k1,k2,k3⟩:=sY (P:=P) (r' :={ r2 with st:=ku j,pend:=j }) (L' :={ L2 with state:=ku j,pending:=j }) f1 f8 (by rw[hμ2];exact g1) { g3 with st:=rfl,pend:=rfl }
   rw[hμ2] at k1 k2 k3
   have hrun:(Instr.endRound (μ b).blk j).run P w2=.ok (.bool j.isNone) { w2 with heap:=w2.heap.setIfInBounds (μ b).blk (.loop { L2 with state:=ku j,pending:=j }) }:=by
    unfold ku at k1 ⊢
    simp only[Instr.endRound,Sem.run_bind,fR g1,Result.andThen_ok,k1]
    rfl
   obtain⟨p1,p2,p3⟩:=k2.compact (by rw[List.length_set];exact f5) (by rw[List.length_set];exact f9)
   have hS:Step mem.length μ mem w _ _ _:=((c6.trans (e3.mono c5)).trans f6).trans ((k3.mono f5).trans p3)
   have hfin:∃V v mem' μ',(Ending.returned (.bool j.isNone):Ending)=.returned V∧VRel μ' mem'.length v V∧HRel base μ' mem' { w2 with heap:=w2.heap.setIfInBounds (μ b).blk (.loop { L2 with state:=ku j,pending:=j }) }∧
     Step mem.length μ mem w μ' mem' { w2 with heap:=w2.heap.setIfInBounds (μ b).blk (.loop { L2 with state:=ku j,pending:=j }) }∧R v mem' :=
    ⟨_,.bool j.isNone,_,_,rfl,by simp[VRel],p1,hS,f10⟩
   cases e<;>simp only[oH,Option.some.injEq,reduceCtorEq] at f7<;>subst f7<;>exact⟨_,_,hrun,hfin⟩
theorem Cy{N m0:Nat}{g:Operand}{ps:Array Tmp}{assign body:Code}{st:St}{Q:Exit→St→Prop}{f:FuncId}{caps:List AV}(hg:get st.env g=.func f caps)
  (h:ACalls P f (.yield st.mem.length::caps) (st.mem++[.loop ⟨.ready,none,st.env,N,ps,assign,body⟩]) fun _ mem2=>∃r2 e,mem2[st.mem.length]? =some (.loop r2)∧r2.st≠ .busy∧vB r2.pend=some e∧
   Q e ⟨st.env,mem2.set st.mem.length (.loop { r2 with st:=.exhausted })⟩):
  AWP P true N m0 (.rangeFunc g ps assign body) st Q:=by
 intro ro h0 base μ w a hro hH hR hN hdf hm
 cases hro rfl
 have hgv:=aS hR g
 rw[hg] at hgv
 simp only[VRel] at hgv
 obtain⟨Us,hU,hus⟩:=hgv
 refine wpIn_rangeFunc fun fn _=>?_
 let o1:Obj:=.deferred (some [])
 let w1:=w.alloc o1
 let L:Loop:={ state:=.ready,pending:=none,fn,tmps:=a.tmps,params:=ps,assign,body,defers:=w.heap.size }
 have hH1:HRel base μ st.mem w1:=hH.alloc o1
 have hS1:Step st.mem.length μ st.mem w μ st.mem w1:=.alloc (Nat.le_refl _) o1
 have hsz:w1.heap.size=w.heap.size+1:=by simp[w1]
 obtain⟨hH2,hS2⟩:=hH1.push (.loop L) (.loop ⟨.ready,none,st.env,N,ps,assign,body⟩) ⟨w1.heap.size,0,0,0⟩ rfl (by
  simp only[SRel]
  exact⟨L,heap_alloc_new w1 _,hH1.base_le,rfl,rfl,rfl,rfl,rfl,hN,hR.mono (Nat.le_succ _) fun b hb=>tL hb⟩)
 have hS12:=hS1.trans hS2
 have hμb:(upd μ st.mem.length ⟨w1.heap.size,0,0,0⟩ st.mem.length).blk=w1.heap.size:=by rw[dr]
 have hM:MOk P base h0 (w1.alloc (.loop L)) ({ target:=.collected w.heap.size,args:= #[] }::a.defers):=by
  have hd2:=(hdf.step hH hS12)
  refine⟨hd2.glob,hd2.base_le,hd2.le,fun d hd=>?_,?_⟩
  ·rcases List.mem_cons.1 hd with rfl | hd
   ·refine⟨w.heap.size,rfl,hdf.le,?_⟩
    rw[fu w1 _ (by omega)]
    exact heap_alloc_new w o1
   ·exact hd2.each d hd
  ·simp only[List.map_cons,List.nodup_cons]
   refine⟨?_,hdf.nodup⟩
   intro hm
   obtain⟨d,hd,he⟩:=List.mem_map.1 hm
   obtain⟨r,e,_,h2⟩:=hdf.each d hd
   rw[e] at he
   simp only[Target.collected.injEq] at he
   have:=(Array.getElem?_eq_some_iff.1 h2).1
   omega
 have hcall:=h.2 base _ (w1.alloc (.loop L)) (.func (.yield w1.heap.size) #[] #[]::Us) hM.glob hH2
  (bl.2 ⟨by simp only[VRel,hμb];exact⟨by simp,trivial⟩,hus.mono (by simp) fun b hb=>tL hb⟩)
 refine⟨w1.heap.size,[{ target:=.collected w.heap.size,args:= #[] }],w1.alloc (.loop L),{ target:=.fn (.func f) ⟨Us⟩,args:= #[]++ #[.func (.yield w1.heap.size) #[] #[]] },w1.alloc (.loop L),f,⟨.func (.yield w1.heap.size) #[] #[]::Us⟩,w1.alloc (.loop L),?_,?_,fun _ _=>trivial,?_,fun h=>by simp[Fence.wide] at h,?_⟩
 ·simp only[Instr.enterLoop,Sem.run_bind,run_newObj,Result.andThen_ok,Sem.run_pure]
  rfl
 ·have hc:(#[Operand.const (.func (.yield w1.heap.size) #[] #[])]:Array Operand).map a.eval= #[.func (.yield w1.heap.size) #[] #[]]:=by simp[Act.eval]
  simp only[resolve,hU,Deferred.ofValue,hc]
  rfl
 ·simp only[invoke]
  rw[vx h.1]
  congr 2
  apply Array.ext'
  simp
 ·refine xz.2 (hcall.mono ?_)
  rintro e w3 ⟨V,v,mem2,μ2,rfl,q1,q2,q3,r2,e2,q4,q5,q6,q7⟩
  have hbl:st.mem.length<(st.mem++[Slot.loop ⟨.ready,none,st.env,N,ps,assign,body⟩]).length:=by simp
  have hμ2:(μ2 st.mem.length).blk=w1.heap.size:=by rw[q3.agree _ hbl,hμb]
  have hsl:=q2.slot _ _ q4
  simp only[SRel] at hsl
  obtain⟨L2,g1,g2,g3⟩:=hsl
  obtain⟨k1,k2,k3⟩:=sY (P:=P) (r' :={ r2 with st:=.exhausted }) (L' :={ L2 with state:=.exhausted }) q2 q4 g1 { g3 with st:=rfl }
  rw[hμ2] at k1 k2 k3 g1
  have hml:st.mem.length≤mem2.length:=Nat.le_trans (by simp) q3.len
  have hS3:=hS12.trans (q3.mono (m0:=st.mem.length) (by simp))
  have hS4:=hS3.trans (k3.mono hml)
  have post:∃st' μ',HRel base μ' st'.mem { w3 with heap:=w3.heap.setIfInBounds w1.heap.size (.loop { L2 with state:=.exhausted }) }∧TRel μ' st'.mem.length st'.env a.tmps∧a.tmps.size=N∧
    MOk P base h0 { w3 with heap:=w3.heap.setIfInBounds w1.heap.size (.loop { L2 with state:=.exhausted }) } ({ target:=.collected w.heap.size,args:= #[] }::a.defers)∧m0≤st'.mem.length∧
    Step m0 μ st.mem w μ' st'.mem { w3 with heap:=w3.heap.setIfInBounds w1.heap.size (.loop { L2 with state:=.exhausted }) }∧Q e2 st' :=by
   refine⟨_,μ2,k2,?_,hN,(hM.step hH2 q3).step q2 k3,?_,hS4.mono hm,q7⟩
   ·show TRel μ2 (mem2.set st.mem.length _).length st.env a.tmps
    rw[List.length_set]
    exact hR.mono hml fun b hb=>by rw[q3.agree b (by simp;omega),tL hb]
   ·show m0≤(mem2.set st.mem.length _).length
    rw[List.length_set];omega
  refine⟨r2.pend,{ w3 with heap:=w3.heap.setIfInBounds w1.heap.size (.loop { L2 with state:=.exhausted }) },?_,?_⟩
  ·simp only[Instr.endLoop,Sem.run_bind,fR g1,Result.andThen_ok]
   rw[g3.st]
   have hb:(r2.st==LoopState.busy)=false:=by
    cases hx:r2.st<;>first | rfl | exact absurd hx q5
   rw[hb]
   have hpnd:L2.pending=r2.pend:=g3.pend
   simp only[Bool.false_eq_true,if_false,Sem.run_bind,Sem.run_pure,k1,Result.andThen_ok]
   rw[hpnd]
  ·cases hp:r2.pend with
   |none=>
    rw[hp] at q6
    simp only[vB,Option.some.injEq] at q6
    subst q6
    exact post
   |some c=>
    rw[hp] at q6
    cases c<;>simp only[vB,Option.some.injEq,reduceCtorEq] at q6
    ·subst q6;exact wpIn_exit post
    ·subst q6;exact wpIn_ret post
end
end Go.Eng
namespace Go.Eng
structure CallRes where
 v:AV
 pre:Option Mem
 new:Mem
def CallRes.mem(r:CallRes) (mem:Mem):Mem:=(r.pre.getD mem)++r.new
inductive Callee where
 |fn (f:FuncId)
 |yld (b:Nat)
abbrev Oracle:=Callee→List AV→Mem→Option CallRes
def ix(env:Env):Op→Option (Callee×List AV)
 |.call { callee:=.value x,args,argTypes:=_ }=>match get env x with
  |.func f caps=>some (.fn f,Rv env args++caps)
  |.yield b=>some (.yld b,Rv env args)
  |_=>none
 |_=>none
structure XS where
 env:Env
 mem:Mem
 dirty:Bool
def OI:AV→List Nat
 |.ptr b _=>[b]
 |_=>[]
def fl:AV→List Nat
 |.slice b _ _ _=>[b]
 |_=>[]
def JE:AV→List Nat
 |.map b=>[b]
 |_=>[]
def tO(env:Env):Op→List Nat
 |.store _ a _=>OI (get env a)
 |.call { callee:=.builtin .append,args:=⟨[s,_]⟩,argTypes:=_ }=>fl (get env s)
 |.call { callee:=.builtin .unsafeString,args:=⟨[x,_]⟩,argTypes:=_ }=>OI (get env x)
 |.call { callee:=.builtin .clear,args:=⟨[x]⟩,argTypes:=_ }=>fl (get env x)
 |.mapUpdate _ m _ _=>JE (get env m)
 |.mapEntry _ m _=>JE (get env m)
 |.entryStore _ m _ _=>JE (get env m)
 |_=>[]
def Qc(T:TypeId→Option TyI) (O:Oracle) (m0:Nat) (env:Env) (mem:Mem) (dirty:Bool) (o:Oper):Option (AV×Mem×Bool):=
 match aOp T env mem o.op with
 |some (v,m)=>some (v,m,dirty||(tO env o.op).any fun b=>decide (b<m0))
 |none=>match ix env o.op with
  |some (c,args)=>match O c args mem with
   |some r=>some (r.v,r.mem mem,dirty||r.pre.isSome)
   |none=>none
  |none=>none
def cO(T:TypeId→Option TyI) (O:Oracle) (N m0:Nat) (ops:Array Oper):List Oper→XS→Option XS
 | [],s=>some s
 |o::os,s=>
  if AJ N o then
   match pf ops s.env o with
   |some true=>match Qc T O m0 s.env s.mem s.dirty o with
    |some (v,m,dt)=>cO T O N m0 ops os ⟨putE s.env o.dst v,m,dt⟩
    |none=>none
   |some false=>cO T O N m0 ops os ⟨putE s.env o.dst (.tuple []),s.mem,s.dirty⟩
   |none=>none
  else none
def ek(ops:List Oper):List Nat:=
 ops.foldl (fun acc o=>acc++[o.after.toList.foldl (fun s e=>if Region.binds .any e then s ||| 2 ^ e.on ||| acc.getD e.on 0 else s) 0]) []
def bef(bs:List Nat) (i j:Nat):Bool:=(bs.getD j 0).testBit i
def kL(ops:Array Oper) (bs:List Nat):Bool:=
 let n:=ops.size
 (List.range n).all fun j=>match ops[j]? with
  |none=>true
  |some o=>
   o.after.toList.all (fun e=> !Region.binds .any e||decide (e.on<j))&&
   (List.range n).all fun i=>(!bef bs i j||o.after.toList.any fun e=>Region.binds .any e&&(e.on==i||bef bs i e.on))&&(i==j||bef bs i j||bef bs j i||match ops[i]? with
    |none=>true
    |some oi=>match oi.dst with
     |none=>true
     |some t=> !(o.looksAt ops).contains t&& !(o.dst==some t))
def Jp(env:Env):Op→Option (List Nat)
 |.load _ a=>match get env a with
  |.ptr b _=>some [b]
  |_=>some []
 |.store _ a _=>match get env a with
  |.ptr b _=>some [b]
  |_=>some []
 |.slice _ x _ _ _=>match get env x with
  |.slice b _ _ _=>some [b]
  |_=>some []
 |.lookup _ m _ _=>match get env m with
  |.map b=>some [b]
  |_=>some []
 |.mapUpdate _ m _ _=>match get env m with
  |.map b=>some [b]
  |_=>some []
 |.mapEntry _ m _=>match get env m with
  |.map b=>some [b]
  |_=>some []
 |.entryStore _ m _ _=>match get env m with
  |.map b=>some [b]
  |_=>some []
 |.call { callee:=.builtin .len,args:=⟨[x]⟩,argTypes:=_ }=>match get env x with
  |.map b=>some [b]
  |_=>some []
 |.call { callee:=.builtin .append,args:=⟨[s,x]⟩,argTypes:=_ }=>
  some ((match get env s with | .slice b _ _ _=>[b] | _=>[])++(match get env x with | .slice b _ _ _=>[b] | _=>[]))
 |.call { callee:=.builtin .unsafeSliceData,args:=⟨[x]⟩,argTypes:=_ }=>match get env x with
  |.slice b _ _ _=>some [b]
  |_=>some []
 |.call { callee:=.builtin .clear,args:=⟨[x]⟩,argTypes:=_ }=>match get env x with
  |.slice b _ _ _=>some [b]
  |_=>some []
 |.call { callee:=.builtin .unsafeString,args:=⟨[x,_]⟩,argTypes:=_ }=>match get env x with
  |.ptr b _=>some [b]
  |_=>some []
 |.call { callee:=.builtin _,args:=_,argTypes:=_ }=>some []
 |.call _=>none
 |_=>some []
structure Rec where
 env:Env
 en:Env
 mem:Mem
 tm:Mem
 v:AV
 m' :Mem
 nx:Mem
 wb:Bool
 wr:List Nat
def br(see:Nat→Bool):Nat→Mem→Mem
 |_,[]=>[]
 |i,s::r=>(if see i then s else .absent)::br see (i+1) r
def bk(wr:List Nat):Nat→Mem→Mem→Mem
 |_,[],m' =>m'
 |_,_::_,[]=>[]
 |i,s::r,s' ::r' =>(if wr.contains i then s' else s)::bk wr (i+1) r r'
def dE(mem:Mem) (b:Nat):Bool:=match mem[b]? with
 |some .absent=>false
 |some _=>true
 |none=>false
def cY:Nat→Mem→List Nat
 |_,[]=>[]
 |i,.absent::r=>cY (i+1) r
 |i,_::r=>i::cY (i+1) r
def tK(bs:List Nat) (j:Nat):Nat→List Rec→List Rec
 |_,[]=>[]
 |i,r::rs=>if bef bs i j then tK bs j (i-1) rs else r::tK bs j (i-1) rs
def Ra(bs:List Nat) (j:Nat) (acc:List Rec):Option (List Nat)→Nat→Bool
 |some l=>fun b=>l.contains b
 |none=>let un:=tK bs j (j-1) acc;fun b=> !un.any fun f=>decide (f.mem.length≤b∧b<f.nx.length)
def Qb(tm:Mem):Option Mem→List Nat
 |some _=>cY 0 tm
 |none=>[]
def CS(T:TypeId→Option TyI) (O:Oracle) (N:Nat) (ops:Array Oper) (bs:List Nat) (j:Nat) (o:Oper) (env:Env) (mem:Mem) (acc:List Rec):Option Rec:=
 if AJ N o then
  let en:=(o.looksAt ops).map fun t=>(t,ab env t)
  match pf ops en o with
  |none=>none
  |some false=>some ⟨env,en,mem,br (fun _=>false) 0 mem,.tuple [],br (fun _=>false) 0 mem,mem,false,[]⟩
  |some true=>
   let tm:=br (Ra bs j acc (Jp en o.op)) 0 mem
   match aOp T en tm o.op with
   |some (v,m)=>let wr:=tO en o.op;some ⟨env,en,mem,tm,v,m,bk wr 0 mem m,true,wr⟩
   |none=>match ix en o.op with
    |none=>none
    |some (c,args)=>match O c args tm with
     |none=>none
     |some r=>let wr:=Qb tm r.pre
      some ⟨env,en,mem,tm,r.v,r.mem tm,bk wr 0 mem (r.mem tm),true,wr⟩
 else none
def kx(T:TypeId→Option TyI) (O:Oracle) (N:Nat) (ops:Array Oper) (bs:List Nat):Nat→List Oper→Env→Mem→List Rec→Option (List Rec×Env×Mem)
 |_,[],env,mem,acc=>some (acc.reverse,env,mem)
 |j,o::os,env,mem,acc=>match CS T O N ops bs j o env mem acc with
  |none=>none
  |some r=>kx T O N ops bs (j+1) os (putE env o.dst r.v) r.nx (r::acc)
def fY(top:Nat) (un:List (Nat×Rec)) (b:Nat):Bool:=
 decide (b<top)&&un.all fun f=> !decide (f.2.mem.length≤b∧b<f.2.nx.length)
def aT:Nat→List Rec→List (Nat×Rec)
 |_,[]=>[]
 |i,r::rs=>(i,r)::aT (i+1) rs
def fM(bs:List Nat) (R:List (Nat×Rec)) (j:Nat) (r:Rec):Bool:=
 let un:=R.filter fun f=>decide (f.1<j)&& !bef bs f.1 j
 r.wr.all (fun b=>dE r.tm b)&&
 r.v.refsOk (fY r.nx.length un)&&
 r.wr.all (fun b=>match r.nx[b]? with | some s=>s.refsOk (fY r.nx.length un) | none=>true)&&
 (r.nx.drop r.mem.length).all (fun s=>(s.own||match s with | .absent=>true | _=>false)&&s.refsOk (fY r.nx.length un))&&
 un.all fun f=>f.2.wr.all (fun b=> !dE r.tm b)&&r.wr.all (fun b=> !dE f.2.tm b)&&
  ((r.tm.drop f.2.mem.length).take (f.2.nx.length-f.2.mem.length)).all fun s=>match s with | .absent=>true | _=>false
def aQ(T:TypeId→Option TyI) (O:Oracle) (N m0:Nat) (ops:Array Oper) (s:XS):Option XS:=
 let bs:=ek ops.toList
 match kx T O N ops bs 0 ops.toList s.env s.mem [] with
 |none=>none
 |some (R,env,mem)=>
  let nR:=aT 0 R
  if nR.all fun f=>fM bs nR f.1 f.2 then some ⟨env,mem,s.dirty||R.any fun r=>r.wr.any fun b=>decide (b<m0)⟩ else none
def bW:Code→Bool
 |.region _ ops true=>kL ops (ek ops.toList)
 |.seq a b=>bW a&&bW b
 |.cond _ a b=>bW a&&bW b
 |.block _ b=>bW b
 |.loop b=>bW b
 |.scope b=>bW b
 |.rangeFunc _ _ a b=>bW a&&bW b
 |_=>true
def ad:Code→List Nat
 |.region _ ops _=>ops.toList.filterMap (·.dst)
 |.seq a b=>ad a++ad b
 |.cond _ a b=>ad a++ad b
 |.block _ b=>ad b
 |.loop b=>ad b
 |.scope b=>ad b
 |_=>[]
def az(lv wr:List Nat) (env0 env:Env):Env:=lv.map (fun t=>(t,ab env t))++((wr.filter fun t=> !lv.contains t).map fun t=>(t,AV.undef))++env0
mutual
def AV.refs(m0:Nat):AV→List Nat
 |.ptr b _=>if b<m0 then [] else [b]
 |.slice b _ _ _=>if b<m0 then [] else [b]
 |.map b=>if b<m0 then [] else [b]
 |.yield b=>if b<m0 then [] else [b]
 |.func _ cs=>AV.refsL m0 cs
 |.iface _ v=>v.refs m0
 |.agg cs=>AV.refsL m0 cs
 |.tuple cs=>AV.refsL m0 cs
 |_=>[]
def AV.refsL(m0:Nat):List AV→List Nat
 | []=>[]
 |v::vs=>v.refs m0++AV.refsL m0 vs
end
def Slot.refs(m0:Nat):Slot→List Nat
 |.absent=>[]
 |.cells _ _ cs=>AV.refsL m0 cs
 |.map es=>es.flatMap fun e=>e.1.refs m0++e.2.refs m0
 |.fmap es=>es.flatMap fun e=>e.1.refs m0++e.2.refs m0
 |.loop r=>r.env.flatMap fun e=>e.2.refs m0
def mU(m0:Nat) (mem:Mem):Nat→List Nat→List Nat→List Nat
 |0,_,seen=>seen
 |_,[],seen=>seen
 |k+1,b::todo,seen=>if seen.contains b then mU m0 mem k todo seen else mU m0 mem k (todo++(mem.getD b .absent).refs m0) (seen++[b])
def NC:List Nat→Bool
 |a::b::_=>a==b
 |_=>false
def Ko:List Nat→Bool
 |a::b::c::_=>a==b&&b==c
 |_=>false
def Hc(lv wr:List Nat) (env0:Env) (m1:Nat) (s:XS):XS:=
 let ks:=mU m1 s.mem 1000 ((lv.flatMap fun t=>(ab s.env t).refs m1)++(s.mem.take m1).flatMap (Slot.refs m1)) []
 if AM m1 s.mem.length ks then
  ⟨(lv.filter fun t=>wr.contains t).map (fun t=>(t,(ab s.env t).ren (rho m1 ks)))++((wr.filter fun t=> !lv.contains t).map fun t=>(t,AV.undef))++env0,(s.mem.take m1).map (Slot.ren (rho m1 ks))++keep m1 ks s.mem,true⟩
 else⟨az lv wr env0 s.env,s.mem,s.dirty⟩
def rM(lv wr:List Nat) (env0:Env) (m1:Nat) (s:XS):XS:=
 if Ko lv=true∨s.mem.length≤m1 then⟨az lv wr env0 s.env,s.mem,s.dirty⟩ else
  let ks:=mU m1 s.mem 1000 (lv.flatMap fun t=>(ab s.env t).refs m1) []
  if AM m1 s.mem.length ks&&(s.mem.take m1).all fun s=>(s.refs m1).isEmpty then
   ⟨(lv.filter fun t=>wr.contains t).map (fun t=>(t,(ab s.env t).ren (rho m1 ks)))++((wr.filter fun t=> !lv.contains t).map fun t=>(t,AV.undef))++env0,s.mem.take m1++keep m1 ks s.mem,s.dirty⟩
  else if NC lv then Hc lv wr env0 m1 s
  else⟨az lv wr env0 s.env,s.mem,s.dirty⟩
def fA(lv wr:List Nat) (env0:Env) (m1:Nat) (f:XS→Option (Exit×XS)):Nat→XS→Option (Exit×XS)
 |0,_=>none
 |k+1,s=>match f s with
  |some (.normal,s')=>fA lv wr env0 m1 f k (rM lv wr env0 m1 s')
  |r=>r
def aU(T:TypeId→Option TyI) (lv:Code→List Nat) (O:Oracle) (K N m0:Nat) (tp:Bool):Code→XS→Option (Exit×XS)
 |.skip,s=>some (.normal,s)
 |.region _ ops false,s=>match cO T O N m0 ops ops.toList s with
  |some s' =>some (.normal,s')
  |none=>none
 |.region _ ops true,s=>match aQ T O N m0 ops s with
  |some s' =>some (.normal,s')
  |none=>none
 |.seq a b,s=>match aU T lv O K N m0 tp a s with
  |some (.normal,s')=>aU T lv O K N m0 tp b s'
  |r=>r
 |.cond c a b,s=>match get s.env c with
  |.bool true=>aU T lv O K N m0 tp a s
  |.bool false=>aU T lv O K N m0 tp b s
  |_=>none
 |.block id b,s=>match aU T lv O K N m0 tp b s with
  |some (.exit i,s')=>if i=id then some (.normal,s') else some (.exit i,s')
  |r=>r
 |.loop b,s=>fA (lv b) (ad b) s.env s.mem.length (aU T lv O K N m0 tp b) K ⟨az (lv b) (ad b) s.env s.env,s.mem,s.dirty⟩
 |.exit id,s=>some (.exit id,s)
 |.ret,s=>some (.ret,s)
 |.rangeFunc g ps asg body,s=>
  if tp then
   match get s.env g with
   |.func f caps=>match O (.fn f) (.yield s.mem.length::caps) (s.mem++[.loop ⟨.ready,none,s.env,N,ps,asg,body⟩]) with
    |some r=>
     let mem2:=r.mem (s.mem++[.loop ⟨.ready,none,s.env,N,ps,asg,body⟩])
     match mem2[s.mem.length]? with
     |some (.loop r2)=>if r2.st== .busy then none else match vB r2.pend with
      |some e=>some (e,⟨s.env,mem2.set s.mem.length (.loop { r2 with st:=.exhausted }),s.dirty||r.pre.isSome⟩)
      |none=>none
     |_=>none
    |none=>none
   |_=>none
  else none
 |_,_=>none
def aa(T:TypeId→Option TyI) (lv:Code→List Nat) (G:FuncId→Option Func) (O:Oracle) (K:Nat) (f:FuncId) (args:List AV) (mem:Mem):Option CallRes:=
 match G f with
 |none=>none
 |some fn=>match fn.body with
  |none=>none
  |some c=>
   if args.length≤fn.ntmps then
    match aU T lv O K fn.ntmps mem.length true c ⟨cB 0 args,mem,false⟩ with
    |some (e,s)=>
     match e with
     |.normal | .ret=>
      match gB T fn.results.toList s.env s.mem with
      |some v=>
       let m0:=mem.length
       if s.dirty then
        let ks:=mU m0 s.mem 1000 (v.refs m0++(s.mem.take m0).flatMap (Slot.refs m0)) []
        if AM m0 s.mem.length ks then
         some ⟨v.ren (rho m0 ks),some ((s.mem.take m0).map (Slot.ren (rho m0 ks))),keep m0 ks s.mem⟩
        else none
       else
        let ks:=mU m0 s.mem 1000 (v.refs m0) []
        if AM m0 s.mem.length ks then
         some ⟨v.ren (rho m0 ks),none,keep m0 ks s.mem⟩
        else none
      |none=>none
     |_=>none
    |none=>none
   else none
def uF(T:TypeId→Option TyI) (lv:Code→List Nat) (O:Oracle) (K:Nat) (b:Nat) (args:List AV) (mem:Mem):Option CallRes:=
 match mem[b]? with
 |some (.loop r)=>
  if r.st== .ready&&decide (args.length=r.ps.toList.length)&&r.ps.toList.all (fun t=>decide (t<r.N))&&bW r.assign&&bW r.body then
   match aU T lv O K r.N mem.length false r.assign ⟨vw r.ps.toList args r.env,mem,true⟩ with
   |some (.normal,s1)=>match s1.mem[b]? with
    |some (.loop r1)=>
     if r1.st== .ready then
      match aU T lv O K r.N mem.length false r.body ⟨s1.env,s1.mem.set b (.loop { r1 with st:=.busy }),true⟩ with
      |some (e,s2)=>match oH e,s2.mem[b]? with
       |some j,some (.loop r2)=>
        let m0:=mem.length
        let m3:=s2.mem.set b (.loop { r2 with st:=ku j,pend:=j })
        let ks:=mU m0 m3 1000 ((m3.take m0).flatMap (Slot.refs m0)) []
        if AM m0 s2.mem.length ks then
         some ⟨.bool j.isNone,some ((m3.take m0).map (Slot.ren (rho m0 ks))),keep m0 ks m3⟩
        else none
       |_,_=>none
      |none=>none
     else none
    |_=>none
   |_=>none
  else none
 |_=>none
def AG(T:TypeId→Option TyI) (lv:Code→List Nat) (G:FuncId→Option Func) (O:Oracle) (K:Nat):Nat→Oracle
 |0=>O
 |n+1=>fun c args mem=>match O c args mem with
  |some r=>some r
  |none=>match c with
   |.fn f=>aa T lv G (AG T lv G O K n) K f args mem
   |.yld b=>uF T lv (AG T lv G O K n) K b args mem
structure OracleOk (P:Program) (O:Oracle):Prop where
 fn:∀f args mem r,O (.fn f) args mem=some r→ACallsTo P f args mem r.v (r.mem mem)
 yld:∀b args mem r,O (.yld b) args mem=some r→eD P b args mem r.v (r.mem mem)
 pre:∀c args mem r p,O c args mem=some r→r.pre=some p→p.length=mem.length
section
variable {P:Program}{T:TypeId→Option TyI}{O:Oracle}{mem mem' :Mem}{env:Env}
def Keeps(wr:List Nat) (mem mem' :Mem):Prop:=mem.length≤mem'.length∧∀b:Nat,b<mem.length→b∉wr→mem'[b]? =mem[b]?
theorem Keeps.refl(wr:List Nat) (mem:Mem):Keeps wr mem mem:=⟨Nat.le_refl _,fun _ _ _=>rfl⟩
theorem Keeps.push(wr:List Nat) (mem l:Mem):Keeps wr mem (mem++l):=⟨by simp,fun b hb _=>List.getElem?_append_left hb⟩
theorem Keeps.set(b0:Nat) (s:Slot) (mem:Mem):Keeps [b0] mem (mem.set b0 s):=
 ⟨by simp,fun b _ hn=>List.getElem?_set_ne (fun e=>hn (by simp[e]))⟩
theorem Keeps.setPush(b0:Nat) (s:Slot) (mem l:Mem):Keeps [b0] mem (mem.set b0 s++l):=
 ⟨by simp,fun b hb hn=>by rw[List.getElem?_append_left (by simpa using hb)];exact List.getElem?_set_ne (fun e=>hn (by simp[e]))⟩
theorem sH{t t2:TypeId}{s x v:AV}(h:mh T mem t t2 s x=some (v,mem')):Keeps (fl s) mem mem' :=by
 unfold mh at h
 repeat' split at h
 all_goals first
  |(cases h;done)
  |(cases h;exact .refl _ _)
  |(cases h;exact .push _ _ _)
  |(cases h;exact .set _ _ _)
  |(cases h;exact .setPush _ _ _ _)
theorem Gu{t:TypeId}{x v:AV}(h:qp T mem t x v=some mem'):Keeps (OI x) mem mem' :=by
 unfold qp at h
 repeat' split at h
 all_goals first
  |(cases h;done)
  |(cases h;rename_i hx _ _ _;exact .set _ _ _)
theorem xa{t:TypeId}{m k v:AV}(h:dI T mem t m k v=some mem'):Keeps (JE m) mem mem' :=by
 unfold dI at h
 repeat' split at h
 all_goals first
  |(cases h;done)
  |(cases h;exact .set _ _ _)
theorem yH{t:TypeId}{m k v:AV}(h:od T mem t m k=some (v,mem')):Keeps (JE m) mem mem' :=by
 unfold od at h
 repeat' split at h
 all_goals first
  |(cases h;done)
  |(cases h;exact .set _ _ _)
theorem uz{m s v:AV}(h:jj mem m s v=some mem'):Keeps (JE m) mem mem' :=by
 unfold jj at h
 repeat' split at h
 all_goals first
  |(cases h;done)
  |(cases h;exact .set _ _ _)
theorem Gj{e:TypeId}{v:AV}{l:List Nat}(h:qo T mem e=some (v,mem')):Keeps l mem mem' :=by
 unfold qo at h;split at h<;>cases h;exact .push _ _ _
theorem LB{x v:AV}{l:List Nat}(h:Rs mem x=some (v,mem')):Keeps l mem mem' :=by
 unfold Rs at h;split at h<;>cases h;exact .push _ _ _
theorem ux{t:TypeId}{n:Nat}{ps} {v:AV}{l:List Nat}(h:ej T mem t n ps=some (v,mem')):Keeps l mem mem' :=by
 unfold ej at h
 repeat' split at h
 all_goals first
  |(cases h;done)
  |(cases h;exact .push _ _ _)
theorem w8{t:TypeId}{x y:AV}{v:AV}{l:List Nat}(h:iW T mem t x y=some (v,mem')):Keeps l mem mem' :=by
 unfold iW at h
 repeat' split at h
 all_goals first
  |(cases h;done)
  |(cases h;exact .push _ _ _)
theorem Cv{pt:TypeId}{x l v:AV}(h:uC T mem pt x l=some (v,mem')):Keeps (OI x) mem mem' :=by
 unfold uC at h
 repeat' split at h
 all_goals first
  |(cases h;done)
  |(cases h;exact .set _ _ _)
theorem wV{s d:TypeId}{x v:AV}{l:List Nat}(h:kG T mem s d x=some (v,mem')):Keeps l mem mem' :=by
 unfold kG at h
 repeat' split at h
 all_goals first
  |(cases h;done)
  |(cases h;exact .push _ _ _)
theorem AD{t:TypeId}{s x v:AV}{l:List Nat}(h:sG T mem t s x=some (v,mem')):Keeps l mem mem' :=by
 unfold sG at h
 repeat' split at h
 all_goals first
  |(cases h;done)
  |(cases h;exact .push _ _ _)
theorem Gn{t:TypeId}{x:AV}(h:Gm T mem t x=some mem'):Keeps (fl x) mem mem' :=by
 unfold Gm at h
 repeat' split at h
 all_goals first
  |(cases h;done)
  |(cases h;exact .refl _ _)
  |(cases h;exact .set _ _ _)
theorem AA{t t2:TypeId}{s x v:AV}(h:pj T mem t t2 s x=some (v,mem')):Keeps (fl s) mem mem' :=by
 unfold pj at h
 repeat' split at h
 all_goals first
  |(cases h;done)
  |(cases h;exact .set _ _ _)
theorem sI{t:TypeId}{x v:AV}{lo hi:Option AV}{l:List Nat}(h:uB T mem t x lo hi=some (v,mem')):Keeps l mem mem' :=by
 unfold uB at h
 repeat' split at h
 all_goals first
  |(cases h;done)
  |(cases h;exact .push _ _ _)
theorem Gs{op:Op}{v:AV}(h:aOp T env mem op=some (v,mem')):Keeps (tO env op) mem mem' :=by
 unfold aOp at h
 repeat' split at h
 all_goals first
  |(cases h;done)
  |(cases h;exact .refl _ _)
  |exact sI h
  |(rename_i h1;cases h;exact sI h1)
  |exact AA h
  |exact Gj h
  |exact LB h
  |exact ux h
  |exact w8 h
  |exact sH h
  |(rename_i h1;cases h;exact sH h1)
  |exact AD h
  |exact wV h
  |exact Cv h
  |exact yH h
  |(cases h;exact .push _ _ _)
  |(rename_i h1;cases h;first | exact Gu h1 | exact xa h1 | exact uz h1 | exact Gn h1)
theorem kH{wr:List Nat}{m0:Nat}(h:(wr.any fun b=>decide (b<m0))=false) {b:Nat}(hb:b<m0):b∉wr:=by
 intro hm
 have:=List.any_eq_false.1 h b hm
 simp[hb] at this
theorem rU{m0:Nat}(h1:m0≤mem.length) (h2:m0≤mem'.length) (h:∀b,b<m0→mem'[b]? =mem[b]?):mem'.take m0=mem.take m0:=by
 apply List.ext_getElem?
 intro b
 by_cases hb:b<m0
 ·rw[List.getElem?_take_of_lt hb,List.getElem?_take_of_lt hb,h b hb]
 ·rw[List.getElem?_eq_none (by simp;omega),List.getElem?_eq_none (by simp;omega)]
def Clean(m0:Nat) (mem:Mem) (d:Bool) (mem' :Mem) (d' :Bool):Prop:=m0≤mem.length→m0≤mem'.length∧(d' =false→d=false∧mem'.take m0=mem.take m0)
theorem Clean.refl(m0:Nat) (mem:Mem) (d:Bool):Clean m0 mem d mem d:=fun h=>⟨h,fun e=>⟨e,rfl⟩⟩
theorem Clean.trans{m0:Nat}{m1 m2 m3:Mem}{d1 d2 d3:Bool}(h:Clean m0 m1 d1 m2 d2) (h' :Clean m0 m2 d2 m3 d3):Clean m0 m1 d1 m3 d3:=fun hm=>by
 obtain⟨a1,a2⟩:=h hm
 obtain⟨b1,b2⟩:=h' a1
 refine⟨b1,fun e=>?_⟩
 obtain⟨c1,c2⟩:=b2 e
 obtain⟨c3,c4⟩:=a2 c1
 exact⟨c3,c2.trans c4⟩
theorem Keeps.clean{wr:List Nat}{m0:Nat}{d:Bool}(h:Keeps wr mem mem'):Clean m0 mem d mem' (d||wr.any fun b=>decide (b<m0)):=fun hm=>by
 have hl:=Nat.le_trans hm h.1
 refine⟨hl,fun e=>?_⟩
 simp only[Bool.or_eq_false_iff] at e
 exact⟨e.1,rU hm hl fun b hb=>h.2 b (by omega) (kH e.2 hb)⟩
theorem Gy{op:Op}{f:FuncId}{args:List AV}(h:ix env op=some (.fn f,args)):CB env op=some (f,args):=by
 unfold ix at h
 split at h
 ·split at h
  ·cases h;rename_i hx;simp[CB,hx]
  ·cases h
  ·cases h
 ·cases h
theorem Cx{op:Op}{b:Nat}{args:List AV}(h:ix env op=some (.yld b,args)):xL env op=some (b,args):=by
 unfold ix at h
 split at h
 ·split at h
  ·cases h
  ·cases h;rename_i hx;simp[xL,hx]
  ·cases h
 ·cases h
theorem zy(hO:OracleOk P O) {o:Oper}{c:Callee}{args:List AV}{r:CallRes}(hc:ix env o.op=some (c,args)) (h:O c args mem=some r):
  tT P T env mem o r.v (r.mem mem):=by
 cases c with
 |fn f=>exact .inr (.inl ⟨f,args,Gy hc,hO.fn _ _ _ _ h⟩)
 |yld b=>exact .inr (.inr ⟨b,args,Cx hc,hO.yld _ _ _ _ h⟩)
theorem uT(hO:OracleOk P O) {c:Callee}{args:List AV}{r:CallRes}(h:O c args mem=some r):mem.length≤(r.mem mem).length:=by
 unfold CallRes.mem
 cases hp:r.pre with
 |none=>simp
 |some p=>have:=hO.pre _ _ _ _ p h hp;simp;omega
theorem Jv(hO:OracleOk P O) {m0:Nat}{d d' :Bool}{o:Oper}{v:AV}(h:Qc T O m0 env mem d o=some (v,mem',d')):
  tT P T env mem o v mem' ∧Clean m0 mem d mem' d' :=by
 unfold Qc at h
 split at h
 ·rename_i v' m' h1
  cases h
  exact⟨.inl h1,(Gs h1).clean⟩
 ·split at h
  ·rename_i c args hc
   split at h
   ·rename_i r hr
    cases h
    refine⟨zy hO hc hr,fun hm=>⟨Nat.le_trans hm (uT hO hr),fun e=>?_⟩⟩
    simp only[Bool.or_eq_false_iff,Option.isSome_eq_false_iff,Option.isNone_iff_eq_none] at e
    refine⟨e.1,?_⟩
    unfold CallRes.mem
    rw[e.2]
    simp[List.take_append_of_le_length hm]
   ·cases h
  ·cases h
theorem iF(hO:OracleOk P O) {N m0:Nat}{ops:Array Oper}:∀{l:List Oper}{s s' :XS},cO T O N m0 ops l s=some s' →
  kg P T N ops l ⟨s.env,s.mem⟩ ⟨s'.env,s'.mem⟩∧Clean m0 s.mem s.dirty s'.mem s'.dirty
 | [],s,s',h=>by cases h;exact⟨rfl,.refl _ _ _⟩
 |o::os,s,s',h=>by
  unfold cO at h
  split at h
  ·rename_i hd
   split at h
   ·rename_i hw
    split at h
    ·rename_i v m dt h1
     obtain⟨a1,a2⟩:=Jv hO h1
     obtain⟨b1,b2⟩:=iF hO h
     exact⟨⟨true,hw,hd,(fun e=>by cases e),fun _=>⟨v,m,a1,b1⟩⟩,a2.trans b2⟩
    ·cases h
   ·rename_i hw
    obtain⟨b1,b2⟩:=iF hO h
    exact⟨⟨false,hw,hd,(fun _=>b1),(fun e=>by cases e)⟩,b2⟩
   ·cases h
  ·cases h
end
end Go.Eng
namespace Go.Eng
section
variable {P:Program}{T:TypeId→Option TyI}{O:Oracle}{N:Nat}{ops:Array Oper}
theorem fw(see:Nat→Bool):∀(i:Nat) (m:Mem),(br see i m).length=m.length
 |_,[]=>rfl
 |i,s::r=>by simp[br,fw see (i+1) r]
theorem iX(see:Nat→Bool):∀(i:Nat) (m:Mem) (b:Nat),(br see i m)[b]? =m[b]? ∨(br see i m)[b]? =some .absent
 |_,[],b=>.inl rfl
 |i,s::r,0=>by
  simp only[br,List.getElem?_cons_zero]
  split
  ·exact .inl rfl
  ·exact .inr rfl
 |i,s::r,b+1=>by
  simp only[br,List.getElem?_cons_succ]
  exact iX see (i+1) r b
theorem zq:∀(i:Nat) (m:Mem) (b:Nat),¬fO (br (fun _=>false) i m) b
 |_,[],b=>by rintro ⟨s,h,_⟩;simp[br] at h
 |i,s::r,0=>by rintro ⟨s,h,h'⟩;simp[br] at h;exact h' h.symm
 |i,s::r,b+1=>by
  rintro ⟨s,h,h'⟩
  simp only[br,List.getElem?_cons_succ] at h
  exact zq (i+1) r b ⟨s,h,h'⟩
theorem kv(wr:List Nat):∀(i:Nat) (m m' :Mem),m.length≤m'.length→(bk wr i m m').length=m'.length
 |_,[],m',_=>rfl
 |_,_::_,[],h=>by simp at h
 |i,s::r,s' ::r',h=>by simp only[bk,List.length_cons] at h ⊢;rw[kv wr (i+1) r r' (by omega)]
theorem rK(wr:List Nat):∀(i:Nat) (m m' :Mem) (b:Nat),m.length≤m'.length→(bk wr i m m')[b]? =if i+b∈wr∨m.length≤b then m'[b]? else m[b]?
 |_,[],m',b,_=>by simp[bk]
 |_,_::_,[],_,h=>by simp at h
 |i,s::r,s' ::r',0,h=>by
  simp only[bk,List.getElem?_cons_zero,List.contains_iff_mem,Nat.add_zero,List.length_cons,Nat.le_zero_eq,Nat.add_one_ne_zero,or_false]
  split<;>rfl
 |i,s::r,s' ::r',b+1,h=>by
  simp only[List.length_cons] at h
  simp only[bk,List.getElem?_cons_succ]
  rw[rK wr (i+1) r r' b (by omega)]
  simp only[List.length_cons,Nat.add_le_add_iff_right]
  rw[show i+1+b=i+(b+1) by omega]
theorem rG{m:Mem}{b:Nat}:dE m b=true↔fO m b:=by
 unfold dE fO
 cases h:m[b]? with
 |none=>simp
 |some s=>cases s<;>simp
theorem AO:∀(i:Nat) (m:Mem) (b:Nat),i+b∈cY i m↔fO m b:=by
 intro i m
 induction m generalizing i with
 |nil=>intro b;simp[cY,fO]
 |cons s r ih=>
  intro b
  have hlow:∀(i:Nat) (m:Mem) (x:Nat),x∈cY i m→i≤x:=by
   intro i m
   induction m generalizing i with
   |nil=>intro x h;simp[cY] at h
   |cons s r ih=>
    intro x h
    have:x∈cY (i+1) r∨x=i:=by
     cases s<;>simp only[cY,List.mem_cons] at h<;>first | exact .inl h | exact h.symm
    rcases this with h | h
    ·have:=ih (i+1) x h;omega
    ·omega
  cases b with
  |zero=>
   have hn:¬(i+0∈cY (i+1) r):=fun h=>by have:=hlow _ _ _ h;omega
   cases s<;>simp[cY,fO]<;>simpa using hn
  |succ b=>
   have:=ih (i+1) b
   rw[show i+1+b=i+(b+1) by omega] at this
   have hB:fO (s::r) (b+1)↔fO r b:=by simp[fO]
   rw[hB,←this]
   cases s<;>simp[cY]
structure RecOk (P:Program) (T:TypeId→Option TyI) (N:Nat) (ops:Array Oper) (r:Rec) (o:Oper):Prop where
 dst:AJ N o=true
 wanted:pf ops r.en o=some r.wb
 en:r.en=(o.looksAt ops).map fun t=>(t,ab r.env t)
 step:r.wb=true→tT P T r.en r.tm o r.v r.m'
 skip:r.wb=false→r.v=.tuple []∧r.m' =r.tm
 tlen:r.tm.length=r.mem.length
 tmask:∀b:Nat,r.tm[b]? =r.mem[b]? ∨r.tm[b]? =some .absent
 mono:r.mem.length≤r.m'.length
 nxlen:r.nx.length=r.m'.length
 nx:∀b:Nat,r.nx[b]? =if b∈r.wr∨r.mem.length≤b then r.m'[b]? else r.mem[b]?
 keep:∀b:Nat,b<r.mem.length→b∉r.wr→fO r.tm b→r.m'[b]? =r.mem[b]?
theorem A6{mem tm:Mem}(h:∀b:Nat,tm[b]? =mem[b]? ∨tm[b]? =some .absent) {b:Nat}(hb:fO tm b):tm[b]? =mem[b]? :=by
 rcases h b with e | e
 ·exact e
 ·obtain⟨s,h1,h2⟩:=hb
  rw[h1] at e;cases e;exact absurd rfl h2
theorem CT(hO:OracleOk P O) {bs:List Nat}{j:Nat}{o:Oper}{env:Env}{mem:Mem}{acc:List Rec}{r:Rec}(h:CS T O N ops bs j o env mem acc=some r):
  r.env=env∧r.mem=mem∧RecOk P T N ops r o:=by
 unfold CS at h
 split at h
 ·rename_i hd
  simp only at h
  split at h
  ·cases h
  ·rename_i hw
   cases h
   refine⟨rfl,rfl,hd,hw,rfl,(fun e=>by cases e),(fun _=>⟨rfl,rfl⟩),fw _ _ _,(fun b=>iX _ _ _ _),by simp[fw],by simp[fw],fun b=>?_,fun b _ _ hb=>absurd hb (zq _ _ _)⟩
   simp only[List.not_mem_nil,false_or]
   split
   ·rename_i hle
    rw[List.getElem?_eq_none hle,List.getElem?_eq_none (by rw[fw];exact hle)]
   ·rfl
  ·rename_i hw
   generalize Ra bs j acc (Jp (List.map (fun t=>(t,ab env t)) (o.looksAt ops)) o.op)=see at h
   have htl:(br see 0 mem).length=mem.length:=fw _ _ _
   split at h
   ·rename_i v m h1
    cases h
    have hk:=Gs h1
    rw[Keeps,htl] at hk
    refine⟨rfl,rfl,hd,hw,rfl,fun _=>.inl h1,(fun e=>by cases e),htl,fun b=>iX _ _ _ _,hk.1,kv _ _ _ _ hk.1,fun b=>?_,fun b hb hn hbd=>?_⟩
    ·have:=rK (tO (List.map (fun t=>(t,ab env t)) (o.looksAt ops)) o.op) 0 mem m b hk.1
     rw[Nat.zero_add] at this;exact this
    ·rw[hk.2 b hb hn];exact A6 (fun b=>iX see 0 mem b) hbd
   ·split at h
    ·cases h
    ·rename_i c args hc
     split at h
     ·cases h
     ·rename_i res hres
      simp only[Option.some.injEq] at h
      subst h
      have hlen:=uT hO hres
      rw[htl] at hlen
      refine⟨rfl,rfl,hd,hw,rfl,fun _=>zy hO hc hres,(fun e=>by cases e),htl,fun b=>iX _ _ _ _,hlen,kv _ _ _ _ hlen,fun b=>?_,fun b hb hn hbd=>?_⟩
      ·have:=rK (Qb (br see 0 mem) res.pre) 0 mem (res.mem (br see 0 mem)) b hlen
       rw[Nat.zero_add] at this;exact this
      ·cases hp:res.pre with
       |some p=>
        exfalso
        apply hn
        show b∈Qb (br see 0 mem) res.pre
        rw[hp]
        show b∈cY 0 (br see 0 mem)
        have:=(AO 0 (br see 0 mem) b).2 hbd
        rwa [Nat.zero_add] at this
       |none=>
        show(res.mem (br see 0 mem))[b]? =mem[b]?
        unfold CallRes.mem
        rw[hp]
        simp only[Option.getD_none]
        rw[List.getElem?_append_left (by rw[htl];exact hb)]
        exact A6 (fun b=>iX see 0 mem b) hbd
 ·cases h
def jI(P:Program) (T:TypeId→Option TyI) (N:Nat) (ops:Array Oper):List Oper→Env→Mem→List Rec→Env→Mem→Prop
 | [],env,mem,[],env',mem' =>env' =env∧mem' =mem
 |o::os,env,mem,r::rs,env',mem' =>r.env=env∧r.mem=mem∧RecOk P T N ops r o∧jI P T N ops os (putE env o.dst r.v) r.nx rs env' mem'
 |_,_,_,_,_,_=>False
theorem mF(hO:OracleOk P O) {bs:List Nat}:∀{l:List Oper} {j:Nat} {env:Env} {mem:Mem} {acc R:List Rec}{env' :Env}{mem' :Mem},
  kx T O N ops bs j l env mem acc=some (R,env',mem')→∃rs,R=acc.reverse++rs∧jI P T N ops l env mem rs env' mem'
 | [],j,env,mem,acc,R,env',mem',h=>by
  simp only[kx,Option.some.injEq,Prod.mk.injEq] at h
  obtain⟨rfl,rfl,rfl⟩:=h
  exact⟨[],by simp,rfl,rfl⟩
 |o::os,j,env,mem,acc,R,env',mem',h=>by
  unfold kx at h
  split at h
  ·cases h
  ·rename_i r hr
   obtain⟨h1,h2,h3⟩:=CT hO hr
   obtain⟨rs,e,h4⟩:=mF hO h
   exact⟨r::rs,by rw[e];simp,h1,h2,h3,h4⟩
def My(R:List Rec) (fin:Env×Mem) (j:Nat):Env×Mem:=match R[j]? with
 |some r=>(r.env,r.mem)
 |none=>fin
theorem vR:∀{l:List Oper} {env:Env} {mem:Mem} {R:List Rec}{env' :Env}{mem' :Mem},jI P T N ops l env mem R env' mem' →R.length=l.length
 | [],_,_,[],_,_,_=>rfl
 |_::_,_,_,_::_,_,_,h=>by simp only[List.length_cons];rw[vR h.2.2.2]
 | [],_,_,_::_,_,_,h=>h.elim
 |_::_,_,_,[],_,_,h=>h.elim
theorem tD:∀{l:List Oper} {env:Env} {mem:Mem} {R:List Rec}{env' :Env}{mem' :Mem},jI P T N ops l env mem R env' mem' →My R (env',mem') 0=(env,mem)
 | [],_,_,[],_,_,h=>by obtain⟨rfl,rfl⟩:=h;rfl
 |_::_,_,_,_::_,_,_,h=>by obtain⟨rfl,rfl,_⟩:=h;rfl
 | [],_,_,_::_,_,_,h=>h.elim
 |_::_,_,_,[],_,_,h=>h.elim
theorem zG:∀{l:List Oper} {env:Env} {mem:Mem} {R:List Rec}{env' :Env}{mem' :Mem},jI P T N ops l env mem R env' mem' →∀(j:Nat) (o:Oper),l[j]? =some o→
  ∃r,R[j]? =some r∧RecOk P T N ops r o∧My R (env',mem') (j+1)=(putE r.env o.dst r.v,r.nx)
 |o::os,_,_,r::rs,env',mem',h,0,o',ho=>by
  cases ho
  obtain⟨rfl,rfl,h3,h4⟩:=h
  exact⟨r,rfl,h3,tD h4⟩
 |o::os,_,_,r::rs,env',mem',h,j+1,o',ho=>by
  obtain⟨_,_,_,h4⟩:=h
  obtain⟨r',g1,g2,g3⟩:=zG h4 j o' ho
  exact⟨r',g1,g2,g3⟩
 | [],_,_,_,_,_,_,j,_,ho=>by simp at ho
 |_::_,_,_,[],_,_,h,_,_,_=>h.elim
theorem jY:∀(i:Nat) (R:List Rec) (j:Nat) (r:Rec),R[j]? =some r→(i+j,r)∈aT i R
 |i,x::xs,0,r,h=>by cases h;simp[aT]
 |i,x::xs,j+1,r,h=>by
  simp only[List.getElem?_cons_succ] at h
  have:=jY (i+1) xs j r h
  rw[show i+1+j=i+(j+1) by omega] at this
  simp[aT,this]
 |_,[],_,_,h=>by simp at h
end
end Go.Eng
namespace Go.Eng
section
variable {P:Program}{T:TypeId→Option TyI}{O:Oracle}{N:Nat}{ops:Array Oper}
def Qp(bs:List Nat) (R:List Rec) (j:Nat):List (Nat×Rec):=(aT 0 R).filter fun f=>decide (f.1<j)&& !bef bs f.1 j
def mq(n:Nat) (bs:List Nat) (R:List Rec) (fin:Env×Mem):DrawData where
 E j:=(My R fin j).1
 M j:=(My R fin j).2
 En j:=match R[j]? with | some r=>r.en | none=>[]
 Tm j:=match R[j]? with | some r=>r.tm | none=>[]
 M' j:=match R[j]? with | some r=>r.m' | none=>[]
 v j:=match R[j]? with | some r=>r.v | none=>.undef
 wb j:=match R[j]? with | some r=>r.wb | none=>false
 touch j b:=match R[j]? with | some r=>decide (b∈r.wr)||decide (r.mem.length≤b) | none=>false
 ok j b:=match R[j]? with | some r=>fY r.nx.length (Qp bs R j) b | none=>false
 cl i j:=decide (i<n)&&bef bs i j
theorem yX{bs:List Nat}(h:kL ops bs=true) {j:Nat}{o:Oper}(ho:ops[j]? =some o):
  (∀e∈o.after,Region.binds .any e=true→e.on<j)∧
  (∀i,i<ops.size→bef bs i j=true→∃e∈o.after,Region.binds .any e=true∧(e.on=i∨bef bs i e.on=true))∧
  ∀(i:Nat) oi t,ops[i]? =some oi→i≠j→oi.dst=some t→(t∈o.looksAt ops∨o.dst=some t)→bef bs i j=true∨bef bs j i=true:=by
 have hj:j<ops.size:=(Array.getElem?_eq_some_iff.1 ho).1
 unfold kL at h
 have:=List.all_eq_true.1 h j (by simpa using hj)
 simp only[ho,Bool.and_eq_true,List.all_eq_true,List.mem_range] at this
 obtain⟨h1,h2⟩:=this
 refine⟨fun e he hb=>?_,fun i hi hb=>?_,fun i oi t hi hne ht hor=>?_⟩
 ·have:=h1 e (by simpa using he)
  simpa [hb] using this
 ·have:=(h2 i hi).1
  simp only[hb,Bool.not_true,Bool.false_or,List.any_eq_true] at this
  obtain⟨e,he,hx⟩:=this
  simp only[Bool.and_eq_true,Bool.or_eq_true,beq_iff_eq] at hx
  exact⟨e,by simpa using he,hx.1,hx.2⟩
 ·have hil:i<ops.size:=(Array.getElem?_eq_some_iff.1 hi).1
  have:=(h2 i hil).2
  simp only[hi,ht,Bool.or_eq_true,beq_iff_eq,hne,false_or,Bool.and_eq_true,Bool.not_eq_true',List.contains_eq_mem,decide_eq_false_iff_not] at this
  rcases this with (h3 | h3) | ⟨h3,h4⟩
  ·exact .inl h3
  ·exact .inr h3
  ·rcases hor with h5 | h5
   ·exact absurd h5 h3
   ·rw[h5] at h4;simp at h4
structure CheckOk (bs:List Nat) (R:List Rec) (j:Nat) (r:Rec):Prop where
 wr:∀b∈r.wr,fO r.tm b
 refsV:r.v.refsOk (fY r.nx.length (Qp bs R j))=true
 refsW:∀(b:Nat) s,b∈r.wr→r.nx[b]? =some s→s.refsOk (fY r.nx.length (Qp bs R j))=true
 fresh:∀(b:Nat) s,r.mem.length≤b→r.nx[b]? =some s→(s≠ .absent→s.own=true)∧s.refsOk (fY r.nx.length (Qp bs R j))=true
 pairs:∀(i:Nat) f,i<j→R[i]? =some f→bef bs i j=false→(∀b∈f.wr,¬fO r.tm b)∧(∀b∈r.wr,¬fO f.tm b)∧∀b,f.mem.length≤b→b<f.nx.length→¬fO r.tm b
theorem CE{bs:List Nat}{R:List Rec}{j:Nat}{r:Rec}(h:fM bs (aT 0 R) j r=true):CheckOk bs R j r:=by
 unfold fM at h
 simp only[Bool.and_eq_true] at h
 obtain⟨⟨⟨⟨h1,h2⟩,h3⟩,h4⟩,h5⟩:=h
 refine⟨fun b hb=>rG.1 (List.all_eq_true.1 h1 b hb),h2,fun b s hb hs=>?_,fun b s hb hs=>?_,fun i f hi hf hb=>?_⟩
 ·have:=List.all_eq_true.1 h3 b hb
  rw[hs] at this
  exact this
 ·have hm:s∈r.nx.drop r.mem.length:=by
   apply List.mem_of_getElem? (i:=b-r.mem.length)
   rw[List.getElem?_drop,←hs]
   congr 1;omega
  have:=List.all_eq_true.1 h4 s hm
  simp only[Bool.and_eq_true,Bool.or_eq_true] at this
  refine⟨fun hne=>?_,this.2⟩
  rcases this.1 with h | h
  ·exact h
  ·cases s<;>simp_all
 ·have hmem:(i,f)∈Qp bs R j:=by
   unfold Qp
   rw[List.mem_filter]
   have:=jY 0 R i f hf
   rw[Nat.zero_add] at this
   exact⟨this,by simp[hi,hb]⟩
  have:=List.all_eq_true.1 h5 (i,f) hmem
  simp only[Bool.and_eq_true,List.all_eq_true,Bool.not_eq_true'] at this
  obtain⟨⟨k1,k2⟩,k3⟩:=this
  refine⟨fun b hb hB=>?_,fun b hb hB=>?_,fun b hb1 hb2 hB=>?_⟩
  ·have:=k1 b hb;rw[rG.2 hB] at this;cases this
  ·have:=k2 b hb;rw[rG.2 hB] at this;cases this
  ·obtain⟨s,hs,hne⟩:=hB
   have hm:s∈(r.tm.drop f.mem.length).take (f.nx.length-f.mem.length):=by
    apply List.mem_of_getElem? (i:=b-f.mem.length)
    rw[List.getElem?_take_of_lt (by omega),List.getElem?_drop,←hs]
    congr 1;omega
   have:=k3 s hm
   cases s<;>simp_all
theorem Bg{env:Env}:∀(l:List Tmp) (t:Nat),(t∈l∧ab (l.map fun t=>(t,ab env t)) t=ab env t)∨(t∉l∧ab (l.map fun t=>(t,ab env t)) t=.undef)
 | [],t=>.inr ⟨by simp,rfl⟩
 |x::xs,t=>by
  simp only[List.map_cons,ab]
  by_cases hx:x=t
  ·subst hx;exact .inl ⟨by simp,by simp⟩
  ·simp only[hx,if_false]
   rcases Bg (env:=env) xs t with⟨h1,h2⟩ | ⟨h1,h2⟩
   ·exact .inl ⟨by simp[h1],h2⟩
   ·exact .inr ⟨by simp[h1,Ne.symm hx],h2⟩
theorem PH{m:Mem}{b:Nat}(h:fO m b):b<m.length:=by
 obtain⟨s,h,_⟩:=h
 exact(List.getElem?_eq_some_iff.1 h).1
theorem PB{bs:List Nat}{R:List Rec}{env env' :Env}{mem mem' :Mem}(hs:kL ops bs=true) (hR:jI P T N ops ops.toList env mem R env' mem')
  (hC:∀(j:Nat) r,R[j]? =some r→CheckOk bs R j r):qe P T N ops (mq ops.size bs R (env',mem')):=by
 have at_:∀(j:Nat) o,ops[j]? =some o→∃r,R[j]? =some r∧RecOk P T N ops r o∧My R (env',mem') (j+1)=(putE r.env o.dst r.v,r.nx):=
  fun j o ho=>zG hR j o (by simpa using ho)
 have M_at:∀(j:Nat) r,R[j]? =some r→(mq ops.size bs R (env',mem')).M j=r.mem:=fun j r h=>by simp[mq,My,h]
 have lens:∀(i:Nat) ri oi,ops[i]? =some oi→R[i]? =some ri→∀(k j:Nat) rj oj,j=i+1+k→ops[j]? =some oj→R[j]? =some rj→ri.nx.length≤rj.mem.length:=by
  intro i ri oi hoi hri k
  induction k with
  |zero=>
   intro j rj oj hj hoj hrj
   obtain⟨r,g1,g2,g3⟩:=at_ i oi hoi
   rw[hri] at g1;cases g1
   have:My R (env',mem') (i+1)=(rj.env,rj.mem):=by rw[show i+1=j by omega];simp[My,hrj]
   rw[this] at g3
   have:=congrArg Prod.snd g3
   simp only at this
   rw[this];exact Nat.le_refl _
  |succ k ih=>
   intro j rj oj hj hoj hrj
   have hjs:j<ops.size:=(Array.getElem?_eq_some_iff.1 hoj).1
   obtain⟨op,hop⟩:=xm (ops:=ops) (j:=j-1) (by omega)
   obtain⟨r,g1,g2,g3⟩:=at_ (j-1) op hop
   have h1:=ih (j-1) r op (by omega) hop g1
   have:My R (env',mem') (j-1+1)=(rj.env,rj.mem):=by rw[show j-1+1=j by omega];simp[My,hrj]
   rw[this] at g3
   have e:=congrArg Prod.snd g3
   simp only at e
   have:=g2.nxlen
   have:=g2.mono
   rw[e];omega
 have lens' :∀(i j:Nat) ri rj oi oj,i<j→ops[i]? =some oi→ops[j]? =some oj→R[i]? =some ri→R[j]? =some rj→ri.nx.length≤rj.mem.length:=
  fun i j ri rj oi oj hij hoi hoj hri hrj=>lens i ri oi hoi hri (j-i-1) j rj oj (by omega) hoj hrj
 intro j o ho
 obtain⟨r,hr,K,hnext⟩:=at_ j o ho
 have C:=hC j r hr
 have S:=yX hs ho
 have hjs:j<ops.size:=(Array.getElem?_eq_some_iff.1 ho).1
 have eM:(mq ops.size bs R (env',mem')).M j=r.mem:=M_at j r hr
 have eM1:(mq ops.size bs R (env',mem')).M (j+1)=r.nx:=by simp[mq,hnext]
 have eE:(mq ops.size bs R (env',mem')).E j=r.env:=by simp[mq,My,hr]
 have eE1:(mq ops.size bs R (env',mem')).E (j+1)=putE r.env o.dst r.v:=by simp[mq,hnext]
 have eEn:(mq ops.size bs R (env',mem')).En j=r.en:=by simp[mq,hr]
 have eT:(mq ops.size bs R (env',mem')).Tm j=r.tm:=by simp[mq,hr]
 have eM' :(mq ops.size bs R (env',mem')).M' j=r.m' :=by simp[mq,hr]
 have ev:(mq ops.size bs R (env',mem')).v j=r.v:=by simp[mq,hr]
 have ew:(mq ops.size bs R (env',mem')).wb j=r.wb:=by simp[mq,hr]
 have etouch:∀b,(mq ops.size bs R (env',mem')).touch j b=true↔b∈r.wr∨r.mem.length≤b:=fun b=>by simp[mq,hr]
 have etouchF:∀b,(mq ops.size bs R (env',mem')).touch j b=false↔b∉r.wr∧b<r.mem.length:=fun b=>by simp[mq,hr]
 have eok:(mq ops.size bs R (env',mem')).ok j=fY r.nx.length (Qp bs R j):=by funext b;simp[mq,hr]
 have ecl:∀i k,i<ops.size→(mq ops.size bs R (env',mem')).cl i k=bef bs i k:=fun i k hi=>by simp[mq,hi]
 have hmono:r.mem.length≤r.nx.length:=by rw[K.nxlen];exact K.mono
 refine⟨by rw[eEn,ew];exact K.wanted,K.dst,?_,?_,by rw[eE1,eE,ev],?_,?_,by rw[eT,eM];exact K.tlen,by rw[eT,eM];exact K.tmask,by rw[eM1,eM'];exact K.nxlen,by rw[eM,eM1];exact hmono,
  ?_,?_,?_,?_,?_,?_,?_,?_,?_,?_,S.1,?_⟩
 ·rw[ew,eEn,eT,ev,eM'];exact K.step
 ·rw[ew,ev,eM',eT];exact K.skip
 ·intro t
  rw[eEn,eE,K.en]
  rcases Bg (env:=r.env) (o.looksAt ops) t with⟨h1,h2⟩ | ⟨h1,h2⟩
  ·refine .inr ⟨h2,fun i oi hi hne ht=>?_⟩
   rw[ecl i j (Array.getElem?_eq_some_iff.1 hi).1,ecl j i hjs]
   exact S.2.2 i oi t hi hne ht (.inl h1)
  ·exact .inl h2
 ·intro i oi t hi hne h1 h2
  rw[ecl i j (Array.getElem?_eq_some_iff.1 hi).1,ecl j i hjs]
  exact S.2.2 i oi t hi hne h2 (.inr h1)
 ·intro b hb
  rw[eM1,eM',K.nx b,if_pos ((etouch b).1 hb)]
 ·intro b hb ht
  rw[eM] at hb
  rw[eM1,eM,K.nx b,if_neg]
  rw[etouchF] at ht
  rintro (h | h)
  ·exact ht.1 h
  ·omega
 ·intro b hb ht hB
  rw[eM] at hb
  rw[eM',eM]
  rw[etouchF] at ht
  rw[eT] at hB
  exact K.keep b hb ht.1 hB
 ·intro b hb
  rw[eM] at hb
  exact(etouch b).2 (.inr hb)
 ·intro b ht hb
  rw[eM] at hb
  rw[eT]
  rcases (etouch b).1 ht with h | h
  ·exact C.wr b h
  ·omega
 ·
  intro i oi b hoi hij hbi hti hor
  obtain⟨ri,hri,Ki,hni⟩:=at_ i oi hoi
  have Ci:=hC i ri hri
  have eMi:(mq ops.size bs R (env',mem')).M (i+1)=ri.nx:=by simp[mq,hni]
  rw[eMi] at hbi
  have hti' :b∈ri.wr∨ri.mem.length≤b:=by simpa [mq,hri] using hti
  rw[eM1,eT] at hor
  rw[ecl i j (Array.getElem?_eq_some_iff.1 hoi).1,ecl j i hjs]
  by_cases hlt:i<j
  ·cases hb:bef bs i j with
   |true=>exact .inl rfl
   |false=>
    exfalso
    obtain⟨p1,p2,p3⟩:=C.pairs i ri hlt hri hb
    have hl:=lens' i j ri r oi o hlt hoi ho hri hr
    have notT:¬fO r.tm b:=by
     rcases hti' with h | h
     ·exact p1 b h
     ·exact p3 b h hbi
    rcases hor with⟨g1,g2⟩ | g
    ·rcases (etouch b).1 g2 with h | h
     ·exact notT (C.wr b h)
     ·omega
    ·exact notT g
  ·cases hb:bef bs j i with
   |true=>exact .inr rfl
   |false=>
    exfalso
    obtain⟨p1,p2,p3⟩:=Ci.pairs j r (by omega) hr hb
    have hl:=lens' j i r ri o oi (by omega) ho hoi hr hri
    have htl:=K.tlen
    rcases hti' with h | h
    ·rcases hor with⟨g1,g2⟩ | g
     ·rcases (etouch b).1 g2 with h' | h'
      ·exact p2 b h (C.wr b h')
      ·exact p3 b h' g1 (Ci.wr b h)
     ·exact p2 b h g
    ·rcases hor with⟨g1,g2⟩ | g
     ·omega
     ·have:=PH g;omega
 ·
  intro i b oi hoi hok h1 h2
  obtain⟨ri,hri,Ki,hni⟩:=at_ i oi hoi
  have eMi:(mq ops.size bs R (env',mem')).M (i+1)=ri.nx:=by simp[mq,hni]
  rw[M_at i ri hri] at h1
  rw[eMi] at h2
  rw[eok] at hok
  unfold fY at hok
  simp only[Bool.and_eq_true,decide_eq_true_eq,List.all_eq_true,Bool.not_eq_true',decide_eq_false_iff_not] at hok
  by_cases hij:i=j
  ·exact .inl hij
  ·refine .inr ?_
   rw[ecl i j (Array.getElem?_eq_some_iff.1 hoi).1]
   by_cases hlt:i<j
   ·cases hb:bef bs i j with
    |true=>rfl
    |false=>
     exfalso
     have hmem:(i,ri)∈Qp bs R j:=by
      unfold Qp
      rw[List.mem_filter]
      have:=jY 0 R i ri hri
      rw[Nat.zero_add] at this
      exact⟨this,by simp[hlt,hb]⟩
     exact hok.2 (i,ri) hmem ⟨h1,h2⟩
   ·exfalso
    have hl:=lens' j i r ri o oi (by omega) ho hoi hr hri
    omega
 ·rw[ev,eok];exact C.refsV
 ·intro b s ht hs
  rw[eM1] at hs
  rw[eok]
  rcases (etouch b).1 ht with h | h
  ·exact C.refsW b s h hs
  ·exact(C.fresh b s h hs).2
 ·intro b s hb hs hne
  rw[eM] at hb
  rw[eM1] at hs ⊢
  exact⟨s,hs,(C.fresh b s hb hs).1 hne⟩
 ·intro i hb
  simp only[mq,Bool.and_eq_true,decide_eq_true_eq] at hb
  obtain⟨e,h1,h2,h3⟩:=S.2.1 i hb.1 hb.2
  refine⟨e,h1,h2,?_⟩
  rcases h3 with h | h
  ·exact .inl h
  ·exact .inr (by simp[mq,hb.1,h])
theorem CX(hm:P.follows .mixedOrders=true) (hT:cf P T) (hO:OracleOk P O) {m0:Nat}{s s' :XS}(hst:kL ops (ek ops.toList)=true) (h:aQ T O N m0 ops s=some s'):
  (∀(tp:Bool) (id:Nat) (Q:Exit→St→Prop),Q .normal ⟨s'.env,s'.mem⟩→AWP P tp N m0 (.region id ops true) ⟨s.env,s.mem⟩ Q)∧Clean m0 s.mem s.dirty s'.mem s'.dirty:=by
 unfold aQ at h
 simp only at h
 ·split at h
  ·cases h
  ·rename_i R env mem hr
   split at h
   ·rename_i hc
    cases h
    obtain⟨rs,e,hR⟩:=mF hO hr
    simp only[List.reverse_nil,List.nil_append] at e
    subst e
    have hC:∀(j:Nat) r,R[j]? =some r→CheckOk (ek ops.toList) R j r:=by
     intro j r hj
     have:=jY 0 R j r hj
     rw[Nat.zero_add] at this
     exact CE (List.all_eq_true.1 hc _ this)
    have hA:=PB hst hR hC
    have hz:=tD hR
    have hlen:=vR hR
    have hend:My R (env,mem) ops.size=(env,mem):=by
     unfold My
     rw[List.getElem?_eq_none (by rw[hlen];simp)]
    refine⟨fun tp id Q hq=>yP hm hT (d:=mq ops.size (ek ops.toList) R (env,mem)) hA (by simp[mq,hz]) (by simp[mq,hz]) (by simp[mq,hend]) hq,?_⟩
    have key:∀(l:List Oper) (e:Env) (m:Mem) (rs:List Rec),jI P T N ops l e m rs env mem→m0≤m.length→m0≤mem.length∧((rs.any fun r=>r.wr.any fun b=>decide (b<m0))=false→mem.take m0=m.take m0):=by
     intro l
     induction l with
     |nil=>
      intro e m rs h hm0
      cases rs with
      |nil=>obtain⟨rfl,rfl⟩:=h;exact⟨hm0,fun _=>rfl⟩
      |cons=>exact h.elim
     |cons o os ih=>
      intro e m rs h hm0
      cases rs with
      |nil=>exact h.elim
      |cons r rs=>
       obtain⟨rfl,rfl,K,h4⟩:=h
       have hmono:r.mem.length≤r.nx.length:=by rw[K.nxlen];exact K.mono
       obtain⟨a1,a2⟩:=ih _ _ _ h4 (by omega)
       refine⟨a1,fun hw=>?_⟩
       simp only[List.any_cons,Bool.or_eq_false_iff] at hw
       rw[a2 hw.2]
       refine rU hm0 (by omega) fun b hb=>?_
       rw[K.nx b,if_neg]
       rintro (h | h)
       ·exact kH hw.1 hb h
       ·omega
    intro hm0
    obtain⟨a1,a2⟩:=key _ _ _ _ hR hm0
    refine⟨a1,fun hd=>?_⟩
    simp only[Bool.or_eq_false_iff] at hd
    exact⟨hd.1,a2 hd.2⟩
   ·cases h
end
end Go.Eng
namespace Go.Eng
section
variable {P:Program}{T:TypeId→Option TyI}{lv:Code→List Nat}{O:Oracle}{K N m0:Nat}{tp:Bool}
def R5(P:Program) (tp:Bool) (N m0:Nat) (c:Code) (s:XS) (e:Exit) (s' :XS):Prop:=
 (∀Q:Exit→St→Prop,Q e ⟨s'.env,s'.mem⟩→AWP P tp N m0 c ⟨s.env,s.mem⟩ Q)∧Clean m0 s.mem s.dirty s'.mem s'.dirty
def Same(wr:List Nat) (e e' :Env):Prop:=∀t,t∉wr→ab e' t=ab e t
theorem Same.refl(wr:List Nat) (e:Env):Same wr e e:=fun _ _=>rfl
theorem Same.trans{wr:List Nat}{e1 e2 e3:Env}(h:Same wr e1 e2) (h' :Same wr e2 e3):Same wr e1 e3:=fun t ht=>(h' t ht).trans (h t ht)
theorem Same.mono{wr wr' :List Nat}{e e' :Env}(h:Same wr e e') (hw:∀t,t∈wr→t∈wr'):Same wr' e e' :=fun t ht=>h t fun hm=>ht (hw t hm)
theorem fU(a b:Env) (t:Nat) (h:∀e∈a,e.1≠t):ab (a++b) t=ab b t:=by
 induction a with
 |nil=>rfl
 |cons e r ih=>
  obtain⟨k,v⟩:=e
  simp only[List.cons_append,ab]
  rw[if_neg (h (k,v) (by simp))]
  exact ih fun e he=>h e (by simp[he])
theorem ff(l:List Nat) (g:Nat→AV) (b:Env) (t:Nat) (h:t∈l):ab (l.map (fun t=>(t,g t))++b) t=g t:=by
 induction l with
 |nil=>cases h
 |cons x r ih=>
  simp only[List.map_cons,List.cons_append,ab]
  by_cases hx:x=t
  ·subst hx;rw[if_pos rfl]
  ·rw[if_neg hx]
   exact ih (by cases h with
    |head=>exact absurd rfl hx
    |tail _ h=>exact h)
theorem pQ{lv wr:List Nat}{env0 env:Env}(h:Same wr env0 env) (t:Nat):ab (az lv wr env0 env) t=ab env t∨ab (az lv wr env0 env) t=.undef:=by
 unfold az
 rw[List.append_assoc]
 by_cases h1:t∈lv
 ·rw[ff lv (fun t=>ab env t) _ t h1];exact .inl rfl
 ·rw[fU _ _ t (by intro e he;simp only[List.mem_map] at he;obtain⟨x,hx,rfl⟩:=he;intro e;exact h1 (e▸hx))]
  by_cases h2:t∈wr
  ·rw[ff (wr.filter fun t=> !lv.contains t) (fun _=>AV.undef) _ t (by rw[List.mem_filter];exact⟨h2,by simpa using h1⟩)];exact .inr rfl
  ·rw[fU _ _ t (by intro e he;simp only[List.mem_map,List.mem_filter] at he;obtain⟨x,hx,rfl⟩:=he;intro e;exact h2 (e▸hx.1))]
   exact .inl (h t h2).symm
theorem k8{lv wr:List Nat}{env0 env:Env}(hl:Same wr env0 env):Same wr env0 (az lv wr env0 env):=by
 intro t ht
 unfold az
 rw[List.append_assoc]
 by_cases h1:t∈lv
 ·rw[ff lv (fun t=>ab env t) _ t h1];exact hl t ht
 ·rw[fU _ _ t (by intro e he;simp only[List.mem_map] at he;obtain⟨x,hx,rfl⟩:=he;intro e;exact h1 (e▸hx)),
   fU _ _ t (by intro e he;simp only[List.mem_map,List.mem_filter] at he;obtain⟨x,hx,rfl⟩:=he;intro e;exact ht (e▸hx.1))]
theorem zO{wr:List Nat}{e:Env}{o:Oper}{v:AV}(h:∀d,o.dst=some d→d∈wr):Same wr e (putE e o.dst v):=by
 intro t ht
 exact G3 fun he=>ht (h t he)
theorem mE{m0:Nat}{ops:Array Oper}:∀{l:List Oper}{s s' :XS},cO T O N m0 ops l s=some s' →Same (l.filterMap (·.dst)) s.env s'.env
 | [],s,s',h=>by cases h;exact .refl _ _
 |o::os,s,s',h=>by
  have hm:∀t,t∈os.filterMap (·.dst)→t∈(o::os).filterMap (·.dst):=fun t ht=>by
   rw[List.filterMap_cons];split
   ·exact ht
   ·exact List.mem_cons_of_mem _ ht
  have hd:∀d,o.dst=some d→d∈(o::os).filterMap (·.dst):=fun d hd=>by
   rw[List.filterMap_cons];simp[hd]
  unfold cO at h
  split at h
  ·split at h
   ·split at h
    ·exact(zO hd).trans ((mE h).mono hm)
    ·cases h
   ·exact(zO hd).trans ((mE h).mono hm)
   ·cases h
  ·cases h
theorem Hn{ops:Array Oper}:∀{l:List Oper} {env:Env} {mem:Mem} {R:List Rec}{env' :Env}{mem' :Mem},jI P T N ops l env mem R env' mem' →Same (l.filterMap (·.dst)) env env'
 | [],_,_,[],_,_,h=>by obtain⟨rfl,_⟩:=h;exact .refl _ _
 |o::os,_,_,r::rs,_,_,h=>by
  obtain⟨rfl,_,_,h4⟩:=h
  have hm:∀t,t∈os.filterMap (·.dst)→t∈(o::os).filterMap (·.dst):=fun t ht=>by
   rw[List.filterMap_cons];split
   ·exact ht
   ·exact List.mem_cons_of_mem _ ht
  have hd:∀d,o.dst=some d→d∈(o::os).filterMap (·.dst):=fun d hd=>by
   rw[List.filterMap_cons];simp[hd]
  exact(zO hd).trans ((Hn h4).mono hm)
 | [],_,_,_::_,_,_,h=>h.elim
 |_::_,_,_,[],_,_,h=>h.elim
theorem Ht(hO:OracleOk P O) {m0:Nat}{ops:Array Oper}{s s' :XS}(h:aQ T O N m0 ops s=some s'):Same (ops.toList.filterMap (·.dst)) s.env s'.env:=by
 unfold aQ at h
 simp only at h
 split at h
 ·cases h
 ·rename_i R env mem hr
  split at h
  ·cases h
   obtain⟨rs,e,hR⟩:=mF hO hr
   exact Hn hR
  ·cases h
mutual
theorem VRel.refs{μ:Nat→Place}{n:Nat}:∀{v V},VRel μ n v V→v.refs n=[]
 |.undef,_,_=>rfl
 |.bool _,_,_=>rfl
 |.int _ _,_,_=>rfl
 |.str _,_,_=>rfl
 |.ptr b o,V,h=>by simp only[VRel] at h;simp[AV.refs,h.1]
 |.nilptr,_,_=>rfl
 |.slice b o l c,V,h=>by simp only[VRel] at h;simp[AV.refs,h.1]
 |.nilslice,_,_=>rfl
 |.map b,V,h=>by simp only[VRel] at h;simp[AV.refs,h.1]
 |.yield b,V,h=>by simp only[VRel] at h;simp[AV.refs,h.1]
 |.nilmap,_,_=>rfl
 |.func f cs,V,h=>by
  simp only[VRel] at h
  obtain⟨Us,_,h⟩:=h
  simp[AV.refs,VRels.refs h]
 |.nilFunc,_,_=>rfl
 |.iface t v,V,h=>by
  simp only[VRel] at h
  obtain⟨U,_,h⟩:=h
  simp[AV.refs,VRel.refs h]
 |.nilIface,_,_=>rfl
 |.agg cs,V,h=>by
  simp only[VRel] at h
  obtain⟨Us,_,h⟩:=h
  simp[AV.refs,VRels.refs h]
 |.tuple cs,V,h=>by
  simp only[VRel] at h
  obtain⟨Us,_,h⟩:=h
  simp[AV.refs,VRels.refs h]
theorem VRels.refs{μ:Nat→Place}{n:Nat}:∀{vs Us},VRels μ n vs Us→AV.refsL n vs=[]
 | [],_,_=>rfl
 |v::vs,_,h=>by
  simp only[VRels] at h
  obtain⟨U,Ws,_,h1,h2⟩:=h
  simp[AV.refsL,VRel.refs h1,VRels.refs h2]
end
mutual
theorem AV.ren_refs{m1:Nat}{ks:List Nat}:∀{v:AV},v.refs m1=[]→v.ren (rho m1 ks)=v
 |.undef,_=>rfl
 |.bool _,_=>rfl
 |.int _ _,_=>rfl
 |.str _,_=>rfl
 |.ptr b o,h=>by
  have hb:b<m1:=by
   by_cases hb:b<m1
   ·exact hb
   ·simp[AV.refs,hb] at h
  simp[AV.ren,rho,hb]
 |.nilptr,_=>rfl
 |.slice b o l c,h=>by
  have hb:b<m1:=by
   by_cases hb:b<m1
   ·exact hb
   ·simp[AV.refs,hb] at h
  simp[AV.ren,rho,hb]
 |.nilslice,_=>rfl
 |.map b,h=>by
  have hb:b<m1:=by
   by_cases hb:b<m1
   ·exact hb
   ·simp[AV.refs,hb] at h
  simp[AV.ren,rho,hb]
 |.yield b,h=>by
  have hb:b<m1:=by
   by_cases hb:b<m1
   ·exact hb
   ·simp[AV.refs,hb] at h
  simp[AV.ren,rho,hb]
 |.nilmap,_=>rfl
 |.func f cs,h=>by simp only[AV.refs] at h;simp[AV.ren,AV.rens_refs h]
 |.nilFunc,_=>rfl
 |.iface t v,h=>by simp only[AV.refs] at h;simp[AV.ren,AV.ren_refs h]
 |.nilIface,_=>rfl
 |.agg cs,h=>by simp only[AV.refs] at h;simp[AV.ren,AV.rens_refs h]
 |.tuple cs,h=>by simp only[AV.refs] at h;simp[AV.ren,AV.rens_refs h]
theorem AV.rens_refs{m1:Nat}{ks:List Nat}:∀{vs:List AV},AV.refsL m1 vs=[]→AV.rens (rho m1 ks) vs=vs
 | [],_=>rfl
 |v::vs,h=>by
  simp only[AV.refsL,List.append_eq_nil_iff] at h
  simp[AV.rens,AV.ren_refs h.1,AV.rens_refs h.2]
end
theorem Slot.ren_refs{m1:Nat}{ks:List Nat}{s:Slot}(h:s.refs m1=[]):s.ren (rho m1 ks)=s:=by
 cases s with
 |absent=>rfl
 |cells own es cs=>simp only[Slot.refs] at h;simp only[Slot.ren,AV.rens_refs h]
 |map es=>
  simp only[Slot.refs,List.flatMap_eq_nil_iff] at h
  simp only[Slot.ren]
  congr 1
  conv=>rhs;rw[←List.map_id es]
  apply List.map_congr_left
  intro e he
  have:=h e he
  rw[List.append_eq_nil_iff] at this
  rw[AV.ren_refs this.1,AV.ren_refs this.2];rfl
 |fmap es=>
  simp only[Slot.refs,List.flatMap_eq_nil_iff] at h
  simp only[Slot.ren]
  congr 1
  conv=>rhs;rw[←List.map_id es]
  apply List.map_congr_left
  intro e he
  have:=h e he
  rw[List.append_eq_nil_iff] at this
  rw[AV.ren_refs this.1,AV.ren_refs this.2];rfl
 |loop r=>
  simp only[Slot.refs,List.flatMap_eq_nil_iff] at h
  simp only[Slot.ren,oZ]
  congr 1
  have:r.env.map (fun e=>(e.1,e.2.ren (rho m1 ks)))=r.env:=by
   conv=>rhs;rw[←List.map_id r.env]
   apply List.map_congr_left
   intro e he
   rw[AV.ren_refs (h e he)];rfl
  rw[this]
theorem AWP.assume{c:Code}{st:St}{Q:Exit→St→Prop}(h:m0≤st.mem.length→(∀t,(ab st.env t).refs st.mem.length=[])→AWP P tp N m0 c st Q):AWP P tp N m0 c st Q:=
 fun ro h0 base μ w a hro h1 h2 h3 h4 h5=>h h5 (fun t=>(h2 t).refs) ro h0 base μ w a hro h1 h2 h3 h4 h5
theorem GI{m1:Nat}{ks:List Nat}{mem:Mem}(h:(mem.take m1).all (fun s=>(s.refs m1).isEmpty)=true):compact m1 ks mem=mem.take m1++keep m1 ks mem:=by
 unfold compact
 congr 1
 conv=>rhs;rw[←List.map_id (mem.take m1)]
 apply List.map_congr_left
 intro s hs
 have:=List.all_eq_true.1 h s hs
 rw[List.isEmpty_iff] at this
 rw[Slot.ren_refs this];rfl
theorem pR{lw wr:List Nat}{env0:Env}{g:Nat→AV}(t:Nat):
  ab ((lw.filter fun t=>wr.contains t).map (fun t=>(t,g t))++((wr.filter fun t=> !lw.contains t).map fun t=>(t,AV.undef))++env0) t=
   if t∈wr then (if t∈lw then g t else .undef) else ab env0 t:=by
 rw[List.append_assoc]
 by_cases h2:t∈wr
 ·by_cases h1:t∈lw
  ·rw[if_pos h2,if_pos h1]
   exact ff _ g _ t (by rw[List.mem_filter];exact⟨h1,by simpa using h2⟩)
  ·rw[if_pos h2,if_neg h1,fU _ _ t (by intro e he;simp only[List.mem_map,List.mem_filter] at he;obtain⟨x,hx,rfl⟩:=he;intro e;exact h1 (e▸hx.1))]
   exact ff (wr.filter fun t=> !lw.contains t) (fun _=>AV.undef) _ t (by rw[List.mem_filter];exact⟨h2,by simpa using h1⟩)
 ·rw[if_neg h2,fU _ _ t (by intro e he;simp only[List.mem_map,List.mem_filter] at he;obtain⟨x,hx,rfl⟩:=he;intro e;exact h2 (e▸by simpa using hx.2)),
   fU _ _ t (by intro e he;simp only[List.mem_map,List.mem_filter] at he;obtain⟨x,hx,rfl⟩:=he;intro e;exact h2 (e▸hx.1))]
theorem Ms{lw wr:List Nat}{env0:Env}{m1:Nat}{s:XS}(h:Same wr env0 s.env):Same wr env0 (Hc lw wr env0 m1 s).env:=by
 unfold Hc
 simp only
 split
 ·intro t ht
  simp only
  rw[pR,if_neg ht]
 ·exact k8 h
theorem Bt{lw wr:List Nat}{env0:Env}{m1:Nat}{s:XS}(h:Same wr env0 s.env):Same wr env0 (rM lw wr env0 m1 s).env:=by
 unfold rM
 split
 ·exact k8 h
 ·simp only
  split
  ·intro t ht
   simp only
   rw[pR,if_neg ht]
  ·split
   ·exact Ms h
   ·exact k8 h
theorem I3{lw wr:List Nat}{env0:Env}{m1:Nat}{s:XS}(hm:m0≤m1):Clean m0 s.mem s.dirty (rM lw wr env0 m1 s).mem (rM lw wr env0 m1 s).dirty:=by
 unfold rM
 split
 ·exact .refl _ _ _
 ·rename_i hl
  have hl:=fun h=>hl (.inr h)
  simp only
  split
  ·intro h
   refine⟨by simp only[List.length_append,List.length_take];omega,fun e=>⟨e,?_⟩⟩
   simp only
   rw[List.take_append_of_le_length (by simp only[List.length_take];omega),List.take_take]
   congr 1;omega
  ·split
   ·unfold Hc
    simp only
    split
    ·intro h
     exact⟨by show m0≤(compact m1 _ s.mem).length;rw[dP (by omega)];omega,fun e=>by cases e⟩
    ·exact .refl _ _ _
   ·exact .refl _ _ _
theorem MG{lw wr:List Nat}{env0:Env}{m1:Nat}{s:XS}(h:Same wr env0 s.env) (h0:∀t,(ab env0 t).refs m1=[]) (hm:m0≤m1) (hl:m1≤s.mem.length):
  Weak m0 ⟨s.env,s.mem⟩ ⟨(Hc lw wr env0 m1 s).env,(Hc lw wr env0 m1 s).mem⟩:=by
 unfold Hc
 simp only
 split
 ·rename_i hk
  obtain⟨ks,hks⟩:∃ks,ks=mU m1 s.mem 1000 ((lw.flatMap fun t=>(ab s.env t).refs m1)++(s.mem.take m1).flatMap (Slot.refs m1)) []:=⟨_,rfl⟩
  rw[←hks] at hk ⊢
  have hw:Weak m0 ⟨s.env,s.mem⟩ ⟨oZ (rho m1 ks) s.env,compact m1 ks s.mem⟩:=by
   intro base μ w tmps h1 h2 h3
   obtain⟨μ1,b1,b2,b3,b4⟩:=Weak.compact (env:=s.env) _ hk base μ w tmps h1 h2 hl
   exact⟨μ1,b1,b2,Nat.le_trans hm b3,b4.mono hm⟩
  refine hw.trans (Weak.env fun t=>?_)
  rw[pR,fV]
  by_cases h1:t∈wr
  ·rw[if_pos h1]
   by_cases h2:t∈lw
   ·rw[if_pos h2];exact .inl rfl
   ·rw[if_neg h2];exact .inr rfl
  ·rw[if_neg h1,h t h1,AV.ren_refs (h0 t)];exact .inl rfl
 ·exact Weak.env fun t=>pQ h t
theorem MH{lw wr:List Nat}{env0:Env}{m1:Nat}{s:XS}(h:Same wr env0 s.env) (h0:∀t,(ab env0 t).refs m1=[]) (hm:m0≤m1):
  Weak m0 ⟨s.env,s.mem⟩ ⟨(rM lw wr env0 m1 s).env,(rM lw wr env0 m1 s).mem⟩:=by
 unfold rM
 split
 ·exact Weak.env fun t=>pQ h t
 ·rename_i hl
  have hl:=fun h=>hl (.inr h)
  simp only
  split
  ·rename_i hc
   rw[Bool.and_eq_true] at hc
   obtain⟨hk,hall⟩:=hc
   have hw:Weak m0 ⟨s.env,s.mem⟩ ⟨oZ (rho m1 (mU m1 s.mem 1000 (lw.flatMap fun t=>(ab s.env t).refs m1) [])) s.env,compact m1 (mU m1 s.mem 1000 (lw.flatMap fun t=>(ab s.env t).refs m1) []) s.mem⟩:=by
    intro base μ w tmps h1 h2 h3
    have hl' :m1≤s.mem.length:=by omega
    obtain⟨μ1,b1,b2,b3,b4⟩:=Weak.compact (env:=s.env) _ hk base μ w tmps h1 h2 hl'
    exact⟨μ1,b1,b2,Nat.le_trans hm b3,b4.mono hm⟩
   rw[GI hall] at hw
   refine hw.trans (Weak.env fun t=>?_)
   rw[pR,fV]
   by_cases h1:t∈wr
   ·rw[if_pos h1]
    by_cases h2:t∈lw
    ·rw[if_pos h2];exact .inl rfl
    ·rw[if_neg h2];exact .inr rfl
   ·rw[if_neg h1,h t h1,AV.ren_refs (h0 t)];exact .inl rfl
  ·split
   ·exact MG h h0 hm (by omega)
   ·exact Weak.env fun t=>pQ h t
theorem NW{b:Code}{f:XS→Option (Exit×XS)}{lw:List Nat}(hf:∀s e s',f s=some (e,s')→Same (ad b) s.env s'.env) {env0:Env}{m1:Nat}:
  ∀(k:Nat) (s:XS) (e:Exit) (s' :XS),Same (ad b) env0 s.env→fA lw (ad b) env0 m1 f k s=some (e,s')→Same (ad b) env0 s'.env:=by
 intro k
 induction k with
 |zero=>intro s e s' _ h;cases h
 |succ k ih=>
  intro s e s' hI h
  unfold fA at h
  split at h
  ·rename_i s1 h1
   exact ih _ _ _ (Bt (hI.trans (hf _ _ _ h1))) h
  ·exact hI.trans (hf _ _ _ h)
theorem Mb{b:Code}{f:XS→Option (Exit×XS)}{lw:List Nat}(hf:∀s e s',f s=some (e,s')→R5 P tp N m0 b s e s') {env0:Env}{m1:Nat}(hm:m0≤m1):
  ∀(k:Nat) (s:XS) (e:Exit) (s' :XS),fA lw (ad b) env0 m1 f k s=some (e,s')→Clean m0 s.mem s.dirty s'.mem s'.dirty:=by
 intro k
 induction k with
 |zero=>intro s e s' h;cases h
 |succ k ih=>
  intro s e s' h
  unfold fA at h
  split at h
  ·rename_i s1 h1
   obtain⟨_,a2⟩:=hf _ _ _ h1
   exact(a2.trans (I3 hm)).trans (ih _ _ _ h)
  ·exact(hf _ _ _ h).2
theorem Mc{b:Code}{f:XS→Option (Exit×XS)}{lw:List Nat}(hf:∀s e s',f s=some (e,s')→R5 P tp N m0 b s e s' ∧Same (ad b) s.env s'.env) {env0:Env}{m1:Nat}(h0:∀t,(ab env0 t).refs m1=[]) (hm:m0≤m1)
  (k:Nat) (s:XS) (e:Exit) (s' :XS) (hI:Same (ad b) env0 s.env) (h:fA lw (ad b) env0 m1 f k s=some (e,s')) {Q:Exit→St→Prop}(hq:Q e ⟨s'.env,s'.mem⟩):AWP P tp N m0 (.loop b) ⟨s.env,s.mem⟩ Q:=by
 refine PD (σ:=Nat) (fun k st=>∃s,st=⟨s.env,s.mem⟩∧Same (ad b) env0 s.env∧fA lw (ad b) env0 m1 f k s=some (e,s')) id (s:=k) ⟨s,rfl,hI,h⟩ ?_
 rintro k st ⟨s,rfl,hI,hk⟩
 cases k with
 |zero=>cases hk
 |succ k=>
  unfold fA at hk
  split at hk
  ·rename_i s1 h1
   obtain⟨⟨a1,_⟩,a3⟩:=hf _ _ _ h1
   refine AWP.weakQ (a1 (fun e st1=>e=.normal∧st1=⟨s1.env,s1.mem⟩) ⟨rfl,rfl⟩) ?_
   rintro e1 st1 ⟨rfl,rfl⟩
   exact⟨⟨(rM lw (ad b) env0 m1 s1).env,(rM lw (ad b) env0 m1 s1).mem⟩,MH (hI.trans a3) h0 hm,k,⟨_,rfl,Bt (hI.trans a3),hk⟩,Nat.lt_succ_self k⟩
  ·rename_i hne
   have hne' :e≠ .normal:=by
    rintro rfl
    exact hne s' hk
   refine((hf _ _ _ hk).1.1 (fun e1 st1=>e1=e∧st1=⟨s'.env,s'.mem⟩) ⟨rfl,rfl⟩).mono ?_
   rintro e1 st1 ⟨rfl,rfl⟩
   cases e1<;>first | exact absurd rfl hne' | exact hq
theorem dZ(hO:OracleOk P O):∀{c:Code} {s:XS} {e:Exit}{s' :XS},aU T lv O K N m0 tp c s=some (e,s')→Same (ad c) s.env s'.env
 |.skip,s,e,s',h=>by simp only[aU,Option.some.injEq,Prod.mk.injEq] at h;obtain⟨_,rfl⟩:=h;exact .refl _ _
 |.exit id,s,e,s',h=>by simp only[aU,Option.some.injEq,Prod.mk.injEq] at h;obtain⟨_,rfl⟩:=h;exact .refl _ _
 |.ret,s,e,s',h=>by simp only[aU,Option.some.injEq,Prod.mk.injEq] at h;obtain⟨_,rfl⟩:=h;exact .refl _ _
 |.region id ops false,s,e,s',h=>by
  unfold aU at h
  split at h
  ·rename_i s1 h1;cases h;exact mE h1
  ·cases h
 |.region id ops true,s,e,s',h=>by
  unfold aU at h
  split at h
  ·rename_i s1 h1;cases h;exact Ht hO h1
  ·cases h
 |.seq x y,s,e,s',h=>by
  unfold aU at h
  split at h
  ·rename_i s1 h1
   exact((dZ hO h1).mono fun t ht=>by simp[ad,ht]).trans ((dZ hO h).mono fun t ht=>by simp[ad,ht])
  ·exact(dZ hO h).mono fun t ht=>by simp[ad,ht]
 |.cond c x y,s,e,s',h=>by
  unfold aU at h
  split at h
  ·exact(dZ hO h).mono fun t ht=>by simp[ad,ht]
  ·exact(dZ hO h).mono fun t ht=>by simp[ad,ht]
  ·cases h
 |.block id b,s,e,s',h=>by
  show Same (ad b) s.env s'.env
  unfold aU at h
  split at h
  ·rename_i i s1 h1
   split at h
   ·cases h;exact dZ hO h1
   ·cases h;exact dZ hO h1
  ·exact dZ hO h
 |.loop b,s,e,s',h=>by
  show Same (ad b) s.env s'.env
  unfold aU at h
  exact NW (fun s e s' h=>dZ hO h) _ _ _ _ (k8 (.refl _ _)) h
 |.rangeFunc g ps asg body,s,e,s',h=>by
  unfold aU at h
  split at h
  ·split at h
   ·split at h
    ·simp only at h
     split at h
     ·split at h
      ·cases h
      ·split at h
       ·cases h;exact .refl _ _
       ·cases h
     ·cases h
    ·cases h
   ·cases h
  ·cases h
 |.label _,s,e,s',h=>by cases h
 |.goto _,s,e,s',h=>by cases h
 |.scope _,s,e,s',h=>by cases h
 |.refuse _,s,e,s',h=>by cases h
theorem cw(hm:P.follows .mixedOrders=true) (hT:cf P T) (hO:OracleOk P O):∀{c:Code} {s:XS} {e:Exit}{s' :XS},bW c=true→aU T lv O K N m0 tp c s=some (e,s')→R5 P tp N m0 c s e s'
 |.skip,s,e,s',hst,h=>by
  simp only[aU,Option.some.injEq,Prod.mk.injEq] at h
  obtain⟨rfl,rfl⟩:=h
  exact⟨fun Q hq=>PE hq,.refl _ _ _⟩
 |.exit id,s,e,s',hst,h=>by
  simp only[aU,Option.some.injEq,Prod.mk.injEq] at h
  obtain⟨rfl,rfl⟩:=h
  exact⟨fun Q hq=>PC hq,.refl _ _ _⟩
 |.ret,s,e,s',hst,h=>by
  simp only[aU,Option.some.injEq,Prod.mk.injEq] at h
  obtain⟨rfl,rfl⟩:=h
  exact⟨fun Q hq=>QP hq,.refl _ _ _⟩
 |.region id ops false,s,e,s',hst,h=>by
  unfold aU at h
  split at h
  ·rename_i s1 h1
   cases h
   obtain⟨a1,a2⟩:=iF hO h1
   exact⟨fun Q hq=>LL hT a1 hq,a2⟩
  ·cases h
 |.region id ops true,s,e,s',hst,h=>by
  unfold aU at h
  split at h
  ·rename_i s1 h1
   cases h
   obtain⟨a1,a2⟩:=CX hm hT hO hst h1
   exact⟨fun Q hq=>a1 tp id Q hq,a2⟩
  ·cases h
 |.seq x y,s,e,s',hst,h=>by
  unfold aU at h
  split at h
  ·rename_i s1 h1
   simp only[bW,Bool.and_eq_true] at hst
   obtain⟨a1,a2⟩:=cw hm hT hO hst.1 h1
   obtain⟨b1,b2⟩:=cw hm hT hO hst.2 h
   exact⟨fun Q hq=>uD (a1 _ (b1 Q hq)),a2.trans b2⟩
  ·rename_i hne
   simp only[bW,Bool.and_eq_true] at hst
   obtain⟨a1,a2⟩:=cw hm hT hO hst.1 h
   refine⟨fun Q hq=>uD (a1 _ ?_),a2⟩
   cases e<;>first | exact absurd h (hne s') | exact hq
 |.cond c x y,s,e,s',hst,h=>by
  unfold aU at h
  split at h
  ·rename_i hc
   simp only[bW,Bool.and_eq_true] at hst
   obtain⟨a1,a2⟩:=cw hm hT hO hst.1 h
   exact⟨fun Q hq=>JN hc (fun _=>a1 Q hq) (fun e=>by cases e),a2⟩
  ·rename_i hc
   simp only[bW,Bool.and_eq_true] at hst
   obtain⟨a1,a2⟩:=cw hm hT hO hst.2 h
   exact⟨fun Q hq=>JN hc (fun e=>by cases e) (fun _=>a1 Q hq),a2⟩
  ·cases h
 |.block id b,s,e,s',hst,h=>by
  unfold aU at h
  split at h
  ·rename_i i s1 h1
   obtain⟨a1,a2⟩:=cw hm hT hO (by simpa only[bW] using hst) h1
   split at h
   ·rename_i hi
    cases h
    exact⟨fun Q hq=>yO (a1 _ (by simp only[JP];rw[if_pos hi];exact hq)),a2⟩
   ·rename_i hi
    cases h
    exact⟨fun Q hq=>yO (a1 _ (by simp only[JP];rw[if_neg hi];exact hq)),a2⟩
  ·rename_i hne
   obtain⟨a1,a2⟩:=cw hm hT hO (by simpa only[bW] using hst) h
   refine⟨fun Q hq=>yO (a1 _ ?_),a2⟩
   cases e<;>first | exact absurd h (hne _ s') | exact hq
 |.loop b,s,e,s',hst,h=>by
  unfold aU at h
  have hf:∀s e s',aU T lv O K N m0 tp b s=some (e,s')→R5 P tp N m0 b s e s' ∧Same (ad b) s.env s'.env:=fun s e s' h=>⟨cw hm hT hO (by simpa only[bW] using hst) h,dZ hO h⟩
  refine⟨fun Q hq=>AWP.assume fun hm0 he=>PF (Weak.env fun t=>pQ (.refl _ _) t) (Mc hf he hm0 _ _ _ _ (k8 (.refl _ _)) h hq),fun hm0=>?_⟩
  exact Mb (fun s e s' h=>(hf s e s' h).1) hm0 _ ⟨az (lv b) (ad b) s.env s.env,s.mem,s.dirty⟩ _ _ h hm0
 |.rangeFunc g ps asg body,s,e,s',hst,h=>by
  unfold aU at h
  split at h
  ·rename_i htp
   subst htp
   split at h
   ·rename_i f caps hg
    split at h
    ·rename_i r hr
     simp only at h
     split at h
     ·rename_i r2 hr2
      split at h
      ·cases h
      ·rename_i hb
       split at h
       ·rename_i e1 he
        cases h
        have hlen:=uT hO hr
        refine⟨fun Q hq=>Cy hg ((hO.fn _ _ _ _ hr).mono ?_),fun hm0=>⟨?_,fun hd=>?_⟩⟩
        ·rintro v m ⟨rfl,rfl⟩
         exact⟨r2,e,hr2,fun e=>hb (by rw[e];rfl),he,hq⟩
        ·simp only[List.length_set]
         simp only[List.length_append] at hlen
         omega
        ·simp only[Bool.or_eq_false_iff,Option.isSome_eq_false_iff,Option.isNone_iff_eq_none] at hd
         refine⟨hd.1,rU hm0 ?_ fun b hb=>?_⟩
         ·simp only[List.length_set]
          simp only[List.length_append] at hlen
          omega
         ·have hb' :b<s.mem.length:=by omega
          show((r.mem _).set s.mem.length _)[b]? =_
          rw[List.getElem?_set_ne (by omega)]
          unfold CallRes.mem
          rw[hd.2]
          simp only[Option.getD_none]
          rw[List.append_assoc,List.getElem?_append_left hb']
       ·cases h
     ·cases h
    ·cases h
   ·cases h
  ·cases h
 |.label _,s,e,s',hst,h=>by cases h
 |.goto _,s,e,s',hst,h=>by cases h
 |.scope _,s,e,s',hst,h=>by cases h
 |.refuse _,s,e,s',hst,h=>by cases h
structure FnTab (P:Program) (G:FuncId→Option Func):Prop where
 fn:∀f fn,G f=some fn→P.funcs[f]? =some fn∧(fn.name == "runtime.NumGoroutine")=false∧∀c,fn.body=some c→bW c=true
theorem af(hm:P.follows .mixedOrders=true) (hT:cf P T) (hO:OracleOk P O) {G:FuncId→Option Func}(hG:FnTab P G) {f:FuncId}{args:List AV}{mem:Mem}{r:CallRes}
  (h:aa T lv G O K f args mem=some r):ACallsTo P f args mem r.v (r.mem mem)∧∀p,r.pre=some p→p.length=mem.length:=by
 unfold aa at h
 split at h
 ·cases h
 ·rename_i fn hfn
  obtain⟨g1,g2,g3⟩:=hG.fn _ _ hfn
  split at h
  ·cases h
  ·rename_i c hb
   split at h
   ·rename_i hl
    split at h
    ·rename_i e s he
     obtain⟨a1,a2⟩:=cw hm hT hO (g3 c hb) he
     obtain⟨b1,b2⟩:=a2 (Nat.le_refl _)
     have main:(e=.normal∨e=.ret)→(match gB T fn.results.toList s.env s.mem with
      |some v=>
       let m0:=mem.length
       if s.dirty then
        let ks:=mU m0 s.mem 1000 (v.refs m0++(s.mem.take m0).flatMap (Slot.refs m0)) []
        if AM m0 s.mem.length ks then
         some ⟨v.ren (rho m0 ks),some ((s.mem.take m0).map (Slot.ren (rho m0 ks))),keep m0 ks s.mem⟩
        else none
       else
        let ks:=mU m0 s.mem 1000 (v.refs m0) []
        if AM m0 s.mem.length ks then
         some ⟨v.ren (rho m0 ks),none,keep m0 ks s.mem⟩
        else none
      |none=>none:Option CallRes)=some r→ACallsTo P f args mem r.v (r.mem mem)∧∀p,r.pre=some p→p.length=mem.length:=by
      intro hen h
      split at h
      ·rename_i v hv
       simp only at h
       split at h
       ·split at h
        ·rename_i hks
         cases h
         refine⟨ACalls.intro hT g1 hb g2 hl (a1 _ ⟨hen,v,hv,_,hks,.inr ⟨rfl,rfl⟩⟩),fun p hp=>?_⟩
         cases hp
         simp only[List.length_map,List.length_take]
         omega
        ·cases h
       ·rename_i hd
        split at h
        ·rename_i hks
         cases h
         have hd' :=(b2 (by simpa using hd)).2
         rw[List.take_of_length_le (Nat.le_refl _)] at hd'
         exact⟨ACalls.intro hT g1 hb g2 hl (a1 _ ⟨hen,v,hv,_,hks,.inl ⟨hd',rfl,rfl⟩⟩),fun p hp=>by cases hp⟩
        ·cases h
      ·cases h
     split at h
     ·exact main (.inl rfl) h
     ·exact main (.inr rfl) h
     ·cases h
    ·cases h
   ·cases h
theorem ml(hm:P.follows .mixedOrders=true) (hT:cf P T) (hO:OracleOk P O) {b:Nat}{args:List AV}{mem:Mem}{r:CallRes}
  (h:uF T lv O K b args mem=some r):eD P b args mem r.v (r.mem mem)∧∀p,r.pre=some p→p.length=mem.length:=by
 unfold uF at h
 split at h
 ·rename_i lp hlp
  split at h
  ·rename_i hc
   simp only[Bool.and_eq_true,decide_eq_true_eq,List.all_eq_true] at hc
   obtain⟨⟨⟨⟨c1,c2⟩,c3⟩,c4⟩,c5⟩:=hc
   have st_of:∀{x:LoopState},(x== .ready)=true→x=.ready:=fun {x} h=>by cases x<;>first | rfl | cases h
   split at h
   ·rename_i s1 h1
    obtain⟨a1,a2⟩:=cw hm hT hO c4 h1
    split at h
    ·rename_i r1 hr1
     split at h
     ·rename_i hst1
      split at h
      ·rename_i e s2 h2
       obtain⟨b1,b2⟩:=cw hm hT hO c5 h2
       split at h
       ·rename_i j r2 hj hr2
        simp only at h
        split at h
        ·rename_i hks
         cases h
         obtain⟨d1,_⟩:=a2 (Nat.le_refl _)
         obtain⟨d2,_⟩:=b2 (by simpa using d1)
         refine⟨AYields.intro hlp (st_of c1) c2 c3 (a1 _ ⟨rfl,r1,hr1,st_of hst1,b1 _ ⟨r2,j,_,hj,hr2,hks,rfl,rfl⟩⟩),fun p hp=>?_⟩
         cases hp
         simp only[List.length_map,List.length_take,List.length_set]
         omega
        ·cases h
       ·cases h
      ·cases h
     ·cases h
    ·cases h
   ·cases h
  ·cases h
 ·cases h
theorem mj(hm:P.follows .mixedOrders=true) (hT:cf P T) {G:FuncId→Option Func}(hG:FnTab P G) (hO:OracleOk P O):∀n,OracleOk P (AG T lv G O K n)
 |0=>hO
 |n+1=>by
  have ih:=mj hm hT hG hO n
  have key:∀c args mem r,AG T lv G O K (n+1) c args mem=some r→O c args mem=some r∨(match c with
   |.fn f=>aa T lv G (AG T lv G O K n) K f args mem
   |.yld b=>uF T lv (AG T lv G O K n) K b args mem)=some r:=by
   intro c args mem r h
   unfold AG at h
   split at h
   ·rename_i r' h';cases h;exact .inl h'
   ·exact .inr h
  refine⟨fun f args mem r h=>?_,fun b args mem r h=>?_,fun c args mem r p h hp=>?_⟩
  ·rcases key _ _ _ _ h with h | h
   ·exact hO.fn _ _ _ _ h
   ·exact(af hm hT ih hG h).1
  ·rcases key _ _ _ _ h with h | h
   ·exact hO.yld _ _ _ _ h
   ·exact(ml hm hT ih h).1
  ·rcases key _ _ _ _ h with h | h
   ·exact hO.pre _ _ _ _ _ h hp
   ·cases c with
    |fn f=>exact(af hm hT ih hG h).2 p hp
    |yld b=>exact(ml hm hT ih h).2 p hp
end
end Go.Eng
namespace Go.Eng
def aO(P:Program) (t:TypeId):Option TyI:=
 match P.info? t,P.underlying t with
 |some i,some d=>match i.zero with
  |some z=>if z.cells.size=i.size then some ⟨d,i.size,i.bytes,z,!P.stoodInHeld t&& !P.eqGuardType P.depth t⟩ else none
  |none=>none
 |_,_=>none
theorem aw(P:Program):cf P (aO P):=by
 intro t i h
 unfold aO at h
 split at h
 ·rename_i f d h1 h2
  split at h
  ·rename_i z hz
   split at h
   ·rename_i hs
    cases h
    refine⟨h2,⟨f,h1,rfl,rfl,hz⟩,hs,fun he=>?_⟩
    simp only[Bool.and_eq_true,Bool.not_eq_true'] at he
    exact he
   ·cases h
  ·cases h
 ·cases h
def aN(P:Program) (f:FuncId):Option Func:=match P.funcs[f]? with
 |some fn=>if fn.name == "runtime.NumGoroutine" then none else match fn.body with
  |some c=>if bW c then some fn else none
  |none=>some fn
 |none=>none
theorem ax(P:Program):FnTab P (aN P):=by
 refine⟨fun f fn h=>?_⟩
 unfold aN at h
 split at h
 ·rename_i fn' h1
  split at h
  ·cases h
  ·rename_i hn
   split at h
   ·rename_i c hb
    split at h
    ·rename_i hs
     cases h
     refine⟨h1,by simpa using hn,fun c' hc=>?_⟩
     rw[hb] at hc;cases hc;exact hs
    ·cases h
   ·rename_i hb
    cases h
    refine⟨h1,by simpa using hn,fun c' hc=>?_⟩
    rw[hb] at hc;cases hc
 ·cases h
def bt:Oracle:=fun _ _ _=>none
theorem ak(P:Program):OracleOk P bt:=⟨(fun _ _ _ _ h=>by cases h),(fun _ _ _ _ h=>by cases h),(fun _ _ _ _ _ h=>by cases h)⟩
structure Gentle (w w' :World):Prop where
 size:w.heap.size≤w'.heap.size
 heap:∀k,k<w.heap.size→w'.heap[k]? =w.heap[k]?
 os:w'.os=w.os
 tape:w'.tape=w.tape
 output:w'.output=w.output
 drawn:w.drawn≤w'.drawn
section
variable {P:Program}{μ:Nat→Place}{mem:Mem}{base:Nat}{w w' :World}
theorem Gentle.refl(w:World):Gentle w w:=⟨Nat.le_refl _,fun _ _=>rfl,rfl,rfl,rfl,Nat.le_refl _⟩
theorem Gentle.hrel(h:Gentle w w') (hH:HRel base μ mem w):HRel base μ mem w' :=by
 refine⟨Nat.le_trans hH.base_le h.size,fun b s hs=>?_,hH.sep⟩
 exact(hH.slot b s hs).mono (Nat.le_refl _) (fun _ _=>rfl) fun hne=>h.heap _ ((hH.slot b s hs).blk_lt hne)
theorem Gentle.step(h:Gentle w w') {m0:Nat}(hm:m0≤mem.length):Step m0 μ mem w μ mem w' :=
 ⟨hm,fun _ _=>rfl,h.os,h.tape,h.output,h.size,fun k hk _=>h.heap k hk,fun b hb _=>⟨b,hb,rfl⟩,h.drawn⟩
theorem ACallsTo.of_calls{f:FuncId}{args:List AV}{Vs:List Value}{v:AV}{V:Value}(hf:OM P f) (hargs:∀μ n Us,VRels μ n args Us→Us=Vs) (hv:∀μ n,VRel μ n v V)
  (h:∀base w,GOk P base w→Calls P f ⟨Vs⟩ w fun e w' =>e=.returned V∧Gentle w w') (mem:Mem):ACallsTo P f args mem v mem:=by
 refine⟨hf,fun base μ w Us hG hH hV=>?_⟩
 rw[hargs _ _ _ hV]
 refine(h base w hG).mono ?_
 rintro e w' ⟨rfl,hg⟩
 exact⟨V,v,mem,μ,rfl,hv _ _,hg.hrel hH,hg.step (Nat.le_refl _),rfl,rfl⟩
theorem Gentle.grow(w:World) (k:Nat) (os:Array Obj):Gentle w { w with heap:=w.heap++os,drawn:=w.drawn+k }:=by
 refine⟨by simp,fun i hi=>?_,rfl,rfl,rfl,Nat.le_add_right _ _⟩
 show(w.heap++os)[i]? =_
 rw[Array.getElem?_append_left hi]
mutual
def AV.closed:AV→Bool
 |.ptr _ _=>false
 |.slice _ _ _ _=>false
 |.map _=>false
 |.yield _=>false
 |.func _ cs=>AV.closeds cs
 |.iface _ v=>v.closed
 |.agg cs=>AV.closeds cs
 |.tuple cs=>AV.closeds cs
 |_=>true
def AV.closeds:List AV→Bool
 | []=>true
 |v::vs=>v.closed&&AV.closeds vs
end
mutual
theorem VRel.closed{μ μ' :Nat→Place}{n n' :Nat}:∀{v V},v.closed=true→VRel μ n v V→VRel μ' n' v V
 |.undef,V,_,_=>by simp[VRel]
 |.bool b,V,_,h=>by simpa [VRel] using h
 |.int k i,V,_,h=>by simpa [VRel] using h
 |.str s,V,_,h=>by simpa [VRel] using h
 |.ptr b o,V,hc,_=>by simp[AV.closed] at hc
 |.nilptr,V,_,h=>by simpa [VRel] using h
 |.slice b o l c,V,hc,_=>by simp[AV.closed] at hc
 |.nilslice,V,_,h=>by simpa [VRel] using h
 |.map b,V,hc,_=>by simp[AV.closed] at hc
 |.yield b,V,hc,_=>by simp[AV.closed] at hc
 |.nilmap,V,_,h=>by simpa [VRel] using h
 |.func f cs,V,hc,h=>by
  simp only[VRel] at h ⊢
  simp only[AV.closed] at hc
  obtain⟨Us,rfl,h⟩:=h
  exact⟨Us,rfl,VRels.closed hc h⟩
 |.nilFunc,V,_,h=>by simpa [VRel] using h
 |.iface t v,V,hc,h=>by
  simp only[VRel] at h ⊢
  simp only[AV.closed] at hc
  obtain⟨U,rfl,h⟩:=h
  exact⟨U,rfl,VRel.closed hc h⟩
 |.nilIface,V,_,h=>by simpa [VRel] using h
 |.agg cs,V,hc,h=>by
  simp only[VRel] at h ⊢
  simp only[AV.closed] at hc
  obtain⟨Us,rfl,h⟩:=h
  exact⟨Us,rfl,VRels.closed hc h⟩
 |.tuple cs,V,hc,h=>by
  simp only[VRel] at h ⊢
  simp only[AV.closed] at hc
  obtain⟨Us,rfl,h⟩:=h
  exact⟨Us,rfl,VRels.closed hc h⟩
theorem VRels.closed{μ μ' :Nat→Place}{n n' :Nat}:∀{vs Us},AV.closeds vs=true→VRels μ n vs Us→VRels μ' n' vs Us
 | [],Us,_,h=>by simpa [VRels] using h
 |v::vs,Us,hc,h=>by
  simp only[AV.closeds,Bool.and_eq_true] at hc
  simp only[VRels] at h ⊢
  obtain⟨U,Ws,rfl,h1,h2⟩:=h
  exact⟨U,Ws,rfl,VRel.closed hc.1 h1,VRels.closed hc.2 h2⟩
end
theorem ACallsTo.lift{f:FuncId}{args:List AV}{v:AV}(ha:AV.closeds args=true) (hv:v.closed=true) (h:ACallsTo P f args [] v []) (mem:Mem):ACallsTo P f args mem v mem:=by
 refine⟨h.1,fun base μ w Us hG hH hV=>?_⟩
 have h0:HRel base μ [] w:=⟨hH.base_le,fun b s hs=>by simp at hs,fun b b' s' hb=>by obtain⟨s,hs,_⟩:=hb;simp at hs⟩
 refine(h.2 base μ w Us hG h0 (VRels.closed ha hV)).mono ?_
 rintro e w' ⟨V,v',m',μ',rfl,q1,q2,q3,rfl,rfl⟩
 have hg:Gentle w w' :=⟨q3.size,fun k hk=>q3.frame k hk fun b hb=>by obtain⟨s,hs,_⟩:=hb;simp at hs,q3.os,q3.tape,q3.output,q3.drawn⟩
 exact⟨V,v',mem,μ,rfl,VRel.closed hv q1,hg.hrel hH,hg.step (Nat.le_refl _),rfl,rfl⟩
theorem ACallsTo.of_run{T:TypeId→Option TyI}{O:Oracle}{G:FuncId→Option Func}{K:Nat}(hm:P.follows .mixedOrders=true) (hT:cf P T) (hO:OracleOk P O) (hG:FnTab P G) {f:FuncId}{args:List AV}{v:AV}
  (ha:AV.closeds args=true) (hv:v.closed=true) {lv:Code→List Nat}(h:aa T lv G O K f args []=some ⟨v,none,[]⟩) (mem:Mem):ACallsTo P f args mem v mem:=
 ACallsTo.lift ha hv (af hm hT hO hG h).1 mem
def Oracle.or(O O' :Oracle):Oracle:=fun c args mem=>match O c args mem with
 |some r=>some r
 |none=>O' c args mem
theorem OracleOk.or{O O' :Oracle}(h:OracleOk P O) (h' :OracleOk P O'):OracleOk P (O.or O'):=by
 have key:∀c args mem r,O.or O' c args mem=some r→O c args mem=some r∨O' c args mem=some r:=by
  intro c args mem r hr
  unfold Oracle.or at hr
  split at hr
  ·rename_i r' h1;cases hr;exact .inl h1
  ·exact .inr hr
 refine⟨fun f args mem r hr=>?_,fun b args mem r hr=>?_,fun c args mem r p hr hp=>?_⟩
 ·rcases key _ _ _ _ hr with h1 | h1
  ·exact h.fn _ _ _ _ h1
  ·exact h'.fn _ _ _ _ h1
 ·rcases key _ _ _ _ hr with h1 | h1
  ·exact h.yld _ _ _ _ h1
  ·exact h'.yld _ _ _ _ h1
 ·rcases key _ _ _ _ hr with h1 | h1
  ·exact h.pre _ _ _ _ _ h1 hp
  ·exact h'.pre _ _ _ _ _ h1 hp
def ai(F:FuncId→List AV→Option AV):Oracle:=fun c args _=>match c with
 |.fn f=>match F f args with
  |some v=>some ⟨v,none,[]⟩
  |none=>none
 |.yld _=>none
theorem bM{F:FuncId→List AV→Option AV}(h:∀f args v,F f args=some v→∀mem,ACallsTo P f args mem v mem):OracleOk P (ai F):=by
 refine⟨fun f args mem r hr=>?_,(fun b args mem r hr=>by cases hr),fun c args mem r p hr hp=>?_⟩
 ·unfold ai at hr
  simp only at hr
  split at hr
  ·rename_i v hv
   cases hr
   have:=h f args v hv mem
   simpa [CallRes.mem] using this
  ·cases hr
 ·unfold ai at hr
  split at hr
  ·split at hr
   ·cases hr;cases hp
   ·cases hr
  ·cases hr
end
end Go.Eng
