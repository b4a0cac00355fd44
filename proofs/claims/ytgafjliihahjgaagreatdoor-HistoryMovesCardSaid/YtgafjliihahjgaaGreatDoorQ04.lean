/- See Q54. -/
import Derived.Test.YtgafjliihahjgaaGreatDoorQ03
set_option linter.all false
namespace Go.Eng
mutual
def AV.refsOk(ok:Nat→Bool):AV→Bool
 |.ptr b _=>ok b
 |.slice b _ _ _=>ok b
 |.map b=>ok b
 |.yield b=>ok b
 |.func _ cs=>AV.refsOkL ok cs
 |.iface _ v=>v.refsOk ok
 |.agg cs=>AV.refsOkL ok cs
 |.tuple cs=>AV.refsOkL ok cs
 |_=>true
def AV.refsOkL(ok:Nat→Bool):List AV→Bool
 | []=>true
 |v::vs=>v.refsOk ok&&AV.refsOkL ok vs
end
def Slot.refsOk(ok:Nat→Bool):Slot→Bool
 |.absent=>true
 |.cells _ _ cs=>AV.refsOkL ok cs
 |.map es=>es.all fun e=>e.1.refsOk ok&&e.2.refsOk ok
 |.fmap es=>es.all fun e=>e.1.refsOk ok&&e.2.refsOk ok
 |.loop r=>r.env.all fun e=>e.2.refsOk ok
theorem zu{ok:Nat→Bool}:∀{env:Env},(env.all fun e=>e.2.refsOk ok)=true→∀t,(ab env t).refsOk ok=true
 | [],_,_=>rfl
 |(k,v)::r,h,t=>by
  simp only[List.all_cons,Bool.and_eq_true] at h;simp only[ab];split
  ·exact h.1
  ·exact zu h.2 t
mutual
theorem VRel.change{μ μ' :Nat→Place}{n:Nat}{ok:Nat→Bool}(hμ:∀b,b<n→ok b=true→μ' b=μ b):
  ∀{v V},v.refsOk ok=true→VRel μ n v V→VRel μ' n v V
 |.undef,_,_,_=>by simp[VRel]
 |.bool _,_,_,h=>by simpa [VRel] using h
 |.int _ _,_,_,h=>by simpa [VRel] using h
 |.str _,_,_,h=>by simpa [VRel] using h
 |.ptr b o,V,hk,h=>by simp only[VRel] at h ⊢;simp only[AV.refsOk] at hk;exact⟨h.1,by rw[hμ b h.1 hk];exact h.2⟩
 |.nilptr,_,_,h=>by simpa [VRel] using h
 |.slice b o l c,V,hk,h=>by simp only[VRel] at h ⊢;simp only[AV.refsOk] at hk;exact⟨h.1,by rw[hμ b h.1 hk];exact h.2⟩
 |.nilslice,_,_,h=>by simpa [VRel] using h
 |.map b,V,hk,h=>by simp only[VRel] at h ⊢;simp only[AV.refsOk] at hk;exact⟨h.1,by rw[hμ b h.1 hk];exact h.2⟩
 |.yield b,V,hk,h=>by simp only[VRel] at h ⊢;simp only[AV.refsOk] at hk;exact⟨h.1,by rw[hμ b h.1 hk];exact h.2⟩
 |.nilmap,_,_,h=>by simpa [VRel] using h
 |.func f cs,V,hk,h=>by simp only[VRel] at h ⊢;simp only[AV.refsOk] at hk;obtain⟨Us,e,h⟩:=h;exact⟨Us,e,VRels.change hμ hk h⟩
 |.nilFunc,_,_,h=>by simpa [VRel] using h
 |.iface t v,V,hk,h=>by simp only[VRel] at h ⊢;simp only[AV.refsOk] at hk;obtain⟨U,e,h⟩:=h;exact⟨U,e,VRel.change hμ hk h⟩
 |.nilIface,_,_,h=>by simpa [VRel] using h
 |.agg cs,V,hk,h=>by simp only[VRel] at h ⊢;simp only[AV.refsOk] at hk;obtain⟨Us,e,h⟩:=h;exact⟨Us,e,VRels.change hμ hk h⟩
 |.tuple cs,V,hk,h=>by simp only[VRel] at h ⊢;simp only[AV.refsOk] at hk;obtain⟨Us,e,h⟩:=h;exact⟨Us,e,VRels.change hμ hk h⟩
theorem VRels.change{μ μ' :Nat→Place}{n:Nat}{ok:Nat→Bool}(hμ:∀b,b<n→ok b=true→μ' b=μ b):
  ∀{vs Us},AV.refsOkL ok vs=true→VRels μ n vs Us→VRels μ' n vs Us
 | [],_,_,h=>by simpa [VRels] using h
 |v::vs,Us,hk,h=>by simp only[VRels] at h ⊢;simp only[AV.refsOkL,Bool.and_eq_true] at hk;obtain⟨U,Ws,e,h1,h2⟩:=h;exact⟨U,Ws,e,VRel.change hμ hk.1 h1,VRels.change hμ hk.2 h2⟩
end
theorem SRel.change{μ μ' :Nat→Place}{n base:Nat}{w:World}{p:Place}{s:Slot}{ok:Nat→Bool}(hμ:∀b,b<n→ok b=true→μ' b=μ b)
  (hk:s.refsOk ok=true) (h:SRel μ n base w p s):SRel μ' n base w p s:=by
 cases s with
 |absent=>trivial
 |cells own es cs=>
  simp only[SRel] at h ⊢;simp only[Slot.refsOk] at hk;obtain⟨cur,e,fr,h1,h2,h3,h4,h5⟩:=h;refine⟨cur,e,fr,h1,h2,h3,fun j v hv=>?_,h5⟩;obtain⟨V,hV,hr⟩:=h4 j v hv;refine⟨V,hV,hr.change hμ ?_⟩;have:∀(l:List AV),AV.refsOkL ok l=true→∀v∈l,v.refsOk ok=true:=by
   intro l;induction l with
   |nil=>intro _ v hv;cases hv
   |cons x xs ih=>
    intro hl v hv;simp only[AV.refsOkL,Bool.and_eq_true] at hl;cases hv with
    |head=>exact hl.1
    |tail _ hm=>exact ih hl.2 v hm
  exact this cs hk v (List.mem_of_getElem? hv)
 |map es=>
  simp only[SRel] at h ⊢;simp only[Slot.refsOk,List.all_eq_true,Bool.and_eq_true] at hk;obtain⟨ents,clock,h1,h2,h3,h4⟩:=h;refine⟨ents,clock,h1,h2,h3,fun j e he=>?_⟩;obtain⟨E,hE,hr1,hr2⟩:=h4 j e he;have:=hk e (List.mem_of_getElem? he);exact⟨E,hE,hr1.change hμ this.1,hr2.change hμ this.2⟩
 |fmap es=>
  simp only[SRel] at h ⊢;simp only[Slot.refsOk,List.all_eq_true,Bool.and_eq_true] at hk;obtain⟨ents,clock,h1,h2,h3,h4⟩:=h;refine⟨ents,clock,h1,h2,h3,fun j e he=>?_⟩;obtain⟨E,hE,hr1,hr2⟩:=h4 j e he;have:=hk e (List.mem_of_getElem? he);exact⟨E,hE,hr1.change hμ this.1,hr2.change hμ this.2⟩
 |loop r=>
  simp only[SRel] at h ⊢;obtain⟨L,h1,h2,h3⟩:=h;exact⟨L,h1,h2,{ h3 with tmps:=fun t=>(h3.tmps t).change hμ (zu hk t) }⟩
structure DrawData where
 E:Nat→Env
 En:Nat→Env
 M:Nat→Mem
 Tm:Nat→Mem
 M' :Nat→Mem
 v:Nat→AV
 wb:Nat→Bool
 touch:Nat→Nat→Bool
 ok:Nat→Nat→Bool
 cl:Nat→Nat→Bool
def gm(mem:Mem) (b:Nat):Prop:=∃s,mem[b]? =some s∧s≠ .absent
structure DrawOk (P:Program) (T:TypeId→Option TyI) (N:Nat) (ops:Array Oper) (d:DrawData) (j:Nat) (o:Oper):Prop where
 wanted:oU ops (d.En j) o=some (d.wb j)
 dst:Ay N o=true
 step:d.wb j=true→tt P T (d.En j) (d.Tm j) o (d.v j) (d.M' j)
 skip:d.wb j=false→d.v j=.tuple []∧d.M' j=d.Tm j
 env:d.E (j+1)=putE (d.E j) o.dst (d.v j)
 named:∀t,ab (d.En j) t=.undef∨(ab (d.En j) t=ab (d.E j) t∧∀(i:Nat) oi,ops[i]? =some oi→i≠j→oi.dst=some t→d.cl i j=true∨d.cl j i=true)
 dsts:∀(i:Nat) oi t,ops[i]? =some oi→i≠j→o.dst=some t→oi.dst=some t→d.cl i j=true∨d.cl j i=true
 tlen:(d.Tm j).length=(d.M j).length
 tmask:∀b:Nat,(d.Tm j)[b]? =(d.M j)[b]? ∨(d.Tm j)[b]? =some .absent
 mlen:(d.M (j+1)).length=(d.M' j).length
 mmono:(d.M j).length≤(d.M (j+1)).length
 mval:∀b:Nat,d.touch j b=true→(d.M (j+1))[b]? =(d.M' j)[b]?
 mkeep:∀b:Nat,b<(d.M j).length→d.touch j b=false→(d.M (j+1))[b]? =(d.M j)[b]?
 keepT:∀b:Nat,b<(d.M j).length→d.touch j b=false→gm (d.Tm j) b→(d.M' j)[b]? =(d.M j)[b]?
 tnew:∀b:Nat,(d.M j).length≤b→d.touch j b=true
 touchT:∀b:Nat,d.touch j b=true→b<(d.M j).length→gm (d.Tm j) b
 sep:∀(i:Nat) oi (b:Nat),ops[i]? =some oi→i≠j→b<(d.M (i+1)).length→d.touch i b=true→(b<(d.M (j+1)).length∧d.touch j b=true)∨gm (d.Tm j) b→d.cl i j=true∨d.cl j i=true
 okc:∀(i:Nat) (b:Nat) oi,ops[i]? =some oi→d.ok j b=true→(d.M i).length≤b→b<(d.M (i+1)).length→i=j∨d.cl i j=true
 refsV:(d.v j).refsOk (d.ok j)=true
 refsM:∀(b:Nat) s,d.touch j b=true→(d.M (j+1))[b]? =some s→s.refsOk (d.ok j)=true
 newOwn:∀(b:Nat) s,(d.M j).length≤b→(d.M (j+1))[b]? =some s→s≠ .absent→dF (d.M (j+1)) b
 edge:∀e∈o.after,Region.binds .any e=true→e.on<j
 clAnc:∀i,d.cl i j=true→∃e∈o.after,Region.binds .any e=true∧(e.on=i∨d.cl i e.on=true)
section
variable {P:Program}{T:TypeId→Option TyI}{N:Nat}{ops:Array Oper}{d:DrawData}
def pI(P:Program) (T:TypeId→Option TyI) (N:Nat) (ops:Array Oper) (d:DrawData):Prop:=∀(j:Nat) o,ops[j]? =some o→DrawOk P T N ops d j o
def Tch(d:DrawData) (i b:Nat):Prop:=d.touch i b=true∧b<(d.M (i+1)).length
theorem wW{j:Nat}(h:j<ops.size):∃o,ops[j]? =some o:=⟨ops[j],by simp[h]⟩
theorem HK{env:Env}{dst:Option Tmp}{v:AV}{t:Nat}(h:dst≠some t):ab (putE env dst v) t=ab env t:=by
 cases dst with
 |none=>rfl
 |some x=>
  have:¬x=t:=fun e=>h (by rw[e])
  simp[putE,ab,this]
theorem Bg(hA:pI P T N ops d) (t:Nat) (j:Nat):∀k,j≤k→k≤ops.size→(∀(i:Nat) oi,j≤i→i<k→ops[i]? =some oi→oi.dst≠some t)→ab (d.E k) t=ab (d.E j) t:=by
 intro k hjk;induction hjk with
 |refl=>intro _ _;rfl
 | @step k hjk ih=>
  intro hk hno;obtain⟨o,ho⟩:=wW (ops:=ops) (j:=k) (by omega);rw[(hA k o ho).env,HK (hno k o hjk (Nat.lt_succ_self k) ho)];exact ih (by omega) fun i oi h1 h2 h3=>hno i oi h1 (by omega) h3
theorem xi(hA:pI P T N ops d) (j:Nat):∀k,j≤k→k≤ops.size→(d.M j).length≤(d.M k).length:=by
 intro k hjk;induction hjk with
 |refl=>intro _;exact Nat.le_refl _
 | @step k hjk ih=>
  intro hk;obtain⟨o,ho⟩:=wW (ops:=ops) (j:=k) (by omega);exact Nat.le_trans (ih (by omega)) (hA k o ho).mmono
theorem Bu(hA:pI P T N ops d) (b:Nat) (j:Nat):∀k,j≤k→k≤ops.size→(∀i,j≤i→i<k→¬Tch d i b)→(d.M k)[b]? =(d.M j)[b]? :=by
 intro k hjk;induction hjk with
 |refl=>intro _ _;rfl
 | @step k hjk ih=>
  intro hk hno;obtain⟨o,ho⟩:=wW (ops:=ops) (j:=k) (by omega);have h1:=ih (by omega) fun i h1 h2=>hno i h1 (by omega)
  have hn:=hno k hjk (Nat.lt_succ_self k);rw[←h1];by_cases hb:b<(d.M k).length
  ·have:d.touch k b=false:=by
    cases ht:d.touch k b with
    |false=>rfl
    |true=>exact absurd ⟨ht,Nat.lt_of_lt_of_le hb (hA k o ho).mmono⟩ hn
   exact(hA k o ho).mkeep b hb this
  ·have ht:=(hA k o ho).tnew b (by omega)
   have:¬b<(d.M (k+1)).length:=fun h=>hn ⟨ht,h⟩
   exact(List.getElem?_eq_none (Nat.le_of_not_lt this)).trans (List.getElem?_eq_none (Nat.le_of_not_lt hb)).symm
structure DInv (d:DrawData) (ops:Array Oper) (base:Nat) (μ0:Nat→Place) (w0:World) (S:Nat→Prop) (μ:Nat→Place) (kb kt:Nat→Nat) (tmps:Array Value) (w:World):Prop where
 base_le:base≤w.heap.size
 kb_le:∀b,kb b≤ops.size
 kb_iff:∀b i,i<ops.size→Tch d i b→(S i↔i<kb b)
 kb_min:∀b,kb b=0∨Tch d (kb b-1) b
 slot:∀(b:Nat) s,(d.M (kb b))[b]? =some s→SRel μ (d.M (kb b)).length base w (μ b) s
 sep:∀b b' s',dF (d.M (kb b)) b→(d.M (kb b'))[b']? =some s' →s' ≠ .absent→b≠b' →(μ b).blk≠(μ b').blk
 kt_le:∀t,kt t≤ops.size
 kt_iff:∀(t i:Nat) oi,ops[i]? =some oi→oi.dst=some t→(S i↔i<kt t)
 kt_min:∀t,kt t=0∨∃oi,ops[kt t-1]? =some oi∧oi.dst=some t
 tmp:∀t,VRel μ (d.M (kt t)).length (ab (d.E (kt t)) t) (tmps.getD t undef)
 agree:∀b,b<(d.M 0).length→μ b=μ0 b
 os:w.os=w0.os
 tape:w.tape=w0.tape
 drawn:w0.drawn≤w.drawn
 output:w.output=w0.output
 size:w0.heap.size≤w.heap.size
 frame:∀k,k<w0.heap.size→(∀b,dF (d.M 0) b→(μ0 b).blk≠k)→w.heap[k]? =w0.heap[k]?
 owner:∀b,dF (d.M (kb b)) b→(μ b).blk<w0.heap.size→∃b0,dF (d.M 0) b0∧(μ0 b0).blk=(μ b).blk
theorem SN(hA:pI P T N ops d):∀(j i:Nat),j<ops.size→d.cl i j=true→i<j:=by
 intro j;induction j using Nat.strongRecOn with
 |_ j ih=>
  intro i hj h;obtain⟨o,ho⟩:=wW hj;obtain⟨e,he,hb,hc⟩:=(hA j o ho).clAnc i h;have hlt:=(hA j o ho).edge e he hb;rcases hc with rfl | hc
  ·exact hlt
  ·exact Nat.lt_trans (ih e.on hlt i (by omega) hc) hlt
def rI(ops:Array Oper) (S:Nat→Prop):Prop:=∀(j:Nat) o,ops[j]? =some o→S j→∀e∈o.after,Region.binds .any e=true→S e.on
theorem OX(hA:pI P T N ops d) {S:Nat→Prop}(hS:rI ops S):∀(j:Nat) o,ops[j]? =some o→(∀e∈o.after,Region.binds .any e=true→S e.on)→∀i,d.cl i j=true→S i:=by
 intro j;induction j using Nat.strongRecOn with
 |_ j ih=>
  intro o ho hp i h;have hjs:j<ops.size:=(Array.getElem?_eq_some_iff.1 ho).1;obtain⟨e,he,hb,hc⟩:=(hA j o ho).clAnc i h;have hlt:=(hA j o ho).edge e he hb;have hSe:=hp e he hb;rcases hc with rfl | hc
  ·exact hSe
  ·obtain⟨oe,hoe⟩:=wW (ops:=ops) (j:=e.on) (by omega)
   exact ih e.on hlt oe hoe (hS e.on oe hoe hSe) i hc
theorem lE(hA:pI P T N ops d) {S:Nat→Prop}(hS:rI ops S) {j:Nat}{o:Oper}(ho:ops[j]? =some o) (hr:∀e∈o.after,Region.binds .any e=true→S e.on) (hj:¬S j)
  {i:Nat}(hi:i<ops.size) (h:d.cl i j=true∨d.cl j i=true):S i↔i<j:=by
 have hjs:j<ops.size:=(Array.getElem?_eq_some_iff.1 ho).1;obtain⟨oi,hoi⟩:=wW hi;rcases h with h | h
 ·exact⟨fun _=>SN hA j i hjs h,fun _=>OX hA hS j o ho hr i h⟩
 ·have hlt:=SN hA i j hi h
  constructor
  ·intro hSi
   exact absurd (OX hA hS i oi hoi (hS i oi hoi hSi) j h) hj
  ·intro;omega
section step
variable {base:Nat}{μ0:Nat→Place}{w0:World}{S:Nat→Prop}{μ:Nat→Place}{kb kt:Nat→Nat}{a:Act}{w:World}{j:Nat}{o:Oper}
theorem Rm(hA:pI P T N ops d) (hI:DInv d ops base μ0 w0 S μ kb kt a.tmps w) (hS:rI ops S) (ho:ops[j]? =some o)
  (hr:∀e∈o.after,Region.binds .any e=true→S e.on) (hj:¬S j) {t:Nat}(hn:∀(i:Nat) oi,ops[i]? =some oi→i≠j→oi.dst=some t→d.cl i j=true∨d.cl j i=true):
  kt t≤j∧ab (d.E j) t=ab (d.E (kt t)) t:=by
 have hjs:j<ops.size:=(Array.getElem?_eq_some_iff.1 ho).1;have hle:kt t≤j:=by
  rcases hI.kt_min t with h0 | ⟨oi,h1,h2⟩
  ·omega
  ·have hk:=(hI.kt_iff t (kt t-1) oi h1 h2)
   by_cases h0:kt t=0
   ·omega
   ·have hSi:S (kt t-1):=hk.2 (by omega)
    have hne:kt t-1≠j:=fun e=>hj (e▸hSi)
    have hlt:kt t-1<ops.size:=(Array.getElem?_eq_some_iff.1 h1).1;have:=(lE hA hS ho hr hj hlt (hn _ oi h1 hne h2)).1 hSi;omega
 refine⟨hle,Bg hA t (kt t) j hle (by omega) fun i oi h1 h2 h3 h4=>?_⟩;have:=(lE hA hS ho hr hj (by omega) (hn i oi h3 (by omega) h4)).2 h2;have:=(hI.kt_iff t i oi h3 h4).1 this;omega
theorem uA(hA:pI P T N ops d) (hI:DInv d ops base μ0 w0 S μ kb kt a.tmps w) (hS:rI ops S) (ho:ops[j]? =some o)
  (hr:∀e∈o.after,Region.binds .any e=true→S e.on) (hj:¬S j) {b:Nat}(hb:gm (d.Tm j) b):kb b≤j∧(d.M j)[b]? =(d.M (kb b))[b]? :=by
 have hjs:j<ops.size:=(Array.getElem?_eq_some_iff.1 ho).1;have hcmp:∀i,i<ops.size→i≠j→Tch d i b→(S i↔i<j):=by intro i hi hne ht;obtain⟨oi,hoi⟩:=wW hi;exact lE hA hS ho hr hj hi ((hA j o ho).sep i oi b hoi hne ht.2 ht.1 (.inr hb))
 have hle:kb b≤j:=by
  rcases hI.kb_min b with h0 | h1
  ·omega
  ·by_cases h0:kb b=0
   ·omega
   ·have hlt:kb b-1<ops.size:=by have:=hI.kb_le b;omega
    have hSi:S (kb b-1):=(hI.kb_iff b _ hlt h1).2 (by omega);have hne:kb b-1≠j:=fun e=>hj (e▸hSi)
    have:=(hcmp _ hlt hne h1).1 hSi;omega
 refine⟨hle,Bu hA b (kb b) j hle (by omega) fun i h1 h2 h3=>?_⟩;have:=(hcmp i (by omega) (by omega) h3).2 h2;have:=(hI.kb_iff b i (by omega) h3).1 this;omega
theorem om(hA:pI P T N ops d) (ho:ops[j]? =some o) {b:Nat}{s:Slot}(h:(d.Tm j)[b]? =some s) (hs:s≠ .absent):(d.M j)[b]? =some s:=by
 rcases (hA j o ho).tmask b with e | e
 ·rw[←e];exact h
 ·rw[h] at e;cases e;exact absurd rfl hs
theorem jB{mem:Mem}{b:Nat}(h:dF mem b):gm mem b:=by obtain⟨s,h,ho⟩:=h;exact⟨s,h,Slot.own_ne ho⟩
theorem jC{m m' :Mem}{b:Nat}(h:m[b]? =m'[b]?):dF m b↔dF m' b:=by simp[dF,h]
theorem PZ(hA:pI P T N ops d) (hI:DInv d ops base μ0 w0 S μ kb kt a.tmps w) (hS:rI ops S) (ho:ops[j]? =some o)
  (hr:∀e∈o.after,Region.binds .any e=true→S e.on) (hj:¬S j):HRel base μ (d.Tm j) w:=by
 have hjs:j<ops.size:=(Array.getElem?_eq_some_iff.1 ho).1;refine⟨hI.base_le,fun b s hs=>?_,fun b b' s' hb hb' hne hbb=>?_⟩
 ·by_cases h0:s=.absent
  ·subst h0;trivial
  ·have hbd:gm (d.Tm j) b:=⟨s,hs,h0⟩
   obtain⟨k1,k2⟩:=uA hA hI hS ho hr hj hbd;have hM:=om hA ho hs h0;rw[k2] at hM;rw[(hA j o ho).tlen];exact(hI.slot b s hM).mono (xi hA _ j k1 (by omega)) (fun _ _=>rfl) fun _=>rfl
 ·obtain⟨k1,k2⟩:=uA hA hI hS ho hr hj (jB hb)
  obtain⟨k3,k4⟩:=uA hA hI hS ho hr hj ⟨s',hb',hne⟩;refine hI.sep b b' s' ?_ ?_ hne hbb
  ·refine(jC k2).1 ?_
   obtain⟨s,h,hso⟩:=hb;exact⟨s,om hA ho h (Slot.own_ne hso),hso⟩
  ·rw[←k4];exact om hA ho hb' hne
theorem P0(hA:pI P T N ops d) (hI:DInv d ops base μ0 w0 S μ kb kt a.tmps w) (hS:rI ops S) (ho:ops[j]? =some o)
  (hr:∀e∈o.after,Region.binds .any e=true→S e.on) (hj:¬S j):TRel μ (d.Tm j).length (d.En j) a.tmps:=by
 have hjs:j<ops.size:=(Array.getElem?_eq_some_iff.1 ho).1;intro t;rcases (hA j o ho).named t with h | ⟨h,hn⟩
 ·rw[h];simp[VRel]
 ·obtain⟨k1,k2⟩:=Rm hA hI hS ho hr hj hn
  rw[h,k2,(hA j o ho).tlen];exact(hI.tmp t).mono (xi hA _ j k1 (by omega)) fun _ _=>rfl
end step
end
end Go.Eng
namespace Go.Eng
section
variable {P:Program}{T:TypeId→Option TyI}{N:Nat}{ops:Array Oper}{d:DrawData}
variable {base:Nat}{μ0:Nat→Place}{w0:World}{S:Nat→Prop}{μ μ' :Nat→Place}{kb kt:Nat→Nat}{a:Act}{w w' :World}{j:Nat}{o:Oper}{V:Value}
open Classical in
theorem Ri(hA:pI P T N ops d) (hI:DInv d ops base μ0 w0 S μ kb kt a.tmps w) (hS:rI ops S) (ho:ops[j]? =some o)
  (hr:∀e∈o.after,Region.binds .any e=true→S e.on) (hj:¬S j) (hN:a.tmps.size=N)
  (hV:VRel μ' (d.M' j).length (d.v j) V) (hH:HRel base μ' (d.M' j) w') (hst:Step (d.Tm j).length μ (d.Tm j) w μ' (d.M' j) w'):
  ∃μ2 kb2 kt2,DInv d ops base μ0 w0 (fun i=>S i∨i=j) μ2 kb2 kt2 (a.put o.dst V).tmps w' :=by
 have hjs:j<ops.size:=(Array.getElem?_eq_some_iff.1 ho).1;have D:=hA j o ho;have hlj:∀k,k≤j→(d.M k).length≤(d.M j).length:=fun k hk=>xi hA k j hk (by omega)
 have hl1:=D.mmono;have h0j:=hlj 0 (Nat.zero_le _);have hag:∀b,b<(d.M j).length→μ' b=μ b:=fun b hb=>hst.agree b (by rw[D.tlen];exact hb)
 let μ2:Nat→Place:=fun b=>if b<(d.M (j+1)).length then μ' b else μ b
 have m2old:∀b,b<(d.M j).length→μ2 b=μ b:=by
  intro b hb;show(if b<(d.M (j+1)).length then μ' b else μ b)=μ b
  rw[if_pos (by omega),hag b hb]
 have m2new:∀b,b<(d.M (j+1)).length→μ2 b=μ' b:=by
  intro b hb;show(if b<(d.M (j+1)).length then μ' b else μ b)=μ' b
  rw[if_pos hb]
 have m2far:∀b,¬b<(d.M (j+1)).length→μ2 b=μ b:=by
  intro b hb;show(if b<(d.M (j+1)).length then μ' b else μ b)=μ b
  rw[if_neg hb]
 have m2ok:∀k,0<k→S (k-1)→k-1<ops.size→∀b,d.ok (k-1) b=true→μ2 b=μ b:=by
  intro k hk hSk hks b hb;by_cases h1:b<(d.M j).length
  ·exact m2old b h1
  ·by_cases h2:b<(d.M (j+1)).length
   ·obtain⟨ok,hok⟩:=wW hks
    rcases (hA _ ok hok).okc j b o ho hb (by omega) h2 with e | e
    ·exact absurd (e▸hSk) hj
    ·exact absurd (OX hA hS _ ok hok (hS _ ok hok hSk) j e) hj
   ·exact m2far b h2
 let kb2:Nat→Nat:=fun b=>if Tch d j b then j+1 else kb b
 let kt2:Nat→Nat:=fun t=>if o.dst=some t then j+1 else kt t
 have kb2t:∀b,Tch d j b→kb2 b=j+1:=fun b hb=>if_pos hb
 have kb2n:∀b,¬Tch d j b→kb2 b=kb b:=fun b hb=>if_neg hb
 have kbS:∀b,kb b=0∨(0<kb b∧S (kb b-1)∧kb b-1<ops.size∧Tch d (kb b-1) b):=by
  intro b;rcases Nat.eq_zero_or_pos (kb b) with h0 | h0
  ·exact .inl h0
  ·rcases hI.kb_min b with h1 | h1
   ·exact .inl h1
   ·have hlt:kb b-1<ops.size:=by have:=hI.kb_le b;omega
    exact .inr ⟨h0,(hI.kb_iff b _ hlt h1).2 (by omega),hlt,h1⟩
 have noNew:∀b,¬Tch d j b→b<(d.M j).length∨¬b<(d.M (j+1)).length:=by
  intro b hb;by_cases h1:b<(d.M j).length
  ·exact .inl h1
  ·refine .inr fun h2=>hb ⟨D.tnew b (by omega),h2⟩
 have m2un:∀b,¬Tch d j b→μ2 b=μ b:=by
  intro b hb;rcases noNew b hb with h | h
  ·exact m2old b h
  ·exact m2far b h
 have tpart:∀b,gm (d.Tm j) b→¬Tch d j b→kb b≤j∧b<(d.M j).length∧(d.M' j)[b]? =(d.M (kb b))[b]? ∧(d.M (kb b))[b]? =(d.M j)[b]? :=by
  intro b hb hnt;obtain⟨k1,k2⟩:=uA hA hI hS ho hr hj hb;obtain⟨s,hs,hne⟩:=hb;have hlt:b<(d.M j).length:=by have:=(List.getElem?_eq_some_iff.1 hs).1;rw[D.tlen] at this;exact this
  have hf:d.touch j b=false:=by
   cases ht:d.touch j b with
   |false=>rfl
   |true=>exact absurd ⟨ht,by omega⟩ hnt
  exact⟨k1,hlt,(D.keepT b hlt hf ⟨s,hs,hne⟩).trans k2,k2.symm⟩
 have view:∀b s,(d.M (kb2 b))[b]? =some s→s≠ .absent→((d.M' j)[b]? =some s∧μ2 b=μ' b∧b<(d.M (j+1)).length∧(Tch d j b∨gm (d.Tm j) b))∨
   ((d.M (kb b))[b]? =some s∧¬gm (d.Tm j) b∧¬Tch d j b∧μ2 b=μ b):=by
  intro b s hs hne;by_cases ht:Tch d j b
  ·rw[kb2t b ht] at hs
   exact .inl ⟨by rw[←D.mval b ht.1];exact hs,m2new b ht.2,ht.2,.inl ht⟩
  ·rw[kb2n b ht] at hs
   by_cases hb:gm (d.Tm j) b
   ·obtain⟨k1,k2,k3,k4⟩:=tpart b hb ht
    exact .inl ⟨by rw[k3];exact hs,by rw[m2old b k2,hag b k2],by omega,.inr hb⟩
   ·exact .inr ⟨hs,hb,ht,m2un b ht⟩
 have viewOwn:∀b,dF (d.M (kb2 b)) b→(dF (d.M' j) b∧μ2 b=μ' b∧b<(d.M (j+1)).length∧(Tch d j b∨gm (d.Tm j) b))∨
   (dF (d.M (kb b)) b∧¬gm (d.Tm j) b∧¬Tch d j b∧μ2 b=μ b):=by
  intro b hb;obtain⟨s,h,hso⟩:=hb;rcases view b _ h (Slot.own_ne hso) with⟨g1,g2⟩ | ⟨g1,g2⟩
  ·exact .inl ⟨⟨s,g1,hso⟩,g2⟩
  ·exact .inr ⟨⟨s,g1,hso⟩,g2⟩
 have ownSeen:∀b,dF (d.Tm j) b→dF (d.M (kb b)) b:=by intro b hb;obtain⟨k1,k2⟩:=uA hA hI hS ho hr hj (jB hb);refine(jC k2).1 ?_;obtain⟨s,h,hso⟩:=hb;exact⟨s,om hA ho h (Slot.own_ne hso),hso⟩
 have blkLt:∀b s,(d.M (kb b))[b]? =some s→s≠ .absent→(μ b).blk<w.heap.size:=fun b s hs hne=>(hI.slot b s hs).blk_lt hne
 refine⟨μ2,kb2,kt2,⟨Nat.le_trans hI.base_le hst.size,?_,?_,?_,?_,?_,?_,?_,?_,?_,?_,hst.os.trans hI.os,hst.tape.trans hI.tape,Nat.le_trans hI.drawn hst.drawn,hst.output.trans hI.output,Nat.le_trans hI.size hst.size,?_,?_⟩⟩
 ·
  intro b;by_cases ht:Tch d j b
  ·rw[kb2t b ht];omega
  ·rw[kb2n b ht];exact hI.kb_le b
 ·
  intro b i hi hti;obtain⟨oi,hoi⟩:=wW hi;by_cases ht:Tch d j b
  ·rw[kb2t b ht]
   by_cases hij:i=j
   ·subst hij;simp
   ·have:=lE hA hS ho hr hj hi (D.sep i oi b hoi hij hti.2 hti.1 (.inl ⟨ht.2,ht.1⟩))
    constructor
    ·rintro (h | h)
     ·have:=this.1 h;omega
     ·omega
    ·intro h;exact .inl (this.2 (by omega))
  ·rw[kb2n b ht]
   have hij:i≠j:=fun e=>ht (e▸hti)
   rw[←hI.kb_iff b i hi hti];constructor
   ·rintro (h | h)
    ·exact h
    ·exact absurd h hij
   ·exact .inl
 ·
  intro b;by_cases ht:Tch d j b
  ·rw[kb2t b ht];exact .inr ht
  ·rw[kb2n b ht];exact hI.kb_min b
 ·
  intro b s hs;by_cases h0:s=.absent
  ·subst h0;trivial
  by_cases ht:Tch d j b
  ·rw[kb2t b ht] at hs ⊢
   have h1:=hH.slot b s (by rw[←D.mval b ht.1];exact hs);rw[m2new b ht.2,D.mlen];exact h1.mono (Nat.le_refl _) (fun x hx=>m2new x (by rw[D.mlen];exact hx)) fun _=>rfl
  ·rw[kb2n b ht] at hs ⊢
   have hold:=hI.slot b s hs;rw[m2un b ht];by_cases hb:gm (d.Tm j) b
   ·obtain⟨k1,k2,k3,k4⟩:=tpart b hb ht
    have h1:=hH.slot b s (by rw[k3];exact hs);rw[hag b k2] at h1;have hlk:=hlj (kb b) k1;have h2:=hold.lower (fun x hx=>hag x (by omega)) h1;exact h2.mono (Nat.le_refl _) (fun x hx=>m2old x (by omega)) fun _=>rfl
   ·have hheap:w'.heap[(μ b).blk]? =w.heap[(μ b).blk]? :=by
     refine hst.frame _ (hold.blk_lt h0) fun b1 hb1=>?_
     refine hI.sep b1 b s (ownSeen b1 hb1) hs h0 ?_;rintro rfl;exact hb (jB hb1)
    have h2:SRel μ (d.M (kb b)).length base w' (μ b) s:=hold.mono (Nat.le_refl _) (fun _ _=>rfl) fun _=>hheap
    rcases kbS b with h3 | ⟨h3,h4,h5,h6⟩
    ·refine h2.mono (Nat.le_refl _) (fun x hx=>m2old x ?_) fun _=>rfl
     rw[h3] at hx;omega
    ·obtain⟨ok,hok⟩:=wW h5
     have hk1:kb b-1+1=kb b:=by omega
     refine h2.change (ok:=d.ok (kb b-1)) (fun x _ hx=>m2ok (kb b) h3 h4 h5 x hx) ?_;exact(hA _ ok hok).refsM b s h6.1 (by rw[hk1];exact hs)
 ·
  intro b b' s' hb hb' hne hbb;rcases viewOwn b hb with⟨g1,g2,_,_⟩ | ⟨g1,g2,g3,g4⟩<;>rcases view b' s' hb' hne with⟨k1,k2,k3,k4⟩ | ⟨k1,k2,k3,k4⟩
  ·rw[g2,k2];exact hH.sep b b' s' g1 k1 hne hbb
  ·rw[g2,k4]
   have hlt:=blkLt b' s' k1 hne;by_cases hlt2:(μ' b).blk<w.heap.size
   ·obtain⟨b0,h0,h1⟩:=hst.owner b g1 hlt2
    rw[←h1];refine hI.sep b0 b' s' (ownSeen b0 h0) k1 hne ?_;rintro rfl;exact k2 (jB h0)
   ·omega
  ·rw[g4,k2]
   by_cases hlt:b' <(d.M j).length
   ·have hbd:gm (d.Tm j) b' :=by
     rcases k4 with ht | hb1
     ·exact D.touchT b' ht.1 hlt
     ·exact hb1
    obtain⟨q1,q2⟩:=uA hA hI hS ho hr hj hbd;obtain⟨s0,hs0,hne0⟩:=hbd;rw[hag b' hlt];exact hI.sep b b' s0 g1 (by rw[←q2];exact om hA ho hs0 hne0) hne0 hbb
   ·have ht' :=D.tnew b' (by omega)
    have hM1:(d.M (j+1))[b']? =some s' :=by rw[D.mval b' ht'];exact k1
    have hown:=D.newOwn b' s' (by omega) hM1 hne;have hown' :dF (d.M' j) b' :=(jC (D.mval b' ht')).1 hown;have hbl:(μ b).blk<w.heap.size:=by obtain⟨s,h,hso⟩:=g1;exact blkLt b _ h (Slot.own_ne hso)
    by_cases hlt2:(μ' b').blk<w.heap.size
    ·obtain⟨b0,h0,h1⟩:=hst.owner b' hown' hlt2
     rw[←h1];have hob:=ownSeen b0 h0;have hbb0:b≠b0:=by rintro rfl;exact g2 (jB h0)
     obtain⟨s,h,hso⟩:=hob;exact hI.sep b b0 _ g1 h (Slot.own_ne hso) hbb0
    ·omega
  ·rw[g4,k4];exact hI.sep b b' s' g1 k1 hne hbb
 ·
  intro t;show(if o.dst=some t then j+1 else kt t)≤ops.size
  split
  ·omega
  ·exact hI.kt_le t
 ·
  intro t i oi hoi hd;show(S i∨i=j)↔i<(if o.dst=some t then j+1 else kt t)
  have hi:i<ops.size:=(Array.getElem?_eq_some_iff.1 hoi).1;by_cases ht:o.dst=some t
  ·rw[if_pos ht]
   by_cases hij:i=j
   ·subst hij;simp
   ·have:=lE hA hS ho hr hj hi (D.dsts i oi t hoi hij ht hd)
    constructor
    ·rintro (h | h)
     ·have:=this.1 h;omega
     ·omega
    ·intro h;exact .inl (this.2 (by omega))
  ·rw[if_neg ht]
   have hij:i≠j:=by rintro rfl;rw[ho] at hoi;cases hoi;exact ht hd
   rw[←hI.kt_iff t i oi hoi hd];constructor
   ·rintro (h | h)
    ·exact h
    ·exact absurd h hij
   ·exact .inl
 ·
  intro t;show(if o.dst=some t then j+1 else kt t)=0∨∃oi,ops[(if o.dst=some t then j+1 else kt t)-1]? =some oi∧oi.dst=some t
  by_cases ht:o.dst=some t
  ·rw[if_pos ht];exact .inr ⟨o,by simpa using ho,ht⟩
  ·rw[if_neg ht];exact hI.kt_min t
 ·
  intro t;show VRel μ2 (d.M (if o.dst=some t then j+1 else kt t)).length (ab (d.E (if o.dst=some t then j+1 else kt t)) t) ((a.put o.dst V).tmps.getD t undef)
  by_cases ht:o.dst=some t
  ·rw[if_pos ht,D.env,ht]
   have hlt:t<a.tmps.size:=by have:=D.dst;unfold Ay at this;rw[ht] at this;simp only[decide_eq_true_eq] at this;rw[hN];exact this
   have e1:ab (putE (d.E j) (some t) (d.v j)) t=d.v j:=by simp[putE,ab]
   have e2:(a.put (some t) V).tmps.getD t undef=V:=by simp[Act.put,hlt]
   rw[e1,e2,D.mlen];exact hV.mono (Nat.le_refl _) fun x hx=>m2new x (by rw[D.mlen];exact hx)
  ·rw[if_neg ht]
   have e2:(a.put o.dst V).tmps.getD t undef=a.tmps.getD t undef:=by
    cases hd:o.dst with
    |none=>rfl
    |some x=>
     have hne:x≠t:=by rintro rfl;exact ht hd
     simp[Act.put,Array.getElem?_setIfInBounds_ne hne]
   rw[e2];have hold:=hI.tmp t;rcases Nat.eq_zero_or_pos (kt t) with h0 | h0
   ·rw[h0] at hold ⊢
    exact hold.mono (Nat.le_refl _) fun x hx=>m2old x (by omega)
   ·rcases hI.kt_min t with h1 | ⟨oi,h1,h2⟩
    ·omega
    ·have hSk:S (kt t-1):=(hI.kt_iff t _ oi h1 h2).2 (by omega)
     have hks:kt t-1<ops.size:=(Array.getElem?_eq_some_iff.1 h1).1;refine hold.change (ok:=d.ok (kt t-1)) (fun x _ hx=>m2ok (kt t) h0 hSk hks x hx) ?_;have he:=(hA _ oi h1).env;have hk1:kt t-1+1=kt t:=by omega
     rw[hk1,h2] at he;rw[he];simp only[putE,ab,if_true];exact(hA _ oi h1).refsV
 ·
  intro b hb;rw[m2old b (by omega)];exact hI.agree b hb
 ·
  intro k hk hf;rw[hst.frame k (Nat.lt_of_lt_of_le hk hI.size) ?_,hI.frame k hk hf];intro b hb he;obtain⟨b0,h1,h2⟩:=hI.owner b (ownSeen b hb) (by rw[he];exact hk);exact hf b0 h1 (h2.trans he)
 ·
  intro b hb hlt;rcases viewOwn b hb with⟨g1,g2,_,_⟩ | ⟨g1,g2,g3,g4⟩
  ·rw[g2] at hlt ⊢
   obtain⟨b0,h0,h1⟩:=hst.owner b g1 (Nat.lt_of_lt_of_le hlt hI.size);obtain⟨b1,h2,h3⟩:=hI.owner b0 (ownSeen b0 h0) (by rw[h1];exact hlt);exact⟨b1,h2,h3.trans h1⟩
  ·rw[g4] at hlt ⊢
   exact hI.owner b g1 hlt
end
end Go.Eng
namespace Go.Eng
section
variable {P:Program}{T:TypeId→Option TyI}{tp:Bool}{N m0:Nat}{ops:Array Oper}{d:DrawData}
def left(ops:Array Oper) (listed:Array Bool):Nat:=((List.range ops.size).filter fun i=> !listed.getD i true).length
def qh(listed:Array Bool) (i:Nat):Prop:=listed.getD i false=true
theorem wS{l:List Nat}{p q:Nat→Bool}(h:∀i∈l,q i=true→p i=true) {j:Nat}(hj:j∈l) (h1:p j=true) (h2:q j=false):(l.filter q).length<(l.filter p).length:=by
 induction l with
 |nil=>cases hj
 |cons x xs ih=>
  have hle:∀(l:List Nat),(∀i∈l,q i=true→p i=true)→(l.filter q).length≤(l.filter p).length:=by
   intro l hl;induction l with
   |nil=>simp
   |cons y ys ih2=>
    have:=ih2 (fun i hi=>hl i (by simp[hi]));have hy:=hl y (by simp);simp only[List.filter_cons];cases hq:q y<;>cases hp:p y<;>simp_all<;>omega
  have hxs:=hle xs (fun i hi=>h i (by simp[hi]));have hx:=h x (by simp);simp only[List.filter_cons];cases hj with
  |head=>rw[h1,h2];simp;omega
  |tail _ hm=>
   have:=ih (fun i hi=>h i (by simp[hi])) hm;cases hq:q x<;>cases hp:p x<;>simp_all<;>omega
theorem P4{listed:Array Bool}{i:Nat}(hi:i<listed.size):qh (listed.setIfInBounds i true)=fun k=>qh listed k∨k=i:=by
 funext k;apply propext;unfold qh;by_cases hk:i=k
 ·subst hk;simp[hi]
 ·rw[getD_set_ne false hk]
  constructor
  ·exact .inl
  ·rintro (h | h)
   ·exact h
   ·exact absurd h.symm hk
theorem MH(hA:pI P T N ops d) {listed:Array Bool}(hsz:listed.size=ops.size) (h:Region.ready .any ops listed=[]):∀i,i<ops.size→qh listed i:=by
 intro i;induction i using Nat.strongRecOn with
 |_ i ih=>
  intro hi;obtain⟨o,ho⟩:=wW hi;cases hl:listed.getD i true with
  |true=>
   unfold qh;simp only[Array.getD_eq_getD_getElem?] at hl ⊢;rw[Array.getElem?_eq_getElem (by omega)] at hl ⊢;exact hl
  |false=>
   exfalso;have:i∈Region.ready .any ops listed:=mem_ready.2 ⟨hl,o,ho,fun e he hb=>ih e.on ((hA i o ho).edge e he hb) (by have:=(hA i o ho).edge e he hb;omega)⟩;rw[h] at this;cases this
theorem Ra(hA:pI P T N ops d) {base:Nat}{μ0 μ:Nat→Place}{w0 w:World}{S:Nat→Prop}{kb kt:Nat→Nat}{tmps:Array Value}(hm0:m0≤(d.M 0).length)
  (hI:DInv d ops base μ0 w0 S μ kb kt tmps w) (hS:∀i,i<ops.size→S i):
  HRel base μ (d.M ops.size) w∧TRel μ (d.M ops.size).length (d.E ops.size) tmps∧m0≤(d.M ops.size).length∧Step m0 μ0 (d.M 0) w0 μ (d.M ops.size) w:=by
 have hb:∀b,(d.M ops.size)[b]? =(d.M (kb b))[b]? :=fun b=>Bu hA b (kb b) _ (hI.kb_le b) (Nat.le_refl _) fun i h1 h2 h3=>by have:=(hI.kb_iff b i h2 h3).1 (hS i h2);omega
 have hl:∀k,k≤ops.size→(d.M k).length≤(d.M ops.size).length:=fun k hk=>xi hA k _ hk (Nat.le_refl _)
 have h0:=hl 0 (Nat.zero_le _);refine⟨⟨hI.base_le,fun b s hs=>?_,fun b b' s' hb1 hb2 hne hbb=>?_⟩,fun t=>?_,by omega,⟨by omega,fun b hb1=>hI.agree b (by omega),hI.os,hI.tape,hI.output,hI.size,hI.frame,fun b hb1 hlt=>?_,hI.drawn⟩⟩
 ·exact(hI.slot b s (by rw[←hb];exact hs)).mono (hl _ (hI.kb_le b)) (fun _ _=>rfl) fun _=>rfl
 ·exact hI.sep b b' s' ((jC (hb b)).1 hb1) (by rw[←hb];exact hb2) hne hbb
 ·have he:=Bg hA t (kt t) ops.size (hI.kt_le t) (Nat.le_refl _) fun i oi h1 h2 h3 h4=>by have:=(hI.kt_iff t i oi h3 h4).1 (hS i h2);omega
  rw[he];exact(hI.tmp t).mono (hl _ (hI.kt_le t)) fun _ _=>rfl
 ·exact hI.owner b ((jC (hb b)).1 hb1) hlt
theorem yF(hm:P.follows .mixedOrders=true) (hT:cA P T) {id:Nat}{st st' :St}{Q:Exit→St→Prop}
  (hA:pI P T N ops d) (hE:d.E 0=st.env) (hM:d.M 0=st.mem) (hst' :st' =⟨d.E ops.size,d.M ops.size⟩) (hq:Q .normal st'):
  AWP P tp N m0 (.region id ops true) st Q:=by
 intro ro h0 base μ0 w0 a0 hro hH hR hN hdf hm0;refine wpIn_region_any hm ?_;have fin:∀(listed:Array Bool) (a:Act) (w:World) μ kb kt,listed.size=ops.size→a.tmps.size=N→a.defers=a0.defers→
   DInv d ops base μ0 w0 (qh listed) μ kb kt a.tmps w→Region.ready .any ops listed=[]→
   ∃st' μ',HRel base μ' st'.mem w∧TRel μ' st'.mem.length st'.env a.tmps∧a.tmps.size=N∧MOk P base h0 w a.defers∧m0≤st'.mem.length∧Step m0 μ0 st.mem w0 μ' st'.mem w∧Q .normal st' :=by
  intro listed a w μ kb kt hsz ha hd hI hr;obtain⟨h1,h2,h3,h4⟩:=Ra (m0:=m0) hA (by rw[hM];exact hm0) hI (MH hA hsz hr);rw[hM] at h4;exact⟨st',μ,by rw[hst'];exact h1,by rw[hst'];exact h2,ha,by rw[hd];exact hdf.step hH h4,by rw[hst'];exact h3,by rw[hst'];exact h4,hq⟩
 have key:∀(fuel:Nat) (listed:Array Bool) (a:Act) (w:World) μ kb kt,listed.size=ops.size→left ops listed≤fuel→a.tmps.size=N→a.defers=a0.defers→
   rI ops (qh listed)→DInv d ops base μ0 w0 (qh listed) μ kb kt a.tmps w→
   wpAnyIn (Fr ro) 0 P .any ops (fun e a' w' =>∃st' μ',HRel base μ' st'.mem w' ∧TRel μ' st'.mem.length st'.env a'.tmps∧a'.tmps.size=N∧MOk P base h0 w' a'.defers∧m0≤st'.mem.length∧
    Step m0 μ0 st.mem w0 μ' st'.mem w' ∧Q e st') fuel listed a w:=by
  intro fuel;induction fuel with
  |zero=>
   intro listed a w μ kb kt hsz hl ha hd hC hI;have hr:Region.ready .any ops listed=[]:=by
    apply List.eq_nil_iff_forall_not_mem.2;intro i hi;obtain⟨h1,o,ho,_⟩:=mem_ready.1 hi;have hlt:i<ops.size:=(Array.getElem?_eq_some_iff.1 ho).1;have:i∈(List.range ops.size).filter fun i=> !listed.getD i true:=by rw[List.mem_filter];exact⟨by simpa using hlt,by rw[h1];rfl⟩
    have h0:((List.range ops.size).filter fun i=> !listed.getD i true)=[]:=List.eq_nil_of_length_eq_zero (Nat.le_zero.1 hl);rw[h0] at this;cases this
   exact⟨hr,fin listed a w μ kb kt hsz ha hd hI hr⟩
  |succ fuel ih=>
   intro listed a w μ kb kt hsz hl ha hd hC hI;refine⟨fin listed a w μ kb kt hsz ha hd hI,fun i hi=>?_⟩;obtain⟨h1,o,ho,hpre⟩:=mem_ready.1 hi;have hlt:i<ops.size:=(Array.getElem?_eq_some_iff.1 ho).1;have hnS:¬qh listed i:=by unfold qh;simp only[Array.getD_eq_getD_getElem?] at h1 ⊢;rw[Array.getElem?_eq_getElem (by omega)] at h1 ⊢;simp only[Option.getD_some] at h1 ⊢;rw[h1];simp
   have hset:=P4 (listed:=listed) (i:=i) (by omega);have hC' :rI ops (qh (listed.setIfInBounds i true)):=by
    rw[hset];intro j oj hoj hSj e he hb;rcases hSj with hSj | rfl
    ·exact .inl (hC j oj hoj hSj e he hb)
    ·rw[ho] at hoj;cases hoj;exact .inl (hpre e he hb)
   have hleft:left ops (listed.setIfInBounds i true)≤fuel:=by
    have:left ops (listed.setIfInBounds i true)<left ops listed:=by
     unfold left;refine wS (fun k _ hk=>?_) (j:=i) (by simpa using hlt) (by rw[h1];rfl) (by simp[hsz,hlt]);by_cases hik:i=k
     ·subst hik;simp[hsz,hlt] at hk
     ·rw[getD_set_ne true hik] at hk;exact hk
    omega
   have D:=hA i o ho;have hHs:=PZ hA hI hC ho hpre hnS;have hGw:GOk P base w:=by
    refine⟨hdf.glob.below,?_⟩;have:=hdf.glob.tab;unfold Lib.TabIs at this ⊢;rw[←this];refine Ld fun k hk=>hI.frame k ?_ fun b hb=>?_
    ·have:=hdf.glob.below;have:=hH.base_le;omega
    ·rw[hM] at hb
     have:=KY hH hb;have:=hdf.glob.below;omega
   have hRs:=P0 hA hI hC ho hpre hnS;have next:∀V w' μ',VRel μ' (d.M' i).length (d.v i) V→HRel base μ' (d.M' i) w' →Step (d.Tm i).length μ (d.Tm i) w μ' (d.M' i) w' →
     wpAnyIn (Fr ro) 0 P .any ops (fun e a' w' =>∃st' μ',HRel base μ' st'.mem w' ∧TRel μ' st'.mem.length st'.env a'.tmps∧a'.tmps.size=N∧MOk P base h0 w' a'.defers∧m0≤st'.mem.length∧
      Step m0 μ0 st.mem w0 μ' st'.mem w' ∧Q e st') fuel (listed.setIfInBounds i true) (a.put o.dst V) w' :=by
    intro V w' μ' q1 q2 q3;obtain⟨μ2,kb2,kt2,hI2⟩:=Ri hA hI hC ho hpre hnS ha q1 q2 q3;rw[←hset] at hI2;exact ih _ _ _ μ2 kb2 kt2 (by simp[hsz]) hleft (by rw[dY];exact ha) (by rw[eI];exact hd) hC' hI2
   unfold wpOpIn;simp only[ho];rw[mP hRs D.wanted];cases hw:d.wb i with
   |false=>
    obtain⟨e1,e2⟩:=D.skip hw;simp only[Bool.false_eq_true,if_false];exact⟨fun _ _=>trivial,next undef w μ (by rw[e1];simp[VRel,VRels,undef]) (by rw[e2];exact hHs) (by rw[e2];exact .refl (Nat.le_refl _))⟩
   |true=>
    simp only[if_true];exact oI hT hGw hHs hRs ha D.dst (D.step hw) fun V w' μ' q1 q2 q3 q4=>next V w' μ' q1 q2 q4
 have hI0:DInv d ops base μ0 w0 (qh (Array.replicate ops.size false)) μ0 (fun _=>0) (fun _=>0) a0.tmps { w0 with drawn:=w0.drawn+1 }:=by
  have hno:∀i,¬qh (Array.replicate ops.size false) i:=by intro i;unfold qh;simp only[Array.getD_eq_getD_getElem?,Array.getElem?_replicate];split<;>simp
  have hH' :HRel base μ0 (d.M 0) { w0 with drawn:=w0.drawn+1 }:=by rw[hM];exact hH.sameHeap rfl
  refine⟨hH'.base_le,fun _=>Nat.zero_le _,fun b i _ _=>⟨fun h=>absurd h (hno i),fun h=>by omega⟩,fun _=>.inl rfl,fun b s hs=>hH'.slot b s hs,
   fun b b' s' =>hH'.sep b b' s',fun _=>Nat.zero_le _,fun t i oi _ _=>⟨fun h=>absurd h (hno i),fun h=>by omega⟩,fun _=>.inl rfl,fun t=>?_,fun _ _=>rfl,
   rfl,rfl,Nat.le_succ _,rfl,Nat.le_refl _,fun _ _ _=>rfl,fun b hb _=>⟨b,hb,rfl⟩⟩
  rw[hM,hE];exact hR t
 refine key ops.size _ a0 _ μ0 _ _ (by simp) ?_ hN rfl ?_ hI0
 ·unfold left
  exact Nat.le_trans (List.length_filter_le _ _) (by simp)
 ·intro j o _ hS
  exfalso;unfold qh at hS;simp only[Array.getD_eq_getD_getElem?,Array.getElem?_replicate] at hS;split at hS<;>simp at hS
end
end Go.Eng
namespace Go.Eng
def HF:Exit→Option (Option Code)
 |.normal=>some none
 |.ret=>some (some .ret)
 |.exit id=>some (some (.exit id))
 |_=>none
def KN:Option Code→Option Exit
 |none=>some .normal
 |some .ret=>some .ret
 |some (.exit id)=>some (.exit id)
 |_=>none
def ra(j:Option Code):LoopState:=if j.isNone then .ready else .done
def yJ:List Tmp→List AV→Env→Env
 |t::ts,v::vs,env=>yJ ts vs ((t,v)::env)
 |_,_,env=>env
section
variable {P:Program}{T:TypeId→Option TyI}{μ:Nat→Place}{mem:Mem}{base:Nat}{w:World}
theorem HRel.alloc(hH:HRel base μ mem w) (o:Obj):HRel base μ mem (w.alloc o):=by refine⟨by simp;have:=hH.base_le;omega,fun b s hs=>?_,hH.sep⟩;exact(hH.slot b s hs).mono (Nat.le_refl _) (fun _ _=>rfl) fun hne=>fQ w o ((hH.slot b s hs).blk_lt hne)
theorem Step.alloc{m0:Nat}(h:m0≤mem.length) (o:Obj):Step m0 μ mem w μ mem (w.alloc o):=
 ⟨h,fun _ _=>rfl,rfl,rfl,rfl,by simp,fun k hk _=>fQ w o hk,fun b hb _=>⟨b,hb,rfl⟩,Nat.le_refl _⟩
theorem CZ{n:Nat}:∀{ts:List Tmp}{vs:List AV}{Vs:List Value}{env:Env}{tmps:Array Value},VRels μ n vs Vs→TRel μ n env tmps→vs.length=ts.length→(∀t∈ts,t<tmps.size)→
  TRel μ n (yJ ts vs env) ((ts.zip Vs).foldl (fun tmps (t,a)=>tmps.setIfInBounds t a) tmps)∧((ts.zip Vs).foldl (fun tmps (t,a)=>tmps.setIfInBounds t a) tmps).size=tmps.size
 | [],[],Vs,env,tmps,hv,ht,_,_=>by exact⟨ht,rfl⟩
 |t::ts,v::vs,Vs,env,tmps,hv,ht,hl,hb=>by simp only[VRels] at hv;obtain⟨U,Us,rfl,h1,h2⟩:=hv;simp only[yJ,List.zip_cons_cons,List.foldl_cons];have:=TRel.put (a:={ tmps:=tmps,defers:=[] }) ht (hb t (by simp)) h1;simp only[Act.put] at this;have r:=CZ (env:=(t,v)::env) (tmps:=tmps.setIfInBounds t U) h2 this (by simpa using hl) (fun x hx=>by simpa using hb x (by simp[hx]));exact⟨r.1,r.2.trans (by simp)⟩
 | [],_::_,_,_,_,_,_,hl,_=>by simp at hl
 |_::_,[],_,_,_,_,_,hl,_=>by simp at hl
theorem gu{l:Nat}{L:Loop}(h:w.heap[l]? =some (.loop L)):(Instr.getLoop l).run P w=.ok L w:=by
 have hg:(getObj l).run P w=.ok (.loop L) w:=by simp[getObj,Sem.run,h]
 simp only[Instr.getLoop,Sem.run_bind,hg,Result.andThen_ok];rfl
theorem sL{base:Nat}{b:Nat}{r r' :LoopA}{L L' :Loop}(hH:HRel base μ mem w) (hb:mem[b]? =some (.loop r)) (hL:w.heap[(μ b).blk]? =some (.loop L)) (hr:LoopRel μ mem.length r' L'):
  (setObj (μ b).blk (.loop L')).run P w=.ok () { w with heap:=w.heap.setIfInBounds (μ b).blk (.loop L') }∧
  HRel base μ (mem.set b (.loop r')) { w with heap:=w.heap.setIfInBounds (μ b).blk (.loop L') }∧
  Step mem.length μ mem w μ (mem.set b (.loop r')) { w with heap:=w.heap.setIfInBounds (μ b).blk (.loop L') }:=by
 have hlt:=(Array.getElem?_eq_some_iff.1 hL).1;have hbl:=(List.getElem?_eq_some_iff.1 hb).1;refine⟨pF hL (by intro c e f h;cases h),hH.write hb (Nc hb) (fun _=>⟨_,List.getElem?_set_self hbl,rfl⟩) rfl rfl rfl rfl (by simp) (fun k hk=>Array.getElem?_setIfInBounds_ne (Ne.symm hk)) ?_⟩;simp only[SRel];have:=hH.slot b _ hb;simp only[SRel] at this;obtain⟨_,_,h2,_⟩:=this;exact⟨L',by simp[hlt],h2,hr⟩
theorem AYields.intro{b:Nat}{args:List AV}{R:AV→Mem→Prop}{r:LoopA}(hb:mem[b]? =some (.loop r)) (_hst:r.st=.ready) (hl:args.length=r.ps.toList.length) (hps:∀t∈r.ps.toList,t<r.N)
  (h:AWP P false r.N mem.length r.assign ⟨yJ r.ps.toList args r.env,mem⟩ fun e st1=>e=.normal∧∃r1,st1.mem[b]? =some (.loop r1)∧r1.st=.ready∧
   AWP P false r.N mem.length r.body ⟨st1.env,st1.mem.set b (.loop { r1 with st:=.busy })⟩ fun e st2=>∃r2 j ks,HF e=some j∧st2.mem[b]? =some (.loop r2)∧HH mem.length st2.mem.length ks=true∧
    R (.bool j.isNone) (compact mem.length ks (st2.mem.set b (.loop { r2 with st:=ra j,pend:=j })))):
  AYields P b args mem R:=by
 intro base μ w Vs hG hH hV hbl;have hsl:=hH.slot b _ hb;simp only[SRel] at hsl;obtain⟨L,h1,h2,h3⟩:=hsl;have hlen:Vs.length=L.params.size:=by rw[hV.length,hl,h3.ps];simp
 refine⟨L.fn,(L.params.zip ⟨Vs⟩).foldl (fun tmps (t,a)=>tmps.setIfInBounds t a) L.tmps,L.assign,L.body,?_,?_⟩
 ·simp only[Instr.yield,Sem.run_bind,gu h1,Result.andThen_ok]
  rw[if_neg (by simp[hlen])];rfl
 ·refine roundIn_of_wpIn (F:=Fence.wide) trivial ?_
  have hzip:(L.params.zip ⟨Vs⟩).foldl (fun tmps (t,a)=>tmps.setIfInBounds t a) L.tmps=(r.ps.toList.zip Vs).foldl (fun tmps (t,a)=>tmps.setIfInBounds t a) L.tmps:=by rw[h3.ps,←Array.foldl_toList];simp
  have hb0:=CZ (ts:=r.ps.toList) hV h3.tmps hl (fun t ht=>by rw[h3.size];exact hps t ht);rw[h3.assign,h3.body];refine wpIn_mono (F:=Fr (some (μ b).blk)) (h (some (μ b).blk) w.heap.size base μ w ⟨_,[]⟩ (fun h=>by cases h) hH (by rw[hzip];exact hb0.1) (by rw[hzip,hb0.2];exact h3.size) (MOk.nil w hG hH.base_le (Nat.le_refl _)) (Nat.le_refl _)) ?_;rintro e a1 w1 ⟨st1,μ1,c1,c2,c3,c4,c5,c6,rfl,r1,c7,c8,hbody⟩;have hsl1:=c1.slot b _ c7;simp only[SRel] at hsl1;obtain⟨L1,d1,d2,d3⟩:=hsl1;have hμ:μ1 b=μ b:=c6.agree b hbl;rw[hμ] at d1;obtain⟨e1,e2,e3⟩:=sL (P:=P) (r' :={ r1 with st:=.busy }) (L' :={ L1 with state:=.busy }) c1 c7 (by rw[hμ];exact d1) { d3 with st:=rfl };rw[hμ] at e1 e2 e3;refine⟨_,?_,wpIn_mono (F:=Fr (some (μ b).blk)) (hbody (some (μ b).blk) w.heap.size base μ1 _ a1 (fun h=>by cases h) e2 (by rw[List.length_set];exact c2) c3 (c4.step c1 e3) (by rw[List.length_set];exact c5)) ?_⟩
  ·simp only[Instr.beginRound,Sem.run_bind,gu d1,Result.andThen_ok,e1]
   rw[d3.st,c8];rfl
  ·rintro e a2 w2 ⟨st2,μ2,f1,f2,f3,f4,f5,f6,r2,j,ks,f7,f8,f9,f10⟩
   have hsl2:=f1.slot b _ f8;simp only[SRel] at hsl2;obtain⟨L2,g1,g2,g3⟩:=hsl2;have hμ2:μ2 b=μ b:=by rw[f6.agree b hbl,hμ]
   rw[hμ2] at g1;obtain⟨k1,k2,k3⟩:=sL (P:=P) (r' :={ r2 with st:=ra j,pend:=j }) (L' :={ L2 with state:=ra j,pending:=j }) f1 f8 (by rw[hμ2];exact g1) { g3 with st:=rfl,pend:=rfl };rw[hμ2] at k1 k2 k3;have hrun:(Instr.endRound (μ b).blk j).run P w2=.ok (.bool j.isNone) { w2 with heap:=w2.heap.setIfInBounds (μ b).blk (.loop { L2 with state:=ra j,pending:=j }) }:=by unfold ra at k1 ⊢;simp only[Instr.endRound,Sem.run_bind,gu g1,Result.andThen_ok,k1];rfl
   obtain⟨p1,p2,p3⟩:=k2.compact (by rw[List.length_set];exact f5) (by rw[List.length_set];exact f9);have hS:Step mem.length μ mem w _ _ _:=((c6.trans (e3.mono c5)).trans f6).trans ((k3.mono f5).trans p3);have hfin:∃V v mem' μ',(Ending.returned (.bool j.isNone):Ending)=.returned V∧VRel μ' mem'.length v V∧HRel base μ' mem' { w2 with heap:=w2.heap.setIfInBounds (μ b).blk (.loop { L2 with state:=ra j,pending:=j }) }∧
     Step mem.length μ mem w μ' mem' { w2 with heap:=w2.heap.setIfInBounds (μ b).blk (.loop { L2 with state:=ra j,pending:=j }) }∧R v mem' :=
    ⟨_,.bool j.isNone,_,_,rfl,by simp[VRel],p1,hS,f10⟩
   cases e<;>simp only[HF,Option.some.injEq,reduceCtorEq] at f7<;>subst f7<;>exact⟨_,_,hrun,hfin⟩
theorem CX{N m0:Nat}{g:Operand}{ps:Array Tmp}{assign body:Code}{st:St}{Q:Exit→St→Prop}{f:FuncId}{caps:List AV}(hg:get st.env g=.func f caps)
  (h:ACalls P f (.yield st.mem.length::caps) (st.mem++[.loop ⟨.ready,none,st.env,N,ps,assign,body⟩]) fun _ mem2=>∃r2 e,mem2[st.mem.length]? =some (.loop r2)∧r2.st≠ .busy∧KN r2.pend=some e∧
   Q e ⟨st.env,mem2.set st.mem.length (.loop { r2 with st:=.exhausted })⟩):
  AWP P true N m0 (.rangeFunc g ps assign body) st Q:=by
 intro ro h0 base μ w a hro hH hR hN hdf hm;cases hro rfl;have hgv:=aP hR g;rw[hg] at hgv;simp only[VRel] at hgv;obtain⟨Us,hU,hus⟩:=hgv;refine wpIn_rangeFunc fun fn _=>?_
 let o1:Obj:=.deferred (some [])
 let w1:=w.alloc o1
 let L:Loop:={ state:=.ready,pending:=none,fn,tmps:=a.tmps,params:=ps,assign,body,defers:=w.heap.size }
 have hH1:HRel base μ st.mem w1:=hH.alloc o1;have hS1:Step st.mem.length μ st.mem w μ st.mem w1:=.alloc (Nat.le_refl _) o1;have hsz:w1.heap.size=w.heap.size+1:=by simp[w1]
 obtain⟨hH2,hS2⟩:=hH1.push (.loop L) (.loop ⟨.ready,none,st.env,N,ps,assign,body⟩) ⟨w1.heap.size,0,0,0⟩ rfl (by simp only[SRel];exact⟨L,heap_alloc_new w1 _,hH1.base_le,rfl,rfl,rfl,rfl,rfl,hN,hR.mono (Nat.le_succ _) fun b hb=>sZ hb⟩)
 have hS12:=hS1.trans hS2;have hμb:(upd μ st.mem.length ⟨w1.heap.size,0,0,0⟩ st.mem.length).blk=w1.heap.size:=by rw[dA]
 have hM:MOk P base h0 (w1.alloc (.loop L)) ({ target:=.collected w.heap.size,args:= #[] }::a.defers):=by
  have hd2:=(hdf.step hH hS12);refine⟨hd2.glob,hd2.base_le,hd2.le,fun d hd=>?_,?_⟩
  ·rcases List.mem_cons.1 hd with rfl | hd
   ·refine⟨w.heap.size,rfl,hdf.le,?_⟩
    rw[fQ w1 _ (by omega)];exact heap_alloc_new w o1
   ·exact hd2.each d hd
  ·simp only[List.map_cons,List.nodup_cons]
   refine⟨?_,hdf.nodup⟩;intro hm;obtain⟨d,hd,he⟩:=List.mem_map.1 hm;obtain⟨r,e,_,h2⟩:=hdf.each d hd;rw[e] at he;simp only[Target.collected.injEq] at he;have:=(Array.getElem?_eq_some_iff.1 h2).1;omega
 have hcall:=h.2 base _ (w1.alloc (.loop L)) (.func (.yield w1.heap.size) #[] #[]::Us) hM.glob hH2
  (aY.2 ⟨by simp only[VRel,hμb];exact⟨by simp,trivial⟩,hus.mono (by simp) fun b hb=>sZ hb⟩)
 refine⟨w1.heap.size,[{ target:=.collected w.heap.size,args:= #[] }],w1.alloc (.loop L),{ target:=.fn (.func f) ⟨Us⟩,args:= #[]++ #[.func (.yield w1.heap.size) #[] #[]] },w1.alloc (.loop L),f,⟨.func (.yield w1.heap.size) #[] #[]::Us⟩,w1.alloc (.loop L),?_,?_,fun _ _=>trivial,?_,fun h=>by simp[Fence.wide] at h,?_⟩
 ·simp only[Instr.enterLoop,Sem.run_bind,run_newObj,Result.andThen_ok,Sem.run_pure]
  rfl
 ·have hc:(#[Operand.const (.func (.yield w1.heap.size) #[] #[])]:Array Operand).map a.eval= #[.func (.yield w1.heap.size) #[] #[]]:=by simp[Act.eval]
  simp only[resolve,hU,Deferred.ofValue,hc];rfl
 ·simp only[invoke]
  rw[uZ h.1];congr 2;apply Array.ext';simp
 ·refine xc.2 (hcall.mono ?_)
  rintro e w3 ⟨V,v,mem2,μ2,rfl,q1,q2,q3,r2,e2,q4,q5,q6,q7⟩;have hbl:st.mem.length<(st.mem++[Slot.loop ⟨.ready,none,st.env,N,ps,assign,body⟩]).length:=by simp
  have hμ2:(μ2 st.mem.length).blk=w1.heap.size:=by rw[q3.agree _ hbl,hμb]
  have hsl:=q2.slot _ _ q4;simp only[SRel] at hsl;obtain⟨L2,g1,g2,g3⟩:=hsl;obtain⟨k1,k2,k3⟩:=sL (P:=P) (r' :={ r2 with st:=.exhausted }) (L' :={ L2 with state:=.exhausted }) q2 q4 g1 { g3 with st:=rfl };rw[hμ2] at k1 k2 k3 g1;have hml:st.mem.length≤mem2.length:=Nat.le_trans (by simp) q3.len;have hS3:=hS12.trans (q3.mono (m0:=st.mem.length) (by simp));have hS4:=hS3.trans (k3.mono hml);have post:∃st' μ',HRel base μ' st'.mem { w3 with heap:=w3.heap.setIfInBounds w1.heap.size (.loop { L2 with state:=.exhausted }) }∧TRel μ' st'.mem.length st'.env a.tmps∧a.tmps.size=N∧
    MOk P base h0 { w3 with heap:=w3.heap.setIfInBounds w1.heap.size (.loop { L2 with state:=.exhausted }) } ({ target:=.collected w.heap.size,args:= #[] }::a.defers)∧m0≤st'.mem.length∧
    Step m0 μ st.mem w μ' st'.mem { w3 with heap:=w3.heap.setIfInBounds w1.heap.size (.loop { L2 with state:=.exhausted }) }∧Q e2 st' :=by
   refine⟨_,μ2,k2,?_,hN,(hM.step hH2 q3).step q2 k3,?_,hS4.mono hm,q7⟩
   ·show TRel μ2 (mem2.set st.mem.length _).length st.env a.tmps
    rw[List.length_set];exact hR.mono hml fun b hb=>by rw[q3.agree b (by simp;omega),sZ hb]
   ·show m0≤(mem2.set st.mem.length _).length
    rw[List.length_set];omega
  refine⟨r2.pend,{ w3 with heap:=w3.heap.setIfInBounds w1.heap.size (.loop { L2 with state:=.exhausted }) },?_,?_⟩
  ·simp only[Instr.endLoop,Sem.run_bind,gu g1,Result.andThen_ok]
   rw[g3.st];have hb:(r2.st==LoopState.busy)=false:=by cases hx:r2.st<;>first | rfl | exact absurd hx q5
   rw[hb];have hpnd:L2.pending=r2.pend:=g3.pend;simp only[Bool.false_eq_true,if_false,Sem.run_bind,Sem.run_pure,k1,Result.andThen_ok];rw[hpnd]
  ·cases hp:r2.pend with
   |none=>
    rw[hp] at q6;simp only[KN,Option.some.injEq] at q6;subst q6;exact post
   |some c=>
    rw[hp] at q6;cases c<;>simp only[KN,Option.some.injEq,reduceCtorEq] at q6
    ·subst q6;exact wpIn_exit post
    ·subst q6;exact wpIn_ret post
end
end Go.Eng
namespace Go.Eng
structure CallRes where
 v:AV
 pre:Option Mem
 new:Mem
def CallRes.mem(r:CallRes) (mem:Mem):Mem:=(r.pre.getD mem)++r.new
inductive Callee where
 |fn (f:FuncId)
 |yld (b:Nat)
abbrev Oracle:=Callee→List AV→Mem→Option CallRes
def iF(env:Env):Op→Option (Callee×List AV)
 |.call { callee:=.value x,args,argTypes:=_ }=>match get env x with
  |.func f caps=>some (.fn f,SJ env args++caps)
  |.yield b=>some (.yld b,SJ env args)
  |_=>none
 |_=>none
structure XS where
 env:Env
 mem:Mem
 dirty:Bool
def Qb:AV→List Nat
 |.ptr b _=>[b]
 |_=>[]
def bY:AV→List Nat
 |.slice b _ _ _=>[b]
 |_=>[]
def Kw:AV→List Nat
 |.map b=>[b]
 |_=>[]
def th(env:Env):Op→List Nat
 |.store _ a _=>Qb (get env a)
 |.call { callee:=.builtin .append,args:=⟨[s,_]⟩,argTypes:=_ }=>bY (get env s)
 |.call { callee:=.builtin .unsafeString,args:=⟨[x,_]⟩,argTypes:=_ }=>Qb (get env x)
 |.call { callee:=.builtin .clear,args:=⟨[x]⟩,argTypes:=_ }=>bY (get env x)
 |.mapUpdate _ m _ _=>Kw (get env m)
 |.mapEntry _ m _=>Kw (get env m)
 |.entryStore _ m _ _=>Kw (get env m)
 |_=>[]
def Ry(T:TypeId→Option TyI) (O:Oracle) (m0:Nat) (env:Env) (mem:Mem) (dirty:Bool) (o:Oper):Option (AV×Mem×Bool):=
 match aOp T env mem o.op with
 |some (v,m)=>some (v,m,dirty||(th env o.op).any fun b=>decide (b<m0))
 |none=>match iF env o.op with
  |some (c,args)=>match O c args mem with
   |some r=>some (r.v,r.mem mem,dirty||r.pre.isSome)
   |none=>none
  |none=>none
def dD(T:TypeId→Option TyI) (O:Oracle) (N m0:Nat) (ops:Array Oper):List Oper→XS→Option XS
 | [],s=>some s
 |o::os,s=>
  if Ay N o then
   match oU ops s.env o with
   |some true=>match Ry T O m0 s.env s.mem s.dirty o with
    |some (v,m,dt)=>dD T O N m0 ops os ⟨putE s.env o.dst v,m,dt⟩
    |none=>none
   |some false=>dD T O N m0 ops os ⟨putE s.env o.dst (.tuple []),s.mem,s.dirty⟩
   |none=>none
  else none
def eC(ops:List Oper):List Nat:=
 ops.foldl (fun acc o=>acc++[o.after.toList.foldl (fun s e=>if Region.binds .any e then s ||| 2 ^ e.on ||| acc.getD e.on 0 else s) 0]) []
def bef(bs:List Nat) (i j:Nat):Bool:=(bs.getD j 0).testBit i
def lI(ops:Array Oper) (bs:List Nat):Bool:=
 let n:=ops.size
 (List.range n).all fun j=>match ops[j]? with
  |none=>true
  |some o=>
   o.after.toList.all (fun e=> !Region.binds .any e||decide (e.on<j))&&
   (List.range n).all fun i=>(!bef bs i j||o.after.toList.any fun e=>Region.binds .any e&&(e.on==i||bef bs i e.on))&&(i==j||bef bs i j||bef bs j i||match ops[i]? with
    |none=>true
    |some oi=>match oi.dst with
     |none=>true
     |some t=> !(o.looksAt ops).contains t&& !(o.dst==some t))
def Kg(env:Env):Op→Option (List Nat)
 |.load _ a=>match get env a with
  |.ptr b _=>some [b]
  |_=>some []
 |.store _ a _=>match get env a with
  |.ptr b _=>some [b]
  |_=>some []
 |.slice _ x _ _ _=>match get env x with
  |.slice b _ _ _=>some [b]
  |_=>some []
 |.lookup _ m _ _=>match get env m with
  |.map b=>some [b]
  |_=>some []
 |.mapUpdate _ m _ _=>match get env m with
  |.map b=>some [b]
  |_=>some []
 |.mapEntry _ m _=>match get env m with
  |.map b=>some [b]
  |_=>some []
 |.entryStore _ m _ _=>match get env m with
  |.map b=>some [b]
  |_=>some []
 |.call { callee:=.builtin .len,args:=⟨[x]⟩,argTypes:=_ }=>match get env x with
  |.map b=>some [b]
  |_=>some []
 |.call { callee:=.builtin .append,args:=⟨[s,x]⟩,argTypes:=_ }=>
  some ((match get env s with | .slice b _ _ _=>[b] | _=>[])++(match get env x with | .slice b _ _ _=>[b] | _=>[]))
 |.call { callee:=.builtin .unsafeSliceData,args:=⟨[x]⟩,argTypes:=_ }=>match get env x with
  |.slice b _ _ _=>some [b]
  |_=>some []
 |.call { callee:=.builtin .clear,args:=⟨[x]⟩,argTypes:=_ }=>match get env x with
  |.slice b _ _ _=>some [b]
  |_=>some []
 |.call { callee:=.builtin .unsafeString,args:=⟨[x,_]⟩,argTypes:=_ }=>match get env x with
  |.ptr b _=>some [b]
  |_=>some []
 |.call { callee:=.builtin _,args:=_,argTypes:=_ }=>some []
 |.call _=>none
 |_=>some []
structure Rec where
 env:Env
 en:Env
 mem:Mem
 tm:Mem
 v:AV
 m' :Mem
 nx:Mem
 wb:Bool
 wr:List Nat
def bu(see:Nat→Bool):Nat→Mem→Mem
 |_,[]=>[]
 |i,s::r=>(if see i then s else .absent)::bu see (i+1) r
def bd(wr:List Nat):Nat→Mem→Mem→Mem
 |_,[],m' =>m'
 |_,_::_,[]=>[]
 |i,s::r,s' ::r' =>(if wr.contains i then s' else s)::bd wr (i+1) r r'
def dh(mem:Mem) (b:Nat):Bool:=match mem[b]? with
 |some .absent=>false
 |some _=>true
 |none=>false
def ca:Nat→Mem→List Nat
 |_,[]=>[]
 |i,.absent::r=>ca (i+1) r
 |i,_::r=>i::ca (i+1) r
def sY(bs:List Nat) (j:Nat):Nat→List Rec→List Rec
 |_,[]=>[]
 |i,r::rs=>if bef bs i j then sY bs j (i-1) rs else r::sY bs j (i-1) rs
def Su(bs:List Nat) (j:Nat) (acc:List Rec):Option (List Nat)→Nat→Bool
 |some l=>fun b=>l.contains b
 |none=>let un:=sY bs j (j-1) acc;fun b=> !un.any fun f=>decide (f.mem.length≤b∧b<f.nx.length)
def Rw(tm:Mem):Option Mem→List Nat
 |some _=>ca 0 tm
 |none=>[]
def Dp(T:TypeId→Option TyI) (O:Oracle) (N:Nat) (ops:Array Oper) (bs:List Nat) (j:Nat) (o:Oper) (env:Env) (mem:Mem) (acc:List Rec):Option Rec:=
 if Ay N o then
  let en:=(o.looksAt ops).map fun t=>(t,ab env t)
  match oU ops en o with
  |none=>none
  |some false=>some ⟨env,en,mem,bu (fun _=>false) 0 mem,.tuple [],bu (fun _=>false) 0 mem,mem,false,[]⟩
  |some true=>
   let tm:=bu (Su bs j acc (Kg en o.op)) 0 mem
   match aOp T en tm o.op with
   |some (v,m)=>let wr:=th en o.op;some ⟨env,en,mem,tm,v,m,bd wr 0 mem m,true,wr⟩
   |none=>match iF en o.op with
    |none=>none
    |some (c,args)=>match O c args tm with
     |none=>none
     |some r=>let wr:=Rw tm r.pre
      some ⟨env,en,mem,tm,r.v,r.mem tm,bd wr 0 mem (r.mem tm),true,wr⟩
 else none
def jH(T:TypeId→Option TyI) (O:Oracle) (N:Nat) (ops:Array Oper) (bs:List Nat):Nat→List Oper→Env→Mem→List Rec→Option (List Rec×Env×Mem)
 |_,[],env,mem,acc=>some (acc.reverse,env,mem)
 |j,o::os,env,mem,acc=>match Dp T O N ops bs j o env mem acc with
  |none=>none
  |some r=>jH T O N ops bs (j+1) os (putE env o.dst r.v) r.nx (r::acc)
def fW(top:Nat) (un:List (Nat×Rec)) (b:Nat):Bool:=
 decide (b<top)&&un.all fun f=> !decide (f.2.mem.length≤b∧b<f.2.nx.length)
def aF:Nat→List Rec→List (Nat×Rec)
 |_,[]=>[]
 |i,r::rs=>(i,r)::aF (i+1) rs
def ft(bs:List Nat) (R:List (Nat×Rec)) (j:Nat) (r:Rec):Bool:=
 let un:=R.filter fun f=>decide (f.1<j)&& !bef bs f.1 j
 r.wr.all (fun b=>dh r.tm b)&&
 r.v.refsOk (fW r.nx.length un)&&
 r.wr.all (fun b=>match r.nx[b]? with | some s=>s.refsOk (fW r.nx.length un) | none=>true)&&
 (r.nx.drop r.mem.length).all (fun s=>(s.own||match s with | .absent=>true | _=>false)&&s.refsOk (fW r.nx.length un))&&
 un.all fun f=>f.2.wr.all (fun b=> !dh r.tm b)&&r.wr.all (fun b=> !dh f.2.tm b)&&
  ((r.tm.drop f.2.mem.length).take (f.2.nx.length-f.2.mem.length)).all fun s=>match s with | .absent=>true | _=>false
def aD(T:TypeId→Option TyI) (O:Oracle) (N m0:Nat) (ops:Array Oper) (s:XS):Option XS:=
 let bs:=eC ops.toList
 match jH T O N ops bs 0 ops.toList s.env s.mem [] with
 |none=>none
 |some (R,env,mem)=>
  let nR:=aF 0 R
  if nR.all fun f=>ft bs nR f.1 f.2 then some ⟨env,mem,s.dirty||R.any fun r=>r.wr.any fun b=>decide (b<m0)⟩ else none
def dz:Code→Bool
 |.region _ ops true=>lI ops (eC ops.toList)
 |.seq a b=>dz a&&dz b
 |.cond _ a b=>dz a&&dz b
 |.block _ b=>dz b
 |.loop b=>dz b
 |.scope b=>dz b
 |.rangeFunc _ _ a b=>dz a&&dz b
 |_=>true
def ad:Code→List Nat
 |.region _ ops _=>ops.toList.filterMap (·.dst)
 |.seq a b=>ad a++ad b
 |.cond _ a b=>ad a++ad b
 |.block _ b=>ad b
 |.loop b=>ad b
 |.scope b=>ad b
 |_=>[]
def aI(lv wr:List Nat) (env0 env:Env):Env:=lv.map (fun t=>(t,ab env t))++((wr.filter fun t=> !lv.contains t).map fun t=>(t,AV.undef))++env0
mutual
def AV.refs(m0:Nat):AV→List Nat
 |.ptr b _=>if b<m0 then [] else [b]
 |.slice b _ _ _=>if b<m0 then [] else [b]
 |.map b=>if b<m0 then [] else [b]
 |.yield b=>if b<m0 then [] else [b]
 |.func _ cs=>AV.refsL m0 cs
 |.iface _ v=>v.refs m0
 |.agg cs=>AV.refsL m0 cs
 |.tuple cs=>AV.refsL m0 cs
 |_=>[]
def AV.refsL(m0:Nat):List AV→List Nat
 | []=>[]
 |v::vs=>v.refs m0++AV.refsL m0 vs
end
def Slot.refs(m0:Nat):Slot→List Nat
 |.absent=>[]
 |.cells _ _ cs=>AV.refsL m0 cs
 |.map es=>es.flatMap fun e=>e.1.refs m0++e.2.refs m0
 |.fmap es=>es.flatMap fun e=>e.1.refs m0++e.2.refs m0
 |.loop r=>r.env.flatMap fun e=>e.2.refs m0
def rz(m0:Nat) (mem:Mem):Nat→List Nat→List Nat→List Nat
 |0,_,seen=>seen
 |_,[],seen=>seen
 |k+1,b::todo,seen=>if seen.contains b then rz m0 mem k todo seen else rz m0 mem k (todo++(mem.getD b .absent).refs m0) (seen++[b])
def O1:List Nat→Bool
 |a::b::_=>a==b
 |_=>false
def Lb:List Nat→Bool
 |a::b::c::_=>a==b&&b==c
 |_=>false
def HR(lv wr:List Nat) (env0:Env) (m1:Nat) (s:XS):XS:=
 let ks:=rz m1 s.mem 1000 ((lv.flatMap fun t=>(ab s.env t).refs m1)++(s.mem.take m1).flatMap (Slot.refs m1)) []
 if HH m1 s.mem.length ks then
  ⟨(lv.filter fun t=>wr.contains t).map (fun t=>(t,(ab s.env t).ren (rho m1 ks)))++((wr.filter fun t=> !lv.contains t).map fun t=>(t,AV.undef))++env0,(s.mem.take m1).map (Slot.ren (rho m1 ks))++keep m1 ks s.mem,true⟩
 else⟨aI lv wr env0 s.env,s.mem,s.dirty⟩
def pO(lv wr:List Nat) (env0:Env) (m1:Nat) (s:XS):XS:=
 if Lb lv=true∨s.mem.length≤m1 then⟨aI lv wr env0 s.env,s.mem,s.dirty⟩ else
  let ks:=rz m1 s.mem 1000 (lv.flatMap fun t=>(ab s.env t).refs m1) []
  if HH m1 s.mem.length ks&&(s.mem.take m1).all fun s=>(s.refs m1).isEmpty then
   ⟨(lv.filter fun t=>wr.contains t).map (fun t=>(t,(ab s.env t).ren (rho m1 ks)))++((wr.filter fun t=> !lv.contains t).map fun t=>(t,AV.undef))++env0,s.mem.take m1++keep m1 ks s.mem,s.dirty⟩
  else if O1 lv then HR lv wr env0 m1 s
  else⟨aI lv wr env0 s.env,s.mem,s.dirty⟩
def dV(lv wr:List Nat) (env0:Env) (m1:Nat) (f:XS→Option (Exit×XS)):Nat→XS→Option (Exit×XS)
 |0,_=>none
 |k+1,s=>match f s with
  |some (.normal,s')=>dV lv wr env0 m1 f k (pO lv wr env0 m1 s')
  |r=>r
def aT(T:TypeId→Option TyI) (lv:Code→List Nat) (O:Oracle) (K N m0:Nat) (tp:Bool):Code→XS→Option (Exit×XS)
 |.skip,s=>some (.normal,s)
 |.region _ ops false,s=>match dD T O N m0 ops ops.toList s with
  |some s' =>some (.normal,s')
  |none=>none
 |.region _ ops true,s=>match aD T O N m0 ops s with
  |some s' =>some (.normal,s')
  |none=>none
 |.seq a b,s=>match aT T lv O K N m0 tp a s with
  |some (.normal,s')=>aT T lv O K N m0 tp b s'
  |r=>r
 |.cond c a b,s=>match get s.env c with
  |.bool true=>aT T lv O K N m0 tp a s
  |.bool false=>aT T lv O K N m0 tp b s
  |_=>none
 |.block id b,s=>match aT T lv O K N m0 tp b s with
  |some (.exit i,s')=>if i=id then some (.normal,s') else some (.exit i,s')
  |r=>r
 |.loop b,s=>dV (lv b) (ad b) s.env s.mem.length (aT T lv O K N m0 tp b) K ⟨aI (lv b) (ad b) s.env s.env,s.mem,s.dirty⟩
 |.exit id,s=>some (.exit id,s)
 |.ret,s=>some (.ret,s)
 |.rangeFunc g ps asg body,s=>
  if tp then
   match get s.env g with
   |.func f caps=>match O (.fn f) (.yield s.mem.length::caps) (s.mem++[.loop ⟨.ready,none,s.env,N,ps,asg,body⟩]) with
    |some r=>
     let mem2:=r.mem (s.mem++[.loop ⟨.ready,none,s.env,N,ps,asg,body⟩])
     match mem2[s.mem.length]? with
     |some (.loop r2)=>if r2.st== .busy then none else match KN r2.pend with
      |some e=>some (e,⟨s.env,mem2.set s.mem.length (.loop { r2 with st:=.exhausted }),s.dirty||r.pre.isSome⟩)
      |none=>none
     |_=>none
    |none=>none
   |_=>none
  else none
 |_,_=>none
def aa(T:TypeId→Option TyI) (lv:Code→List Nat) (G:FuncId→Option Func) (O:Oracle) (K:Nat) (f:FuncId) (args:List AV) (mem:Mem):Option CallRes:=
 match G f with
 |none=>none
 |some fn=>match fn.body with
  |none=>none
  |some c=>
   if args.length≤fn.ntmps then
    match aT T lv O K fn.ntmps mem.length true c ⟨dm 0 args,mem,false⟩ with
    |some (e,s)=>
     match e with
     |.normal | .ret=>
      match jd T fn.results.toList s.env s.mem with
      |some v=>
       let m0:=mem.length
       if s.dirty then
        let ks:=rz m0 s.mem 1000 (v.refs m0++(s.mem.take m0).flatMap (Slot.refs m0)) []
        if HH m0 s.mem.length ks then
         some ⟨v.ren (rho m0 ks),some ((s.mem.take m0).map (Slot.ren (rho m0 ks))),keep m0 ks s.mem⟩
        else none
       else
        let ks:=rz m0 s.mem 1000 (v.refs m0) []
        if HH m0 s.mem.length ks then
         some ⟨v.ren (rho m0 ks),none,keep m0 ks s.mem⟩
        else none
      |none=>none
     |_=>none
    |none=>none
   else none
def C0(T:TypeId→Option TyI) (lv:Code→List Nat) (O:Oracle) (K:Nat) (b:Nat) (args:List AV) (mem:Mem):Option CallRes:=
 match mem[b]? with
 |some (.loop r)=>
  if r.st== .ready&&decide (args.length=r.ps.toList.length)&&r.ps.toList.all (fun t=>decide (t<r.N))&&dz r.assign&&dz r.body then
   match aT T lv O K r.N mem.length false r.assign ⟨yJ r.ps.toList args r.env,mem,true⟩ with
   |some (.normal,s1)=>match s1.mem[b]? with
    |some (.loop r1)=>
     if r1.st== .ready then
      match aT T lv O K r.N mem.length false r.body ⟨s1.env,s1.mem.set b (.loop { r1 with st:=.busy }),true⟩ with
      |some (e,s2)=>match HF e,s2.mem[b]? with
       |some j,some (.loop r2)=>
        let m0:=mem.length
        let m3:=s2.mem.set b (.loop { r2 with st:=ra j,pend:=j })
        let ks:=rz m0 m3 1000 ((m3.take m0).flatMap (Slot.refs m0)) []
        if HH m0 s2.mem.length ks then
         some ⟨.bool j.isNone,some ((m3.take m0).map (Slot.ren (rho m0 ks))),keep m0 ks m3⟩
        else none
       |_,_=>none
      |none=>none
     else none
    |_=>none
   |_=>none
  else none
 |_=>none
def pM(T:TypeId→Option TyI) (lv:Code→List Nat) (G:FuncId→Option Func) (O:Oracle) (K:Nat):Nat→Oracle
 |0=>O
 |n+1=>fun c args mem=>match O c args mem with
  |some r=>some r
  |none=>match c with
   |.fn f=>aa T lv G (pM T lv G O K n) K f args mem
   |.yld b=>C0 T lv (pM T lv G O K n) K b args mem
end Go.Eng
