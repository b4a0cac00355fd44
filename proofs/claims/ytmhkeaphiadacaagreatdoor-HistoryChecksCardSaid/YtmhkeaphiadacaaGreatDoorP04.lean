/- See P53. -/
import Derived.Test.YtmhkeaphiadacaaGreatDoorP03
set_option linter.all false
namespace Go.Eng
mutual
def AV.HK(ok:Nat→Bool):AV→Bool
 |.ptr b _=>ok b
 |.slice b _ _ _=>ok b
 |.map b=>ok b
 |.yield b=>ok b
 |.func _ cs=>AV.aaa ok cs
 |.iface _ v=>v.HK ok
 |.agg cs=>AV.aaa ok cs
 |.tuple cs=>AV.aaa ok cs
 |_=>true
def AV.aaa(ok:Nat→Bool):List AV→Bool
 | []=>true
 |v::vs=>v.HK ok&&AV.aaa ok vs
end
def aae.HK(ok:Nat→Bool):aae→Bool
 |.qF=>true
 |.cells _ _ cs=>AV.aaa ok cs
 |.map es=>es.all fun e=>e.1.HK ok&&e.2.HK ok
 |.aaF es=>es.all fun e=>e.1.HK ok&&e.2.HK ok
 |.loop r=>r.env.all fun e=>e.2.HK ok
theorem Br{ok:Nat→Bool}:∀{env:Env},(env.all fun e=>e.2.HK ok)=true→∀t,(aa env t).HK ok=true
 | [],_,_=>rfl
 |(k,v)::r,h,t=>by
  simp only[List.all_cons,Bool.and_eq_true] at h;simp only[aa];split
  ·exact h.1
  ·exact Br h.2 t
mutual
theorem aab.change{μ μ' :Nat→Place}{n:Nat}{ok:Nat→Bool}(hμ:∀b,b<n→ok b=true→μ' b=μ b):
  ∀{v V},v.HK ok=true→aab μ n v V→aab μ' n v V
 |.undef,_,_,_=>by simp[aab]
 |.bool _,_,_,h=>by simpa [aab] using h
 |.int _ _,_,_,h=>by simpa [aab] using h
 |.str _,_,_,h=>by simpa [aab] using h
 |.ptr b o,V,hk,h=>by simp only[aab] at h ⊢;simp only[AV.HK] at hk;exact⟨h.1,by rw[hμ b h.1 hk];exact h.2⟩
 |.aar,_,_,h=>by simpa [aab] using h
 |.slice b o l c,V,hk,h=>by simp only[aab] at h ⊢;simp only[AV.HK] at hk;exact⟨h.1,by rw[hμ b h.1 hk];exact h.2⟩
 |.kO,_,_,h=>by simpa [aab] using h
 |.map b,V,hk,h=>by simp only[aab] at h ⊢;simp only[AV.HK] at hk;exact⟨h.1,by rw[hμ b h.1 hk];exact h.2⟩
 |.yield b,V,hk,h=>by simp only[aab] at h ⊢;simp only[AV.HK] at hk;exact⟨h.1,by rw[hμ b h.1 hk];exact h.2⟩
 |.aau,_,_,h=>by simpa [aab] using h
 |.func f cs,V,hk,h=>by simp only[aab] at h ⊢;simp only[AV.HK] at hk;obtain⟨Us,e,h⟩:=h;exact⟨Us,e,aad.change hμ hk h⟩
 |.nilFunc,_,_,h=>by simpa [aab] using h
 |.iface t v,V,hk,h=>by simp only[aab] at h ⊢;simp only[AV.HK] at hk;obtain⟨U,e,h⟩:=h;exact⟨U,e,aab.change hμ hk h⟩
 |.nilIface,_,_,h=>by simpa [aab] using h
 |.agg cs,V,hk,h=>by simp only[aab] at h ⊢;simp only[AV.HK] at hk;obtain⟨Us,e,h⟩:=h;exact⟨Us,e,aad.change hμ hk h⟩
 |.tuple cs,V,hk,h=>by simp only[aab] at h ⊢;simp only[AV.HK] at hk;obtain⟨Us,e,h⟩:=h;exact⟨Us,e,aad.change hμ hk h⟩
theorem aad.change{μ μ' :Nat→Place}{n:Nat}{ok:Nat→Bool}(hμ:∀b,b<n→ok b=true→μ' b=μ b):
  ∀{vs Us},AV.aaa ok vs=true→aad μ n vs Us→aad μ' n vs Us
 | [],_,_,h=>by simpa [aad] using h
 |v::vs,Us,hk,h=>by simp only[aad] at h ⊢;simp only[AV.aaa,Bool.and_eq_true] at hk;obtain⟨U,Ws,e,h1,h2⟩:=h;exact⟨U,Ws,e,aab.change hμ hk.1 h1,aad.change hμ hk.2 h2⟩
end
variable{s:aae}
theorem aap.change{μ μ' :Nat→Place}{n base:Nat}{w:World}{p:Place}{ok:Nat→Bool}(hμ:∀b,b<n→ok b=true→μ' b=μ b)(hk:s.HK ok=true)(h:aap μ n base w p s):aap μ' n base w p s:=by
 cases s with
 |qF=>trivial
 |cells own es cs=>
  simp only[aap] at h ⊢;simp only[aae.HK] at hk;obtain⟨cur,e,fr,h1,h2,h3,h4,h5⟩:=h;refine⟨cur,e,fr,h1,h2,h3,fun j v hv=>?_,h5⟩;obtain⟨V,hV,hr⟩:=h4 j v hv;refine⟨V,hV,hr.change hμ ?_⟩;have:∀(l:List AV),AV.aaa ok l=true→∀v∈l,v.HK ok=true:=by
   intro l;induction l with
   |nil=>intro _ v hv;cases hv
   |cons x xs ih=>
    intro hl v hv;simp only[AV.aaa,Bool.and_eq_true] at hl;cases hv with
    |head=>exact hl.1
    |tail _ hm=>exact ih hl.2 v hm
  exact this cs hk v (List.mem_of_getElem? hv)
 |map es=>
  simp only[aap] at h ⊢;simp only[aae.HK,List.all_eq_true,Bool.and_eq_true] at hk;obtain⟨Do,FS,h1,h2,h3,h4⟩:=h;refine⟨Do,FS,h1,h2,h3,fun j e he=>?_⟩;obtain⟨E,hE,WL,WR⟩:=h4 j e he;have:=hk e (List.mem_of_getElem? he);exact⟨E,hE,WL.change hμ this.1,WR.change hμ this.2⟩
 |aaF es=>
  simp only[aap] at h ⊢;simp only[aae.HK,List.all_eq_true,Bool.and_eq_true] at hk;obtain⟨Do,FS,h1,h2,h3,h4⟩:=h;refine⟨Do,FS,h1,h2,h3,fun j e he=>?_⟩;obtain⟨E,hE,WL,WR⟩:=h4 j e he;have:=hk e (List.mem_of_getElem? he);exact⟨E,hE,WL.change hμ this.1,WR.change hμ this.2⟩
 |loop r=>
  simp only[aap] at h ⊢;obtain⟨L,h1,h2,h3⟩:=h;exact⟨L,h1,h2,{ h3 with tmps:=fun t=>(h3.tmps t).change hμ (Br hk t) }⟩
structure aaN where
 E:Nat→Env
 En:Nat→Env
 M:Nat→Mem
 Tm:Nat→Mem
 M' :Nat→Mem
 v:Nat→AV
 wb:Nat→Bool
 aaX:Nat→Nat→Bool
 ok:Nat→Nat→Bool
 cl:Nat→Nat→Bool
def iq(mem:Mem) (b:Nat):Prop:=∃s,mem[b]? =some s∧s≠ .qF
structure acx (P:Program) (T:TypeId→Option TyI) (N:Nat) (ops:Array Oper) (d:aaN) (j:Nat) (o:Oper):Prop where
 wanted:rF ops (d.En j) o=some (d.wb j)
 dst:Cy N o=true
 step:d.wb j=true→vJ P T (d.En j) (d.Tm j) o (d.v j) (d.M' j)
 skip:d.wb j=false→d.v j=.tuple []∧d.M' j=d.Tm j
 env:d.E (j+1)=aa4 (d.E j) o.dst (d.v j)
 named:∀t,aa (d.En j) t=.undef∨(aa (d.En j) t=aa (d.E j) t∧∀(i:Nat) oi,ops[i]? =some oi→i≠j→oi.dst=some t→d.cl i j=true∨d.cl j i=true)
 adf:∀(i:Nat) oi t,ops[i]? =some oi→i≠j→o.dst=some t→oi.dst=some t→d.cl i j=true∨d.cl j i=true
 ab2:(d.Tm j).length=(d.M j).length
 ab3:∀b:Nat,(d.Tm j)[b]? =(d.M j)[b]? ∨(d.Tm j)[b]? =some .qF
 acN:(d.M (j+1)).length=(d.M' j).length
 ab4:(d.M j).length≤(d.M (j+1)).length
 acO:∀b:Nat,d.aaX j b=true→(d.M (j+1))[b]? =(d.M' j)[b]?
 acU:∀b:Nat,b<(d.M j).length→d.aaX j b=false→(d.M (j+1))[b]? =(d.M j)[b]?
 acV:∀b:Nat,b<(d.M j).length→d.aaX j b=false→iq (d.Tm j) b→(d.M' j)[b]? =(d.M j)[b]?
 acW:∀b:Nat,(d.M j).length≤b→d.aaX j b=true
 acy:∀b:Nat,d.aaX j b=true→b<(d.M j).length→iq (d.Tm j) b
 sep:∀(i:Nat) oi (b:Nat),ops[i]? =some oi→i≠j→b<(d.M (i+1)).length→d.aaX i b=true→(b<(d.M (j+1)).length∧d.aaX j b=true)∨iq (d.Tm j) b→d.cl i j=true∨d.cl j i=true
 okc:∀(i:Nat) (b:Nat) oi,ops[i]? =some oi→d.ok j b=true→(d.M i).length≤b→b<(d.M (i+1)).length→i=j∨d.cl i j=true
 ab5:(d.v j).HK (d.ok j)=true
 acX:∀(b:Nat) s,d.aaX j b=true→(d.M (j+1))[b]? =some s→s.HK (d.ok j)=true
 acz:∀(b:Nat) s,(d.M j).length≤b→(d.M (j+1))[b]? =some s→s≠ .qF→dL (d.M (j+1)) b
 acP:∀e∈o.after,Region.binds .any e=true→e.on<j
 acA:∀i,d.cl i j=true→∃e∈o.after,Region.binds .any e=true∧(e.on=i∨d.cl i e.on=true)
variable{b t:Nat}
section
variable {P:Program}{T:TypeId→Option TyI}{N:Nat}{ops:Array Oper}{d:aaN}
def sg(P:Program) (T:TypeId→Option TyI) (N:Nat) (ops:Array Oper) (d:aaN):Prop:=∀(j:Nat) o,ops[j]? =some o→acx P T N ops d j o
def Tch(d:aaN) (i b:Nat):Prop:=d.aaX i b=true∧b<(d.M (i+1)).length
theorem zc{j:Nat}(h:j<ops.size):∃o,ops[j]? =some o:=⟨ops[j],by simp[h]⟩
theorem Ky{env:Env}{dst:Option Tmp}{v:AV}(h:dst≠some t):aa (aa4 env dst v) t=aa env t:=by
 cases dst with
 |none=>rfl
 |some x=>
  have:¬x=t:=fun e=>h (by rw[e])
  simp[aa4,aa,this]
section
variable (hA:sg P T N ops d)
include hA
theorem Dm(t:Nat)(j:Nat):∀k,j≤k→k≤ops.size→(∀(i:Nat) oi,j≤i→i<k→ops[i]? =some oi→oi.dst≠some t)→aa (d.E k) t=aa (d.E j) t:=by
 intro k hjk;induction hjk with
 |refl=>intro _ _;rfl
 | @step k hjk ih=>
  intro hk hno;obtain⟨o,ho⟩:=zc (ops:=ops) (j:=k) (by omega);rw[(hA k o ho).env,Ky (hno k o hjk (Nat.lt_succ_self k) ho)];exact ih (by omega) fun i oi h1 h2 h3=>hno i oi h1 (by omega) h3
theorem zq(j:Nat):∀k,j≤k→k≤ops.size→(d.M j).length≤(d.M k).length:=by
 intro k hjk;induction hjk with
 |refl=>intro _;exact Nat.le_refl _
 | @step k hjk ih=>
  intro hk;obtain⟨o,ho⟩:=zc (ops:=ops) (j:=k) (by omega);exact Nat.le_trans (ih (by omega)) (hA k o ho).ab4
theorem DA(b:Nat)(j:Nat):∀k,j≤k→k≤ops.size→(∀i,j≤i→i<k→¬Tch d i b)→(d.M k)[b]? =(d.M j)[b]? :=by
 intro k hjk;induction hjk with
 |refl=>intro _ _;rfl
 | @step k hjk ih=>
  intro hk hno;obtain⟨o,ho⟩:=zc (ops:=ops) (j:=k) (by omega);have h1:=ih (by omega) fun i h1 h2=>hno i h1 (by omega)
  have hn:=hno k hjk (Nat.lt_succ_self k);rw[←h1];by_cases hb:b<(d.M k).length
  ·have:d.aaX k b=false:=by
    cases ht:d.aaX k b with
    |false=>rfl
    |true=>exact absurd ⟨ht,Nat.lt_of_lt_of_le hb (hA k o ho).ab4⟩ hn
   exact(hA k o ho).acU b hb this
  ·have ht:=(hA k o ho).acW b (by omega)
   have:¬b<(d.M (k+1)).length:=fun h=>hn ⟨ht,h⟩
   exact(List.getElem?_eq_none (Nat.le_of_not_lt this)).trans (List.getElem?_eq_none (Nat.le_of_not_lt hb)).symm
end
structure abZ (d:aaN) (ops:Array Oper) (base:Nat) (μ0:Nat→Place) (w0:World) (S:Nat→Prop) (μ:Nat→Place) (kb kt:Nat→Nat) (tmps:Array Value) (w:World):Prop where
 aai:base≤w.heap.size
 abD:∀b,kb b≤ops.size
 abl:∀b i,i<ops.size→Tch d i b→(S i↔i<kb b)
 abE:∀b,kb b=0∨Tch d (kb b-1) b
 slot:∀(b:Nat) s,(d.M (kb b))[b]? =some s→aap μ (d.M (kb b)).length base w (μ b) s
 sep:∀b b' s',dL (d.M (kb b)) b→(d.M (kb b'))[b']? =some s' →s' ≠ .qF→b≠b' →(μ b).blk≠(μ b').blk
 ab6:∀t,kt t≤ops.size
 abm:∀(t i:Nat) oi,ops[i]? =some oi→oi.dst=some t→(S i↔i<kt t)
 abF:∀t,kt t=0∨∃oi,ops[kt t-1]? =some oi∧oi.dst=some t
 tmp:∀t,aab μ (d.M (kt t)).length (aa (d.E (kt t)) t) (tmps.getD t undef)
 agree:∀b,b<(d.M 0).length→μ b=μ0 b
 os:w.os=w0.os
 tape:w.tape=w0.tape
 drawn:w0.drawn≤w.drawn
 output:w.output=w0.output
 size:w0.heap.size≤w.heap.size
 frame:∀k,k<w0.heap.size→(∀b,dL (d.M 0) b→(μ0 b).blk≠k)→w.heap[k]? =w0.heap[k]?
 owner:∀b,dL (d.M (kb b)) b→(μ b).blk<w0.heap.size→∃b0,dL (d.M 0) b0∧(μ0 b0).blk=(μ b).blk
theorem Vv(hA:sg P T N ops d):∀(j i:Nat),j<ops.size→d.cl i j=true→i<j:=by
 intro j;induction j using Nat.strongRecOn with
 |_ j ih=>
  intro i hj h;obtain⟨o,ho⟩:=zc hj;obtain⟨e,he,hb,hc⟩:=(hA j o ho).acA i h;have AC:=(hA j o ho).acP e he hb;rcases hc with rfl | hc
  ·exact AC
  ·exact Nat.lt_trans (ih e.on AC i (by omega) hc) AC
def ur(ops:Array Oper) (S:Nat→Prop):Prop:=∀(j:Nat) o,ops[j]? =some o→S j→∀e∈o.after,Region.binds .any e=true→S e.on
section
variable (hA:sg P T N ops d){S:Nat→Prop}(hS:ur ops S)
include hA S hS
theorem Rr:∀(j:Nat) o,ops[j]? =some o→(∀e∈o.after,Region.binds .any e=true→S e.on)→∀i,d.cl i j=true→S i:=by
 intro j;induction j using Nat.strongRecOn with
 |_ j ih=>
  intro o ho hp i h;have Zu:j<ops.size:=(Array.getElem?_eq_some_iff.1 ho).1;obtain⟨e,he,hb,hc⟩:=(hA j o ho).acA i h;have AC:=(hA j o ho).acP e he hb;have hSe:=hp e he hb;rcases hc with rfl | hc
  ·exact hSe
  ·obtain⟨oe,hoe⟩:=zc (ops:=ops) (j:=e.on) (by omega)
   exact ih e.on AC oe hoe (hS e.on oe hoe hSe) i hc
theorem na{j:Nat}{o:Oper}(ho:ops[j]? =some o)(hr:∀e∈o.after,Region.binds .any e=true→S e.on)(hj:¬S j){i:Nat}(hi:i<ops.size)(h:d.cl i j=true∨d.cl j i=true):S i↔i<j:=by
 have Zu:j<ops.size:=(Array.getElem?_eq_some_iff.1 ho).1;obtain⟨oi,Yb⟩:=zc hi;rcases h with h | h
 ·exact⟨fun _=>Vv hA j i Zu h,fun _=>Rr hA hS j o ho hr i h⟩
 ·have AC:=Vv hA i j hi h
  constructor
  ·intro hSi
   exact absurd (Rr hA hS i oi Yb (hS i oi Yb hSi) j h) hj
  ·intro;omega
end
section step
variable {base:Nat}{μ0:Nat→Place}{w0:World}{S:Nat→Prop}{μ:Nat→Place}{kb kt:Nat→Nat}{a:Act}{w:World}{j:Nat}{o:Oper}
section
variable (hA:sg P T N ops d)(hI:abZ d ops base μ0 w0 S μ kb kt a.tmps w)(hS:ur ops S)(ho:ops[j]? =some o)(hr:∀e∈o.after,Region.binds .any e=true→S e.on)(hj:¬S j)
include hA hI hS ho hr hj
theorem TR(hn:∀(i:Nat) oi,ops[i]? =some oi→i≠j→oi.dst=some t→d.cl i j=true∨d.cl j i=true):
  kt t≤j∧aa (d.E j) t=aa (d.E (kt t)) t:=by
 have Zu:j<ops.size:=(Array.getElem?_eq_some_iff.1 ho).1;have Xr:kt t≤j:=by
  rcases hI.abF t with h0 | ⟨oi,h1,h2⟩
  ·omega
  ·have hk:=(hI.abm t (kt t-1) oi h1 h2)
   by_cases h0:kt t=0
   ·omega
   ·have hSi:S (kt t-1):=hk.2 (by omega)
    have H':kt t-1≠j:=fun e=>hj (e▸hSi)
    have AC:kt t-1<ops.size:=(Array.getElem?_eq_some_iff.1 h1).1;have:=(na hA hS ho hr hj AC (hn _ oi h1 H' h2)).1 hSi;omega
 refine⟨Xr,Dm hA t (kt t) j Xr (by omega) fun i oi h1 h2 h3 h4=>?_⟩;have:=(na hA hS ho hr hj (by omega) (hn i oi h3 (by omega) h4)).2 h2;have:=(hI.abm t i oi h3 h4).1 this;omega
theorem wL(hb:iq (d.Tm j) b):kb b≤j∧(d.M j)[b]? =(d.M (kb b))[b]? :=by
 have Zu:j<ops.size:=(Array.getElem?_eq_some_iff.1 ho).1;have hcmp:∀i,i<ops.size→i≠j→Tch d i b→(S i↔i<j):=by intro i hi H' ht;obtain⟨oi,Yb⟩:=zc hi;exact na hA hS ho hr hj hi ((hA j o ho).sep i oi b Yb H' ht.2 ht.1 (.inr hb))
 have Xr:kb b≤j:=by
  rcases hI.abE b with h0 | h1
  ·omega
  ·by_cases h0:kb b=0
   ·omega
   ·have AC:kb b-1<ops.size:=by have:=hI.abD b;omega
    have hSi:S (kb b-1):=(hI.abl b _ AC h1).2 (by omega);have H':kb b-1≠j:=fun e=>hj (e▸hSi)
    have:=(hcmp _ AC H' h1).1 hSi;omega
 refine⟨Xr,DA hA b (kb b) j Xr (by omega) fun i h1 h2 h3=>?_⟩;have:=(hcmp i (by omega) (by omega) h3).2 h2;have:=(hI.abl b i (by omega) h3).1 this;omega
end
theorem qE(hA:sg P T N ops d)(ho:ops[j]? =some o)(h:(d.Tm j)[b]? =some s)(hs:s≠ .qF):(d.M j)[b]? =some s:=by
 rcases (hA j o ho).ab3 b with e | e
 ·rw[←e];exact h
 ·rw[h] at e;cases e;exact absurd rfl hs
theorem kK{mem:Mem}(h:dL mem b):iq mem b:=by obtain⟨s,h,ho⟩:=h;exact⟨s,h,aae.aaO ho⟩
theorem kL{m m' :Mem}(h:m[b]? =m'[b]?):dL m b↔dL m' b:=by simp[dL,h]
section
variable (hA:sg P T N ops d)(hI:abZ d ops base μ0 w0 S μ kb kt a.tmps w)(hS:ur ops S)(ho:ops[j]? =some o)(hr:∀e∈o.after,Region.binds .any e=true→S e.on)(hj:¬S j)
include hA hI hS ho hr hj
theorem Sf:aam base μ (d.Tm j) w:=by
 have Zu:j<ops.size:=(Array.getElem?_eq_some_iff.1 ho).1;refine⟨hI.aai,fun b s hs=>?_,fun b b' s' hb J' H' XE=>?_⟩
 ·by_cases h0:s=.qF
  ·subst h0;trivial
  ·have X7:iq (d.Tm j) b:=⟨s,hs,h0⟩
   obtain⟨k1,k2⟩:=wL hA hI hS ho hr hj X7;have hM:=qE hA ho hs h0;rw[k2] at hM;rw[(hA j o ho).ab2];exact(hI.slot b s hM).mono (zq hA _ j k1 (by omega)) (fun _ _=>rfl) fun _=>rfl
 ·obtain⟨k1,k2⟩:=wL hA hI hS ho hr hj (kK hb)
  obtain⟨k3,k4⟩:=wL hA hI hS ho hr hj ⟨s',J',H'⟩;refine hI.sep b b' s' ?_ ?_ H' XE
  ·refine(kL k2).1 ?_
   obtain⟨s,h,hso⟩:=hb;exact⟨s,qE hA ho h (aae.aaO hso),hso⟩
  ·rw[←k4];exact qE hA ho J' H'
theorem Sg:aaJ μ (d.Tm j).length (d.En j) a.tmps:=by
 have Zu:j<ops.size:=(Array.getElem?_eq_some_iff.1 ho).1;intro t;rcases (hA j o ho).named t with h | ⟨h,hn⟩
 ·rw[h];simp[aab]
 ·obtain⟨k1,k2⟩:=TR hA hI hS ho hr hj hn
  rw[h,k2,(hA j o ho).ab2];exact(hI.tmp t).mono (zq hA _ j k1 (by omega)) fun _ _=>rfl
end
end step
end
end Go.Eng
namespace Go.Eng
section
variable {P:Program}{T:TypeId→Option TyI}{N:Nat}{ops:Array Oper}{d:aaN}
variable {base:Nat}{μ0:Nat→Place}{w0:World}{S:Nat→Prop}{μ μ' :Nat→Place}{kb kt:Nat→Nat}{a:Act}{w w' :World}{j:Nat}{o:Oper}{V:Value}
open Classical in
theorem TP(hA:sg P T N ops d)(hI:abZ d ops base μ0 w0 S μ kb kt a.tmps w)(hS:ur ops S)(ho:ops[j]? =some o)(hr:∀e∈o.after,Region.binds .any e=true→S e.on)(hj:¬S j)(hN:a.tmps.size=N)(hV:aab μ' (d.M' j).length (d.v j) V)(hH:aam base μ' (d.M' j) w')(WI:Step (d.Tm j).length μ (d.Tm j) w μ' (d.M' j) w'):
  ∃μ2 kb2 kt2,abZ d ops base μ0 w0 (fun i=>S i∨i=j) μ2 kb2 kt2 (a.put o.dst V).tmps w' :=by
 have Zu:j<ops.size:=(Array.getElem?_eq_some_iff.1 ho).1;have D:=hA j o ho;have hlj:∀k,k≤j→(d.M k).length≤(d.M j).length:=fun k hk=>zq hA k j hk (by omega)
 have Xb:=D.ab4;have h0j:=hlj 0 (Nat.zero_le _);have hag:∀b,b<(d.M j).length→μ' b=μ b:=fun b hb=>WI.agree b (by rw[D.ab2];exact hb)
 let μ2:Nat→Place:=fun b=>if b<(d.M (j+1)).length then μ' b else μ b
 have Yk:∀b,b<(d.M j).length→μ2 b=μ b:=by
  intro b hb;show(if b<(d.M (j+1)).length then μ' b else μ b)=μ b
  rw[if_pos (by omega),hag b hb]
 have Z9:∀b,b<(d.M (j+1)).length→μ2 b=μ' b:=by
  intro b hb;show(if b<(d.M (j+1)).length then μ' b else μ b)=μ' b
  rw[if_pos hb]
 have m2far:∀b,¬b<(d.M (j+1)).length→μ2 b=μ b:=by
  intro b hb;show(if b<(d.M (j+1)).length then μ' b else μ b)=μ b
  rw[if_neg hb]
 have m2ok:∀k,0<k→S (k-1)→k-1<ops.size→∀b,d.ok (k-1) b=true→μ2 b=μ b:=by
  intro k hk hSk YP b hb;by_cases h1:b<(d.M j).length
  ·exact Yk b h1
  ·by_cases h2:b<(d.M (j+1)).length
   ·obtain⟨ok,WN⟩:=zc YP
    rcases (hA _ ok WN).okc j b o ho hb (by omega) h2 with e | e
    ·exact absurd (e▸hSk) hj
    ·exact absurd (Rr hA hS _ ok WN (hS _ ok WN hSk) j e) hj
   ·exact m2far b h2
 let kb2:Nat→Nat:=fun b=>if Tch d j b then j+1 else kb b
 let kt2:Nat→Nat:=fun t=>if o.dst=some t then j+1 else kt t
 have kb2t:∀b,Tch d j b→kb2 b=j+1:=fun b hb=>if_pos hb
 have kb2n:∀b,¬Tch d j b→kb2 b=kb b:=fun b hb=>if_neg hb
 have kbS:∀b,kb b=0∨(0<kb b∧S (kb b-1)∧kb b-1<ops.size∧Tch d (kb b-1) b):=by
  intro b;rcases Nat.eq_zero_or_pos (kb b) with h0 | h0
  ·exact .inl h0
  ·rcases hI.abE b with h1 | h1
   ·exact .inl h1
   ·have AC:kb b-1<ops.size:=by have:=hI.abD b;omega
    exact .inr ⟨h0,(hI.abl b _ AC h1).2 (by omega),AC,h1⟩
 have noNew:∀b,¬Tch d j b→b<(d.M j).length∨¬b<(d.M (j+1)).length:=by
  intro b hb;by_cases h1:b<(d.M j).length
  ·exact .inl h1
  ·refine .inr fun h2=>hb ⟨D.acW b (by omega),h2⟩
 have m2un:∀b,¬Tch d j b→μ2 b=μ b:=by
  intro b hb;rcases noNew b hb with h | h
  ·exact Yk b h
  ·exact m2far b h
 have tpart:∀b,iq (d.Tm j) b→¬Tch d j b→kb b≤j∧b<(d.M j).length∧(d.M' j)[b]? =(d.M (kb b))[b]? ∧(d.M (kb b))[b]? =(d.M j)[b]? :=by
  intro b hb hnt;obtain⟨k1,k2⟩:=wL hA hI hS ho hr hj hb;obtain⟨s,hs,H'⟩:=hb;have AC:b<(d.M j).length:=by have:=(List.getElem?_eq_some_iff.1 hs).1;rw[D.ab2] at this;exact this
  have hf:d.aaX j b=false:=by
   cases ht:d.aaX j b with
   |false=>rfl
   |true=>exact absurd ⟨ht,by omega⟩ hnt
  exact⟨k1,AC,(D.acV b AC hf ⟨s,hs,H'⟩).trans k2,k2.symm⟩
 have view:∀b s,(d.M (kb2 b))[b]? =some s→s≠ .qF→((d.M' j)[b]? =some s∧μ2 b=μ' b∧b<(d.M (j+1)).length∧(Tch d j b∨iq (d.Tm j) b))∨
   ((d.M (kb b))[b]? =some s∧¬iq (d.Tm j) b∧¬Tch d j b∧μ2 b=μ b):=by
  intro b s hs H';by_cases ht:Tch d j b
  ·rw[kb2t b ht] at hs
   exact .inl ⟨by rw[←D.acO b ht.1];exact hs,Z9 b ht.2,ht.2,.inl ht⟩
  ·rw[kb2n b ht] at hs
   by_cases hb:iq (d.Tm j) b
   ·obtain⟨k1,k2,k3,k4⟩:=tpart b hb ht
    exact .inl ⟨by rw[k3];exact hs,by rw[Yk b k2,hag b k2],by omega,.inr hb⟩
   ·exact .inr ⟨hs,hb,ht,m2un b ht⟩
 have viewOwn:∀b,dL (d.M (kb2 b)) b→(dL (d.M' j) b∧μ2 b=μ' b∧b<(d.M (j+1)).length∧(Tch d j b∨iq (d.Tm j) b))∨
   (dL (d.M (kb b)) b∧¬iq (d.Tm j) b∧¬Tch d j b∧μ2 b=μ b):=by
  intro b hb;obtain⟨s,h,hso⟩:=hb;rcases view b _ h (aae.aaO hso) with⟨g1,g2⟩ | ⟨g1,g2⟩
  ·exact .inl ⟨⟨s,g1,hso⟩,g2⟩
  ·exact .inr ⟨⟨s,g1,hso⟩,g2⟩
 have XL:∀b,dL (d.Tm j) b→dL (d.M (kb b)) b:=by intro b hb;obtain⟨k1,k2⟩:=wL hA hI hS ho hr hj (kK hb);refine(kL k2).1 ?_;obtain⟨s,h,hso⟩:=hb;exact⟨s,qE hA ho h (aae.aaO hso),hso⟩
 have blkLt:∀b s,(d.M (kb b))[b]? =some s→s≠ .qF→(μ b).blk<w.heap.size:=fun b s hs H'=>(hI.slot b s hs).aaY H'
 refine⟨μ2,kb2,kt2,⟨Nat.le_trans hI.aai WI.size,?_,?_,?_,?_,?_,?_,?_,?_,?_,?_,WI.os.trans hI.os,WI.tape.trans hI.tape,Nat.le_trans hI.drawn WI.drawn,WI.output.trans hI.output,Nat.le_trans hI.size WI.size,?_,?_⟩⟩
 ·
  intro b;by_cases ht:Tch d j b
  ·rw[kb2t b ht];omega
  ·rw[kb2n b ht];exact hI.abD b
 ·
  intro b i hi hti;obtain⟨oi,Yb⟩:=zc hi;by_cases ht:Tch d j b
  ·rw[kb2t b ht]
   by_cases YE:i=j
   ·subst YE;simp
   ·have:=na hA hS ho hr hj hi (D.sep i oi b Yb YE hti.2 hti.1 (.inl ⟨ht.2,ht.1⟩))
    constructor
    ·rintro (h | h)
     ·have:=this.1 h;omega
     ·omega
    ·intro h;exact .inl (this.2 (by omega))
  ·rw[kb2n b ht]
   have YE:i≠j:=fun e=>ht (e▸hti)
   rw[←hI.abl b i hi hti];constructor
   ·rintro (h | h)
    ·exact h
    ·exact absurd h YE
   ·exact .inl
 ·
  intro b;by_cases ht:Tch d j b
  ·rw[kb2t b ht];exact .inr ht
  ·rw[kb2n b ht];exact hI.abE b
 ·
  intro b s hs;by_cases h0:s=.qF
  ·subst h0;trivial
  by_cases ht:Tch d j b
  ·rw[kb2t b ht] at hs ⊢
   have h1:=hH.slot b s (by rw[←D.acO b ht.1];exact hs);rw[Z9 b ht.2,D.acN];exact h1.mono (Nat.le_refl _) (fun x hx=>Z9 x (by rw[D.acN];exact hx)) fun _=>rfl
  ·rw[kb2n b ht] at hs ⊢
   have W4:=hI.slot b s hs;rw[m2un b ht];by_cases hb:iq (d.Tm j) b
   ·obtain⟨k1,k2,k3,k4⟩:=tpart b hb ht
    have h1:=hH.slot b s (by rw[k3];exact hs);rw[hag b k2] at h1;have ZF:=hlj (kb b) k1;have h2:=W4.lower (fun x hx=>hag x (by omega)) h1;exact h2.mono (Nat.le_refl _) (fun x hx=>Yk x (by omega)) fun _=>rfl
   ·have hheap:w'.heap[(μ b).blk]? =w.heap[(μ b).blk]? :=by
     refine WI.frame _ (W4.aaY h0) fun b1 hb1=>?_
     refine hI.sep b1 b s (XL b1 hb1) hs h0 ?_;rintro rfl;exact hb (kK hb1)
    have h2:aap μ (d.M (kb b)).length base w' (μ b) s:=W4.mono (Nat.le_refl _) (fun _ _=>rfl) fun _=>hheap
    rcases kbS b with h3 | ⟨h3,h4,h5,h6⟩
    ·refine h2.mono (Nat.le_refl _) (fun x hx=>Yk x ?_) fun _=>rfl
     rw[h3] at hx;omega
    ·obtain⟨ok,WN⟩:=zc h5
     have hk1:kb b-1+1=kb b:=by omega
     refine h2.change (ok:=d.ok (kb b-1)) (fun x _ hx=>m2ok (kb b) h3 h4 h5 x hx) ?_;exact(hA _ ok WN).acX b s h6.1 (by rw[hk1];exact hs)
 ·
  intro b b' s' hb J' H' XE;rcases viewOwn b hb with⟨g1,g2,_,_⟩ | ⟨g1,g2,g3,g4⟩<;>rcases view b' s' J' H' with⟨k1,k2,k3,k4⟩ | ⟨k1,k2,k3,k4⟩
  ·rw[g2,k2];exact hH.sep b b' s' g1 k1 H' XE
  ·rw[g2,k4]
   have AC:=blkLt b' s' k1 H';by_cases hlt2:(μ' b).blk<w.heap.size
   ·obtain⟨b0,h0,h1⟩:=WI.owner b g1 hlt2
    rw[←h1];refine hI.sep b0 b' s' (XL b0 h0) k1 H' ?_;rintro rfl;exact k2 (kK h0)
   ·omega
  ·rw[g4,k2]
   by_cases AC:b' <(d.M j).length
   ·have X7:iq (d.Tm j) b' :=by
     rcases k4 with ht | hb1
     ·exact D.acy b' ht.1 AC
     ·exact hb1
    obtain⟨q1,q2⟩:=wL hA hI hS ho hr hj X7;obtain⟨s0,hs0,hne0⟩:=X7;rw[hag b' AC];exact hI.sep b b' s0 g1 (by rw[←q2];exact qE hA ho hs0 hne0) hne0 XE
   ·have XX :=D.acW b' (by omega)
    have hM1:(d.M (j+1))[b']? =some s' :=by rw[D.acO b' XX];exact k1
    have Xn:=D.acz b' s' (by omega) hM1 H';have hown' :dL (d.M' j) b' :=(kL (D.acO b' XX)).1 Xn;have hbl:(μ b).blk<w.heap.size:=by obtain⟨s,h,hso⟩:=g1;exact blkLt b _ h (aae.aaO hso)
    by_cases hlt2:(μ' b').blk<w.heap.size
    ·obtain⟨b0,h0,h1⟩:=WI.owner b' hown' hlt2
     rw[←h1];have hob:=XL b0 h0;have hbb0:b≠b0:=by rintro rfl;exact g2 (kK h0)
     obtain⟨s,h,hso⟩:=hob;exact hI.sep b b0 _ g1 h (aae.aaO hso) hbb0
    ·omega
  ·rw[g4,k4];exact hI.sep b b' s' g1 k1 H' XE
 ·
  intro t;show(if o.dst=some t then j+1 else kt t)≤ops.size
  split
  ·omega
  ·exact hI.ab6 t
 ·
  intro t i oi Yb hd;show(S i∨i=j)↔i<(if o.dst=some t then j+1 else kt t)
  have hi:i<ops.size:=(Array.getElem?_eq_some_iff.1 Yb).1;by_cases ht:o.dst=some t
  ·rw[if_pos ht]
   by_cases YE:i=j
   ·subst YE;simp
   ·have:=na hA hS ho hr hj hi (D.adf i oi t Yb YE ht hd)
    constructor
    ·rintro (h | h)
     ·have:=this.1 h;omega
     ·omega
    ·intro h;exact .inl (this.2 (by omega))
  ·rw[if_neg ht]
   have YE:i≠j:=by rintro rfl;rw[ho] at Yb;cases Yb;exact ht hd
   rw[←hI.abm t i oi Yb hd];constructor
   ·rintro (h | h)
    ·exact h
    ·exact absurd h YE
   ·exact .inl
 ·
  intro t;show(if o.dst=some t then j+1 else kt t)=0∨∃oi,ops[(if o.dst=some t then j+1 else kt t)-1]? =some oi∧oi.dst=some t
  by_cases ht:o.dst=some t
  ·rw[if_pos ht];exact .inr ⟨o,by simpa using ho,ht⟩
  ·rw[if_neg ht];exact hI.abF t
 ·
  intro t;show aab μ2 (d.M (if o.dst=some t then j+1 else kt t)).length (aa (d.E (if o.dst=some t then j+1 else kt t)) t) ((a.put o.dst V).tmps.getD t undef)
  by_cases ht:o.dst=some t
  ·rw[if_pos ht,D.env,ht]
   have AC:t<a.tmps.size:=by have:=D.dst;unfold Cy at this;rw[ht] at this;simp only[decide_eq_true_eq] at this;rw[hN];exact this
   have e1:aa (aa4 (d.E j) (some t) (d.v j)) t=d.v j:=by simp[aa4,aa]
   have e2:(a.put (some t) V).tmps.getD t undef=V:=by simp[Act.put,AC]
   rw[e1,e2,D.acN];exact hV.mono (Nat.le_refl _) fun x hx=>Z9 x (by rw[D.acN];exact hx)
  ·rw[if_neg ht]
   have e2:(a.put o.dst V).tmps.getD t undef=a.tmps.getD t undef:=by
    cases hd:o.dst with
    |none=>rfl
    |some x=>
     have H':x≠t:=by rintro rfl;exact ht hd
     simp[Act.put,Array.getElem?_setIfInBounds_ne H']
   rw[e2];have W4:=hI.tmp t;rcases Nat.eq_zero_or_pos (kt t) with h0 | h0
   ·rw[h0] at W4 ⊢
    exact W4.mono (Nat.le_refl _) fun x hx=>Yk x (by omega)
   ·rcases hI.abF t with h1 | ⟨oi,h1,h2⟩
    ·omega
    ·have hSk:S (kt t-1):=(hI.abm t _ oi h1 h2).2 (by omega)
     have YP:kt t-1<ops.size:=(Array.getElem?_eq_some_iff.1 h1).1;refine W4.change (ok:=d.ok (kt t-1)) (fun x _ hx=>m2ok (kt t) h0 hSk YP x hx) ?_;have he:=(hA _ oi h1).env;have hk1:kt t-1+1=kt t:=by omega
     rw[hk1,h2] at he;rw[he];simp only[aa4,aa,if_true];exact(hA _ oi h1).ab5
 ·
  intro b hb;rw[Yk b (by omega)];exact hI.agree b hb
 ·
  intro k hk hf;rw[WI.frame k (Nat.lt_of_lt_of_le hk hI.size) ?_,hI.frame k hk hf];intro b hb he;obtain⟨b0,h1,h2⟩:=hI.owner b (XL b hb) (by rw[he];exact hk);exact hf b0 h1 (h2.trans he)
 ·
  intro b hb AC;rcases viewOwn b hb with⟨g1,g2,_,_⟩ | ⟨g1,g2,g3,g4⟩
  ·rw[g2] at AC ⊢
   obtain⟨b0,h0,h1⟩:=WI.owner b g1 (Nat.lt_of_lt_of_le AC hI.size);obtain⟨b1,h2,h3⟩:=hI.owner b0 (XL b0 h0) (by rw[h1];exact AC);exact⟨b1,h2,h3.trans h1⟩
  ·rw[g4] at AC ⊢
   exact hI.owner b g1 AC
end
end Go.Eng
namespace Go.Eng
variable{listed:Array Bool}
section
variable {P:Program}{T:TypeId→Option TyI}{tp:Bool}{N m0:Nat}{ops:Array Oper}{d:aaN}
def left(ops:Array Oper) (listed:Array Bool):Nat:=((List.range ops.size).filter fun i=> !listed.getD i true).length
def sK(listed:Array Bool) (i:Nat):Prop:=listed.getD i false=true
theorem yW{l:List Nat}{p q:Nat→Bool}(h:∀i∈l,q i=true→p i=true){j:Nat}(hj:j∈l)(h1:p j=true)(h2:q j=false):(l.filter q).length<(l.filter p).length:=by
 induction l with
 |nil=>cases hj
 |cons x xs ih=>
  have Xr:∀(l:List Nat),(∀i∈l,q i=true→p i=true)→(l.filter q).length≤(l.filter p).length:=by
   intro l hl;induction l with
   |nil=>simp
   |cons y ys ih2=>
    have:=ih2 (fun i hi=>hl i (by simp[hi]));have hy:=hl y (by simp);simp only[List.filter_cons];cases hq:q y<;>cases hp:p y<;>simp_all<;>omega
  have hxs:=Xr xs (fun i hi=>h i (by simp[hi]));have hx:=h x (by simp);simp only[List.filter_cons];cases hj with
  |head=>rw[h1,h2];simp;omega
  |tail _ hm=>
   have:=ih (fun i hi=>h i (by simp[hi])) hm;cases hq:q x<;>cases hp:p x<;>simp_all<;>omega
theorem Sh{i:Nat}(hi:i<listed.size):sK (listed.setIfInBounds i true)=fun k=>sK listed k∨k=i:=by
 funext k;apply propext;unfold sK;by_cases hk:i=k
 ·subst hk;simp[hi]
 ·rw[getD_set_ne false hk]
  constructor
  ·exact .inl
  ·rintro (h | h)
   ·exact h
   ·exact absurd h.symm hk
theorem PD(hA:sg P T N ops d)(Xd:listed.size=ops.size)(h:Region.ready .any ops listed=[]):∀i,i<ops.size→sK listed i:=by
 intro i;induction i using Nat.strongRecOn with
 |_ i ih=>
  intro hi;obtain⟨o,ho⟩:=zc hi;cases hl:listed.getD i true with
  |true=>
   unfold sK;simp only[Array.getD_eq_getD_getElem?] at hl ⊢;rw[Array.getElem?_eq_getElem (by omega)] at hl ⊢;exact hl
  |false=>
   exfalso;have:i∈Region.ready .any ops listed:=mem_ready.2 ⟨hl,o,ho,fun e he hb=>ih e.on ((hA i o ho).acP e he hb) (by have:=(hA i o ho).acP e he hb;omega)⟩;rw[h] at this;cases this
theorem TG(hA:sg P T N ops d){base:Nat}{μ0 μ:Nat→Place}{w0 w:World}{S:Nat→Prop}{kb kt:Nat→Nat}{tmps:Array Value}(Xe:m0≤(d.M 0).length)(hI:abZ d ops base μ0 w0 S μ kb kt tmps w)(hS:∀i,i<ops.size→S i):
  aam base μ (d.M ops.size) w∧aaJ μ (d.M ops.size).length (d.E ops.size) tmps∧m0≤(d.M ops.size).length∧Step m0 μ0 (d.M 0) w0 μ (d.M ops.size) w:=by
 have hb:∀b,(d.M ops.size)[b]? =(d.M (kb b))[b]? :=fun b=>DA hA b (kb b) _ (hI.abD b) (Nat.le_refl _) fun i h1 h2 h3=>by have:=(hI.abl b i h2 h3).1 (hS i h2);omega
 have hl:∀k,k≤ops.size→(d.M k).length≤(d.M ops.size).length:=fun k hk=>zq hA k _ hk (Nat.le_refl _)
 have h0:=hl 0 (Nat.zero_le _);refine⟨⟨hI.aai,fun b s hs=>?_,fun b b' s' hb1 WE H' XE=>?_⟩,fun t=>?_,by omega,⟨by omega,fun b hb1=>hI.agree b (by omega),hI.os,hI.tape,hI.output,hI.size,hI.frame,fun b hb1 AC=>?_,hI.drawn⟩⟩
 ·exact(hI.slot b s (by rw[←hb];exact hs)).mono (hl _ (hI.abD b)) (fun _ _=>rfl) fun _=>rfl
 ·exact hI.sep b b' s' ((kL (hb b)).1 hb1) (by rw[←hb];exact WE) H' XE
 ·have he:=Dm hA t (kt t) ops.size (hI.ab6 t) (Nat.le_refl _) fun i oi h1 h2 h3 h4=>by have:=(hI.abm t i oi h3 h4).1 (hS i h2);omega
  rw[he];exact(hI.tmp t).mono (hl _ (hI.ab6 t)) fun _ _=>rfl
 ·exact hI.owner b ((kL (hb b)).1 hb1) AC
theorem AN(hm:P.follows .mixedOrders=true)(hT:cH P T){id:Nat}{st IR :St}{Q:Exit→St→Prop}(hA:sg P T N ops d)(hE:d.E 0=st.env)(hM:d.M 0=st.mem)(hst' :IR =⟨d.E ops.size,d.M ops.size⟩)(hq:Q .normal IR):
  AWP P tp N m0 (.region id ops true) st Q:=by
 intro ro h0 base μ0 w0 a0 XA hH hR hN hdf Xe;refine wpIn_region_any hm ?_;have YD:∀(listed:Array Bool) (a:Act) (w:World) μ kb kt,listed.size=ops.size→a.tmps.size=N→a.defers=a0.defers→
   abZ d ops base μ0 w0 (sK listed) μ kb kt a.tmps w→Region.ready .any ops listed=[]→
   ∃IR μ',aam base μ' IR.mem w∧aaJ μ' IR.mem.length IR.env a.tmps∧a.tmps.size=N∧MOk P base h0 w a.defers∧m0≤IR.mem.length∧Step m0 μ0 st.mem w0 μ' IR.mem w∧Q .normal IR :=by
  intro listed a w μ kb kt Xd ha hd hI hr;obtain⟨h1,h2,h3,h4⟩:=TG (m0:=m0) hA (by rw[hM];exact Xe) hI (PD hA Xd hr);rw[hM] at h4;exact⟨IR,μ,by rw[hst'];exact h1,by rw[hst'];exact h2,ha,by rw[hd];exact hdf.step hH h4,by rw[hst'];exact h3,by rw[hst'];exact h4,hq⟩
 have key:∀(fuel:Nat) (listed:Array Bool) (a:Act) (w:World) μ kb kt,listed.size=ops.size→left ops listed≤fuel→a.tmps.size=N→a.defers=a0.defers→
   ur ops (sK listed)→abZ d ops base μ0 w0 (sK listed) μ kb kt a.tmps w→
   wpAnyIn (Fr ro) 0 P .any ops (fun e a' w' =>∃IR μ',aam base μ' IR.mem w' ∧aaJ μ' IR.mem.length IR.env a'.tmps∧a'.tmps.size=N∧MOk P base h0 w' a'.defers∧m0≤IR.mem.length∧
    Step m0 μ0 st.mem w0 μ' IR.mem w' ∧Q e IR) fuel listed a w:=by
  intro fuel;induction fuel with
  |zero=>
   intro listed a w μ kb kt Xd hl ha hd hC hI;have hr:Region.ready .any ops listed=[]:=by
    apply List.eq_nil_iff_forall_not_mem.2;intro i hi;obtain⟨h1,o,ho,_⟩:=mem_ready.1 hi;have AC:i<ops.size:=(Array.getElem?_eq_some_iff.1 ho).1;have:i∈(List.range ops.size).filter fun i=> !listed.getD i true:=by rw[List.mem_filter];exact⟨by simpa using AC,by rw[h1];rfl⟩
    have h0:((List.range ops.size).filter fun i=> !listed.getD i true)=[]:=List.eq_nil_of_length_eq_zero (Nat.le_zero.1 hl);rw[h0] at this;cases this
   exact⟨hr,YD listed a w μ kb kt Xd ha hd hI hr⟩
  |succ fuel ih=>
   intro listed a w μ kb kt Xd hl ha hd hC hI;refine⟨YD listed a w μ kb kt Xd ha hd hI,fun i hi=>?_⟩;obtain⟨h1,o,ho,Xa⟩:=mem_ready.1 hi;have AC:i<ops.size:=(Array.getElem?_eq_some_iff.1 ho).1;have hnS:¬sK listed i:=by unfold sK;simp only[Array.getD_eq_getD_getElem?] at h1 ⊢;rw[Array.getElem?_eq_getElem (by omega)] at h1 ⊢;simp only[Option.getD_some] at h1 ⊢;rw[h1];simp
   have hset:=Sh (listed:=listed) (i:=i) (by omega);have Xg :ur ops (sK (listed.setIfInBounds i true)):=by
    rw[hset];intro j oj hoj hSj e he hb;rcases hSj with hSj | rfl
    ·exact .inl (hC j oj hoj hSj e he hb)
    ·rw[ho] at hoj;cases hoj;exact .inl (Xa e he hb)
   have hleft:left ops (listed.setIfInBounds i true)≤fuel:=by
    have:left ops (listed.setIfInBounds i true)<left ops listed:=by
     unfold left;refine yW (fun k _ hk=>?_) (j:=i) (by simpa using AC) (by rw[h1];rfl) (by simp[Xd,AC]);by_cases hik:i=k
     ·subst hik;simp[Xd,AC] at hk
     ·rw[getD_set_ne true hik] at hk;exact hk
    omega
   have D:=hA i o ho;have hHs:=Sf hA hI hC ho Xa hnS;have hGw:GOk P base w:=by
    refine⟨hdf.abp.below,?_⟩;have:=hdf.abp.tab;unfold Lib.TabIs at this ⊢;rw[←this];refine Oc fun k hk=>hI.frame k ?_ fun b hb=>?_
    ·have:=hdf.abp.below;have:=hH.aai;omega
    ·rw[hM] at hb
     have:=NZ hH hb;have:=hdf.abp.below;omega
   have hRs:=Sg hA hI hC ho Xa hnS;have next:∀V w' μ',aab μ' (d.M' i).length (d.v i) V→aam base μ' (d.M' i) w' →Step (d.Tm i).length μ (d.Tm i) w μ' (d.M' i) w' →
     wpAnyIn (Fr ro) 0 P .any ops (fun e a' w' =>∃IR μ',aam base μ' IR.mem w' ∧aaJ μ' IR.mem.length IR.env a'.tmps∧a'.tmps.size=N∧MOk P base h0 w' a'.defers∧m0≤IR.mem.length∧
      Step m0 μ0 st.mem w0 μ' IR.mem w' ∧Q e IR) fuel (listed.setIfInBounds i true) (a.put o.dst V) w' :=by
    intro V w' μ' q1 q2 q3;obtain⟨μ2,kb2,kt2,hI2⟩:=TP hA hI hC ho Xa hnS ha q1 q2 q3;rw[←hset] at hI2;exact ih _ _ _ μ2 kb2 kt2 (by simp[Xd]) hleft (by rw[eX];exact ha) (by rw[fw];exact hd) Xg hI2
   unfold wpOpIn;simp only[ho];rw[oT hRs D.wanted];cases hw:d.wb i with
   |false=>
    obtain⟨e1,e2⟩:=D.skip hw;simp only[Bool.false_eq_true,if_false];exact⟨fun _ _=>trivial,next undef w μ (by rw[e1];simp[aab,aad,undef]) (by rw[e2];exact hHs) (by rw[e2];exact .refl (Nat.le_refl _))⟩
   |true=>
    simp only[if_true];exact qX hT hGw hHs hRs ha D.dst (D.step hw) fun V w' μ' q1 q2 q3 q4=>next V w' μ' q1 q2 q4
 have hI0:abZ d ops base μ0 w0 (sK (Array.replicate ops.size false)) μ0 (fun _=>0) (fun _=>0) a0.tmps { w0 with drawn:=w0.drawn+1 }:=by
  have hno:∀i,¬sK (Array.replicate ops.size false) i:=by intro i;unfold sK;simp only[Array.getD_eq_getD_getElem?,Array.getElem?_replicate];split<;>simp
  have hH' :aam base μ0 (d.M 0) { w0 with drawn:=w0.drawn+1 }:=by rw[hM];exact hH.abh rfl
  refine⟨hH'.aai,fun _=>Nat.zero_le _,fun b i _ _=>⟨fun h=>absurd h (hno i),fun h=>by omega⟩,fun _=>.inl rfl,fun b s hs=>hH'.slot b s hs,
   fun b b' s' =>hH'.sep b b' s',fun _=>Nat.zero_le _,fun t i oi _ _=>⟨fun h=>absurd h (hno i),fun h=>by omega⟩,fun _=>.inl rfl,fun t=>?_,fun _ _=>rfl,
   rfl,rfl,Nat.le_succ _,rfl,Nat.le_refl _,fun _ _ _=>rfl,fun b hb _=>⟨b,hb,rfl⟩⟩
  rw[hM,hE];exact hR t
 refine key ops.size _ a0 _ μ0 _ _ (by simp) ?_ hN rfl ?_ hI0
 ·unfold left
  exact Nat.le_trans (List.length_filter_le _ _) (by simp)
 ·intro j o _ hS
  exfalso;unfold sK at hS;simp only[Array.getD_eq_getD_getElem?,Array.getElem?_replicate] at hS;split at hS<;>simp at hS
end
end Go.Eng
namespace Go.Eng
def RK:Exit→Option (Option Code)
 |.normal=>some none
 |.ret=>some (some .ret)
 |.exit id=>some (some (.exit id))
 |_=>none
def NN:Option Code→Option Exit
 |none=>some .normal
 |some .ret=>some .ret
 |some (.exit id)=>some (.exit id)
 |_=>none
def Kk(j:Option Code):LoopState:=if j.isNone then .ready else .done
def Dh:List Tmp→List AV→Env→Env
 |t::ts,v::vs,env=>Dh ts vs ((t,v)::env)
 |_,_,env=>env
variable{L:Loop}{m0:Nat}{r:abV}
section
variable {P:Program}{T:TypeId→Option TyI}{μ:Nat→Place}{mem:Mem}{base:Nat}{w:World}
theorem aam.alloc(hH:aam base μ mem w)(o:Obj):aam base μ mem (w.alloc o):=by refine⟨by simp;have:=hH.aai;omega,fun b s hs=>?_,hH.sep⟩;exact(hH.slot b s hs).mono (Nat.le_refl _) (fun _ _=>rfl) fun H'=>gH w o ((hH.slot b s hs).aaY H')
theorem Step.alloc(h:m0≤mem.length)(o:Obj):Step m0 μ mem w μ mem (w.alloc o):=
 ⟨h,fun _ _=>rfl,rfl,rfl,rfl,by simp,fun k hk _=>gH w o hk,fun b hb _=>⟨b,hb,rfl⟩,Nat.le_refl _⟩
theorem NH{n:Nat}:∀{ts:List Tmp}{vs:List AV}{Vs:List Value}{env:Env}{tmps:Array Value},aad μ n vs Vs→aaJ μ n env tmps→vs.length=ts.length→(∀t∈ts,t<tmps.size)→
  aaJ μ n (Dh ts vs env) ((ts.zip Vs).foldl (fun tmps (t,a)=>tmps.setIfInBounds t a) tmps)∧((ts.zip Vs).foldl (fun tmps (t,a)=>tmps.setIfInBounds t a) tmps).size=tmps.size
 | [],[],Vs,env,tmps,hv,ht,_,_=>by exact⟨ht,rfl⟩
 |t::ts,v::vs,Vs,env,tmps,hv,ht,hl,hb=>by simp only[aad] at hv;obtain⟨U,Us,rfl,h1,h2⟩:=hv;simp only[Dh,List.zip_cons_cons,List.foldl_cons];have:=aaJ.put (a:={ tmps:=tmps,defers:=[] }) ht (hb t (by simp)) h1;simp only[Act.put] at this;have r:=NH (env:=(t,v)::env) (tmps:=tmps.setIfInBounds t U) h2 this (by simpa using hl) (fun x hx=>by simpa using hb x (by simp[hx]));exact⟨r.1,r.2.trans (by simp)⟩
 | [],_::_,_,_,_,_,_,hl,_=>by simp at hl
 |_::_,[],_,_,_,_,_,hl,_=>by simp at hl
theorem oA{l:Nat}(h:w.heap[l]? =some (.loop L)):(Instr.getLoop l).run P w=.ok L w:=by
 have hg:(getObj l).run P w=.ok (.loop L) w:=by simp[getObj,Sem.run,h]
 simp only[Instr.getLoop,Sem.run_bind,hg,Result.andThen_ok];rfl
theorem FC{base:Nat}{b:Nat}{r' :abV}{L' :Loop}(hH:aam base μ mem w)(hb:mem[b]? =some (.loop r))(hL:w.heap[(μ b).blk]? =some (.loop L))(hr:abA μ mem.length r' L'):
  (setObj (μ b).blk (.loop L')).run P w=.ok () { w with heap:=w.heap.setIfInBounds (μ b).blk (.loop L') }∧
  aam base μ (mem.set b (.loop r')) { w with heap:=w.heap.setIfInBounds (μ b).blk (.loop L') }∧
  Step mem.length μ mem w μ (mem.set b (.loop r')) { w with heap:=w.heap.setIfInBounds (μ b).blk (.loop L') }:=by
 have AC:=(Array.getElem?_eq_some_iff.1 hL).1;have hbl:=(List.getElem?_eq_some_iff.1 hb).1;refine⟨sd hL (by intro c e f h;cases h),hH.write hb (P7 hb) (fun _=>⟨_,List.getElem?_set_self hbl,rfl⟩) rfl rfl rfl rfl (by simp) (fun k hk=>Array.getElem?_setIfInBounds_ne (Ne.symm hk)) ?_⟩;simp only[aap];have:=hH.slot b _ hb;simp only[aap] at this;obtain⟨_,_,h2,_⟩:=this;exact⟨L',by simp[AC],h2,hr⟩
theorem abj.intro{b:Nat}{args:List AV}{R:AV→Mem→Prop}(hb:mem[b]? =some (.loop r))(_hst:r.st=.ready)(hl:args.length=r.ps.toList.length)(hps:∀t∈r.ps.toList,t<r.N)(h:AWP P false r.N mem.length r.assign ⟨Dh r.ps.toList args r.env,mem⟩ fun e st1=>e=.normal∧∃r1,st1.mem[b]? =some (.loop r1)∧r1.st=.ready∧
   AWP P false r.N mem.length r.body ⟨st1.env,st1.mem.set b (.loop { r1 with st:=.busy })⟩ fun e st2=>∃r2 j ks,RK e=some j∧st2.mem[b]? =some (.loop r2)∧Kv mem.length st2.mem.length ks=true∧
    R (.bool j.isNone) (aaj mem.length ks (st2.mem.set b (.loop { r2 with st:=Kk j,abv:=j })))):
  abj P b args mem R:=by
 intro base μ w Vs hG hH hV hbl;have YC:=hH.slot b _ hb;simp only[aap] at YC;obtain⟨L,h1,h2,h3⟩:=YC;have A':Vs.length=L.params.size:=by rw[hV.length,hl,h3.ps];simp
 refine⟨L.fn,(L.params.zip ⟨Vs⟩).foldl (fun tmps (t,a)=>tmps.setIfInBounds t a) L.tmps,L.assign,L.body,?_,?_⟩
 ·simp only[Instr.yield,Sem.run_bind,oA h1,Result.andThen_ok]
  rw[if_neg (by simp[A'])];rfl
 ·refine roundIn_of_wpIn (F:=Fence.wide) trivial ?_
  have hzip:(L.params.zip ⟨Vs⟩).foldl (fun tmps (t,a)=>tmps.setIfInBounds t a) L.tmps=(r.ps.toList.zip Vs).foldl (fun tmps (t,a)=>tmps.setIfInBounds t a) L.tmps:=by rw[h3.ps,←Array.foldl_toList];simp
  have WS:=NH (ts:=r.ps.toList) hV h3.tmps hl (fun t ht=>by rw[h3.size];exact hps t ht);rw[h3.assign,h3.body];refine wpIn_mono (F:=Fr (some (μ b).blk)) (h (some (μ b).blk) w.heap.size base μ w ⟨_,[]⟩ (fun h=>by cases h) hH (by rw[hzip];exact WS.1) (by rw[hzip,WS.2];exact h3.size) (MOk.nil w hG hH.aai (Nat.le_refl _)) (Nat.le_refl _)) ?_;rintro e a1 w1 ⟨st1,μ1,c1,c2,c3,c4,c5,c6,rfl,r1,c7,c8,hbody⟩;have hsl1:=c1.slot b _ c7;simp only[aap] at hsl1;obtain⟨L1,d1,d2,d3⟩:=hsl1;have hμ:μ1 b=μ b:=c6.agree b hbl;rw[hμ] at d1;obtain⟨e1,e2,e3⟩:=FC (P:=P) (r' :={ r1 with st:=.busy }) (L' :={ L1 with state:=.busy }) c1 c7 (by rw[hμ];exact d1) { d3 with st:=rfl };rw[hμ] at e1 e2 e3;refine⟨_,?_,wpIn_mono (F:=Fr (some (μ b).blk)) (hbody (some (μ b).blk) w.heap.size base μ1 _ a1 (fun h=>by cases h) e2 (by rw[List.length_set];exact c2) c3 (c4.step c1 e3) (by rw[List.length_set];exact c5)) ?_⟩
  ·simp only[Instr.beginRound,Sem.run_bind,oA d1,Result.andThen_ok,e1]
   rw[d3.st,c8];rfl
  ·rintro e a2 w2 ⟨st2,μ2,f1,f2,f3,f4,f5,f6,r2,j,ks,f7,f8,f9,f10⟩
   have hsl2:=f1.slot b _ f8;simp only[aap] at hsl2;obtain⟨L2,g1,g2,g3⟩:=hsl2;have hμ2:μ2 b=μ b:=by rw[f6.agree b hbl,hμ]
   rw[hμ2] at g1;obtain⟨k1,k2,k3⟩:=FC (P:=P) (r' :={ r2 with st:=Kk j,abv:=j }) (L' :={ L2 with state:=Kk j,pending:=j }) f1 f8 (by rw[hμ2];exact g1) { g3 with st:=rfl,abv:=rfl };rw[hμ2] at k1 k2 k3;have W9:(Instr.endRound (μ b).blk j).run P w2=.ok (.bool j.isNone) { w2 with heap:=w2.heap.setIfInBounds (μ b).blk (.loop { L2 with state:=Kk j,pending:=j }) }:=by unfold Kk at k1 ⊢;simp only[Instr.endRound,Sem.run_bind,oA g1,Result.andThen_ok,k1];rfl
   obtain⟨p1,p2,p3⟩:=k2.aaj (by rw[List.length_set];exact f5) (by rw[List.length_set];exact f9);have hS:Step mem.length μ mem w _ _ _:=((c6.trans (e3.mono c5)).trans f6).trans ((k3.mono f5).trans p3);have ZR:∃V v mem' μ',(Ending.returned (.bool j.isNone):Ending)=.returned V∧aab μ' mem'.length v V∧aam base μ' mem' { w2 with heap:=w2.heap.setIfInBounds (μ b).blk (.loop { L2 with state:=Kk j,pending:=j }) }∧
     Step mem.length μ mem w μ' mem' { w2 with heap:=w2.heap.setIfInBounds (μ b).blk (.loop { L2 with state:=Kk j,pending:=j }) }∧R v mem' :=
    ⟨_,.bool j.isNone,_,_,rfl,by simp[aab],p1,hS,f10⟩
   cases e<;>simp only[RK,Option.some.injEq,reduceCtorEq] at f7<;>subst f7<;>exact⟨_,_,W9,ZR⟩
theorem Fi{N:Nat}{g:Operand}{ps:Array Tmp}{assign body:Code}{st:St}{Q:Exit→St→Prop}{f:FuncId}{caps:List AV}(hg:get st.env g=.func f caps)(h:aaM P f (.yield st.mem.length::caps) (st.mem++[.loop ⟨.ready,none,st.env,N,ps,assign,body⟩]) fun _ XW=>∃r2 e,XW[st.mem.length]? =some (.loop r2)∧r2.st≠ .busy∧NN r2.abv=some e∧
   Q e ⟨st.env,XW.set st.mem.length (.loop { r2 with st:=.exhausted })⟩):
  AWP P true N m0 (.rangeFunc g ps assign body) st Q:=by
 intro ro h0 base μ w a XA hH hR hN hdf hm;cases XA rfl;have hgv:=aW hR g;rw[hg] at hgv;simp only[aab] at hgv;obtain⟨Us,hU,hus⟩:=hgv;refine wpIn_rangeFunc fun fn _=>?_
 let o1:Obj:=.deferred (some [])
 let w1:=w.alloc o1
 let L:Loop:={ state:=.ready,pending:=none,fn,tmps:=a.tmps,params:=ps,assign,body,defers:=w.heap.size }
 have hH1:aam base μ st.mem w1:=hH.alloc o1;have hS1:Step st.mem.length μ st.mem w μ st.mem w1:=.alloc (Nat.le_refl _) o1;have Xd:w1.heap.size=w.heap.size+1:=by simp[w1]
 obtain⟨hH2,hS2⟩:=hH1.push (.loop L) (.loop ⟨.ready,none,st.env,N,ps,assign,body⟩) ⟨w1.heap.size,0,0,0⟩ rfl (by simp only[aap];exact⟨L,heap_alloc_new w1 _,hH1.aai,rfl,rfl,rfl,rfl,rfl,hN,hR.mono (Nat.le_succ _) fun b hb=>vE hb⟩)
 have hS12:=hS1.trans hS2;have hμb:(upd μ st.mem.length ⟨w1.heap.size,0,0,0⟩ st.mem.length).blk=w1.heap.size:=by rw[dT]
 have hM:MOk P base h0 (w1.alloc (.loop L)) ({ target:=.collected w.heap.size,args:= #[] }::a.defers):=by
  have hd2:=(hdf.step hH hS12);refine⟨hd2.abp,hd2.aai,hd2.le,fun d hd=>?_,?_⟩
  ·rcases List.mem_cons.1 hd with rfl | hd
   ·refine⟨w.heap.size,rfl,hdf.le,?_⟩
    rw[gH w1 _ (by omega)];exact heap_alloc_new w o1
   ·exact hd2.each d hd
  ·simp only[List.map_cons,List.nodup_cons]
   refine⟨?_,hdf.nodup⟩;intro hm;obtain⟨d,hd,he⟩:=List.mem_map.1 hm;obtain⟨r,e,_,h2⟩:=hdf.each d hd;rw[e] at he;simp only[Target.collected.injEq] at he;have:=(Array.getElem?_eq_some_iff.1 h2).1;omega
 have Z8:=h.2 base _ (w1.alloc (.loop L)) (.func (.yield w1.heap.size) #[] #[]::Us) hM.abp hH2
  (bj.2 ⟨by simp only[aab,hμb];exact⟨by simp,trivial⟩,hus.mono (by simp) fun b hb=>vE hb⟩)
 refine⟨w1.heap.size,[{ target:=.collected w.heap.size,args:= #[] }],w1.alloc (.loop L),{ target:=.fn (.func f) ⟨Us⟩,args:= #[]++ #[.func (.yield w1.heap.size) #[] #[]] },w1.alloc (.loop L),f,⟨.func (.yield w1.heap.size) #[] #[]::Us⟩,w1.alloc (.loop L),?_,?_,fun _ _=>trivial,?_,fun h=>by simp[Fence.wide] at h,?_⟩
 ·simp only[Instr.enterLoop,Sem.run_bind,run_newObj,Result.andThen_ok,Sem.run_pure]
  rfl
 ·have hc:(#[Operand.const (.func (.yield w1.heap.size) #[] #[])]:Array Operand).map a.eval= #[.func (.yield w1.heap.size) #[] #[]]:=by simp[Act.eval]
  simp only[resolve,hU,Deferred.ofValue,hc];rfl
 ·simp only[invoke]
  rw[xw h.1];congr 2;apply Array.ext';simp
 ·refine zl.2 (Z8.mono ?_)
  rintro e w3 ⟨V,v,XW,μ2,rfl,q1,q2,q3,r2,e2,q4,q5,q6,q7⟩;have hbl:st.mem.length<(st.mem++[aae.loop ⟨.ready,none,st.env,N,ps,assign,body⟩]).length:=by simp
  have hμ2:(μ2 st.mem.length).blk=w1.heap.size:=by rw[q3.agree _ hbl,hμb]
  have YC:=q2.slot _ _ q4;simp only[aap] at YC;obtain⟨L2,g1,g2,g3⟩:=YC;obtain⟨k1,k2,k3⟩:=FC (P:=P) (r' :={ r2 with st:=.exhausted }) (L' :={ L2 with state:=.exhausted }) q2 q4 g1 { g3 with st:=rfl };rw[hμ2] at k1 k2 k3 g1;have Z7:st.mem.length≤XW.length:=Nat.le_trans (by simp) q3.len;have hS3:=hS12.trans (q3.mono (m0:=st.mem.length) (by simp));have hS4:=hS3.trans (k3.mono Z7);have post:∃IR μ',aam base μ' IR.mem { w3 with heap:=w3.heap.setIfInBounds w1.heap.size (.loop { L2 with state:=.exhausted }) }∧aaJ μ' IR.mem.length IR.env a.tmps∧a.tmps.size=N∧
    MOk P base h0 { w3 with heap:=w3.heap.setIfInBounds w1.heap.size (.loop { L2 with state:=.exhausted }) } ({ target:=.collected w.heap.size,args:= #[] }::a.defers)∧m0≤IR.mem.length∧
    Step m0 μ st.mem w μ' IR.mem { w3 with heap:=w3.heap.setIfInBounds w1.heap.size (.loop { L2 with state:=.exhausted }) }∧Q e2 IR :=by
   refine⟨_,μ2,k2,?_,hN,(hM.step hH2 q3).step q2 k3,?_,hS4.mono hm,q7⟩
   ·show aaJ μ2 (XW.set st.mem.length _).length st.env a.tmps
    rw[List.length_set];exact hR.mono Z7 fun b hb=>by rw[q3.agree b (by simp;omega),vE hb]
   ·show m0≤(XW.set st.mem.length _).length
    rw[List.length_set];omega
  refine⟨r2.abv,{ w3 with heap:=w3.heap.setIfInBounds w1.heap.size (.loop { L2 with state:=.exhausted }) },?_,?_⟩
  ·simp only[Instr.endLoop,Sem.run_bind,oA g1,Result.andThen_ok]
   rw[g3.st];have hb:(r2.st==LoopState.busy)=false:=by cases hx:r2.st<;>first | rfl | exact absurd hx q5
   rw[hb];have hpnd:L2.pending=r2.abv:=g3.abv;simp only[Bool.false_eq_true,if_false,Sem.run_bind,Sem.run_pure,k1,Result.andThen_ok];rw[hpnd]
  ·cases hp:r2.abv with
   |none=>
    rw[hp] at q6;simp only[NN,Option.some.injEq] at q6;subst q6;exact post
   |some c=>
    rw[hp] at q6;cases c<;>simp only[NN,Option.some.injEq,reduceCtorEq] at q6
    ·subst q6;exact wpIn_exit post
    ·subst q6;exact wpIn_ret post
end
end Go.Eng
namespace Go.Eng
structure HS where
 v:AV
 pre:Option Mem
 new:Mem
def HS.mem(r:HS) (mem:Mem):Mem:=(r.pre.getD mem)++r.new
inductive Callee where
 |fn (f:FuncId)
 |yld (b:Nat)
abbrev aac:=Callee→List AV→Mem→Option HS
def jv(env:Env):Op→Option (Callee×List AV)
 |.call { callee:=.value x,args,argTypes:=_ }=>match get env x with
  |.func f caps=>some (.fn f,Vl env args++caps)
  |.yield b=>some (.yld b,Vl env args)
  |_=>none
 |_=>none
structure XS where
 env:Env
 mem:Mem
 aaB:Bool
def Sq:AV→List Nat
 |.ptr b _=>[b]
 |_=>[]
def eI:AV→List Nat
 |.slice b _ _ _=>[b]
 |_=>[]
def Nv:AV→List Nat
 |.map b=>[b]
 |_=>[]
def vH(env:Env):Op→List Nat
 |.store _ a _=>Sq (get env a)
 |.call { callee:=.builtin .append,args:=⟨[s,_]⟩,argTypes:=_ }=>eI (get env s)
 |.call { callee:=.builtin .unsafeString,args:=⟨[x,_]⟩,argTypes:=_ }=>Sq (get env x)
 |.call { callee:=.builtin .clear,args:=⟨[x]⟩,argTypes:=_ }=>eI (get env x)
 |.mapUpdate _ m _ _=>Nv (get env m)
 |.mapEntry _ m _=>Nv (get env m)
 |.entryStore _ m _ _=>Nv (get env m)
 |_=>[]
def T1(T:TypeId→Option TyI) (O:aac) (m0:Nat) (env:Env) (mem:Mem) (aaB:Bool) (o:Oper):Option (AV×Mem×Bool):=
 match aOp T env mem o.op with
 |some (v,m)=>some (v,m,aaB||(vH env o.op).any fun b=>decide (b<m0))
 |none=>match jv env o.op with
  |some (c,args)=>match O c args mem with
   |some r=>some (r.v,r.mem mem,aaB||r.pre.isSome)
   |none=>none
  |none=>none
def aX(T:TypeId→Option TyI) (O:aac) (N m0:Nat) (ops:Array Oper):List Oper→XS→Option XS
 | [],s=>some s
 |o::os,s=>
  if Cy N o then
   match rF ops s.env o with
   |some true=>match T1 T O m0 s.env s.mem s.aaB o with
    |some (v,m,dt)=>aX T O N m0 ops os ⟨aa4 s.env o.dst v,m,dt⟩
    |none=>none
   |some false=>aX T O N m0 ops os ⟨aa4 s.env o.dst (.tuple []),s.mem,s.aaB⟩
   |none=>none
  else none
def fX(ops:List Oper):List Nat:=
 ops.foldl (fun acc o=>acc++[o.after.toList.foldl (fun s e=>if Region.binds .any e then s ||| 2 ^ e.on ||| acc.getD e.on 0 else s) 0]) []
def bef(bs:List Nat) (i j:Nat):Bool:=(bs.getD j 0).testBit i
def ng(ops:Array Oper) (bs:List Nat):Bool:=
 let n:=ops.size
 (List.range n).all fun j=>match ops[j]? with
  |none=>true
  |some o=>
   o.after.toList.all (fun e=> !Region.binds .any e||decide (e.on<j))&&
   (List.range n).all fun i=>(!bef bs i j||o.after.toList.any fun e=>Region.binds .any e&&(e.on==i||bef bs i e.on))&&(i==j||bef bs i j||bef bs j i||match ops[i]? with
    |none=>true
    |some oi=>match oi.dst with
     |none=>true
     |some t=> !(o.looksAt ops).contains t&& !(o.dst==some t))
def Nd(env:Env):Op→Option (List Nat)
 |.load _ a=>match get env a with
  |.ptr b _=>some [b]
  |_=>some []
 |.store _ a _=>match get env a with
  |.ptr b _=>some [b]
  |_=>some []
 |.slice _ x _ _ _=>match get env x with
  |.slice b _ _ _=>some [b]
  |_=>some []
 |.lookup _ m _ _=>match get env m with
  |.map b=>some [b]
  |_=>some []
 |.mapUpdate _ m _ _=>match get env m with
  |.map b=>some [b]
  |_=>some []
 |.mapEntry _ m _=>match get env m with
  |.map b=>some [b]
  |_=>some []
 |.entryStore _ m _ _=>match get env m with
  |.map b=>some [b]
  |_=>some []
 |.call { callee:=.builtin .len,args:=⟨[x]⟩,argTypes:=_ }=>match get env x with
  |.map b=>some [b]
  |_=>some []
 |.call { callee:=.builtin .append,args:=⟨[s,x]⟩,argTypes:=_ }=>
  some ((match get env s with | .slice b _ _ _=>[b] | _=>[])++(match get env x with | .slice b _ _ _=>[b] | _=>[]))
 |.call { callee:=.builtin .unsafeSliceData,args:=⟨[x]⟩,argTypes:=_ }=>match get env x with
  |.slice b _ _ _=>some [b]
  |_=>some []
 |.call { callee:=.builtin .clear,args:=⟨[x]⟩,argTypes:=_ }=>match get env x with
  |.slice b _ _ _=>some [b]
  |_=>some []
 |.call { callee:=.builtin .unsafeString,args:=⟨[x,_]⟩,argTypes:=_ }=>match get env x with
  |.ptr b _=>some [b]
  |_=>some []
 |.call { callee:=.builtin _,args:=_,argTypes:=_ }=>some []
 |.call _=>none
 |_=>some []
structure Rec where
 env:Env
 en:Env
 mem:Mem
 tm:Mem
 v:AV
 m' :Mem
 nx:Mem
 wb:Bool
 wr:List Nat
def bD(Y5:Nat→Bool):Nat→Mem→Mem
 |_,[]=>[]
 |i,s::r=>(if Y5 i then s else .qF)::bD Y5 (i+1) r
def bh(wr:List Nat):Nat→Mem→Mem→Mem
 |_,[],m' =>m'
 |_,_::_,[]=>[]
 |i,s::r,s' ::r' =>(if wr.contains i then s' else s)::bh wr (i+1) r r'
def cw(mem:Mem) (b:Nat):Bool:=match mem[b]? with
 |some .qF=>false
 |some _=>true
 |none=>false
def cf:Nat→Mem→List Nat
 |_,[]=>[]
 |i,.qF::r=>cf (i+1) r
 |i,_::r=>i::cf (i+1) r
def vD(bs:List Nat) (j:Nat):Nat→List Rec→List Rec
 |_,[]=>[]
 |i,r::rs=>if bef bs i j then vD bs j (i-1) rs else r::vD bs j (i-1) rs
def UT(bs:List Nat) (j:Nat) (acc:List Rec):Option (List Nat)→Nat→Bool
 |some l=>fun b=>l.contains b
 |none=>let un:=vD bs j (j-1) acc;fun b=> !un.any fun f=>decide (f.mem.length≤b∧b<f.nx.length)
def T0(tm:Mem):Option Mem→List Nat
 |some _=>cf 0 tm
 |none=>[]
def FH(T:TypeId→Option TyI) (O:aac) (N:Nat) (ops:Array Oper) (bs:List Nat) (j:Nat) (o:Oper) (env:Env) (mem:Mem) (acc:List Rec):Option Rec:=
 if Cy N o then
  let en:=(o.looksAt ops).map fun t=>(t,aa env t)
  match rF ops en o with
  |none=>none
  |some false=>some ⟨env,en,mem,bD (fun _=>false) 0 mem,.tuple [],bD (fun _=>false) 0 mem,mem,false,[]⟩
  |some true=>
   let tm:=bD (UT bs j acc (Nd en o.op)) 0 mem
   match aOp T en tm o.op with
   |some (v,m)=>let wr:=vH en o.op;some ⟨env,en,mem,tm,v,m,bh wr 0 mem m,true,wr⟩
   |none=>match jv en o.op with
    |none=>none
    |some (c,args)=>match O c args tm with
     |none=>none
     |some r=>let wr:=T0 tm r.pre
      some ⟨env,en,mem,tm,r.v,r.mem tm,bh wr 0 mem (r.mem tm),true,wr⟩
 else none
def kS(T:TypeId→Option TyI) (O:aac) (N:Nat) (ops:Array Oper) (bs:List Nat):Nat→List Oper→Env→Mem→List Rec→Option (List Rec×Env×Mem)
 |_,[],env,mem,acc=>some (acc.reverse,env,mem)
 |j,o::os,env,mem,acc=>match FH T O N ops bs j o env mem acc with
  |none=>none
  |some r=>kS T O N ops bs (j+1) os (aa4 env o.dst r.v) r.nx (r::acc)
def gR(XB:Nat) (un:List (Nat×Rec)) (b:Nat):Bool:=
 decide (b<XB)&&un.all fun f=> !decide (f.2.mem.length≤b∧b<f.2.nx.length)
def aF:Nat→List Rec→List (Nat×Rec)
 |_,[]=>[]
 |i,r::rs=>(i,r)::aF (i+1) rs
def gb(bs:List Nat) (R:List (Nat×Rec)) (j:Nat) (r:Rec):Bool:=
 let un:=R.filter fun f=>decide (f.1<j)&& !bef bs f.1 j
 r.wr.all (fun b=>cw r.tm b)&&
 r.v.HK (gR r.nx.length un)&&
 r.wr.all (fun b=>match r.nx[b]? with | some s=>s.HK (gR r.nx.length un) | none=>true)&&
 (r.nx.drop r.mem.length).all (fun s=>(s.own||match s with | .qF=>true | _=>false)&&s.HK (gR r.nx.length un))&&
 un.all fun f=>f.2.wr.all (fun b=> !cw r.tm b)&&r.wr.all (fun b=> !cw f.2.tm b)&&
  ((r.tm.drop f.2.mem.length).take (f.2.nx.length-f.2.mem.length)).all fun s=>match s with | .qF=>true | _=>false
def ay(T:TypeId→Option TyI) (O:aac) (N m0:Nat) (ops:Array Oper) (s:XS):Option XS:=
 let bs:=fX ops.toList
 match kS T O N ops bs 0 ops.toList s.env s.mem [] with
 |none=>none
 |some (R,env,mem)=>
  let nR:=aF 0 R
  if nR.all fun f=>gb bs nR f.1 f.2 then some ⟨env,mem,s.aaB||R.any fun r=>r.wr.any fun b=>decide (b<m0)⟩ else none
def dR:Code→Bool
 |.region _ ops true=>ng ops (fX ops.toList)
 |.seq a b=>dR a&&dR b
 |.cond _ a b=>dR a&&dR b
 |.block _ b=>dR b
 |.loop b=>dR b
 |.scope b=>dR b
 |.rangeFunc _ _ a b=>dR a&&dR b
 |_=>true
def ab:Code→List Nat
 |.region _ ops _=>ops.toList.filterMap (·.dst)
 |.seq a b=>ab a++ab b
 |.cond _ a b=>ab a++ab b
 |.block _ b=>ab b
 |.loop b=>ab b
 |.scope b=>ab b
 |_=>[]
def az(lv wr:List Nat) (y' env:Env):Env:=lv.map (fun t=>(t,aa env t))++((wr.filter fun t=> !lv.contains t).map fun t=>(t,AV.undef))++y'
mutual
def AV.refs(m0:Nat):AV→List Nat
 |.ptr b _=>if b<m0 then [] else [b]
 |.slice b _ _ _=>if b<m0 then [] else [b]
 |.map b=>if b<m0 then [] else [b]
 |.yield b=>if b<m0 then [] else [b]
 |.func _ cs=>AV.aas m0 cs
 |.iface _ v=>v.refs m0
 |.agg cs=>AV.aas m0 cs
 |.tuple cs=>AV.aas m0 cs
 |_=>[]
def AV.aas(m0:Nat):List AV→List Nat
 | []=>[]
 |v::vs=>v.refs m0++AV.aas m0 vs
end
def aae.refs(m0:Nat):aae→List Nat
 |.qF=>[]
 |.cells _ _ cs=>AV.aas m0 cs
 |.map es=>es.flatMap fun e=>e.1.refs m0++e.2.refs m0
 |.aaF es=>es.flatMap fun e=>e.1.refs m0++e.2.refs m0
 |.loop r=>r.env.flatMap fun e=>e.2.refs m0
def uf(m0:Nat) (mem:Mem):Nat→List Nat→List Nat→List Nat
 |0,_,seen=>seen
 |_,[],seen=>seen
 |k+1,b::todo,seen=>if seen.contains b then uf m0 mem k todo seen else uf m0 mem k (todo++(mem.getD b .qF).refs m0) (seen++[b])
def Rv:List Nat→Bool
 |a::b::_=>a==b
 |_=>false
def Ob:List Nat→Bool
 |a::b::c::_=>a==b&&b==c
 |_=>false
def KF(lv wr:List Nat) (y':Env) (m1:Nat) (s:XS):XS:=
 let ks:=uf m1 s.mem 1000 ((lv.flatMap fun t=>(aa s.env t).refs m1)++(s.mem.take m1).flatMap (aae.refs m1)) []
 if Kv m1 s.mem.length ks then
  ⟨(lv.filter fun t=>wr.contains t).map (fun t=>(t,(aa s.env t).ren (rho m1 ks)))++((wr.filter fun t=> !lv.contains t).map fun t=>(t,AV.undef))++y',(s.mem.take m1).map (aae.ren (rho m1 ks))++aa3 m1 ks s.mem,true⟩
 else⟨az lv wr y' s.env,s.mem,s.aaB⟩
def qV(lv wr:List Nat) (y':Env) (m1:Nat) (s:XS):XS:=
 if Ob lv=true∨s.mem.length≤m1 then⟨az lv wr y' s.env,s.mem,s.aaB⟩ else
  let ks:=uf m1 s.mem 1000 (lv.flatMap fun t=>(aa s.env t).refs m1) []
  if Kv m1 s.mem.length ks&&(s.mem.take m1).all fun s=>(s.refs m1).isEmpty then
   ⟨(lv.filter fun t=>wr.contains t).map (fun t=>(t,(aa s.env t).ren (rho m1 ks)))++((wr.filter fun t=> !lv.contains t).map fun t=>(t,AV.undef))++y',s.mem.take m1++aa3 m1 ks s.mem,s.aaB⟩
  else if Rv lv then KF lv wr y' m1 s
  else⟨az lv wr y' s.env,s.mem,s.aaB⟩
def gl(lv wr:List Nat) (y':Env) (m1:Nat) (f:XS→Option (Exit×XS)):Nat→XS→Option (Exit×XS)
 |0,_=>none
 |k+1,s=>match f s with
  |some (.normal,s')=>gl lv wr y' m1 f k (qV lv wr y' m1 s')
  |r=>r
def aQ(T:TypeId→Option TyI) (lv:Code→List Nat) (O:aac) (K N m0:Nat) (tp:Bool):Code→XS→Option (Exit×XS)
 |.skip,s=>some (.normal,s)
 |.region _ ops false,s=>match aX T O N m0 ops ops.toList s with
  |some s' =>some (.normal,s')
  |none=>none
 |.region _ ops true,s=>match ay T O N m0 ops s with
  |some s' =>some (.normal,s')
  |none=>none
 |.seq a b,s=>match aQ T lv O K N m0 tp a s with
  |some (.normal,s')=>aQ T lv O K N m0 tp b s'
  |r=>r
 |.cond c a b,s=>match get s.env c with
  |.bool true=>aQ T lv O K N m0 tp a s
  |.bool false=>aQ T lv O K N m0 tp b s
  |_=>none
 |.block id b,s=>match aQ T lv O K N m0 tp b s with
  |some (.exit i,s')=>if i=id then some (.normal,s') else some (.exit i,s')
  |r=>r
 |.loop b,s=>gl (lv b) (ab b) s.env s.mem.length (aQ T lv O K N m0 tp b) K ⟨az (lv b) (ab b) s.env s.env,s.mem,s.aaB⟩
 |.exit id,s=>some (.exit id,s)
 |.ret,s=>some (.ret,s)
 |.rangeFunc g ps asg body,s=>
  if tp then
   match get s.env g with
   |.func f caps=>match O (.fn f) (.yield s.mem.length::caps) (s.mem++[.loop ⟨.ready,none,s.env,N,ps,asg,body⟩]) with
    |some r=>
     let XW:=r.mem (s.mem++[.loop ⟨.ready,none,s.env,N,ps,asg,body⟩])
     match XW[s.mem.length]? with
     |some (.loop r2)=>if r2.st== .busy then none else match NN r2.abv with
      |some e=>some (e,⟨s.env,XW.set s.mem.length (.loop { r2 with st:=.exhausted }),s.aaB||r.pre.isSome⟩)
      |none=>none
     |_=>none
    |none=>none
   |_=>none
  else none
 |_,_=>none
def ad(T:TypeId→Option TyI) (lv:Code→List Nat) (G:FuncId→Option Func) (O:aac) (K:Nat) (f:FuncId) (args:List AV) (mem:Mem):Option HS:=
 match G f with
 |none=>none
 |some fn=>match fn.body with
  |none=>none
  |some c=>
   if args.length≤fn.ntmps then
    match aQ T lv O K fn.ntmps mem.length true c ⟨dE 0 args,mem,false⟩ with
    |some (e,s)=>
     match e with
     |.normal | .ret=>
      match jM T fn.results.toList s.env s.mem with
      |some v=>
       let m0:=mem.length
       if s.aaB then
        let ks:=uf m0 s.mem 1000 (v.refs m0++(s.mem.take m0).flatMap (aae.refs m0)) []
        if Kv m0 s.mem.length ks then
         some ⟨v.ren (rho m0 ks),some ((s.mem.take m0).map (aae.ren (rho m0 ks))),aa3 m0 ks s.mem⟩
        else none
       else
        let ks:=uf m0 s.mem 1000 (v.refs m0) []
        if Kv m0 s.mem.length ks then
         some ⟨v.ren (rho m0 ks),none,aa3 m0 ks s.mem⟩
        else none
      |none=>none
     |_=>none
    |none=>none
   else none
def Fo(T:TypeId→Option TyI) (lv:Code→List Nat) (O:aac) (K:Nat) (b:Nat) (args:List AV) (mem:Mem):Option HS:=
 match mem[b]? with
 |some (.loop r)=>
  if r.st== .ready&&decide (args.length=r.ps.toList.length)&&r.ps.toList.all (fun t=>decide (t<r.N))&&dR r.assign&&dR r.body then
   match aQ T lv O K r.N mem.length false r.assign ⟨Dh r.ps.toList args r.env,mem,true⟩ with
   |some (.normal,s1)=>match s1.mem[b]? with
    |some (.loop r1)=>
     if r1.st== .ready then
      match aQ T lv O K r.N mem.length false r.body ⟨s1.env,s1.mem.set b (.loop { r1 with st:=.busy }),true⟩ with
      |some (e,s2)=>match RK e,s2.mem[b]? with
       |some j,some (.loop r2)=>
        let m0:=mem.length
        let m3:=s2.mem.set b (.loop { r2 with st:=Kk j,abv:=j })
        let ks:=uf m0 m3 1000 ((m3.take m0).flatMap (aae.refs m0)) []
        if Kv m0 s2.mem.length ks then
         some ⟨.bool j.isNone,some ((m3.take m0).map (aae.ren (rho m0 ks))),aa3 m0 ks m3⟩
        else none
       |_,_=>none
      |none=>none
     else none
    |_=>none
   |_=>none
  else none
 |_=>none
def ow(T:TypeId→Option TyI) (lv:Code→List Nat) (G:FuncId→Option Func) (O:aac) (K:Nat):Nat→aac
 |0=>O
 |n+1=>fun c args mem=>match O c args mem with
  |some r=>some r
  |none=>match c with
   |.fn f=>ad T lv G (ow T lv G O K n) K f args mem
   |.yld b=>Fo T lv (ow T lv G O K n) K b args mem
end Go.Eng
