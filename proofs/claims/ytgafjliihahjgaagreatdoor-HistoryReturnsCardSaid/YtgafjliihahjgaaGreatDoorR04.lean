/- See R54. -/
import Derived.Test.YtgafjliihahjgaaGreatDoorR03
set_option linter.all false
namespace Go.Eng
mutual
def AV.y9(ok:Nat→Bool):AV→Bool
 |.ptr b _=>ok b
 |.slice b _ _ _=>ok b
 |.map b=>ok b
 |.yield b=>ok b
 |.func _ cs=>AV.aeB ok cs
 |.iface _ v=>v.y9 ok
 |.agg cs=>AV.aeB ok cs
 |.tuple cs=>AV.aeB ok cs
 |_=>true
def AV.aeB(ok:Nat→Bool):List AV→Bool
 | []=>true
 |v::vs=>v.y9 ok&&AV.aeB ok vs
end
def aeD.y9(ok:Nat→Bool):aeD→Bool
 |.kO=>true
 |.cells _ _ cs=>AV.aeB ok cs
 |.map es=>es.all fun e=>e.1.y9 ok&&e.2.y9 ok
 |.ae8 es=>es.all fun e=>e.1.y9 ok&&e.2.y9 ok
 |.loop r=>r.env.all fun e=>e.2.y9 ok
theorem Bp{ok:Nat→Bool}:∀{env:Env},(env.all fun e=>e.2.y9 ok)=true→∀t,(ab env t).y9 ok=true
 | [],_,_=>rfl
 |(k,v)::r,h,t=>by
  simp only[List.all_cons,Bool.and_eq_true] at h;simp only[ab];split
  ·exact h.1
  ·exact Bp h.2 t
mutual
theorem aeA.change{μ μ' :Nat→Place}{n:Nat}{ok:Nat→Bool}(hμ:∀b,b<n→ok b=true→μ' b=μ b):
  ∀{v V},v.y9 ok=true→aeA μ n v V→aeA μ' n v V
 |.undef,_,_,_=>by simp[aeA]
 |.bool _,_,_,h=>by simpa [aeA] using h
 |.int _ _,_,_,h=>by simpa [aeA] using h
 |.str _,_,_,h=>by simpa [aeA] using h
 |.ptr b o,V,hk,h=>by simp only[aeA] at h ⊢;simp only[AV.y9] at hk;exact⟨h.1,by rw[hμ b h.1 hk];exact h.2⟩
 |.aeT,_,_,h=>by simpa [aeA] using h
 |.slice b o l c,V,hk,h=>by simp only[aeA] at h ⊢;simp only[AV.y9] at hk;exact⟨h.1,by rw[hμ b h.1 hk];exact h.2⟩
 |.kK,_,_,h=>by simpa [aeA] using h
 |.map b,V,hk,h=>by simp only[aeA] at h ⊢;simp only[AV.y9] at hk;exact⟨h.1,by rw[hμ b h.1 hk];exact h.2⟩
 |.yield b,V,hk,h=>by simp only[aeA] at h ⊢;simp only[AV.y9] at hk;exact⟨h.1,by rw[hμ b h.1 hk];exact h.2⟩
 |.ae0,_,_,h=>by simpa [aeA] using h
 |.func f cs,V,hk,h=>by simp only[aeA] at h ⊢;simp only[AV.y9] at hk;obtain⟨Us,e,h⟩:=h;exact⟨Us,e,aeC.change hμ hk h⟩
 |.nilFunc,_,_,h=>by simpa [aeA] using h
 |.iface t v,V,hk,h=>by simp only[aeA] at h ⊢;simp only[AV.y9] at hk;obtain⟨U,e,h⟩:=h;exact⟨U,e,aeA.change hμ hk h⟩
 |.nilIface,_,_,h=>by simpa [aeA] using h
 |.agg cs,V,hk,h=>by simp only[aeA] at h ⊢;simp only[AV.y9] at hk;obtain⟨Us,e,h⟩:=h;exact⟨Us,e,aeC.change hμ hk h⟩
 |.tuple cs,V,hk,h=>by simp only[aeA] at h ⊢;simp only[AV.y9] at hk;obtain⟨Us,e,h⟩:=h;exact⟨Us,e,aeC.change hμ hk h⟩
theorem aeC.change{μ μ' :Nat→Place}{n:Nat}{ok:Nat→Bool}(hμ:∀b,b<n→ok b=true→μ' b=μ b):
  ∀{vs Us},AV.aeB ok vs=true→aeC μ n vs Us→aeC μ' n vs Us
 | [],_,_,h=>by simpa [aeC] using h
 |v::vs,Us,hk,h=>by simp only[aeC] at h ⊢;simp only[AV.aeB,Bool.and_eq_true] at hk;obtain⟨U,Ws,e,h1,h2⟩:=h;exact⟨U,Ws,e,aeA.change hμ hk.1 h1,aeC.change hμ hk.2 h2⟩
end
variable{s:aeD}
theorem aeO.change{μ μ' :Nat→Place}{n base:Nat}{w:World}{p:Place}{ok:Nat→Bool}(hμ:∀b,b<n→ok b=true→μ' b=μ b)(hk:s.y9 ok=true)(h:aeO μ n base w p s):aeO μ' n base w p s:=by
 cases s with
 |kO=>trivial
 |cells own es cs=>
  simp only[aeO] at h ⊢;simp only[aeD.y9] at hk;obtain⟨cur,e,fr,h1,h2,h3,h4,h5⟩:=h;refine⟨cur,e,fr,h1,h2,h3,fun j v hv=>?_,h5⟩;obtain⟨V,hV,hr⟩:=h4 j v hv;refine⟨V,hV,hr.change hμ ?_⟩;have:∀(l:List AV),AV.aeB ok l=true→∀v∈l,v.y9 ok=true:=by
   intro l;induction l with
   |nil=>intro _ v hv;cases hv
   |cons x xs ih=>
    intro hl v hv;simp only[AV.aeB,Bool.and_eq_true] at hl;cases hv with
    |head=>exact hl.1
    |tail _ hm=>exact ih hl.2 v hm
  exact this cs hk v (List.mem_of_getElem? hv)
 |map es=>
  simp only[aeO] at h ⊢;simp only[aeD.y9,List.all_eq_true,Bool.and_eq_true] at hk;obtain⟨Do,G',h1,h2,h3,h4⟩:=h;refine⟨Do,G',h1,h2,h3,fun j e he=>?_⟩;obtain⟨E,hE,Ya,Yc⟩:=h4 j e he;have:=hk e (List.mem_of_getElem? he);exact⟨E,hE,Ya.change hμ this.1,Yc.change hμ this.2⟩
 |ae8 es=>
  simp only[aeO] at h ⊢;simp only[aeD.y9,List.all_eq_true,Bool.and_eq_true] at hk;obtain⟨Do,G',h1,h2,h3,h4⟩:=h;refine⟨Do,G',h1,h2,h3,fun j e he=>?_⟩;obtain⟨E,hE,Ya,Yc⟩:=h4 j e he;have:=hk e (List.mem_of_getElem? he);exact⟨E,hE,Ya.change hμ this.1,Yc.change hμ this.2⟩
 |loop r=>
  simp only[aeO] at h ⊢;obtain⟨L,h1,h2,h3⟩:=h;exact⟨L,h1,h2,{ h3 with tmps:=fun t=>(h3.tmps t).change hμ (Bp hk t) }⟩
structure ae9 where
 E:Nat→Env
 En:Nat→Env
 M:Nat→Mem
 Tm:Nat→Mem
 M' :Nat→Mem
 v:Nat→AV
 wb:Nat→Bool
 afh:Nat→Nat→Bool
 ok:Nat→Nat→Bool
 cl:Nat→Nat→Bool
def il(mem:Mem) (b:Nat):Prop:=∃s,mem[b]? =some s∧s≠ .kO
structure agQ (P:Program) (T:TypeId→Option TyI) (N:Nat) (ops:Array Oper) (d:ae9) (j:Nat) (o:Oper):Prop where
 wanted:qP ops (d.En j) o=some (d.wb j)
 dst:Ct N o=true
 step:d.wb j=true→vx P T (d.En j) (d.Tm j) o (d.v j) (d.M' j)
 skip:d.wb j=false→d.v j=.tuple []∧d.M' j=d.Tm j
 env:d.E (j+1)=afp (d.E j) o.dst (d.v j)
 named:∀t,ab (d.En j) t=.undef∨(ab (d.En j) t=ab (d.E j) t∧∀(i:Nat) oi,ops[i]? =some oi→i≠j→oi.dst=some t→d.cl i j=true∨d.cl j i=true)
 aho:∀(i:Nat) oi t,ops[i]? =some oi→i≠j→o.dst=some t→oi.dst=some t→d.cl i j=true∨d.cl j i=true
 ago:(d.Tm j).length=(d.M j).length
 agp:∀b:Nat,(d.Tm j)[b]? =(d.M j)[b]? ∨(d.Tm j)[b]? =some .kO
 ag3:(d.M (j+1)).length=(d.M' j).length
 agq:(d.M j).length≤(d.M (j+1)).length
 ag4:∀b:Nat,d.afh j b=true→(d.M (j+1))[b]? =(d.M' j)[b]?
 ag7:∀b:Nat,b<(d.M j).length→d.afh j b=false→(d.M (j+1))[b]? =(d.M j)[b]?
 ag8:∀b:Nat,b<(d.M j).length→d.afh j b=false→il (d.Tm j) b→(d.M' j)[b]? =(d.M j)[b]?
 ag9:∀b:Nat,(d.M j).length≤b→d.afh j b=true
 agR:∀b:Nat,d.afh j b=true→b<(d.M j).length→il (d.Tm j) b
 sep:∀(i:Nat) oi (b:Nat),ops[i]? =some oi→i≠j→b<(d.M (i+1)).length→d.afh i b=true→(b<(d.M (j+1)).length∧d.afh j b=true)∨il (d.Tm j) b→d.cl i j=true∨d.cl j i=true
 okc:∀(i:Nat) (b:Nat) oi,ops[i]? =some oi→d.ok j b=true→(d.M i).length≤b→b<(d.M (i+1)).length→i=j∨d.cl i j=true
 agr:(d.v j).y9 (d.ok j)=true
 aha:∀(b:Nat) s,d.afh j b=true→(d.M (j+1))[b]? =some s→s.y9 (d.ok j)=true
 agS:∀(b:Nat) s,(d.M j).length≤b→(d.M (j+1))[b]? =some s→s≠ .kO→ei (d.M (j+1)) b
 ag5:∀e∈o.after,Region.binds .any e=true→e.on<j
 agT:∀i,d.cl i j=true→∃e∈o.after,Region.binds .any e=true∧(e.on=i∨d.cl i e.on=true)
variable{b t:Nat}
section
variable {P:Program}{T:TypeId→Option TyI}{N:Nat}{ops:Array Oper}{d:ae9}
def rH(P:Program) (T:TypeId→Option TyI) (N:Nat) (ops:Array Oper) (d:ae9):Prop:=∀(j:Nat) o,ops[j]? =some o→agQ P T N ops d j o
def Tch(d:ae9) (i b:Nat):Prop:=d.afh i b=true∧b<(d.M (i+1)).length
theorem yL{j:Nat}(h:j<ops.size):∃o,ops[j]? =some o:=⟨ops[j],by simp[h]⟩
theorem Kf{env:Env}{dst:Option Tmp}{v:AV}(h:dst≠some t):ab (afp env dst v) t=ab env t:=by
 cases dst with
 |none=>rfl
 |some x=>
  have:¬x=t:=fun e=>h (by rw[e])
  simp[afp,ab,this]
section
variable (hA:rH P T N ops d)
include hA
theorem Dg(t:Nat)(j:Nat):∀k,j≤k→k≤ops.size→(∀(i:Nat) oi,j≤i→i<k→ops[i]? =some oi→oi.dst≠some t)→ab (d.E k) t=ab (d.E j) t:=by
 intro k hjk;induction hjk with
 |refl=>intro _ _;rfl
 | @step k hjk ih=>
  intro hk hno;obtain⟨o,ho⟩:=yL (ops:=ops) (j:=k) (by omega);rw[(hA k o ho).env,Kf (hno k o hjk (Nat.lt_succ_self k) ho)];exact ih (by omega) fun i oi h1 h2 h3=>hno i oi h1 (by omega) h3
theorem yZ(j:Nat):∀k,j≤k→k≤ops.size→(d.M j).length≤(d.M k).length:=by
 intro k hjk;induction hjk with
 |refl=>intro _;exact Nat.le_refl _
 | @step k hjk ih=>
  intro hk;obtain⟨o,ho⟩:=yL (ops:=ops) (j:=k) (by omega);exact Nat.le_trans (ih (by omega)) (hA k o ho).agq
theorem Dv(b:Nat)(j:Nat):∀k,j≤k→k≤ops.size→(∀i,j≤i→i<k→¬Tch d i b)→(d.M k)[b]? =(d.M j)[b]? :=by
 intro k hjk;induction hjk with
 |refl=>intro _ _;rfl
 | @step k hjk ih=>
  intro hk hno;obtain⟨o,ho⟩:=yL (ops:=ops) (j:=k) (by omega);have h1:=ih (by omega) fun i h1 h2=>hno i h1 (by omega)
  have hn:=hno k hjk (Nat.lt_succ_self k);rw[←h1];by_cases hb:b<(d.M k).length
  ·have:d.afh k b=false:=by
    cases ht:d.afh k b with
    |false=>rfl
    |true=>exact absurd ⟨ht,Nat.lt_of_lt_of_le hb (hA k o ho).agq⟩ hn
   exact(hA k o ho).ag7 b hb this
  ·have ht:=(hA k o ho).ag9 b (by omega)
   have:¬b<(d.M (k+1)).length:=fun h=>hn ⟨ht,h⟩
   exact(List.getElem?_eq_none (Nat.le_of_not_lt this)).trans (List.getElem?_eq_none (Nat.le_of_not_lt hb)).symm
end
structure agk (d:ae9) (ops:Array Oper) (base:Nat) (μ0:Nat→Place) (w0:World) (S:Nat→Prop) (μ:Nat→Place) (kb kt:Nat→Nat) (tmps:Array Value) (w:World):Prop where
 aeI:base≤w.heap.size
 afZ:∀b,kb b≤ops.size
 afB:∀b i,i<ops.size→Tch d i b→(S i↔i<kb b)
 af0:∀b,kb b=0∨Tch d (kb b-1) b
 slot:∀(b:Nat) s,(d.M (kb b))[b]? =some s→aeO μ (d.M (kb b)).length base w (μ b) s
 sep:∀b b' s',ei (d.M (kb b)) b→(d.M (kb b'))[b']? =some s' →s' ≠ .kO→b≠b' →(μ b).blk≠(μ b').blk
 ags:∀t,kt t≤ops.size
 afD:∀(t i:Nat) oi,ops[i]? =some oi→oi.dst=some t→(S i↔i<kt t)
 af1:∀t,kt t=0∨∃oi,ops[kt t-1]? =some oi∧oi.dst=some t
 tmp:∀t,aeA μ (d.M (kt t)).length (ab (d.E (kt t)) t) (tmps.getD t undef)
 agree:∀b,b<(d.M 0).length→μ b=μ0 b
 os:w.os=w0.os
 tape:w.tape=w0.tape
 drawn:w0.drawn≤w.drawn
 output:w.output=w0.output
 size:w0.heap.size≤w.heap.size
 frame:∀k,k<w0.heap.size→(∀b,ei (d.M 0) b→(μ0 b).blk≠k)→w.heap[k]? =w0.heap[k]?
 owner:∀b,ei (d.M (kb b)) b→(μ b).blk<w0.heap.size→∃b0,ei (d.M 0) b0∧(μ0 b0).blk=(μ b).blk
theorem WC(hA:rH P T N ops d):∀(j i:Nat),j<ops.size→d.cl i j=true→i<j:=by
 intro j;induction j using Nat.strongRecOn with
 |_ j ih=>
  intro i hj h;obtain⟨o,ho⟩:=yL hj;obtain⟨e,he,hb,hc⟩:=(hA j o ho).agT i h;have A':=(hA j o ho).ag5 e he hb;rcases hc with rfl | hc
  ·exact A'
  ·exact Nat.lt_trans (ih e.on A' i (by omega) hc) A'
def ua(ops:Array Oper) (S:Nat→Prop):Prop:=∀(j:Nat) o,ops[j]? =some o→S j→∀e∈o.after,Region.binds .any e=true→S e.on
section
variable (hA:rH P T N ops d){S:Nat→Prop}(hS:ua ops S)
include hA S hS
theorem RO:∀(j:Nat) o,ops[j]? =some o→(∀e∈o.after,Region.binds .any e=true→S e.on)→∀i,d.cl i j=true→S i:=by
 intro j;induction j using Nat.strongRecOn with
 |_ j ih=>
  intro o ho hp i h;have hjs:j<ops.size:=(Array.getElem?_eq_some_iff.1 ho).1;obtain⟨e,he,hb,hc⟩:=(hA j o ho).agT i h;have A':=(hA j o ho).ag5 e he hb;have hSe:=hp e he hb;rcases hc with rfl | hc
  ·exact hSe
  ·obtain⟨oe,hoe⟩:=yL (ops:=ops) (j:=e.on) (by omega)
   exact ih e.on A' oe hoe (hS e.on oe hoe hSe) i hc
theorem ni{j:Nat}{o:Oper}(ho:ops[j]? =some o)(hr:∀e∈o.after,Region.binds .any e=true→S e.on)(hj:¬S j){i:Nat}(hi:i<ops.size)(h:d.cl i j=true∨d.cl j i=true):S i↔i<j:=by
 have hjs:j<ops.size:=(Array.getElem?_eq_some_iff.1 ho).1;obtain⟨oi,Zm⟩:=yL hi;rcases h with h | h
 ·exact⟨fun _=>WC hA j i hjs h,fun _=>RO hA hS j o ho hr i h⟩
 ·have A':=WC hA i j hi h
  constructor
  ·intro hSi
   exact absurd (RO hA hS i oi Zm (hS i oi Zm hSi) j h) hj
  ·intro;omega
end
section step
variable {base:Nat}{μ0:Nat→Place}{w0:World}{S:Nat→Prop}{μ:Nat→Place}{kb kt:Nat→Nat}{a:Act}{w:World}{j:Nat}{o:Oper}
section
variable (hA:rH P T N ops d)(hI:agk d ops base μ0 w0 S μ kb kt a.tmps w)(hS:ua ops S)(ho:ops[j]? =some o)(hr:∀e∈o.after,Region.binds .any e=true→S e.on)(hj:¬S j)
include hA hI hS ho hr hj
theorem UJ(hn:∀(i:Nat) oi,ops[i]? =some oi→i≠j→oi.dst=some t→d.cl i j=true∨d.cl j i=true):
  kt t≤j∧ab (d.E j) t=ab (d.E (kt t)) t:=by
 have hjs:j<ops.size:=(Array.getElem?_eq_some_iff.1 ho).1;have X7:kt t≤j:=by
  rcases hI.af1 t with h0 | ⟨oi,h1,h2⟩
  ·omega
  ·have hk:=(hI.afD t (kt t-1) oi h1 h2)
   by_cases h0:kt t=0
   ·omega
   ·have hSi:S (kt t-1):=hk.2 (by omega)
    have PP:kt t-1≠j:=fun e=>hj (e▸hSi)
    have A':kt t-1<ops.size:=(Array.getElem?_eq_some_iff.1 h1).1;have:=(ni hA hS ho hr hj A' (hn _ oi h1 PP h2)).1 hSi;omega
 refine⟨X7,Dg hA t (kt t) j X7 (by omega) fun i oi h1 h2 h3 h4=>?_⟩;have:=(ni hA hS ho hr hj (by omega) (hn i oi h3 (by omega) h4)).2 h2;have:=(hI.afD t i oi h3 h4).1 this;omega
theorem wI(hb:il (d.Tm j) b):kb b≤j∧(d.M j)[b]? =(d.M (kb b))[b]? :=by
 have hjs:j<ops.size:=(Array.getElem?_eq_some_iff.1 ho).1;have aa0:∀i,i<ops.size→i≠j→Tch d i b→(S i↔i<j):=by intro i hi PP ht;obtain⟨oi,Zm⟩:=yL hi;exact ni hA hS ho hr hj hi ((hA j o ho).sep i oi b Zm PP ht.2 ht.1 (.inr hb))
 have X7:kb b≤j:=by
  rcases hI.af0 b with h0 | h1
  ·omega
  ·by_cases h0:kb b=0
   ·omega
   ·have A':kb b-1<ops.size:=by have:=hI.afZ b;omega
    have hSi:S (kb b-1):=(hI.afB b _ A' h1).2 (by omega);have PP:kb b-1≠j:=fun e=>hj (e▸hSi)
    have:=(aa0 _ A' PP h1).1 hSi;omega
 refine⟨X7,Dv hA b (kb b) j X7 (by omega) fun i h1 h2 h3=>?_⟩;have:=(aa0 i (by omega) (by omega) h3).2 h2;have:=(hI.afB b i (by omega) h3).1 this;omega
end
theorem qg(hA:rH P T N ops d)(ho:ops[j]? =some o)(h:(d.Tm j)[b]? =some s)(hs:s≠ .kO):(d.M j)[b]? =some s:=by
 rcases (hA j o ho).agp b with e | e
 ·rw[←e];exact h
 ·rw[h] at e;cases e;exact absurd rfl hs
theorem kV{mem:Mem}(h:ei mem b):il mem b:=by obtain⟨s,h,ho⟩:=h;exact⟨s,h,aeD.afa ho⟩
theorem kW{m m' :Mem}(h:m[b]? =m'[b]?):ei m b↔ei m' b:=by simp[ei,h]
section
variable (hA:rH P T N ops d)(hI:agk d ops base μ0 w0 S μ kb kt a.tmps w)(hS:ua ops S)(ho:ops[j]? =some o)(hr:∀e∈o.after,Region.binds .any e=true→S e.on)(hj:¬S j)
include hA hI hS ho hr hj
theorem S6:aeL base μ (d.Tm j) w:=by
 have hjs:j<ops.size:=(Array.getElem?_eq_some_iff.1 ho).1;refine⟨hI.aeI,fun b s hs=>?_,fun b b' s' hb UV PP YN=>?_⟩
 ·by_cases h0:s=.kO
  ·subst h0;trivial
  ·have Ze:il (d.Tm j) b:=⟨s,hs,h0⟩
   obtain⟨k1,k2⟩:=wI hA hI hS ho hr hj Ze;have hM:=qg hA ho hs h0;rw[k2] at hM;rw[(hA j o ho).ago];exact(hI.slot b s hM).mono (yZ hA _ j k1 (by omega)) (fun _ _=>rfl) fun _=>rfl
 ·obtain⟨k1,k2⟩:=wI hA hI hS ho hr hj (kV hb)
  obtain⟨k3,k4⟩:=wI hA hI hS ho hr hj ⟨s',UV,PP⟩;refine hI.sep b b' s' ?_ ?_ PP YN
  ·refine(kW k2).1 ?_
   obtain⟨s,h,hso⟩:=hb;exact⟨s,qg hA ho h (aeD.afa hso),hso⟩
  ·rw[←k4];exact qg hA ho UV PP
theorem S7:ae6 μ (d.Tm j).length (d.En j) a.tmps:=by
 have hjs:j<ops.size:=(Array.getElem?_eq_some_iff.1 ho).1;intro t;rcases (hA j o ho).named t with h | ⟨h,hn⟩
 ·rw[h];simp[aeA]
 ·obtain⟨k1,k2⟩:=UJ hA hI hS ho hr hj hn
  rw[h,k2,(hA j o ho).ago];exact(hI.tmp t).mono (yZ hA _ j k1 (by omega)) fun _ _=>rfl
end
end step
end
end Go.Eng
namespace Go.Eng
section
variable {P:Program}{T:TypeId→Option TyI}{N:Nat}{ops:Array Oper}{d:ae9}
variable {base:Nat}{μ0:Nat→Place}{w0:World}{S:Nat→Prop}{μ μ' :Nat→Place}{kb kt:Nat→Nat}{a:Act}{w w' :World}{j:Nat}{o:Oper}{V:Value}
open Classical in
theorem UF(hA:rH P T N ops d)(hI:agk d ops base μ0 w0 S μ kb kt a.tmps w)(hS:ua ops S)(ho:ops[j]? =some o)(hr:∀e∈o.after,Region.binds .any e=true→S e.on)(hj:¬S j)(hN:a.tmps.size=N)(hV:aeA μ' (d.M' j).length (d.v j) V)(hH:aeL base μ' (d.M' j) w')(XZ:Step (d.Tm j).length μ (d.Tm j) w μ' (d.M' j) w'):
  ∃μ2 kb2 kt2,agk d ops base μ0 w0 (fun i=>S i∨i=j) μ2 kb2 kt2 (a.put o.dst V).tmps w' :=by
 have hjs:j<ops.size:=(Array.getElem?_eq_some_iff.1 ho).1;have D:=hA j o ho;have hlj:∀k,k≤j→(d.M k).length≤(d.M j).length:=fun k hk=>yZ hA k j hk (by omega)
 have Ym:=D.agq;have h0j:=hlj 0 (Nat.zero_le _);have hag:∀b,b<(d.M j).length→μ' b=μ b:=fun b hb=>XZ.agree b (by rw[D.ago];exact hb)
 let μ2:Nat→Place:=fun b=>if b<(d.M (j+1)).length then μ' b else μ b
 have Zt:∀b,b<(d.M j).length→μ2 b=μ b:=by
  intro b hb;show(if b<(d.M (j+1)).length then μ' b else μ b)=μ b
  rw[if_pos (by omega),hag b hb]
 have aaq:∀b,b<(d.M (j+1)).length→μ2 b=μ' b:=by
  intro b hb;show(if b<(d.M (j+1)).length then μ' b else μ b)=μ' b
  rw[if_pos hb]
 have abi:∀b,¬b<(d.M (j+1)).length→μ2 b=μ b:=by
  intro b hb;show(if b<(d.M (j+1)).length then μ' b else μ b)=μ b
  rw[if_neg hb]
 have acv:∀k,0<k→S (k-1)→k-1<ops.size→∀b,d.ok (k-1) b=true→μ2 b=μ b:=by
  intro k hk hSk ZK b hb;by_cases h1:b<(d.M j).length
  ·exact Zt b h1
  ·by_cases h2:b<(d.M (j+1)).length
   ·obtain⟨ok,XW⟩:=yL ZK
    rcases (hA _ ok XW).okc j b o ho hb (by omega) h2 with e | e
    ·exact absurd (e▸hSk) hj
    ·exact absurd (RO hA hS _ ok XW (hS _ ok XW hSk) j e) hj
   ·exact abi b h2
 let kb2:Nat→Nat:=fun b=>if Tch d j b then j+1 else kb b
 let kt2:Nat→Nat:=fun t=>if o.dst=some t then j+1 else kt t
 have aa1:∀b,Tch d j b→kb2 b=j+1:=fun b hb=>if_pos hb
 have aa2:∀b,¬Tch d j b→kb2 b=kb b:=fun b hb=>if_neg hb
 have kbS:∀b,kb b=0∨(0<kb b∧S (kb b-1)∧kb b-1<ops.size∧Tch d (kb b-1) b):=by
  intro b;rcases Nat.eq_zero_or_pos (kb b) with h0 | h0
  ·exact .inl h0
  ·rcases hI.af0 b with h1 | h1
   ·exact .inl h1
   ·have A':kb b-1<ops.size:=by have:=hI.afZ b;omega
    exact .inr ⟨h0,(hI.afB b _ A' h1).2 (by omega),A',h1⟩
 have ace:∀b,¬Tch d j b→b<(d.M j).length∨¬b<(d.M (j+1)).length:=by
  intro b hb;by_cases h1:b<(d.M j).length
  ·exact .inl h1
  ·refine .inr fun h2=>hb ⟨D.ag9 b (by omega),h2⟩
 have acw:∀b,¬Tch d j b→μ2 b=μ b:=by
  intro b hb;rcases ace b hb with h | h
  ·exact Zt b h
  ·exact abi b h
 have abj:∀b,il (d.Tm j) b→¬Tch d j b→kb b≤j∧b<(d.M j).length∧(d.M' j)[b]? =(d.M (kb b))[b]? ∧(d.M (kb b))[b]? =(d.M j)[b]? :=by
  intro b hb hnt;obtain⟨k1,k2⟩:=wI hA hI hS ho hr hj hb;obtain⟨s,hs,PP⟩:=hb;have A':b<(d.M j).length:=by have:=(gL hs);rw[D.ago] at this;exact this
  have hf:d.afh j b=false:=by
   cases ht:d.afh j b with
   |false=>rfl
   |true=>exact absurd ⟨ht,by omega⟩ hnt
  exact⟨k1,A',(D.ag8 b A' hf ⟨s,hs,PP⟩).trans k2,k2.symm⟩
 have acx:∀b s,(d.M (kb2 b))[b]? =some s→s≠ .kO→((d.M' j)[b]? =some s∧μ2 b=μ' b∧b<(d.M (j+1)).length∧(Tch d j b∨il (d.Tm j) b))∨
   ((d.M (kb b))[b]? =some s∧¬il (d.Tm j) b∧¬Tch d j b∧μ2 b=μ b):=by
  intro b s hs PP;by_cases ht:Tch d j b
  ·rw[aa1 b ht] at hs
   exact .inl ⟨by rw[←D.ag4 b ht.1];exact hs,aaq b ht.2,ht.2,.inl ht⟩
  ·rw[aa2 b ht] at hs
   by_cases hb:il (d.Tm j) b
   ·obtain⟨k1,k2,k3,k4⟩:=abj b hb ht
    exact .inl ⟨by rw[k3];exact hs,by rw[Zt b k2,hag b k2],by omega,.inr hb⟩
   ·exact .inr ⟨hs,hb,ht,acw b ht⟩
 have aah:∀b,ei (d.M (kb2 b)) b→(ei (d.M' j) b∧μ2 b=μ' b∧b<(d.M (j+1)).length∧(Tch d j b∨il (d.Tm j) b))∨
   (ei (d.M (kb b)) b∧¬il (d.Tm j) b∧¬Tch d j b∧μ2 b=μ b):=by
  intro b hb;obtain⟨s,h,hso⟩:=hb;rcases acx b _ h (aeD.afa hso) with⟨g1,g2⟩ | ⟨g1,g2⟩
  ·exact .inl ⟨⟨s,g1,hso⟩,g2⟩
  ·exact .inr ⟨⟨s,g1,hso⟩,g2⟩
 have YW:∀b,ei (d.Tm j) b→ei (d.M (kb b)) b:=by intro b hb;obtain⟨k1,k2⟩:=wI hA hI hS ho hr hj (kV hb);refine(kW k2).1 ?_;obtain⟨s,h,hso⟩:=hb;exact⟨s,qg hA ho h (aeD.afa hso),hso⟩
 have abk:∀b s,(d.M (kb b))[b]? =some s→s≠ .kO→(μ b).blk<w.heap.size:=fun b s hs PP=>(hI.slot b s hs).afk PP
 refine⟨μ2,kb2,kt2,⟨Nat.le_trans hI.aeI XZ.size,?_,?_,?_,?_,?_,?_,?_,?_,?_,?_,XZ.os.trans hI.os,XZ.tape.trans hI.tape,Nat.le_trans hI.drawn XZ.drawn,XZ.output.trans hI.output,Nat.le_trans hI.size XZ.size,?_,?_⟩⟩
 ·
  intro b;by_cases ht:Tch d j b
  ·rw[aa1 b ht];omega
  ·rw[aa2 b ht];exact hI.afZ b
 ·
  intro b i hi hti;obtain⟨oi,Zm⟩:=yL hi;by_cases ht:Tch d j b
  ·rw[aa1 b ht]
   by_cases Zp:i=j
   ·subst Zp;simp
   ·have:=ni hA hS ho hr hj hi (D.sep i oi b Zm Zp hti.2 hti.1 (.inl ⟨ht.2,ht.1⟩))
    constructor
    ·rintro (h | h)
     ·have:=this.1 h;omega
     ·omega
    ·intro h;exact .inl (this.2 (by omega))
  ·rw[aa2 b ht]
   have Zp:i≠j:=fun e=>ht (e▸hti)
   rw[←hI.afB b i hi hti];constructor
   ·rintro (h | h)
    ·exact h
    ·exact absurd h Zp
   ·exact .inl
 ·
  intro b;by_cases ht:Tch d j b
  ·rw[aa1 b ht];exact .inr ht
  ·rw[aa2 b ht];exact hI.af0 b
 ·
  intro b s hs;by_cases h0:s=.kO
  ·subst h0;trivial
  by_cases ht:Tch d j b
  ·rw[aa1 b ht] at hs ⊢
   have h1:=hH.slot b s (by rw[←D.ag4 b ht.1];exact hs);rw[aaq b ht.2,D.ag3];exact h1.mono (Nat.le_refl _) (fun x hx=>aaq x (by rw[D.ag3];exact hx)) fun _=>rfl
  ·rw[aa2 b ht] at hs ⊢
   have Yp:=hI.slot b s hs;rw[acw b ht];by_cases hb:il (d.Tm j) b
   ·obtain⟨k1,k2,k3,k4⟩:=abj b hb ht
    have h1:=hH.slot b s (by rw[k3];exact hs);rw[hag b k2] at h1;have hlk:=hlj (kb b) k1;have h2:=Yp.lower (fun x hx=>hag x (by omega)) h1;exact h2.mono (Nat.le_refl _) (fun x hx=>Zt x (by omega)) fun _=>rfl
   ·have acf:w'.heap[(μ b).blk]? =w.heap[(μ b).blk]? :=by
     refine XZ.frame _ (Yp.afk h0) fun b1 hb1=>?_
     refine hI.sep b1 b s (YW b1 hb1) hs h0 ?_;rintro rfl;exact hb (kV hb1)
    have h2:aeO μ (d.M (kb b)).length base w' (μ b) s:=Yp.mono (Nat.le_refl _) (fun _ _=>rfl) fun _=>acf
    rcases kbS b with h3 | ⟨h3,h4,h5,h6⟩
    ·refine h2.mono (Nat.le_refl _) (fun x hx=>Zt x ?_) fun _=>rfl
     rw[h3] at hx;omega
    ·obtain⟨ok,XW⟩:=yL h5
     have Zn:kb b-1+1=kb b:=by omega
     refine h2.change (ok:=d.ok (kb b-1)) (fun x _ hx=>acv (kb b) h3 h4 h5 x hx) ?_;exact(hA _ ok XW).aha b s h6.1 (by rw[Zn];exact hs)
 ·
  intro b b' s' hb UV PP YN;rcases aah b hb with⟨g1,g2,_,_⟩ | ⟨g1,g2,g3,g4⟩<;>rcases acx b' s' UV PP with⟨k1,k2,k3,k4⟩ | ⟨k1,k2,k3,k4⟩
  ·rw[g2,k2];exact hH.sep b b' s' g1 k1 PP YN
  ·rw[g2,k4]
   have A':=abk b' s' k1 PP;by_cases abx:(μ' b).blk<w.heap.size
   ·obtain⟨b0,h0,h1⟩:=XZ.owner b g1 abx
    rw[←h1];refine hI.sep b0 b' s' (YW b0 h0) k1 PP ?_;rintro rfl;exact k2 (kV h0)
   ·omega
  ·rw[g4,k2]
   by_cases A':b' <(d.M j).length
   ·have Ze:il (d.Tm j) b' :=by
     rcases k4 with ht | hb1
     ·exact D.agR b' ht.1 A'
     ·exact hb1
    obtain⟨q1,q2⟩:=wI hA hI hS ho hr hj Ze;obtain⟨s0,hs0,acy⟩:=Ze;rw[hag b' A'];exact hI.sep b b' s0 g1 (by rw[←q2];exact qg hA ho hs0 acy) acy YN
   ·have ht' :=D.ag9 b' (by omega)
    have hM1:(d.M (j+1))[b']? =some s' :=by rw[D.ag4 b' ht'];exact k1
    have YV:=D.agS b' s' (by omega) hM1 PP;have abh :ei (d.M' j) b' :=(kW (D.ag4 b' ht')).1 YV;have hbl:(μ b).blk<w.heap.size:=by obtain⟨s,h,hso⟩:=g1;exact abk b _ h (aeD.afa hso)
    by_cases abx:(μ' b').blk<w.heap.size
    ·obtain⟨b0,h0,h1⟩:=XZ.owner b' abh abx
     rw[←h1];have hob:=YW b0 h0;have ac9:b≠b0:=by rintro rfl;exact g2 (kV h0)
     obtain⟨s,h,hso⟩:=hob;exact hI.sep b b0 _ g1 h (aeD.afa hso) ac9
    ·omega
  ·rw[g4,k4];exact hI.sep b b' s' g1 k1 PP YN
 ·
  intro t;show(if o.dst=some t then j+1 else kt t)≤ops.size
  split
  ·omega
  ·exact hI.ags t
 ·
  intro t i oi Zm hd;show(S i∨i=j)↔i<(if o.dst=some t then j+1 else kt t)
  have hi:i<ops.size:=(Array.getElem?_eq_some_iff.1 Zm).1;by_cases ht:o.dst=some t
  ·rw[if_pos ht]
   by_cases Zp:i=j
   ·subst Zp;simp
   ·have:=ni hA hS ho hr hj hi (D.aho i oi t Zm Zp ht hd)
    constructor
    ·rintro (h | h)
     ·have:=this.1 h;omega
     ·omega
    ·intro h;exact .inl (this.2 (by omega))
  ·rw[if_neg ht]
   have Zp:i≠j:=by rintro rfl;rw[ho] at Zm;cases Zm;exact ht hd
   rw[←hI.afD t i oi Zm hd];constructor
   ·rintro (h | h)
    ·exact h
    ·exact absurd h Zp
   ·exact .inl
 ·
  intro t;show(if o.dst=some t then j+1 else kt t)=0∨∃oi,ops[(if o.dst=some t then j+1 else kt t)-1]? =some oi∧oi.dst=some t
  by_cases ht:o.dst=some t
  ·rw[if_pos ht];exact .inr ⟨o,by simpa using ho,ht⟩
  ·rw[if_neg ht];exact hI.af1 t
 ·
  intro t;show aeA μ2 (d.M (if o.dst=some t then j+1 else kt t)).length (ab (d.E (if o.dst=some t then j+1 else kt t)) t) ((a.put o.dst V).tmps.getD t undef)
  by_cases ht:o.dst=some t
  ·rw[if_pos ht,D.env,ht]
   have A':t<a.tmps.size:=by have:=D.dst;unfold Ct at this;rw[ht] at this;simp only[decide_eq_true_eq] at this;rw[hN];exact this
   have e1:ab (afp (d.E j) (some t) (d.v j)) t=d.v j:=by simp[afp,ab]
   have e2:(a.put (some t) V).tmps.getD t undef=V:=by simp[Act.put,A']
   rw[e1,e2,D.ag3];exact hV.mono (Nat.le_refl _) fun x hx=>aaq x (by rw[D.ag3];exact hx)
  ·rw[if_neg ht]
   have e2:(a.put o.dst V).tmps.getD t undef=a.tmps.getD t undef:=by
    cases hd:o.dst with
    |none=>rfl
    |some x=>
     have PP:x≠t:=by rintro rfl;exact ht hd
     simp[Act.put,Array.getElem?_setIfInBounds_ne PP]
   rw[e2];have Yp:=hI.tmp t;rcases Nat.eq_zero_or_pos (kt t) with h0 | h0
   ·rw[h0] at Yp ⊢
    exact Yp.mono (Nat.le_refl _) fun x hx=>Zt x (by omega)
   ·rcases hI.af1 t with h1 | ⟨oi,h1,h2⟩
    ·omega
    ·have hSk:S (kt t-1):=(hI.afD t _ oi h1 h2).2 (by omega)
     have ZK:kt t-1<ops.size:=(Array.getElem?_eq_some_iff.1 h1).1;refine Yp.change (ok:=d.ok (kt t-1)) (fun x _ hx=>acv (kt t) h0 hSk ZK x hx) ?_;have he:=(hA _ oi h1).env;have Zn:kt t-1+1=kt t:=by omega
     rw[Zn,h2] at he;rw[he];simp only[afp,ab,if_true];exact(hA _ oi h1).agr
 ·
  intro b hb;rw[Zt b (by omega)];exact hI.agree b hb
 ·
  intro k hk hf;rw[XZ.frame k (Nat.lt_of_lt_of_le hk hI.size) ?_,hI.frame k hk hf];intro b hb he;obtain⟨b0,h1,h2⟩:=hI.owner b (YW b hb) (by rw[he];exact hk);exact hf b0 h1 (h2.trans he)
 ·
  intro b hb A';rcases aah b hb with⟨g1,g2,_,_⟩ | ⟨g1,g2,g3,g4⟩
  ·rw[g2] at A' ⊢
   obtain⟨b0,h0,h1⟩:=XZ.owner b g1 (Nat.lt_of_lt_of_le A' hI.size);obtain⟨b1,h2,h3⟩:=hI.owner b0 (YW b0 h0) (by rw[h1];exact A');exact⟨b1,h2,h3.trans h1⟩
  ·rw[g4] at A' ⊢
   exact hI.owner b g1 A'
end
end Go.Eng
namespace Go.Eng
variable{listed:Array Bool}
section
variable {P:Program}{T:TypeId→Option TyI}{tp:Bool}{N m0:Nat}{ops:Array Oper}{d:ae9}
def left(ops:Array Oper) (listed:Array Bool):Nat:=((List.range ops.size).filter fun i=> !listed.getD i true).length
def sn(listed:Array Bool) (i:Nat):Prop:=listed.getD i false=true
theorem yH{l:List Nat}{p q:Nat→Bool}(h:∀i∈l,q i=true→p i=true){j:Nat}(hj:j∈l)(h1:p j=true)(h2:q j=false):(l.filter q).length<(l.filter p).length:=by
 induction l with
 |nil=>cases hj
 |cons x xs ih=>
  have X7:∀(l:List Nat),(∀i∈l,q i=true→p i=true)→(l.filter q).length≤(l.filter p).length:=by
   intro l hl;induction l with
   |nil=>simp
   |cons y ys ih2=>
    have:=ih2 (fun i hi=>hl i (by simp[hi]));have hy:=hl y (by simp);simp only[List.filter_cons];cases hq:q y<;>cases hp:p y<;>simp_all<;>omega
  have hxs:=X7 xs (fun i hi=>h i (by simp[hi]));have hx:=h x (by simp);simp only[List.filter_cons];cases hj with
  |head=>rw[h1,h2];simp;omega
  |tail _ hm=>
   have:=ih (fun i hi=>h i (by simp[hi])) hm;cases hq:q x<;>cases hp:p x<;>simp_all<;>omega
theorem S8{i:Nat}(hi:i<listed.size):sn (listed.setIfInBounds i true)=fun k=>sn listed k∨k=i:=by
 funext k;apply propext;unfold sn;by_cases hk:i=k
 ·subst hk;simp[hi]
 ·rw[getD_set_ne false hk]
  constructor
  ·exact .inl
  ·rintro (h | h)
   ·exact h
   ·exact absurd h.symm hk
theorem Pk(hA:rH P T N ops d)(Yw:listed.size=ops.size)(h:Region.ready .any ops listed=[]):∀i,i<ops.size→sn listed i:=by
 intro i;induction i using Nat.strongRecOn with
 |_ i ih=>
  intro hi;obtain⟨o,ho⟩:=yL hi;cases hl:listed.getD i true with
  |true=>
   unfold sn;simp only[Array.getD_eq_getD_getElem?] at hl ⊢;rw[Array.getElem?_eq_getElem (by omega)] at hl ⊢;exact hl
  |false=>
   exfalso;have:i∈Region.ready .any ops listed:=mem_ready.2 ⟨hl,o,ho,fun e he hb=>ih e.on ((hA i o ho).ag5 e he hb) (by have:=(hA i o ho).ag5 e he hb;omega)⟩;rw[h] at this;cases this
theorem Uu(hA:rH P T N ops d){base:Nat}{μ0 μ:Nat→Place}{w0 w:World}{S:Nat→Prop}{kb kt:Nat→Nat}{tmps:Array Value}(Yt:m0≤(d.M 0).length)(hI:agk d ops base μ0 w0 S μ kb kt tmps w)(hS:∀i,i<ops.size→S i):
  aeL base μ (d.M ops.size) w∧ae6 μ (d.M ops.size).length (d.E ops.size) tmps∧m0≤(d.M ops.size).length∧Step m0 μ0 (d.M 0) w0 μ (d.M ops.size) w:=by
 have hb:∀b,(d.M ops.size)[b]? =(d.M (kb b))[b]? :=fun b=>Dv hA b (kb b) _ (hI.afZ b) (Nat.le_refl _) fun i h1 h2 h3=>by have:=(hI.afB b i h2 h3).1 (hS i h2);omega
 have hl:∀k,k≤ops.size→(d.M k).length≤(d.M ops.size).length:=fun k hk=>yZ hA k _ hk (Nat.le_refl _)
 have h0:=hl 0 (Nat.zero_le _);refine⟨⟨hI.aeI,fun b s hs=>?_,fun b b' s' hb1 Yl PP YN=>?_⟩,fun t=>?_,by omega,⟨by omega,fun b hb1=>hI.agree b (by omega),hI.os,hI.tape,hI.output,hI.size,hI.frame,fun b hb1 A'=>?_,hI.drawn⟩⟩
 ·exact(hI.slot b s (by rw[←hb];exact hs)).mono (hl _ (hI.afZ b)) (fun _ _=>rfl) fun _=>rfl
 ·exact hI.sep b b' s' ((kW (hb b)).1 hb1) (by rw[←hb];exact Yl) PP YN
 ·have he:=Dg hA t (kt t) ops.size (hI.ags t) (Nat.le_refl _) fun i oi h1 h2 h3 h4=>by have:=(hI.afD t i oi h3 h4).1 (hS i h2);omega
  rw[he];exact(hI.tmp t).mono (hl _ (hI.ags t)) fun _ _=>rfl
 ·exact hI.owner b ((kW (hb b)).1 hb1) A'
theorem AB(hm:P.follows .mixedOrders=true)(hT:cJ P T){id:Nat}{st J' :St}{Q:Exit→St→Prop}(hA:rH P T N ops d)(hE:d.E 0=st.env)(hM:d.M 0=st.mem)(aby :J' =⟨d.E ops.size,d.M ops.size⟩)(hq:Q .normal J'):
  AWP P tp N m0 (.region id ops true) st Q:=by
 intro ro h0 base μ0 w0 a0 hro hH hR hN hdf Yt;refine wpIn_region_any hm ?_;have Zg:∀(listed:Array Bool) (a:Act) (w:World) μ kb kt,listed.size=ops.size→a.tmps.size=N→a.defers=a0.defers→
   agk d ops base μ0 w0 (sn listed) μ kb kt a.tmps w→Region.ready .any ops listed=[]→
   ∃J' μ',aeL base μ' J'.mem w∧ae6 μ' J'.mem.length J'.env a.tmps∧a.tmps.size=N∧MOk P base h0 w a.defers∧m0≤J'.mem.length∧Step m0 μ0 st.mem w0 μ' J'.mem w∧Q .normal J' :=by
  intro listed a w μ kb kt Yw ha hd hI hr;obtain⟨h1,h2,h3,h4⟩:=Uu (m0:=m0) hA (by rw[hM];exact Yt) hI (Pk hA Yw hr);rw[hM] at h4;exact⟨J',μ,by rw[aby];exact h1,by rw[aby];exact h2,ha,by rw[hd];exact hdf.step hH h4,by rw[aby];exact h3,by rw[aby];exact h4,hq⟩
 have key:∀(fuel:Nat) (listed:Array Bool) (a:Act) (w:World) μ kb kt,listed.size=ops.size→left ops listed≤fuel→a.tmps.size=N→a.defers=a0.defers→
   ua ops (sn listed)→agk d ops base μ0 w0 (sn listed) μ kb kt a.tmps w→
   wpAnyIn (Fr ro) 0 P .any ops (fun e a' w' =>∃J' μ',aeL base μ' J'.mem w' ∧ae6 μ' J'.mem.length J'.env a'.tmps∧a'.tmps.size=N∧MOk P base h0 w' a'.defers∧m0≤J'.mem.length∧
    Step m0 μ0 st.mem w0 μ' J'.mem w' ∧Q e J') fuel listed a w:=by
  intro fuel;induction fuel with
  |zero=>
   intro listed a w μ kb kt Yw hl ha hd hC hI;have hr:Region.ready .any ops listed=[]:=by
    apply List.eq_nil_iff_forall_not_mem.2;intro i hi;obtain⟨h1,o,ho,_⟩:=mem_ready.1 hi;have A':i<ops.size:=(Array.getElem?_eq_some_iff.1 ho).1;have:i∈(List.range ops.size).filter fun i=> !listed.getD i true:=by rw[List.mem_filter];exact⟨by simpa using A',by rw[h1];rfl⟩
    have h0:((List.range ops.size).filter fun i=> !listed.getD i true)=[]:=List.eq_nil_of_length_eq_zero (Nat.le_zero.1 hl);rw[h0] at this;cases this
   exact⟨hr,Zg listed a w μ kb kt Yw ha hd hI hr⟩
  |succ fuel ih=>
   intro listed a w μ kb kt Yw hl ha hd hC hI;refine⟨Zg listed a w μ kb kt Yw ha hd hI,fun i hi=>?_⟩;obtain⟨h1,o,ho,Yu⟩:=mem_ready.1 hi;have A':i<ops.size:=(Array.getElem?_eq_some_iff.1 ho).1;have hnS:¬sn listed i:=by unfold sn;simp only[Array.getD_eq_getD_getElem?] at h1 ⊢;rw[Array.getElem?_eq_getElem (by omega)] at h1 ⊢;simp only[Option.getD_some] at h1 ⊢;rw[h1];simp
   have acz:=S8 (listed:=listed) (i:=i) (by omega);have hC' :ua ops (sn (listed.setIfInBounds i true)):=by
    rw[acz];intro j oj hoj hSj e he hb;rcases hSj with hSj | rfl
    ·exact .inl (hC j oj hoj hSj e he hb)
    ·rw[ho] at hoj;cases hoj;exact .inl (Yu e he hb)
   have acg:left ops (listed.setIfInBounds i true)≤fuel:=by
    have:left ops (listed.setIfInBounds i true)<left ops listed:=by
     unfold left;refine yH (fun k _ hk=>?_) (j:=i) (by simpa using A') (by rw[h1];rfl) (by simp[Yw,A']);by_cases hik:i=k
     ·subst hik;simp[Yw,A'] at hk
     ·rw[getD_set_ne true hik] at hk;exact hk
    omega
   have D:=hA i o ho;have hHs:=S6 hA hI hC ho Yu hnS;have hGw:GOk P base w:=by
    refine⟨hdf.afH.below,?_⟩;have:=hdf.afH.tab;unfold Lib.TabIs at this ⊢;rw[←this];refine NR fun k hk=>hI.frame k ?_ fun b hb=>?_
    ·have:=hdf.afH.below;have:=hH.aeI;omega
    ·rw[hM] at hb
     have:=ND hH hb;have:=hdf.afH.below;omega
   have hRs:=S7 hA hI hC ho Yu hnS;have next:∀V w' μ',aeA μ' (d.M' i).length (d.v i) V→aeL base μ' (d.M' i) w' →Step (d.Tm i).length μ (d.Tm i) w μ' (d.M' i) w' →
     wpAnyIn (Fr ro) 0 P .any ops (fun e a' w' =>∃J' μ',aeL base μ' J'.mem w' ∧ae6 μ' J'.mem.length J'.env a'.tmps∧a'.tmps.size=N∧MOk P base h0 w' a'.defers∧m0≤J'.mem.length∧
      Step m0 μ0 st.mem w0 μ' J'.mem w' ∧Q e J') fuel (listed.setIfInBounds i true) (a.put o.dst V) w' :=by
    intro V w' μ' q1 q2 q3;obtain⟨μ2,kb2,kt2,hI2⟩:=UF hA hI hC ho Yu hnS ha q1 q2 q3;rw[←acz] at hI2;exact ih _ _ _ μ2 kb2 kt2 (by simp[Yw]) acg (by rw[ff];exact ha) (by rw[fH];exact hd) hC' hI2
   unfold wpOpIn;simp only[ho];rw[oA hRs D.wanted];cases hw:d.wb i with
   |false=>
    obtain⟨e1,e2⟩:=D.skip hw;simp only[Bool.false_eq_true,if_false];exact⟨fun _ _=>trivial,next undef w μ (by rw[e1];simp[aeA,aeC,undef]) (by rw[e2];exact hHs) (by rw[e2];exact .refl (Nat.le_refl _))⟩
   |true=>
    simp only[if_true];exact qD hT hGw hHs hRs ha D.dst (D.step hw) fun V w' μ' q1 q2 q3 q4=>next V w' μ' q1 q2 q4
 have hI0:agk d ops base μ0 w0 (sn (Array.replicate ops.size false)) μ0 (fun _=>0) (fun _=>0) a0.tmps { w0 with drawn:=w0.drawn+1 }:=by
  have hno:∀i,¬sn (Array.replicate ops.size false) i:=by intro i;unfold sn;simp only[Array.getD_eq_getD_getElem?,Array.getElem?_replicate];split<;>simp
  have hH' :aeL base μ0 (d.M 0) { w0 with drawn:=w0.drawn+1 }:=by rw[hM];exact hH.afz rfl
  refine⟨hH'.aeI,fun _=>Nat.zero_le _,fun b i _ _=>⟨fun h=>absurd h (hno i),fun h=>by omega⟩,fun _=>.inl rfl,fun b s hs=>hH'.slot b s hs,
   fun b b' s' =>hH'.sep b b' s',fun _=>Nat.zero_le _,fun t i oi _ _=>⟨fun h=>absurd h (hno i),fun h=>by omega⟩,fun _=>.inl rfl,fun t=>?_,fun _ _=>rfl,
   rfl,rfl,Nat.le_succ _,rfl,Nat.le_refl _,fun _ _ _=>rfl,fun b hb _=>⟨b,hb,rfl⟩⟩
  rw[hM,hE];exact hR t
 refine key ops.size _ a0 _ μ0 _ _ (by simp) ?_ hN rfl ?_ hI0
 ·unfold left
  exact Nat.le_trans (List.length_filter_le _ _) (by simp)
 ·intro j o _ hS
  exfalso;unfold sn at hS;simp only[Array.getD_eq_getD_getElem?,Array.getElem?_replicate] at hS;split at hS<;>simp at hS
end
end Go.Eng
namespace Go.Eng
def AX:Exit→Option (Option Code)
 |.normal=>some none
 |.ret=>some (some .ret)
 |.exit id=>some (some (.exit id))
 |_=>none
def qi:Option Code→Option Exit
 |none=>some .normal
 |some .ret=>some .ret
 |some (.exit id)=>some (.exit id)
 |_=>none
def mK(j:Option Code):LoopState:=if j.isNone then .ready else .done
def xi:List Tmp→List AV→Env→Env
 |t::ts,v::vs,env=>xi ts vs ((t,v)::env)
 |_,_,env=>env
variable{L:Loop}{m0:Nat}{r:afv}
section
variable {P:Program}{T:TypeId→Option TyI}{μ:Nat→Place}{mem:Mem}{base:Nat}{w:World}
theorem aeL.alloc(hH:aeL base μ mem w)(o:Obj):aeL base μ mem (w.alloc o):=by refine⟨by simp;have:=hH.aeI;omega,fun b s hs=>?_,hH.sep⟩;exact(hH.slot b s hs).mono (Nat.le_refl _) (fun _ _=>rfl) fun PP=>gJ w o ((hH.slot b s hs).afk PP)
theorem Step.alloc(h:m0≤mem.length)(o:Obj):Step m0 μ mem w μ mem (w.alloc o):=
 ⟨h,fun _ _=>rfl,rfl,rfl,rfl,by simp,fun k hk _=>gJ w o hk,fun b hb _=>⟨b,hb,rfl⟩,Nat.le_refl _⟩
theorem E2{n:Nat}:∀{ts:List Tmp}{vs:List AV}{Vs:List Value}{env:Env}{tmps:Array Value},aeC μ n vs Vs→ae6 μ n env tmps→vs.length=ts.length→(∀t∈ts,t<tmps.size)→
  ae6 μ n (xi ts vs env) ((ts.zip Vs).foldl (fun tmps (t,a)=>tmps.setIfInBounds t a) tmps)∧((ts.zip Vs).foldl (fun tmps (t,a)=>tmps.setIfInBounds t a) tmps).size=tmps.size
 | [],[],Vs,env,tmps,hv,ht,_,_=>by exact⟨ht,rfl⟩
 |t::ts,v::vs,Vs,env,tmps,hv,ht,hl,hb=>by simp only[aeC] at hv;obtain⟨U,Us,rfl,h1,h2⟩:=hv;simp only[xi,List.zip_cons_cons,List.foldl_cons];have:=ae6.put (a:={ tmps:=tmps,defers:=[] }) ht (hb t (by simp)) h1;simp only[Act.put] at this;have r:=E2 (env:=(t,v)::env) (tmps:=tmps.setIfInBounds t U) h2 this (by simpa using hl) (fun x hx=>by simpa using hb x (by simp[hx]));exact⟨r.1,r.2.trans (by simp)⟩
 | [],_::_,_,_,_,_,_,hl,_=>by simp at hl
 |_::_,[],_,_,_,_,_,hl,_=>by simp at hl
theorem iw{l:Nat}(h:w.heap[l]? =some (.loop L)):(Instr.getLoop l).run P w=.ok L w:=by
 have hg:(getObj l).run P w=.ok (.loop L) w:=by simp[getObj,Sem.run,h]
 simp only[Instr.getLoop,Sem.run_bind,hg,Result.andThen_ok];rfl
theorem ve{base:Nat}{b:Nat}{r' :afv}{L' :Loop}(hH:aeL base μ mem w)(hb:mem[b]? =some (.loop r))(hL:w.heap[(μ b).blk]? =some (.loop L))(hr:afW μ mem.length r' L'):
  (setObj (μ b).blk (.loop L')).run P w=.ok () { w with heap:=w.heap.setIfInBounds (μ b).blk (.loop L') }∧
  aeL base μ (mem.set b (.loop r')) { w with heap:=w.heap.setIfInBounds (μ b).blk (.loop L') }∧
  Step mem.length μ mem w μ (mem.set b (.loop r')) { w with heap:=w.heap.setIfInBounds (μ b).blk (.loop L') }:=by
 have A':=(Array.getElem?_eq_some_iff.1 hL).1;have hbl:=(gL hb);refine⟨rC hL (by intro c e f h;cases h),hH.write hb (PU hb) (fun _=>⟨_,List.getElem?_set_self hbl,rfl⟩) rfl rfl rfl rfl (by simp) (fun k hk=>Array.getElem?_setIfInBounds_ne (Ne.symm hk)) ?_⟩;simp only[aeO];have:=hH.slot b _ hb;simp only[aeO] at this;obtain⟨_,_,h2,_⟩:=this;exact⟨L',by simp[A'],h2,hr⟩
theorem afm.intro{b:Nat}{args:List AV}{R:AV→Mem→Prop}(hb:mem[b]? =some (.loop r))(ac':r.st=.ready)(hl:args.length=r.ps.toList.length)(hps:∀t∈r.ps.toList,t<r.N)(h:AWP P false r.N mem.length r.assign ⟨xi r.ps.toList args r.env,mem⟩ fun e st1=>e=.normal∧∃r1,st1.mem[b]? =some (.loop r1)∧r1.st=.ready∧
   AWP P false r.N mem.length r.body ⟨st1.env,st1.mem.set b (.loop { r1 with st:=.busy })⟩ fun e st2=>∃r2 j ks,AX e=some j∧st2.mem[b]? =some (.loop r2)∧Ka mem.length st2.mem.length ks=true∧
    R (.bool j.isNone) (aeK mem.length ks (st2.mem.set b (.loop { r2 with st:=mK j,afe:=j })))):
  afm P b args mem R:=by
 intro base μ w Vs hG hH hV hbl;have YT:=hH.slot b _ hb;simp only[aeO] at YT;obtain⟨L,h1,h2,h3⟩:=YT;have F':Vs.length=L.params.size:=by rw[hV.length,hl,h3.ps];simp
 refine⟨L.fn,(L.params.zip ⟨Vs⟩).foldl (fun tmps (t,a)=>tmps.setIfInBounds t a) L.tmps,L.assign,L.body,?_,?_⟩
 ·simp only[Instr.yield,Sem.run_bind,iw h1,Result.andThen_ok]
  rw[if_neg (by simp[F'])];rfl
 ·refine roundIn_of_wpIn (F:=Fence.wide) trivial ?_
  have aa3:(L.params.zip ⟨Vs⟩).foldl (fun tmps (t,a)=>tmps.setIfInBounds t a) L.tmps=(r.ps.toList.zip Vs).foldl (fun tmps (t,a)=>tmps.setIfInBounds t a) L.tmps:=by rw[h3.ps,←Array.foldl_toList];simp
  have XY:=E2 (ts:=r.ps.toList) hV h3.tmps hl (fun t ht=>by rw[h3.size];exact hps t ht);rw[h3.assign,h3.body];refine wpIn_mono (F:=Fr (some (μ b).blk)) (h (some (μ b).blk) w.heap.size base μ w ⟨_,[]⟩ (fun h=>by cases h) hH (by rw[aa3];exact XY.1) (by rw[aa3,XY.2];exact h3.size) (MOk.nil w hG hH.aeI (Nat.le_refl _)) (Nat.le_refl _)) ?_;rintro e a1 w1 ⟨st1,μ1,c1,c2,c3,c4,c5,c6,rfl,r1,c7,c8,hbody⟩;have aaO:=c1.slot b _ c7;simp only[aeO] at aaO;obtain⟨L1,d1,d2,d3⟩:=aaO;have hμ:μ1 b=μ b:=c6.agree b hbl;rw[hμ] at d1;obtain⟨e1,e2,e3⟩:=ve (P:=P) (r' :={ r1 with st:=.busy }) (L' :={ L1 with state:=.busy }) c1 c7 (by rw[hμ];exact d1) { d3 with st:=rfl };rw[hμ] at e1 e2 e3;refine⟨_,?_,wpIn_mono (F:=Fr (some (μ b).blk)) (hbody (some (μ b).blk) w.heap.size base μ1 _ a1 (fun h=>by cases h) e2 (by rw[List.length_set];exact c2) c3 (c4.step c1 e3) (by rw[List.length_set];exact c5)) ?_⟩
  ·simp only[Instr.beginRound,Sem.run_bind,iw d1,Result.andThen_ok,e1]
   rw[d3.st,c8];rfl
  ·rintro e a2 w2 ⟨st2,μ2,f1,f2,f3,f4,f5,f6,r2,j,ks,f7,f8,f9,f10⟩
   have aa4:=f1.slot b _ f8;simp only[aeO] at aa4;obtain⟨L2,g1,g2,g3⟩:=aa4;have hμ2:μ2 b=μ b:=by rw[f6.agree b hbl,hμ]
   rw[hμ2] at g1;obtain⟨k1,k2,k3⟩:=ve (P:=P) (r' :={ r2 with st:=mK j,afe:=j }) (L' :={ L2 with state:=mK j,pending:=j }) f1 f8 (by rw[hμ2];exact g1) { g3 with st:=rfl,afe:=rfl };rw[hμ2] at k1 k2 k3;have Yi:(Instr.endRound (μ b).blk j).run P w2=.ok (.bool j.isNone) { w2 with heap:=w2.heap.setIfInBounds (μ b).blk (.loop { L2 with state:=mK j,pending:=j }) }:=by unfold mK at k1 ⊢;simp only[Instr.endRound,Sem.run_bind,iw g1,Result.andThen_ok,k1];rfl
   obtain⟨p1,p2,p3⟩:=k2.aeK (by rw[List.length_set];exact f5) (by rw[List.length_set];exact f9);have hS:Step mem.length μ mem w _ _ _:=((c6.trans (e3.mono c5)).trans f6).trans ((k3.mono f5).trans p3);have Z5:∃V v mem' μ',(Ending.returned (.bool j.isNone):Ending)=.returned V∧aeA μ' mem'.length v V∧aeL base μ' mem' { w2 with heap:=w2.heap.setIfInBounds (μ b).blk (.loop { L2 with state:=mK j,pending:=j }) }∧
     Step mem.length μ mem w μ' mem' { w2 with heap:=w2.heap.setIfInBounds (μ b).blk (.loop { L2 with state:=mK j,pending:=j }) }∧R v mem' :=
    ⟨_,.bool j.isNone,_,_,rfl,by simp[aeA],p1,hS,f10⟩
   cases e<;>simp only[AX,Option.some.injEq,reduceCtorEq] at f7<;>subst f7<;>exact⟨_,_,Yi,Z5⟩
theorem EY{N:Nat}{g:Operand}{ps:Array Tmp}{assign body:Code}{st:St}{Q:Exit→St→Prop}{f:FuncId}{caps:List AV}(hg:get st.env g=.func f caps)(h:afb P f (.yield st.mem.length::caps) (st.mem++[.loop ⟨.ready,none,st.env,N,ps,assign,body⟩]) fun _ Y8=>∃r2 e,Y8[st.mem.length]? =some (.loop r2)∧r2.st≠ .busy∧qi r2.afe=some e∧
   Q e ⟨st.env,Y8.set st.mem.length (.loop { r2 with st:=.exhausted })⟩):
  AWP P true N m0 (.rangeFunc g ps assign body) st Q:=by
 intro ro h0 base μ w a hro hH hR hN hdf hm;cases hro rfl;have hgv:=aW hR g;rw[hg] at hgv;simp only[aeA] at hgv;obtain⟨Us,hU,hus⟩:=hgv;refine wpIn_rangeFunc fun fn _=>?_
 let o1:Obj:=.deferred (some [])
 let w1:=w.alloc o1
 let L:Loop:={ state:=.ready,pending:=none,fn,tmps:=a.tmps,params:=ps,assign,body,defers:=w.heap.size }
 have hH1:aeL base μ st.mem w1:=hH.alloc o1;have hS1:Step st.mem.length μ st.mem w μ st.mem w1:=.alloc (Nat.le_refl _) o1;have Yw:w1.heap.size=w.heap.size+1:=by simp[w1]
 obtain⟨hH2,hS2⟩:=hH1.push (.loop L) (.loop ⟨.ready,none,st.env,N,ps,assign,body⟩) ⟨w1.heap.size,0,0,0⟩ rfl (by simp only[aeO];exact⟨L,heap_alloc_new w1 _,hH1.aeI,rfl,rfl,rfl,rfl,rfl,hN,hR.mono (Nat.le_succ _) fun b hb=>vp hb⟩)
 have acA:=hS1.trans hS2;have hμb:(upd μ st.mem.length ⟨w1.heap.size,0,0,0⟩ st.mem.length).blk=w1.heap.size:=by rw[dW]
 have hM:MOk P base h0 (w1.alloc (.loop L)) ({ target:=.collected w.heap.size,args:= #[] }::a.defers):=by
  have hd2:=(hdf.step hH acA);refine⟨hd2.afH,hd2.aeI,hd2.le,fun d hd=>?_,?_⟩
  ·rcases List.mem_cons.1 hd with rfl | hd
   ·refine⟨w.heap.size,rfl,hdf.le,?_⟩
    rw[gJ w1 _ (by omega)];exact heap_alloc_new w o1
   ·exact hd2.each d hd
  ·simp only[List.map_cons,List.nodup_cons]
   refine⟨?_,hdf.nodup⟩;intro hm;obtain⟨d,hd,he⟩:=List.mem_map.1 hm;obtain⟨r,e,_,h2⟩:=hdf.each d hd;rw[e] at he;simp only[Target.collected.injEq] at he;have:=(Array.getElem?_eq_some_iff.1 h2).1;omega
 have aap:=h.2 base _ (w1.alloc (.loop L)) (.func (.yield w1.heap.size) #[] #[]::Us) hM.afH hH2
  (bo.2 ⟨by simp only[aeA,hμb];exact⟨by simp,trivial⟩,hus.mono (by simp) fun b hb=>vp hb⟩)
 refine⟨w1.heap.size,[{ target:=.collected w.heap.size,args:= #[] }],w1.alloc (.loop L),{ target:=.fn (.func f) ⟨Us⟩,args:= #[]++ #[.func (.yield w1.heap.size) #[] #[]] },w1.alloc (.loop L),f,⟨.func (.yield w1.heap.size) #[] #[]::Us⟩,w1.alloc (.loop L),?_,?_,fun _ _=>trivial,?_,fun h=>by simp[Fence.wide] at h,?_⟩
 ·simp only[Instr.enterLoop,Sem.run_bind,run_newObj,Result.andThen_ok,Sem.run_pure]
  rfl
 ·have hc:(#[Operand.const (.func (.yield w1.heap.size) #[] #[])]:Array Operand).map a.eval= #[.func (.yield w1.heap.size) #[] #[]]:=by simp[Act.eval]
  simp only[resolve,hU,Deferred.ofValue,hc];rfl
 ·simp only[invoke]
  rw[xj h.1];congr 2;apply Array.ext';simp
 ·refine yT.2 (aap.mono ?_)
  rintro e w3 ⟨V,v,Y8,μ2,rfl,q1,q2,q3,r2,e2,q4,q5,q6,q7⟩;have hbl:st.mem.length<(st.mem++[aeD.loop ⟨.ready,none,st.env,N,ps,assign,body⟩]).length:=by simp
  have hμ2:(μ2 st.mem.length).blk=w1.heap.size:=by rw[q3.agree _ hbl,hμb]
  have YT:=q2.slot _ _ q4;simp only[aeO] at YT;obtain⟨L2,g1,g2,g3⟩:=YT;obtain⟨k1,k2,k3⟩:=ve (P:=P) (r' :={ r2 with st:=.exhausted }) (L' :={ L2 with state:=.exhausted }) q2 q4 g1 { g3 with st:=rfl };rw[hμ2] at k1 k2 k3 g1;have hml:st.mem.length≤Y8.length:=Nat.le_trans (by simp) q3.len;have hS3:=acA.trans (q3.mono (m0:=st.mem.length) (by simp));have hS4:=hS3.trans (k3.mono hml);have post:∃J' μ',aeL base μ' J'.mem { w3 with heap:=w3.heap.setIfInBounds w1.heap.size (.loop { L2 with state:=.exhausted }) }∧ae6 μ' J'.mem.length J'.env a.tmps∧a.tmps.size=N∧
    MOk P base h0 { w3 with heap:=w3.heap.setIfInBounds w1.heap.size (.loop { L2 with state:=.exhausted }) } ({ target:=.collected w.heap.size,args:= #[] }::a.defers)∧m0≤J'.mem.length∧
    Step m0 μ st.mem w μ' J'.mem { w3 with heap:=w3.heap.setIfInBounds w1.heap.size (.loop { L2 with state:=.exhausted }) }∧Q e2 J' :=by
   refine⟨_,μ2,k2,?_,hN,(hM.step hH2 q3).step q2 k3,?_,hS4.mono hm,q7⟩
   ·show ae6 μ2 (Y8.set st.mem.length _).length st.env a.tmps
    rw[List.length_set];exact hR.mono hml fun b hb=>by rw[q3.agree b (by simp;omega),vp hb]
   ·show m0≤(Y8.set st.mem.length _).length
    rw[List.length_set];omega
  refine⟨r2.afe,{ w3 with heap:=w3.heap.setIfInBounds w1.heap.size (.loop { L2 with state:=.exhausted }) },?_,?_⟩
  ·simp only[Instr.endLoop,Sem.run_bind,iw g1,Result.andThen_ok]
   rw[g3.st];have hb:(r2.st==LoopState.busy)=false:=by cases hx:r2.st<;>first | rfl | exact absurd hx q5
   rw[hb];have ada:L2.pending=r2.afe:=g3.afe;simp only[Bool.false_eq_true,if_false,Sem.run_bind,Sem.run_pure,k1,Result.andThen_ok];rw[ada]
  ·cases hp:r2.afe with
   |none=>
    rw[hp] at q6;simp only[qi,Option.some.injEq] at q6;subst q6;exact post
   |some c=>
    rw[hp] at q6;cases c<;>simp only[qi,Option.some.injEq,reduceCtorEq] at q6
    ·subst q6;exact wpIn_exit post
    ·subst q6;exact wpIn_ret post
end
end Go.Eng
namespace Go.Eng
structure HS where
 v:AV
 pre:Option Mem
 new:Mem
def HS.mem(r:HS) (mem:Mem):Mem:=(r.pre.getD mem)++r.new
inductive Callee where
 |fn (f:FuncId)
 |yld (b:Nat)
abbrev adM:=Callee→List AV→Mem→Option HS
def jE(env:Env):Op→Option (Callee×List AV)
 |.call { callee:=.value x,args,argTypes:=_ }=>match get env x with
  |.func f caps=>some (.fn f,Ww env args++caps)
  |.yield b=>some (.yld b,Ww env args)
  |_=>none
 |_=>none
structure XS where
 env:Env
 mem:Mem
 aeS:Bool
def Ti:AV→List Nat
 |.ptr b _=>[b]
 |_=>[]
def bk:AV→List Nat
 |.slice b _ _ _=>[b]
 |_=>[]
def MZ:AV→List Nat
 |.map b=>[b]
 |_=>[]
def vu(env:Env):Op→List Nat
 |.store _ a _=>Ti (get env a)
 |.call { callee:=.builtin .append,args:=⟨[s,_]⟩,argTypes:=_ }=>bk (get env s)
 |.call { callee:=.builtin .unsafeString,args:=⟨[x,_]⟩,argTypes:=_ }=>Ti (get env x)
 |.call { callee:=.builtin .clear,args:=⟨[x]⟩,argTypes:=_ }=>bk (get env x)
 |.mapUpdate _ m _ _=>MZ (get env m)
 |.mapEntry _ m _=>MZ (get env m)
 |.entryStore _ m _ _=>MZ (get env m)
 |_=>[]
def U1(T:TypeId→Option TyI) (O:adM) (m0:Nat) (env:Env) (mem:Mem) (aeS:Bool) (o:Oper):Option (AV×Mem×Bool):=
 match aOp T env mem o.op with
 |some (v,m)=>some (v,m,aeS||(vu env o.op).any fun b=>decide (b<m0))
 |none=>match jE env o.op with
  |some (c,args)=>match O c args mem with
   |some r=>some (r.v,r.mem mem,aeS||r.pre.isSome)
   |none=>none
  |none=>none
def eg(T:TypeId→Option TyI) (O:adM) (N m0:Nat) (ops:Array Oper):List Oper→XS→Option XS
 | [],s=>some s
 |o::os,s=>
  if Ct N o then
   match qP ops s.env o with
   |some true=>match U1 T O m0 s.env s.mem s.aeS o with
    |some (v,m,dt)=>eg T O N m0 ops os ⟨afp s.env o.dst v,m,dt⟩
    |none=>none
   |some false=>eg T O N m0 ops os ⟨afp s.env o.dst (.tuple []),s.mem,s.aeS⟩
   |none=>none
  else none
def eY(ops:List Oper):List Nat:=
 ops.foldl (fun acc o=>acc++[o.after.toList.foldl (fun s e=>if Region.binds .any e then s ||| 2 ^ e.on ||| acc.getD e.on 0 else s) 0]) []
def bef(bs:List Nat) (i j:Nat):Bool:=(bs.getD j 0).testBit i
def nl(ops:Array Oper) (bs:List Nat):Bool:=
 let n:=ops.size
 (List.range n).all fun j=>match ops[j]? with
  |none=>true
  |some o=>
   o.after.toList.all (fun e=> !Region.binds .any e||decide (e.on<j))&&
   (List.range n).all fun i=>(!bef bs i j||o.after.toList.any fun e=>Region.binds .any e&&(e.on==i||bef bs i e.on))&&(i==j||bef bs i j||bef bs j i||match ops[i]? with
    |none=>true
    |some oi=>match oi.dst with
     |none=>true
     |some t=> !(o.looksAt ops).contains t&& !(o.dst==some t))
def MM(env:Env):Op→Option (List Nat)
 |.load _ a=>match get env a with
  |.ptr b _=>some [b]
  |_=>some []
 |.store _ a _=>match get env a with
  |.ptr b _=>some [b]
  |_=>some []
 |.slice _ x _ _ _=>match get env x with
  |.slice b _ _ _=>some [b]
  |_=>some []
 |.lookup _ m _ _=>match get env m with
  |.map b=>some [b]
  |_=>some []
 |.mapUpdate _ m _ _=>match get env m with
  |.map b=>some [b]
  |_=>some []
 |.mapEntry _ m _=>match get env m with
  |.map b=>some [b]
  |_=>some []
 |.entryStore _ m _ _=>match get env m with
  |.map b=>some [b]
  |_=>some []
 |.call { callee:=.builtin .len,args:=⟨[x]⟩,argTypes:=_ }=>match get env x with
  |.map b=>some [b]
  |_=>some []
 |.call { callee:=.builtin .append,args:=⟨[s,x]⟩,argTypes:=_ }=>
  some ((match get env s with | .slice b _ _ _=>[b] | _=>[])++(match get env x with | .slice b _ _ _=>[b] | _=>[]))
 |.call { callee:=.builtin .unsafeSliceData,args:=⟨[x]⟩,argTypes:=_ }=>match get env x with
  |.slice b _ _ _=>some [b]
  |_=>some []
 |.call { callee:=.builtin .clear,args:=⟨[x]⟩,argTypes:=_ }=>match get env x with
  |.slice b _ _ _=>some [b]
  |_=>some []
 |.call { callee:=.builtin .unsafeString,args:=⟨[x,_]⟩,argTypes:=_ }=>match get env x with
  |.ptr b _=>some [b]
  |_=>some []
 |.call { callee:=.builtin _,args:=_,argTypes:=_ }=>some []
 |.call _=>none
 |_=>some []
structure Rec where
 env:Env
 en:Env
 mem:Mem
 tm:Mem
 v:AV
 m' :Mem
 nx:Mem
 wb:Bool
 wr:List Nat
def bp(Z6:Nat→Bool):Nat→Mem→Mem
 |_,[]=>[]
 |i,s::r=>(if Z6 i then s else .kO)::bp Z6 (i+1) r
def aZ(wr:List Nat):Nat→Mem→Mem→Mem
 |_,[],m' =>m'
 |_,_::_,[]=>[]
 |i,s::r,s' ::r' =>(if wr.contains i then s' else s)::aZ wr (i+1) r r'
def dI(mem:Mem) (b:Nat):Bool:=match mem[b]? with
 |some .kO=>false
 |some _=>true
 |none=>false
def cz:Nat→Mem→List Nat
 |_,[]=>[]
 |i,.kO::r=>cz (i+1) r
 |i,_::r=>i::cz (i+1) r
def vo(bs:List Nat) (j:Nat):Nat→List Rec→List Rec
 |_,[]=>[]
 |i,r::rs=>if bef bs i j then vo bs j (i-1) rs else r::vo bs j (i-1) rs
def Wf(bs:List Nat) (j:Nat) (acc:List Rec):Option (List Nat)→Nat→Bool
 |some l=>fun b=>l.contains b
 |none=>let un:=vo bs j (j-1) acc;fun b=> !un.any fun f=>decide (f.mem.length≤b∧b<f.nx.length)
def UX(tm:Mem):Option Mem→List Nat
 |some _=>cz 0 tm
 |none=>[]
def Fu(T:TypeId→Option TyI) (O:adM) (N:Nat) (ops:Array Oper) (bs:List Nat) (j:Nat) (o:Oper) (env:Env) (mem:Mem) (acc:List Rec):Option Rec:=
 if Ct N o then
  let en:=(o.looksAt ops).map fun t=>(t,ab env t)
  match qP ops en o with
  |none=>none
  |some false=>some ⟨env,en,mem,bp (fun _=>false) 0 mem,.tuple [],bp (fun _=>false) 0 mem,mem,false,[]⟩
  |some true=>
   let tm:=bp (Wf bs j acc (MM en o.op)) 0 mem
   match aOp T en tm o.op with
   |some (v,m)=>let wr:=vu en o.op;some ⟨env,en,mem,tm,v,m,aZ wr 0 mem m,true,wr⟩
   |none=>match jE en o.op with
    |none=>none
    |some (c,args)=>match O c args tm with
     |none=>none
     |some r=>let wr:=UX tm r.pre
      some ⟨env,en,mem,tm,r.v,r.mem tm,aZ wr 0 mem (r.mem tm),true,wr⟩
 else none
def lg(T:TypeId→Option TyI) (O:adM) (N:Nat) (ops:Array Oper) (bs:List Nat):Nat→List Oper→Env→Mem→List Rec→Option (List Rec×Env×Mem)
 |_,[],env,mem,acc=>some (acc.reverse,env,mem)
 |j,o::os,env,mem,acc=>match Fu T O N ops bs j o env mem acc with
  |none=>none
  |some r=>lg T O N ops bs (j+1) os (afp env o.dst r.v) r.nx (r::acc)
def gT(YM:Nat) (un:List (Nat×Rec)) (b:Nat):Bool:=
 decide (b<YM)&&un.all fun f=> !decide (f.2.mem.length≤b∧b<f.2.nx.length)
def aJ:Nat→List Rec→List (Nat×Rec)
 |_,[]=>[]
 |i,r::rs=>(i,r)::aJ (i+1) rs
def gj(bs:List Nat) (R:List (Nat×Rec)) (j:Nat) (r:Rec):Bool:=
 let un:=R.filter fun f=>decide (f.1<j)&& !bef bs f.1 j
 r.wr.all (fun b=>dI r.tm b)&&
 r.v.y9 (gT r.nx.length un)&&
 r.wr.all (fun b=>match r.nx[b]? with | some s=>s.y9 (gT r.nx.length un) | none=>true)&&
 (r.nx.drop r.mem.length).all (fun s=>(s.own||match s with | .kO=>true | _=>false)&&s.y9 (gT r.nx.length un))&&
 un.all fun f=>f.2.wr.all (fun b=> !dI r.tm b)&&r.wr.all (fun b=> !dI f.2.tm b)&&
  ((r.tm.drop f.2.mem.length).take (f.2.nx.length-f.2.mem.length)).all fun s=>match s with | .kO=>true | _=>false
def aE(T:TypeId→Option TyI) (O:adM) (N m0:Nat) (ops:Array Oper) (s:XS):Option XS:=
 let bs:=eY ops.toList
 match lg T O N ops bs 0 ops.toList s.env s.mem [] with
 |none=>none
 |some (R,env,mem)=>
  let nR:=aJ 0 R
  if nR.all fun f=>gj bs nR f.1 f.2 then some ⟨env,mem,s.aeS||R.any fun r=>r.wr.any fun b=>decide (b<m0)⟩ else none
def dv:Code→Bool
 |.region _ ops true=>nl ops (eY ops.toList)
 |.seq a b=>dv a&&dv b
 |.cond _ a b=>dv a&&dv b
 |.block _ b=>dv b
 |.loop b=>dv b
 |.scope b=>dv b
 |.rangeFunc _ _ a b=>dv a&&dv b
 |_=>true
def aa:Code→List Nat
 |.region _ ops _=>ops.toList.filterMap (·.dst)
 |.seq a b=>aa a++aa b
 |.cond _ a b=>aa a++aa b
 |.block _ b=>aa b
 |.loop b=>aa b
 |.scope b=>aa b
 |_=>[]
def aD(lv wr:List Nat) (z' env:Env):Env:=lv.map (fun t=>(t,ab env t))++((wr.filter fun t=> !lv.contains t).map fun t=>(t,AV.undef))++z'
mutual
def AV.refs(m0:Nat):AV→List Nat
 |.ptr b _=>if b<m0 then [] else [b]
 |.slice b _ _ _=>if b<m0 then [] else [b]
 |.map b=>if b<m0 then [] else [b]
 |.yield b=>if b<m0 then [] else [b]
 |.func _ cs=>AV.aeR m0 cs
 |.iface _ v=>v.refs m0
 |.agg cs=>AV.aeR m0 cs
 |.tuple cs=>AV.aeR m0 cs
 |_=>[]
def AV.aeR(m0:Nat):List AV→List Nat
 | []=>[]
 |v::vs=>v.refs m0++AV.aeR m0 vs
end
def aeD.refs(m0:Nat):aeD→List Nat
 |.kO=>[]
 |.cells _ _ cs=>AV.aeR m0 cs
 |.map es=>es.flatMap fun e=>e.1.refs m0++e.2.refs m0
 |.ae8 es=>es.flatMap fun e=>e.1.refs m0++e.2.refs m0
 |.loop r=>r.env.flatMap fun e=>e.2.refs m0
def tT(m0:Nat) (mem:Mem):Nat→List Nat→List Nat→List Nat
 |0,_,seen=>seen
 |_,[],seen=>seen
 |k+1,b::todo,seen=>if seen.contains b then tT m0 mem k todo seen else tT m0 mem k (todo++(mem.getD b .kO).refs m0) (seen++[b])
def RU:List Nat→Bool
 |a::b::_=>a==b
 |_=>false
def zd:List Nat→Bool
 |a::b::c::_=>a==b&&b==c
 |_=>false
def Ko(lv wr:List Nat) (z':Env) (m1:Nat) (s:XS):XS:=
 let ks:=tT m1 s.mem 1000 ((lv.flatMap fun t=>(ab s.env t).refs m1)++(s.mem.take m1).flatMap (aeD.refs m1)) []
 if Ka m1 s.mem.length ks then
  ⟨(lv.filter fun t=>wr.contains t).map (fun t=>(t,(ab s.env t).ren (rho m1 ks)))++((wr.filter fun t=> !lv.contains t).map fun t=>(t,AV.undef))++z',(s.mem.take m1).map (aeD.ren (rho m1 ks))++afq m1 ks s.mem,true⟩
 else⟨aD lv wr z' s.env,s.mem,s.aeS⟩
def iV(lv wr:List Nat) (z':Env) (m1:Nat) (s:XS):XS:=
 if zd lv=true∨s.mem.length≤m1 then⟨aD lv wr z' s.env,s.mem,s.aeS⟩ else
  let ks:=tT m1 s.mem 1000 (lv.flatMap fun t=>(ab s.env t).refs m1) []
  if Ka m1 s.mem.length ks&&(s.mem.take m1).all fun s=>(s.refs m1).isEmpty then
   ⟨(lv.filter fun t=>wr.contains t).map (fun t=>(t,(ab s.env t).ren (rho m1 ks)))++((wr.filter fun t=> !lv.contains t).map fun t=>(t,AV.undef))++z',s.mem.take m1++afq m1 ks s.mem,s.aeS⟩
  else if RU lv then Ko lv wr z' m1 s
  else⟨aD lv wr z' s.env,s.mem,s.aeS⟩
def ej(lv wr:List Nat) (z':Env) (m1:Nat) (f:XS→Option (Exit×XS)):Nat→XS→Option (Exit×XS)
 |0,_=>none
 |k+1,s=>match f s with
  |some (.normal,s')=>ej lv wr z' m1 f k (iV lv wr z' m1 s')
  |r=>r
def aN(T:TypeId→Option TyI) (lv:Code→List Nat) (O:adM) (K N m0:Nat) (tp:Bool):Code→XS→Option (Exit×XS)
 |.skip,s=>some (.normal,s)
 |.region _ ops false,s=>match eg T O N m0 ops ops.toList s with
  |some s' =>some (.normal,s')
  |none=>none
 |.region _ ops true,s=>match aE T O N m0 ops s with
  |some s' =>some (.normal,s')
  |none=>none
 |.seq a b,s=>match aN T lv O K N m0 tp a s with
  |some (.normal,s')=>aN T lv O K N m0 tp b s'
  |r=>r
 |.cond c a b,s=>match get s.env c with
  |.bool true=>aN T lv O K N m0 tp a s
  |.bool false=>aN T lv O K N m0 tp b s
  |_=>none
 |.block id b,s=>match aN T lv O K N m0 tp b s with
  |some (.exit i,s')=>if i=id then some (.normal,s') else some (.exit i,s')
  |r=>r
 |.loop b,s=>ej (lv b) (aa b) s.env s.mem.length (aN T lv O K N m0 tp b) K ⟨aD (lv b) (aa b) s.env s.env,s.mem,s.aeS⟩
 |.exit id,s=>some (.exit id,s)
 |.ret,s=>some (.ret,s)
 |.rangeFunc g ps Yd body,s=>
  if tp then
   match get s.env g with
   |.func f caps=>match O (.fn f) (.yield s.mem.length::caps) (s.mem++[.loop ⟨.ready,none,s.env,N,ps,Yd,body⟩]) with
    |some r=>
     let Y8:=r.mem (s.mem++[.loop ⟨.ready,none,s.env,N,ps,Yd,body⟩])
     match Y8[s.mem.length]? with
     |some (.loop r2)=>if r2.st== .busy then none else match qi r2.afe with
      |some e=>some (e,⟨s.env,Y8.set s.mem.length (.loop { r2 with st:=.exhausted }),s.aeS||r.pre.isSome⟩)
      |none=>none
     |_=>none
    |none=>none
   |_=>none
  else none
 |_,_=>none
def ad(T:TypeId→Option TyI) (lv:Code→List Nat) (G:FuncId→Option Func) (O:adM) (K:Nat) (f:FuncId) (args:List AV) (mem:Mem):Option HS:=
 match G f with
 |none=>none
 |some fn=>match fn.body with
  |none=>none
  |some c=>
   if args.length≤fn.ntmps then
    match aN T lv O K fn.ntmps mem.length true c ⟨dL 0 args,mem,false⟩ with
    |some (e,s)=>
     match e with
     |.normal | .ret=>
      match jZ T fn.results.toList s.env s.mem with
      |some v=>
       let m0:=mem.length
       if s.aeS then
        let ks:=tT m0 s.mem 1000 (v.refs m0++(s.mem.take m0).flatMap (aeD.refs m0)) []
        if Ka m0 s.mem.length ks then
         some ⟨v.ren (rho m0 ks),some ((s.mem.take m0).map (aeD.ren (rho m0 ks))),afq m0 ks s.mem⟩
        else none
       else
        let ks:=tT m0 s.mem 1000 (v.refs m0) []
        if Ka m0 s.mem.length ks then
         some ⟨v.ren (rho m0 ks),none,afq m0 ks s.mem⟩
        else none
      |none=>none
     |_=>none
    |none=>none
   else none
def E3(T:TypeId→Option TyI) (lv:Code→List Nat) (O:adM) (K:Nat) (b:Nat) (args:List AV) (mem:Mem):Option HS:=
 match mem[b]? with
 |some (.loop r)=>
  if r.st== .ready&&decide (args.length=r.ps.toList.length)&&r.ps.toList.all (fun t=>decide (t<r.N))&&dv r.assign&&dv r.body then
   match aN T lv O K r.N mem.length false r.assign ⟨xi r.ps.toList args r.env,mem,true⟩ with
   |some (.normal,s1)=>match s1.mem[b]? with
    |some (.loop r1)=>
     if r1.st== .ready then
      match aN T lv O K r.N mem.length false r.body ⟨s1.env,s1.mem.set b (.loop { r1 with st:=.busy }),true⟩ with
      |some (e,s2)=>match AX e,s2.mem[b]? with
       |some j,some (.loop r2)=>
        let m0:=mem.length
        let m3:=s2.mem.set b (.loop { r2 with st:=mK j,afe:=j })
        let ks:=tT m0 m3 1000 ((m3.take m0).flatMap (aeD.refs m0)) []
        if Ka m0 s2.mem.length ks then
         some ⟨.bool j.isNone,some ((m3.take m0).map (aeD.ren (rho m0 ks))),afq m0 ks m3⟩
        else none
       |_,_=>none
      |none=>none
     else none
    |_=>none
   |_=>none
  else none
 |_=>none
def uQ(T:TypeId→Option TyI) (lv:Code→List Nat) (G:FuncId→Option Func) (O:adM) (K:Nat):Nat→adM
 |0=>O
 |n+1=>fun c args mem=>match O c args mem with
  |some r=>some r
  |none=>match c with
   |.fn f=>ad T lv G (uQ T lv G O K n) K f args mem
   |.yld b=>E3 T lv (uQ T lv G O K n) K b args mem
end Go.Eng
