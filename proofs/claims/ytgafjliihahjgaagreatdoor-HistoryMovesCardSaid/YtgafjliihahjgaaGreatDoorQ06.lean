/- See Q54. -/
import Derived.Test.YtgafjliihahjgaaGreatDoorQ05
set_option linter.all false
namespace Go.Eng
attribute [simp] KR Tq pd uj yK aI pO O1 Lb HR ui yC o8 ab get SJ dm yJ putE Ay oU aOp Tp Tt Ts aUn w9 KF KE pc jw ME lB o9 Bk HJ th Qb bY Kw iF dD Ry jd uI Tw
attribute [simp] rz AV.refs AV.refsL keep HH rho AV.ren AV.rens oz gO iA im CallRes.mem aD jH Dp eC sY bef Su bu bd Kg Rw ft aF dh fW AV.refsOk AV.refsOkL Oper.looksAt Op.operands Call.operands Region.binds AV.closed AV.closeds
def aV:Code→List Code
 |.seq a b=>aV a++aV b
 |.cond _ a b=>aV a++aV b
 |.block _ b=>aV b
 |.loop b=>b::aV b
 |_=>[]
def ax(f:Func):List Code:=match f.body with
 |some c=>aV c
 |none=>[]
attribute [simp] ad
section
variable (T:TypeId→Option TyI) (lv:Code→List Nat) (O:Oracle) (K N m0:Nat) (tp:Bool) (s:XS)
theorem MS:aT T lv O K N m0 tp .skip s=some (.normal,s):=rfl
theorem MR(id:Nat):aT T lv O K N m0 tp (.exit id) s=some (.exit id,s):=rfl
theorem O3:aT T lv O K N m0 tp .ret s=some (.ret,s):=rfl
theorem Hw(id:Nat) (ops:Array Oper):aT T lv O K N m0 tp (.region id ops false) s=match dD T O N m0 ops ops.toList s with
  |some s' =>some (.normal,s')
  |none=>none:=rfl
theorem MQ(id:Nat) (ops:Array Oper):aT T lv O K N m0 tp (.region id ops true) s=match aD T O N m0 ops s with
  |some s' =>some (.normal,s')
  |none=>none:=rfl
theorem O4(a b:Code):aT T lv O K N m0 tp (.seq a b) s=match aT T lv O K N m0 tp a s with
  |some (.normal,s')=>aT T lv O K N m0 tp b s'
  |r=>r:=rfl
theorem MP(c:Operand) (a b:Code):aT T lv O K N m0 tp (.cond c a b) s=match get s.env c with
  |.bool true=>aT T lv O K N m0 tp a s
  |.bool false=>aT T lv O K N m0 tp b s
  |_=>none:=rfl
theorem JS(id:Nat) (b:Code):aT T lv O K N m0 tp (.block id b) s=match aT T lv O K N m0 tp b s with
  |some (.exit i,s')=>if i=id then some (.normal,s') else some (.exit i,s')
  |r=>r:=rfl
theorem aB(b:Code):aT T lv O K N m0 tp (.loop b) s=dV (lv b) (ad b) s.env s.mem.length (aT T lv O K N m0 tp b) K ⟨aI (lv b) (ad b) s.env s.env,s.mem,s.dirty⟩:=rfl
end
attribute [simp] MS MR O3 Hw MQ O4 MP JS
open Classical in
theorem rB{p:Env→Bool→Prop}{q:Env→Bool→Env→Prop}(h:∀e d,p e d→∃e',q e d e'):∃F:Env→Bool→Env,∀e d,p e d→q e d (F e d):=
 ⟨fun e d=>if hp:p e d then Classical.choose (h e d hp) else [],fun e d hp=>by simp only[dif_pos hp];exact Classical.choose_spec (h e d hp)⟩
theorem cG{α:Type}{f:XS→Option (Exit×XS)}{lv wr:List Nat}{env0:Env}{m1:Nat}(S:α→XS) (m:α→Nat) (Inv:α→Prop) (e0:Exit) (mem' :Mem) (d' :Bool) (Q:Env→Prop) (he:e0≠ .normal)
  (h:∀a,Inv a→(∃a' s',f (S a)=some (.normal,s')∧pO lv wr env0 m1 s' =S a' ∧Inv a' ∧m a' <m a)∨(∃env',f (S a)=some (e0,⟨env',mem',d'⟩)∧Q env')):
  ∀k a,Inv a→m a<k→∃env',dV lv wr env0 m1 f k (S a)=some (e0,⟨env',mem',d'⟩)∧Q env'
 |0,a,_,hk=>by omega
 |k+1,a,ha,hk=>by
  unfold dV;rcases h a ha with⟨a',s',h1,h2,h3,h4⟩ | ⟨env',h1,h3⟩
  ·rw[h1]
   simp only[h2];exact cG S m Inv e0 mem' d' Q he h k a' h3 (by omega)
  ·rw[h1]
   refine⟨env',?_,h3⟩;cases e0<;>first | rfl | exact absurd rfl he
theorem cg{T:TypeId→Option TyI}{lv:Code→List Nat}{O:Oracle}{K N m0:Nat}{tp:Bool}{b:Code}{L:List Nat}(hlv:lv b=L) {mem mem' :Mem}{e:Exit}(pre:Env→Prop) (post:Env→Env→Prop)
  (h:∀env0 d,pre env0→∃env',dV L (ad b) env0 mem.length (aT T lv O K N m0 tp b) K ⟨aI L (ad b) env0 env0,mem,d⟩=some (e,⟨env',mem',d⟩)∧post env0 env'):
  ∃F:Env→Bool→Env,∀env0 d,pre env0→aT T lv O K N m0 tp (.loop b) ⟨env0,mem,d⟩=some (e,⟨F env0 d,mem',d⟩)∧post env0 (F env0 d):=by
 refine rB (p:=fun env0 _=>pre env0) (q:=fun env0 d e' =>aT T lv O K N m0 tp (.loop b) ⟨env0,mem,d⟩=some (e,⟨e',mem',d⟩)∧post env0 e') ?_;intro env0 d hp;obtain⟨env',h1,h2⟩:=h env0 d hp;exact⟨env',by rw[aB,hlv];exact h1,h2⟩
theorem DC{n:Int}(h0:0≤n) (h1:n≤255):IntKind.u8.wrap n=n:=by simp only[IntKind.wrap,IntKind.bits,IntKind.signed,Bool.false_and,Bool.false_eq_true,if_false];omega
def KQ(i:Option TyI):Bool:=match i with
 |some i=>match i.desc with
  |.interface _=>true
  |_=>false
 |none=>false
theorem MF{T:TypeId→Option TyI}{t:TypeId}(h:KQ (T t)=true) (r c:Bool):JH T t r c .nilIface .nilIface=if r||c then some true else none:=by
 unfold KQ at h;unfold JH;cases hT:T t with
 |none=>rw[hT] at h;cases h
 |some i=>
  rw[hT] at h;simp only at h ⊢;cases hd:i.desc<;>rw[hd] at h<;>first | (cases h;done) | rfl
end Go.Eng
namespace Go.Eng
mutual
def AV.under(n:Nat):AV→Bool
 |.ptr b _=>decide (b<n)
 |.slice b _ _ _=>decide (b<n)
 |.map b=>decide (b<n)
 |.yield b=>decide (b<n)
 |.func _ cs=>AV.unders n cs
 |.iface _ v=>v.under n
 |.agg cs=>AV.unders n cs
 |.tuple cs=>AV.unders n cs
 |_=>true
def AV.unders(n:Nat):List AV→Bool
 | []=>true
 |v::vs=>v.under n&&AV.unders n vs
end
def ar(ks:List Nat) (n:Nat) (b:Nat):Option Nat:=if b<ks.length then some (ks.getD b 0) else some (n+(b-ks.length))
mutual
theorem VRel.unren{μ:Nat→Place}{N:Nat}{ks:List Nat}{n0:Nat}:∀{v V},v.under ks.length=true→VRel μ N (v.ren (ar ks n0)) V→VRel (fun i=>μ (ks.getD i 0)) ks.length v V
 |.undef,V,_,_=>by simp[VRel]
 |.bool b,V,_,h=>by simpa [AV.ren,VRel] using h
 |.int k i,V,_,h=>by simpa [AV.ren,VRel] using h
 |.str s,V,_,h=>by simpa [AV.ren,VRel] using h
 |.ptr b o,V,hb,h=>by simp only[AV.under,decide_eq_true_eq] at hb;simp only[AV.ren,ar,hb,if_true,VRel] at h ⊢;exact⟨trivial,h.2⟩
 |.nilptr,V,_,h=>by simpa [AV.ren,VRel] using h
 |.slice b o l c,V,hb,h=>by simp only[AV.under,decide_eq_true_eq] at hb;simp only[AV.ren,ar,hb,if_true,VRel] at h ⊢;exact⟨trivial,h.2⟩
 |.nilslice,V,_,h=>by simpa [AV.ren,VRel] using h
 |.map b,V,hb,h=>by simp only[AV.under,decide_eq_true_eq] at hb;simp only[AV.ren,ar,hb,if_true,VRel] at h ⊢;exact⟨trivial,h.2⟩
 |.yield b,V,hb,h=>by simp only[AV.under,decide_eq_true_eq] at hb;simp only[AV.ren,ar,hb,if_true,VRel] at h ⊢;exact⟨trivial,h.2⟩
 |.nilmap,V,_,h=>by simpa [AV.ren,VRel] using h
 |.func f cs,V,hb,h=>by simp only[AV.under] at hb;simp only[AV.ren,VRel] at h ⊢;obtain⟨Us,rfl,h⟩:=h;exact⟨Us,rfl,VRels.unren hb h⟩
 |.nilFunc,V,_,h=>by simpa [AV.ren,VRel] using h
 |.iface t v,V,hb,h=>by simp only[AV.under] at hb;simp only[AV.ren,VRel] at h ⊢;obtain⟨U,rfl,h⟩:=h;exact⟨U,rfl,VRel.unren hb h⟩
 |.nilIface,V,_,h=>by simpa [AV.ren,VRel] using h
 |.agg cs,V,hb,h=>by simp only[AV.under] at hb;simp only[AV.ren,VRel] at h ⊢;obtain⟨Us,rfl,h⟩:=h;exact⟨Us,rfl,VRels.unren hb h⟩
 |.tuple cs,V,hb,h=>by simp only[AV.under] at hb;simp only[AV.ren,VRel] at h ⊢;obtain⟨Us,rfl,h⟩:=h;exact⟨Us,rfl,VRels.unren hb h⟩
theorem VRels.unren{μ:Nat→Place}{N:Nat}{ks:List Nat}{n0:Nat}:∀{vs Us},AV.unders ks.length vs=true→VRels μ N (AV.rens (ar ks n0) vs) Us→VRels (fun i=>μ (ks.getD i 0)) ks.length vs Us
 | [],Us,_,h=>by simpa [AV.rens,VRels] using h
 |v::vs,Us,hb,h=>by simp only[AV.unders,Bool.and_eq_true] at hb;simp only[AV.rens,VRels] at h ⊢;obtain⟨U,Ws,rfl,h1,h2⟩:=h;exact⟨U,Ws,rfl,VRel.unren hb.1 h1,VRels.unren hb.2 h2⟩
end
def SubSlot(ks:List Nat) (M:Mem) (k:Nat):Slot→Prop
 |.absent=>True
 |.cells false es cs=>AV.unders ks.length cs=true∧∃o cs',M[k]? =some (.cells o es cs')∧∀(j:Nat) v,cs[j]? =some v→cs'[j]? =some (v.ren (ar ks M.length))
 |.fmap es=>∃es',(M[k]? =some (.fmap es')∨M[k]? =some (.map es'))∧es'.length=es.length∧
   ∀(j:Nat) e,es[j]? =some e→(e.1.under ks.length=true∧e.2.under ks.length=true)∧es'[j]? =some (e.1.ren (ar ks M.length),e.2.ren (ar ks M.length))
 |_=>False
theorem BM{n:Nat}:∀{cs:List AV},AV.unders n cs=true→∀(j:Nat) v,cs[j]? =some v→v.under n=true
 | [],_,j,v,h=>by simp at h
 |c::cs,h,j,v,hj=>by
  simp only[AV.unders,Bool.and_eq_true] at h;cases j with
  |zero=>simp at hj;subst hj;exact h.1
  |succ j=>exact BM h.2 j v (by simpa using hj)
theorem wV{α:Type}{cs cs' :List α}{g:α→α}(h:∀(j:Nat) v,cs[j]? =some v→cs'[j]? =some (g v)):cs.length≤cs'.length:=by
 by_cases h0:cs.length=0
 ·omega
 ·have:=h (cs.length-1) (cs[cs.length-1]'(by omega)) (by simp)
  have:=(List.getElem?_eq_some_iff.1 this).1;omega
section
variable {P:Program}
theorem ACallsTo.frame{f:FuncId}{args:List AV}{m new M:Mem}{v:AV}(ks:List Nat) (hl:m.length=ks.length) (hk:∀k∈ks,k<M.length) (ha:AV.unders ks.length args=true)
  (hm:∀(i:Nat) s,m[i]? =some s→SubSlot ks M (ks.getD i 0) s) (hn:new.all (fun s=>s.own||match s with | .absent=>true | _=>false)=true)
  (h:ACallsTo P f args m v (m++new)):ACallsTo P f (AV.rens (ar ks M.length) args) M (v.ren (ar ks M.length)) (M++new.map (Slot.ren (ar ks M.length))):=by
 refine⟨h.1,fun base μ w Vs hG hH hV=>?_⟩;have hnone:∀b,¬dF m b:=by
  rintro b ⟨s,hs,ho⟩;have:=hm b s hs;cases s with
  |absent=>cases ho
  |cells own es cs=>simp only[Slot.own] at ho;subst ho;exact this
  |map es=>exact this
  |fmap es=>cases ho
  |loop r=>exact this
 have hms:HRel base (fun i=>μ (ks.getD i 0)) m w:=by
  refine⟨hH.base_le,fun b s hs=>?_,fun b b' s' hb=>absurd hb (hnone b)⟩;have hsub:=hm b s hs;cases s with
  |absent=>trivial
  |map es=>exact hsub.elim
  |fmap es=>
   obtain⟨es',h1,h2,h3⟩:=hsub;have hs:∃ents clock,w.heap[(μ (ks.getD b 0)).blk]? =some (.map ents clock)∧AH ents clock∧ents.size=es'.length∧∀(j:Nat) e,es'[j]? =some e→∃E,ents[j]? =some E∧Lf μ M.length e E:=by
    rcases h1 with h1 | h1
    ·have:=hH.slot _ _ h1;simpa only[SRel] using this
    ·have:=hH.slot _ _ h1
     simp only[SRel] at this;obtain⟨ents,clock,k1,k2,k3,k4⟩:=this;exact⟨ents,clock,k1,k2.2,k3,k4⟩
   obtain⟨ents,clock,k1,k2,k3,k4⟩:=hs;simp only[SRel];refine⟨ents,clock,k1,k2,by omega,fun j e he=>?_⟩;obtain⟨⟨u1,u2⟩,u3⟩:=h3 j e he;obtain⟨E,hE,r1,r2⟩:=k4 j _ u3;rw[hl];exact⟨E,hE,VRel.unren u1 r1,VRel.unren u2 r2⟩
  |loop r=>exact hsub.elim
  |cells own es cs=>
   cases own with
   |true=>exact hsub.elim
   |false=>
    obtain⟨hb,o,cs',h1,h2⟩:=hsub;have:=hH.slot _ _ h1;simp only[SRel] at this ⊢;obtain⟨cur,e,fr,g1,g2,g3,g4,_⟩:=this;refine⟨cur,e,fr,g1,g2,Nat.le_trans (wV h2) g3,fun j u hj=>?_,fun h=>by cases h⟩;obtain⟨V,hV,hr⟩:=g4 j _ (h2 j u hj);rw[hl];exact⟨V,hV,VRel.unren (BM hb j u hj) hr⟩
 have hargs:=VRels.unren ha hV;rw[←hl] at hargs;refine(h.2 base _ w Vs hG hms hargs).mono ?_;rintro e w' ⟨V,v',mem',μ',rfl,q1,q2,q3,rfl,rfl⟩;have hg:Gentle w w' :=⟨q3.size,fun k hk=>q3.frame k hk fun b hb=>absurd hb (hnone b),q3.os,q3.tape,q3.output,q3.drawn⟩;have hfresh:∀b,dF (m++new) b→w.heap.size≤(μ' b).blk:=by
  intro b hb;by_cases hlt:(μ' b).blk<w.heap.size
  ·obtain⟨b0,h0,_⟩:=q3.owner b hb hlt
   exact absurd h0 (hnone b0)
  ·omega
 obtain⟨μ2,hμ2⟩:∃μ2:Nat→Place,μ2=fun b=>if b<M.length then μ b else μ' (b-M.length+m.length):=⟨_,rfl⟩
 have hold:∀b,b<M.length→μ2 b=μ b:=fun b hb=>by rw[hμ2];simp[hb]
 have hnew:∀i,μ2 (M.length+i)=μ' (m.length+i):=fun i=>by rw[hμ2];simp only;rw[if_neg (by omega)];congr 1;omega
 have hρ:∀b b',b<(m++new).length→ar ks M.length b=some b' →b' <(M++new.map (Slot.ren (ar ks M.length))).length∧μ2 b' =μ' b:=by
  intro b b' hb hb';simp only[List.length_append,List.length_map] at hb ⊢;unfold ar at hb';split at hb'
  ·rename_i hlt
   cases hb';have hmem:ks.getD b 0∈ks:=by rw[List.getD_eq_getElem?_getD,List.getElem?_eq_getElem hlt,Option.getD_some];exact List.getElem_mem hlt
   have:=hk _ hmem;refine⟨by omega,?_⟩;rw[hold _ this];exact(q3.agree b (by omega)).symm
  ·rename_i hlt
   cases hb';refine⟨by omega,?_⟩;rw[hnew,show m.length+(b-ks.length)=b by omega]
 have hget:∀b s,(M++new.map (Slot.ren (ar ks M.length)))[b]? =some s→(b<M.length∧M[b]? =some s)∨∃i s0,b=M.length+i∧new[i]? =some s0∧s=s0.ren (ar ks M.length):=by
  intro b s hs;by_cases hb:b<M.length
  ·rw[List.getElem?_append_left hb] at hs
   exact .inl ⟨hb,hs⟩
  ·rw[List.getElem?_append_right (by omega),List.getElem?_map] at hs
   simp only[Option.map_eq_some_iff] at hs;obtain⟨s0,h1,h2⟩:=hs;exact .inr ⟨b-M.length,s0,by omega,h1,h2.symm⟩
 have hnewget:∀i s0,new[i]? =some s0→(m++new)[m.length+i]? =some s0:=by intro i s0 h;rw[List.getElem?_append_right (by omega),Nat.add_sub_cancel_left];exact h
 have hnewown:∀i s0,new[i]? =some s0→s0≠ .absent→dF (m++new) (m.length+i):=by intro i s0 h hne;refine⟨s0,hnewget i s0 h,?_⟩;have:=List.all_eq_true.1 hn s0 (List.mem_of_getElem? h);cases s0<;>simp_all
 have renabs:∀s0:Slot,s0.ren (ar ks M.length)≠ .absent→s0≠ .absent:=by rintro s0 h rfl;exact h rfl
 refine⟨V,_,_,μ2,rfl,q1.ren hρ,⟨Nat.le_trans hH.base_le hg.size,fun b s hs=>?_,fun b b' s' hb hb' hne hbb=>?_⟩,?_,rfl,rfl⟩
 ·rcases hget b s hs with⟨hb,h1⟩ | ⟨i,s0,rfl,h1,rfl⟩
  ·rw[hold b hb]
   refine(hH.slot b s h1).mono (by simp) hold fun hne=>hg.heap _ ((hH.slot b s h1).blk_lt hne)
  ·rw[hnew]
   exact(q2.slot _ s0 (hnewget i s0 h1)).ren hρ
 ·obtain⟨s,hs,ho⟩:=hb
  have hsne:=Slot.own_ne ho;rcases hget b s hs with⟨hb,h1⟩ | ⟨i,s0,rfl,h1,rfl⟩<;>rcases hget b' s' hb' with⟨hb',h1'⟩ | ⟨i',s0',rfl,h1',rfl⟩
  ·rw[hold b hb,hold b' hb']
   exact hH.sep b b' s' ⟨s,h1,ho⟩ h1' hne hbb
  ·rw[hold b hb,hnew]
   have g1:=(hH.slot b s h1).blk_lt hsne;have g2:=hfresh _ (hnewown i' s0' h1' (renabs _ hne));omega
  ·rw[hold b' hb',hnew]
   have g1:=(hH.slot b' s' h1').blk_lt hne;have g2:=hfresh _ (hnewown i s0 h1 (renabs _ hsne));omega
  ·rw[hnew,hnew]
   exact q2.sep _ _ s0' (hnewown i s0 h1 (renabs _ hsne)) (hnewget i' s0' h1') (renabs _ hne) (by omega)
 ·refine⟨by simp,hold,hg.os,hg.tape,hg.output,hg.size,fun k hk _=>hg.heap k hk,fun b hb hlt=>?_,hg.drawn⟩
  obtain⟨s,hs,ho⟩:=hb;rcases hget b s hs with⟨hb,h1⟩ | ⟨i,s0,rfl,h1,rfl⟩
  ·exact⟨b,⟨s,h1,ho⟩,by rw[hold b hb]⟩
  ·rw[hnew] at hlt
   have:=hfresh _ (hnewown i s0 h1 (renabs _ (Slot.own_ne ho)));omega
end
end Go.Eng
namespace Go.Eng
def iN(k:IntKind) (l:List Nat):List AV:=l.map fun n:Nat=>.int k (n:Int)
def iZ(l:List Int):List AV:=l.map fun n=>.int .i64 n
section
variable (k:IntKind)
theorem SX:iN k []=[]:=rfl
theorem Dc(n:Nat) (l:List Nat):iN k (n::l)=.int k (n:Int)::iN k l:=rfl
theorem O9(l:List Nat):(iN k l).length=l.length:=by simp[iN]
theorem O8(l r:List Nat):iN k (l++r)=iN k l++iN k r:=by simp[iN]
theorem RO(l:List Nat) (i:Nat):(iN k l)[i]? =(l[i]?).map fun n:Nat=>.int k (n:Int):=by simp[iN]
theorem MU(l:List Nat) (i:Nat) (h:i<(iN k l).length):(iN k l)[i]=.int k ((l[i]'(by simpa [iN] using h):Nat):Int):=by simp[iN]
theorem SW(l:List Nat):(iN k l).all AV.cellOk=true:=by simp[iN,AV.cellOk]
theorem K6(m:Nat) (l:List Nat):AV.refsL m (iN k l)=[]:=by
 induction l with
 |nil=>rfl
 |cons x l ih=>simp[Dc,AV.refsL,AV.refs,ih]
theorem PT(ρ:Nat→Option Nat) (l:List Nat):AV.rens ρ (iN k l)=iN k l:=by
 induction l with
 |nil=>rfl
 |cons x l ih=>simp[Dc,AV.rens,AV.ren,ih]
theorem Ij(m:Nat) (l:List Nat):AV.unders m (iN k l)=true:=by
 induction l with
 |nil=>rfl
 |cons x l ih=>simp[Dc,AV.unders,AV.under,ih]
theorem Bw(ok:Nat→Bool) (l:List Nat):AV.refsOkL ok (iN k l)=true:=by
 induction l with
 |nil=>rfl
 |cons x l ih=>simp[Dc,AV.refsOkL,AV.refsOk,ih]
theorem H7(m:Nat) (o:Bool) (e:Nat) (l:List Nat):Slot.refs m (.cells o e (iN k l))=[]:=by simp[Slot.refs,K6]
theorem Kj(ρ:Nat→Option Nat) (o:Bool) (e:Nat) (l:List Nat):Slot.ren ρ (.cells o e (iN k l))=.cells o e (iN k l):=by simp[Slot.ren,PT]
theorem AE(ok:Nat→Bool) (o:Bool) (e:Nat) (l:List Nat):Slot.refsOk ok (.cells o e (iN k l))=true:=by simp[Slot.refsOk,Bw]
end
attribute [simp] SX O9 RO MU K6 PT Ij Bw H7 Kj AE SW
attribute [simp] Dx sV TyI.isAgg Slot.refs Slot.ren AV.under AV.unders Slot.own ia jj fc uL pW pX SI eY nl fM AV.known AV.cells AV.cellOk
def RR(k:IntKind):List AV→Option (List Nat)
 | []=>some []
 |.int k' n::l=>if k' =k∧0≤n then match RR k l with
  |some r=>some (n.toNat::r)
  |none=>none
  else none
 |_::_=>none
def Te(k:IntKind) (M:Mem):AV→Option (List Nat)
 |.nilslice=>some []
 |.slice b o n _=>match M[b]? with
  |some (.cells _ 1 cs)=>if o+n≤cs.length then RR k ((cs.drop o).take n) else none
  |_=>none
 |_=>none
mutual
theorem u5{n:Nat}:∀{v:AV},v.closed=true→v.under n=true
 |.ptr _ _,h=>by simp[AV.closed] at h
 |.slice _ _ _ _,h=>by simp[AV.closed] at h
 |.map _,h=>by simp[AV.closed] at h
 |.yield _,h=>by simp[AV.closed] at h
 |.func _ cs,h=>by simp only[AV.closed] at h;simp only[AV.under];exact cK h
 |.iface _ v,h=>by simp only[AV.closed] at h;simp only[AV.under];exact u5 h
 |.agg cs,h=>by simp only[AV.closed] at h;simp only[AV.under];exact cK h
 |.tuple cs,h=>by simp only[AV.closed] at h;simp only[AV.under];exact cK h
 |.undef,_=>rfl
 |.bool _,_=>rfl
 |.int _ _,_=>rfl
 |.str _,_=>rfl
 |.nilptr,_=>rfl
 |.nilslice,_=>rfl
 |.nilmap,_=>rfl
 |.nilFunc,_=>rfl
 |.nilIface,_=>rfl
theorem cK{n:Nat}:∀{vs:List AV},AV.closeds vs=true→AV.unders n vs=true
 | [],_=>rfl
 |v::vs,h=>by simp only[AV.closeds,Bool.and_eq_true] at h;simp only[AV.unders,u5 h.1,cK h.2];rfl
end
mutual
theorem Bz{ρ:Nat→Option Nat}:∀{v:AV},v.closed=true→v.ren ρ=v
 |.ptr _ _,h=>by simp[AV.closed] at h
 |.slice _ _ _ _,h=>by simp[AV.closed] at h
 |.map _,h=>by simp[AV.closed] at h
 |.yield _,h=>by simp[AV.closed] at h
 |.func _ cs,h=>by simp only[AV.closed] at h;simp only[AV.ren,bH h]
 |.iface _ v,h=>by simp only[AV.closed] at h;simp only[AV.ren,Bz h]
 |.agg cs,h=>by simp only[AV.closed] at h;simp only[AV.ren,bH h]
 |.tuple cs,h=>by simp only[AV.closed] at h;simp only[AV.ren,bH h]
 |.undef,_=>rfl
 |.bool _,_=>rfl
 |.int _ _,_=>rfl
 |.str _,_=>rfl
 |.nilptr,_=>rfl
 |.nilslice,_=>rfl
 |.nilmap,_=>rfl
 |.nilFunc,_=>rfl
 |.nilIface,_=>rfl
theorem bH{ρ:Nat→Option Nat}:∀{vs:List AV},AV.closeds vs=true→AV.rens ρ vs=vs
 | [],_=>rfl
 |v::vs,h=>by simp only[AV.closeds,Bool.and_eq_true] at h;simp only[AV.rens,Bz h.1,bH h.2]
end
theorem xo(s n:Nat):(s:Int).tmod (n:Int)=((s%n:Nat):Int):=rfl
theorem Dz(s n:Nat):(s:Int).tdiv (n:Int)=((s / n:Nat):Int):=rfl
theorem H6(m:Nat) (a b:List AV):AV.refsL m (a++b)=AV.refsL m a++AV.refsL m b:=by
 induction a with
 |nil=>rfl
 |cons x a ih=>simp[AV.refsL,ih]
theorem Kl(ρ:Nat→Option Nat) (a b:List AV):AV.rens ρ (a++b)=AV.rens ρ a++AV.rens ρ b:=by
 induction a with
 |nil=>rfl
 |cons x a ih=>simp[AV.rens,ih]
theorem gg(ok:Nat→Bool) (a b:List AV):AV.refsOkL ok (a++b)=(AV.refsOkL ok a&&AV.refsOkL ok b):=by
 induction a with
 |nil=>rfl
 |cons x a ih=>simp[AV.refsOkL,ih,Bool.and_assoc]
attribute [simp] H6 Kl gg
end Go.Eng
namespace Go.Eng
def RowAt(k:IntKind) (M:Mem) (x:AV) (A:List Nat):Prop:=∃b o cs,x=.slice b 0 A.length none∧M[b]? =some (.cells o 1 cs)∧cs.take A.length=iN k A
theorem SubSlot.row{k:IntKind}{ks:List Nat}{M:Mem}{b:Nat}{o:Bool}{cs:List AV}{A:List Nat}(h:M[b]? =some (.cells o 1 cs)) (ht:cs.take A.length=iN k A):SubSlot ks M b (.cells false 1 (iN k A)):=by
 refine⟨Ij _ _ _,o,cs,h,fun j v hv=>?_⟩;have hj:j<A.length:=by have:=(List.getElem?_eq_some_iff.1 hv).1;simpa using this
 have:cs[j]? =(iN k A)[j]? :=by rw[←ht,List.getElem?_take_of_lt hj]
 rw[this,hv];rw[RO] at hv;simp only[Option.map_eq_some_iff] at hv;obtain⟨n,_,rfl⟩:=hv;simp[AV.ren]
section
variable {P:Program}{k:IntKind}{f:FuncId}{A B:List Nat}{M:Mem}{x y:AV}
end
end Go.Eng
