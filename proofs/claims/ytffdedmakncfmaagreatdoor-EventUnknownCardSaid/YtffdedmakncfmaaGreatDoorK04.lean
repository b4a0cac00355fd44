/- See K51. -/
import Derived.Test.YtffdedmakncfmaaGreatDoorK03
set_option linter.all false
namespace Go.Eng
attribute [simp] J2 R7 pq uC gk az rM NC Ko Hc uB yJ pj ab get Rv cB vw putE AJ pf aOp R6 R9 R8 aUn xw JK JJ po QN LH jS pn Bc G1 tO OI fl JE ix cO Qc gB uY Sb
attribute [simp] mU AV.refs AV.refsL keep AM rho AV.ren AV.rens oG gw im gD CallRes.mem aQ kx CS ek tK bef Ra br bk Jp Qb fM aT dE fY AV.refsOk AV.refsOkL Oper.looksAt Op.operands Call.operands Region.binds AV.closed AV.closeds
def aM:Code→List Code
 |.seq a b=>aM a++aM b
 |.cond _ a b=>aM a++aM b
 |.block _ b=>aM b
 |.loop b=>b::aM b
 |_=>[]
def aj(f:Func):List Code:=match f.body with
 |some c=>aM c
 |none=>[]
attribute [simp] ad
section
variable (T:TypeId→Option TyI) (lv:Code→List Nat) (O:Oracle) (K N m0:Nat) (tp:Bool) (s:XS)
theorem L3:aU T lv O K N m0 tp .skip s=some (.normal,s):=rfl
theorem LZ(id:Nat):aU T lv O K N m0 tp (.exit id) s=some (.exit id,s):=rfl
theorem NF:aU T lv O K N m0 tp .ret s=some (.ret,s):=rfl
theorem GO(id:Nat) (ops:Array Oper):aU T lv O K N m0 tp (.region id ops false) s=match cO T O N m0 ops ops.toList s with
  |some s' =>some (.normal,s')
  |none=>none:=rfl
theorem LY(id:Nat) (ops:Array Oper):aU T lv O K N m0 tp (.region id ops true) s=match aQ T O N m0 ops s with
  |some s' =>some (.normal,s')
  |none=>none:=rfl
theorem NG(a b:Code):aU T lv O K N m0 tp (.seq a b) s=match aU T lv O K N m0 tp a s with
  |some (.normal,s')=>aU T lv O K N m0 tp b s'
  |r=>r:=rfl
theorem LX(c:Operand) (a b:Code):aU T lv O K N m0 tp (.cond c a b) s=match get s.env c with
  |.bool true=>aU T lv O K N m0 tp a s
  |.bool false=>aU T lv O K N m0 tp b s
  |_=>none:=rfl
theorem I7(id:Nat) (b:Code):aU T lv O K N m0 tp (.block id b) s=match aU T lv O K N m0 tp b s with
  |some (.exit i,s')=>if i=id then some (.normal,s') else some (.exit i,s')
  |r=>r:=rfl
theorem aZ(b:Code):aU T lv O K N m0 tp (.loop b) s=fA (lv b) (ad b) s.env s.mem.length (aU T lv O K N m0 tp b) K ⟨az (lv b) (ad b) s.env s.env,s.mem,s.dirty⟩:=rfl
end
attribute [simp] L3 LZ NF GO LY NG LX I7
open Classical in
theorem pd{p:Env→Bool→Prop}{q:Env→Bool→Env→Prop}(h:∀e d,p e d→∃e',q e d e'):∃F:Env→Bool→Env,∀e d,p e d→q e d (F e d):=
 ⟨fun e d=>if hp:p e d then Classical.choose (h e d hp) else [],fun e d hp=>by simp only[dif_pos hp];exact Classical.choose_spec (h e d hp)⟩
theorem bK{α:Type}{f:XS→Option (Exit×XS)}{lv wr:List Nat}{env0:Env}{m1:Nat}(S:α→XS) (m:α→Nat) (Inv:α→Prop) (e0:Exit) (mem' :Mem) (d' :Bool) (Q:Env→Prop) (he:e0≠ .normal)
  (h:∀a,Inv a→(∃a' s',f (S a)=some (.normal,s')∧rM lv wr env0 m1 s' =S a' ∧Inv a' ∧m a' <m a)∨(∃env',f (S a)=some (e0,⟨env',mem',d'⟩)∧Q env')):
  ∀k a,Inv a→m a<k→∃env',fA lv wr env0 m1 f k (S a)=some (e0,⟨env',mem',d'⟩)∧Q env'
 |0,a,_,hk=>by omega
 |k+1,a,ha,hk=>by
  unfold fA
  rcases h a ha with⟨a',s',h1,h2,h3,h4⟩ | ⟨env',h1,h3⟩
  ·rw[h1]
   simp only[h2]
   exact bK S m Inv e0 mem' d' Q he h k a' h3 (by omega)
  ·rw[h1]
   refine⟨env',?_,h3⟩
   cases e0<;>first | rfl | exact absurd rfl he
theorem bp{T:TypeId→Option TyI}{lv:Code→List Nat}{O:Oracle}{K N m0:Nat}{tp:Bool}{b:Code}{L:List Nat}(hlv:lv b=L) {mem mem' :Mem}{e:Exit}(pre:Env→Prop) (post:Env→Env→Prop)
  (h:∀env0 d,pre env0→∃env',fA L (ad b) env0 mem.length (aU T lv O K N m0 tp b) K ⟨az L (ad b) env0 env0,mem,d⟩=some (e,⟨env',mem',d⟩)∧post env0 env'):
  ∃F:Env→Bool→Env,∀env0 d,pre env0→aU T lv O K N m0 tp (.loop b) ⟨env0,mem,d⟩=some (e,⟨F env0 d,mem',d⟩)∧post env0 (F env0 d):=by
 refine pd (p:=fun env0 _=>pre env0) (q:=fun env0 d e' =>aU T lv O K N m0 tp (.loop b) ⟨env0,mem,d⟩=some (e,⟨e',mem',d⟩)∧post env0 e') ?_
 intro env0 d hp
 obtain⟨env',h1,h2⟩:=h env0 d hp
 exact⟨env',by rw[aZ,hlv];exact h1,h2⟩
theorem De{n:Int}(h0:0≤n) (h1:n≤255):IntKind.u8.wrap n=n:=by
 simp only[IntKind.wrap,IntKind.bits,IntKind.signed,Bool.false_and,Bool.false_eq_true,if_false]
 omega
def J1(i:Option TyI):Bool:=match i with
 |some i=>match i.desc with
  |.interface _=>true
  |_=>false
 |none=>false
theorem LI{T:TypeId→Option TyI}{t:TypeId}(h:J1 (T t)=true) (r c:Bool):QO T t r c .nilIface .nilIface=if r||c then some true else none:=by
 unfold J1 at h
 unfold QO
 cases hT:T t with
 |none=>rw[hT] at h;cases h
 |some i=>
  rw[hT] at h
  simp only at h ⊢
  cases hd:i.desc<;>rw[hd] at h<;>first | (cases h;done) | rfl
end Go.Eng
namespace Go.Eng
mutual
def AV.under(n:Nat):AV→Bool
 |.ptr b _=>decide (b<n)
 |.slice b _ _ _=>decide (b<n)
 |.map b=>decide (b<n)
 |.yield b=>decide (b<n)
 |.func _ cs=>AV.unders n cs
 |.iface _ v=>v.under n
 |.agg cs=>AV.unders n cs
 |.tuple cs=>AV.unders n cs
 |_=>true
def AV.unders(n:Nat):List AV→Bool
 | []=>true
 |v::vs=>v.under n&&AV.unders n vs
end
def eK(ks:List Nat) (n:Nat) (b:Nat):Option Nat:=if b<ks.length then some (ks.getD b 0) else some (n+(b-ks.length))
mutual
theorem VRel.unren{μ:Nat→Place}{N:Nat}{ks:List Nat}{n0:Nat}:∀{v V},v.under ks.length=true→VRel μ N (v.ren (eK ks n0)) V→VRel (fun i=>μ (ks.getD i 0)) ks.length v V
 |.undef,V,_,_=>by simp[VRel]
 |.bool b,V,_,h=>by simpa [AV.ren,VRel] using h
 |.int k i,V,_,h=>by simpa [AV.ren,VRel] using h
 |.str s,V,_,h=>by simpa [AV.ren,VRel] using h
 |.ptr b o,V,hb,h=>by
  simp only[AV.under,decide_eq_true_eq] at hb
  simp only[AV.ren,eK,hb,if_true,VRel] at h ⊢
  exact⟨trivial,h.2⟩
 |.nilptr,V,_,h=>by simpa [AV.ren,VRel] using h
 |.slice b o l c,V,hb,h=>by
  simp only[AV.under,decide_eq_true_eq] at hb
  simp only[AV.ren,eK,hb,if_true,VRel] at h ⊢
  exact⟨trivial,h.2⟩
 |.nilslice,V,_,h=>by simpa [AV.ren,VRel] using h
 |.map b,V,hb,h=>by
  simp only[AV.under,decide_eq_true_eq] at hb
  simp only[AV.ren,eK,hb,if_true,VRel] at h ⊢
  exact⟨trivial,h.2⟩
 |.yield b,V,hb,h=>by
  simp only[AV.under,decide_eq_true_eq] at hb
  simp only[AV.ren,eK,hb,if_true,VRel] at h ⊢
  exact⟨trivial,h.2⟩
 |.nilmap,V,_,h=>by simpa [AV.ren,VRel] using h
 |.func f cs,V,hb,h=>by
  simp only[AV.under] at hb
  simp only[AV.ren,VRel] at h ⊢
  obtain⟨Us,rfl,h⟩:=h
  exact⟨Us,rfl,VRels.unren hb h⟩
 |.nilFunc,V,_,h=>by simpa [AV.ren,VRel] using h
 |.iface t v,V,hb,h=>by
  simp only[AV.under] at hb
  simp only[AV.ren,VRel] at h ⊢
  obtain⟨U,rfl,h⟩:=h
  exact⟨U,rfl,VRel.unren hb h⟩
 |.nilIface,V,_,h=>by simpa [AV.ren,VRel] using h
 |.agg cs,V,hb,h=>by
  simp only[AV.under] at hb
  simp only[AV.ren,VRel] at h ⊢
  obtain⟨Us,rfl,h⟩:=h
  exact⟨Us,rfl,VRels.unren hb h⟩
 |.tuple cs,V,hb,h=>by
  simp only[AV.under] at hb
  simp only[AV.ren,VRel] at h ⊢
  obtain⟨Us,rfl,h⟩:=h
  exact⟨Us,rfl,VRels.unren hb h⟩
theorem VRels.unren{μ:Nat→Place}{N:Nat}{ks:List Nat}{n0:Nat}:∀{vs Us},AV.unders ks.length vs=true→VRels μ N (AV.rens (eK ks n0) vs) Us→VRels (fun i=>μ (ks.getD i 0)) ks.length vs Us
 | [],Us,_,h=>by simpa [AV.rens,VRels] using h
 |v::vs,Us,hb,h=>by
  simp only[AV.unders,Bool.and_eq_true] at hb
  simp only[AV.rens,VRels] at h ⊢
  obtain⟨U,Ws,rfl,h1,h2⟩:=h
  exact⟨U,Ws,rfl,VRel.unren hb.1 h1,VRels.unren hb.2 h2⟩
end
def SubSlot(ks:List Nat) (M:Mem) (k:Nat):Slot→Prop
 |.absent=>True
 |.cells false es cs=>AV.unders ks.length cs=true∧∃o cs',M[k]? =some (.cells o es cs')∧∀(j:Nat) v,cs[j]? =some v→cs'[j]? =some (v.ren (eK ks M.length))
 |.fmap es=>∃es',(M[k]? =some (.fmap es')∨M[k]? =some (.map es'))∧es'.length=es.length∧
   ∀(j:Nat) e,es[j]? =some e→(e.1.under ks.length=true∧e.2.under ks.length=true)∧es'[j]? =some (e.1.ren (eK ks M.length),e.2.ren (eK ks M.length))
 |_=>False
theorem vh{n:Nat}:∀{cs:List AV},AV.unders n cs=true→∀(j:Nat) v,cs[j]? =some v→v.under n=true
 | [],_,j,v,h=>by simp at h
 |c::cs,h,j,v,hj=>by
  simp only[AV.unders,Bool.and_eq_true] at h
  cases j with
  |zero=>simp at hj;subst hj;exact h.1
  |succ j=>exact vh h.2 j v (by simpa using hj)
theorem xk{α:Type}{cs cs' :List α}{g:α→α}(h:∀(j:Nat) v,cs[j]? =some v→cs'[j]? =some (g v)):cs.length≤cs'.length:=by
 by_cases h0:cs.length=0
 ·omega
 ·have:=h (cs.length-1) (cs[cs.length-1]'(by omega)) (by simp)
  have:=(List.getElem?_eq_some_iff.1 this).1
  omega
section
variable {P:Program}
theorem ACallsTo.frame{f:FuncId}{args:List AV}{m new M:Mem}{v:AV}(ks:List Nat) (hl:m.length=ks.length) (hk:∀k∈ks,k<M.length) (ha:AV.unders ks.length args=true)
  (hm:∀(i:Nat) s,m[i]? =some s→SubSlot ks M (ks.getD i 0) s) (hn:new.all (fun s=>s.own||match s with | .absent=>true | _=>false)=true)
  (h:ACallsTo P f args m v (m++new)):ACallsTo P f (AV.rens (eK ks M.length) args) M (v.ren (eK ks M.length)) (M++new.map (Slot.ren (eK ks M.length))):=by
 refine⟨h.1,fun base μ w Vs hG hH hV=>?_⟩
 have hnone:∀b,¬dn m b:=by
  rintro b ⟨s,hs,ho⟩
  have:=hm b s hs
  cases s with
  |absent=>cases ho
  |cells own es cs=>simp only[Slot.own] at ho;subst ho;exact this
  |map es=>exact this
  |fmap es=>cases ho
  |loop r=>exact this
 have hms:HRel base (fun i=>μ (ks.getD i 0)) m w:=by
  refine⟨hH.base_le,fun b s hs=>?_,fun b b' s' hb=>absurd hb (hnone b)⟩
  have hsub:=hm b s hs
  cases s with
  |absent=>trivial
  |map es=>exact hsub.elim
  |fmap es=>
   obtain⟨es',h1,h2,h3⟩:=hsub
   have hs:∃ents clock,w.heap[(μ (ks.getD b 0)).blk]? =some (.map ents clock)∧AW ents clock∧ents.size=es'.length∧∀(j:Nat) e,es'[j]? =some e→∃E,ents[j]? =some E∧Ku μ M.length e E:=by
    rcases h1 with h1 | h1
    ·have:=hH.slot _ _ h1;simpa only[SRel] using this
    ·have:=hH.slot _ _ h1
     simp only[SRel] at this
     obtain⟨ents,clock,k1,k2,k3,k4⟩:=this
     exact⟨ents,clock,k1,k2.2,k3,k4⟩
   obtain⟨ents,clock,k1,k2,k3,k4⟩:=hs
   simp only[SRel]
   refine⟨ents,clock,k1,k2,by omega,fun j e he=>?_⟩
   obtain⟨⟨u1,u2⟩,u3⟩:=h3 j e he
   obtain⟨E,hE,r1,r2⟩:=k4 j _ u3
   rw[hl]
   exact⟨E,hE,VRel.unren u1 r1,VRel.unren u2 r2⟩
  |loop r=>exact hsub.elim
  |cells own es cs=>
   cases own with
   |true=>exact hsub.elim
   |false=>
    obtain⟨hb,o,cs',h1,h2⟩:=hsub
    have:=hH.slot _ _ h1
    simp only[SRel] at this ⊢
    obtain⟨cur,e,fr,g1,g2,g3,g4,_⟩:=this
    refine⟨cur,e,fr,g1,g2,Nat.le_trans (xk h2) g3,fun j u hj=>?_,fun h=>by cases h⟩
    obtain⟨V,hV,hr⟩:=g4 j _ (h2 j u hj)
    rw[hl]
    exact⟨V,hV,VRel.unren (vh hb j u hj) hr⟩
 have hargs:=VRels.unren ha hV
 rw[←hl] at hargs
 refine(h.2 base _ w Vs hG hms hargs).mono ?_
 rintro e w' ⟨V,v',mem',μ',rfl,q1,q2,q3,rfl,rfl⟩
 have hg:Gentle w w' :=⟨q3.size,fun k hk=>q3.frame k hk fun b hb=>absurd hb (hnone b),q3.os,q3.tape,q3.output,q3.drawn⟩
 have hfresh:∀b,dn (m++new) b→w.heap.size≤(μ' b).blk:=by
  intro b hb
  by_cases hlt:(μ' b).blk<w.heap.size
  ·obtain⟨b0,h0,_⟩:=q3.owner b hb hlt
   exact absurd h0 (hnone b0)
  ·omega
 obtain⟨μ2,hμ2⟩:∃μ2:Nat→Place,μ2=fun b=>if b<M.length then μ b else μ' (b-M.length+m.length):=⟨_,rfl⟩
 have hold:∀b,b<M.length→μ2 b=μ b:=fun b hb=>by rw[hμ2];simp[hb]
 have hnew:∀i,μ2 (M.length+i)=μ' (m.length+i):=fun i=>by
  rw[hμ2]
  simp only
  rw[if_neg (by omega)]
  congr 1;omega
 have hρ:∀b b',b<(m++new).length→eK ks M.length b=some b' →b' <(M++new.map (Slot.ren (eK ks M.length))).length∧μ2 b' =μ' b:=by
  intro b b' hb hb'
  simp only[List.length_append,List.length_map] at hb ⊢
  unfold eK at hb'
  split at hb'
  ·rename_i hlt
   cases hb'
   have hmem:ks.getD b 0∈ks:=by
    rw[List.getD_eq_getElem?_getD,List.getElem?_eq_getElem hlt,Option.getD_some]
    exact List.getElem_mem hlt
   have:=hk _ hmem
   refine⟨by omega,?_⟩
   rw[hold _ this]
   exact(q3.agree b (by omega)).symm
  ·rename_i hlt
   cases hb'
   refine⟨by omega,?_⟩
   rw[hnew,show m.length+(b-ks.length)=b by omega]
 have hget:∀b s,(M++new.map (Slot.ren (eK ks M.length)))[b]? =some s→(b<M.length∧M[b]? =some s)∨∃i s0,b=M.length+i∧new[i]? =some s0∧s=s0.ren (eK ks M.length):=by
  intro b s hs
  by_cases hb:b<M.length
  ·rw[List.getElem?_append_left hb] at hs
   exact .inl ⟨hb,hs⟩
  ·rw[List.getElem?_append_right (by omega),List.getElem?_map] at hs
   simp only[Option.map_eq_some_iff] at hs
   obtain⟨s0,h1,h2⟩:=hs
   exact .inr ⟨b-M.length,s0,by omega,h1,h2.symm⟩
 have hnewget:∀i s0,new[i]? =some s0→(m++new)[m.length+i]? =some s0:=by
  intro i s0 h
  rw[List.getElem?_append_right (by omega),Nat.add_sub_cancel_left];exact h
 have hnewown:∀i s0,new[i]? =some s0→s0≠ .absent→dn (m++new) (m.length+i):=by
  intro i s0 h hne
  refine⟨s0,hnewget i s0 h,?_⟩
  have:=List.all_eq_true.1 hn s0 (List.mem_of_getElem? h)
  cases s0<;>simp_all
 have renabs:∀s0:Slot,s0.ren (eK ks M.length)≠ .absent→s0≠ .absent:=by
  rintro s0 h rfl;exact h rfl
 refine⟨V,_,_,μ2,rfl,q1.ren hρ,⟨Nat.le_trans hH.base_le hg.size,fun b s hs=>?_,fun b b' s' hb hb' hne hbb=>?_⟩,?_,rfl,rfl⟩
 ·rcases hget b s hs with⟨hb,h1⟩ | ⟨i,s0,rfl,h1,rfl⟩
  ·rw[hold b hb]
   refine(hH.slot b s h1).mono (by simp) hold fun hne=>hg.heap _ ((hH.slot b s h1).blk_lt hne)
  ·rw[hnew]
   exact(q2.slot _ s0 (hnewget i s0 h1)).ren hρ
 ·obtain⟨s,hs,ho⟩:=hb
  have hsne:=Slot.own_ne ho
  rcases hget b s hs with⟨hb,h1⟩ | ⟨i,s0,rfl,h1,rfl⟩<;>rcases hget b' s' hb' with⟨hb',h1'⟩ | ⟨i',s0',rfl,h1',rfl⟩
  ·rw[hold b hb,hold b' hb']
   exact hH.sep b b' s' ⟨s,h1,ho⟩ h1' hne hbb
  ·rw[hold b hb,hnew]
   have g1:=(hH.slot b s h1).blk_lt hsne
   have g2:=hfresh _ (hnewown i' s0' h1' (renabs _ hne))
   omega
  ·rw[hold b' hb',hnew]
   have g1:=(hH.slot b' s' h1').blk_lt hne
   have g2:=hfresh _ (hnewown i s0 h1 (renabs _ hsne))
   omega
  ·rw[hnew,hnew]
   exact q2.sep _ _ s0' (hnewown i s0 h1 (renabs _ hsne)) (hnewget i' s0' h1') (renabs _ hne) (by omega)
 ·refine⟨by simp,hold,hg.os,hg.tape,hg.output,hg.size,fun k hk _=>hg.heap k hk,fun b hb hlt=>?_,hg.drawn⟩
  obtain⟨s,hs,ho⟩:=hb
  rcases hget b s hs with⟨hb,h1⟩ | ⟨i,s0,rfl,h1,rfl⟩
  ·exact⟨b,⟨s,h1,ho⟩,by rw[hold b hb]⟩
  ·rw[hnew] at hlt
   have:=hfresh _ (hnewown i s0 h1 (renabs _ (Slot.own_ne ho)))
   omega
end
end Go.Eng
namespace Go.Eng
def iN(k:IntKind) (l:List Nat):List AV:=l.map fun n:Nat=>.int k (n:Int)
def iZ(l:List Int):List AV:=l.map fun n=>.int .i64 n
section
variable (k:IntKind)
theorem NO:iN k []=[]:=rfl
theorem bV(n:Nat) (l:List Nat):iN k (n::l)=.int k (n:Int)::iN k l:=rfl
theorem NN(l:List Nat):(iN k l).length=l.length:=by simp[iN]
theorem cR(l r:List Nat):iN k (l++r)=iN k l++iN k r:=by simp[iN]
theorem QZ(l:List Nat) (n:Nat):iN k l++[.int k (n:Int)]=iN k (l++[n]):=by simp[iN]
theorem NM(l:List Nat) (i:Nat):(iN k l)[i]? =(l[i]?).map fun n:Nat=>.int k (n:Int):=by simp[iN]
theorem L5(l:List Nat) (i:Nat) (h:i<(iN k l).length):(iN k l)[i]=.int k ((l[i]'(by simpa [iN] using h):Nat):Int):=by simp[iN]
theorem fT(l:List Nat) (i:Nat):(iN k l).take i=iN k (l.take i):=by simp[iN]
theorem oC(l:List Nat) (i:Nat):(iN k l).drop i=iN k (l.drop i):=by simp[iN]
theorem RL(l:List Nat):(iN k l).all AV.cellOk=true:=by simp[iN,AV.cellOk]
theorem Kd(m:Nat) (l:List Nat):AV.refsL m (iN k l)=[]:=by
 induction l with
 |nil=>rfl
 |cons x l ih=>simp[bV,AV.refsL,AV.refs,ih]
theorem Oo(ρ:Nat→Option Nat) (l:List Nat):AV.rens ρ (iN k l)=iN k l:=by
 induction l with
 |nil=>rfl
 |cons x l ih=>simp[bV,AV.rens,AV.ren,ih]
theorem HC(m:Nat) (l:List Nat):AV.unders m (iN k l)=true:=by
 induction l with
 |nil=>rfl
 |cons x l ih=>simp[bV,AV.unders,AV.under,ih]
theorem Bo(ok:Nat→Bool) (l:List Nat):AV.refsOkL ok (iN k l)=true:=by
 induction l with
 |nil=>rfl
 |cons x l ih=>simp[bV,AV.refsOkL,AV.refsOk,ih]
theorem Hp(m:Nat) (o:Bool) (e:Nat) (l:List Nat):Slot.refs m (.cells o e (iN k l))=[]:=by simp[Slot.refs,Kd]
theorem Js(ρ:Nat→Option Nat) (o:Bool) (e:Nat) (l:List Nat):Slot.ren ρ (.cells o e (iN k l))=.cells o e (iN k l):=by simp[Slot.ren,Oo]
theorem AQ(ok:Nat→Bool) (o:Bool) (e:Nat) (l:List Nat):Slot.refsOk ok (.cells o e (iN k l))=true:=by simp[Slot.refsOk,Bo]
theorem sS(l:Nat):eH [.int k 0] l=iN k (List.replicate l 0):=by
 induction l with
 |zero=>rfl
 |succ l ih=>rw[eH,ih,List.replicate_succ,bV];rfl
end
attribute [simp] NO NN NM L5 Kd Oo HC Bo Hp Js AQ RL
attribute [simp] C8 uZ TyI.isAgg Slot.refs Slot.ren AV.under AV.unders Slot.own mh iW kf xn qo qp Rs ej mQ eH AV.known AV.cells AV.cellOk
def zw(k:IntKind):List AV→Option (List Nat)
 | []=>some []
 |.int k' n::l=>if k' =k∧0≤n then match zw k l with
  |some r=>some (n.toNat::r)
  |none=>none
  else none
 |_::_=>none
theorem N6(k:IntKind) (l:List Nat):zw k (iN k l)=some l:=by
 induction l with
 |nil=>rfl
 |cons x l ih=>rw[bV,zw,if_pos ⟨rfl,by omega⟩,ih];simp
theorem zx{k:IntKind}:∀{l:List AV} {r:List Nat},zw k l=some r→l=iN k r
 | [],r,h=>by cases h;rfl
 |v::l,r,h=>by
  cases v<;>first | (unfold zw at h;cases h;done) | skip
  rename_i k' n
  unfold zw at h
  split at h
  ·rename_i hc
   split at h
   ·rename_i r' hr
    cases h
    rw[bV,zx hr,hc.1]
    congr 2
    omega
   ·cases h
  ·cases h
theorem cV{l:List Nat}{i:Nat}(h:i<l.length):∃x,l[i]? =some x∧l[i]=x:=⟨l[i],by simp,rfl⟩
mutual
theorem vy{n:Nat}:∀{v:AV},v.closed=true→v.under n=true
 |.ptr _ _,h=>by simp[AV.closed] at h
 |.slice _ _ _ _,h=>by simp[AV.closed] at h
 |.map _,h=>by simp[AV.closed] at h
 |.yield _,h=>by simp[AV.closed] at h
 |.func _ cs,h=>by simp only[AV.closed] at h;simp only[AV.under];exact aR h
 |.iface _ v,h=>by simp only[AV.closed] at h;simp only[AV.under];exact vy h
 |.agg cs,h=>by simp only[AV.closed] at h;simp only[AV.under];exact aR h
 |.tuple cs,h=>by simp only[AV.closed] at h;simp only[AV.under];exact aR h
 |.undef,_=>rfl
 |.bool _,_=>rfl
 |.int _ _,_=>rfl
 |.str _,_=>rfl
 |.nilptr,_=>rfl
 |.nilslice,_=>rfl
 |.nilmap,_=>rfl
 |.nilFunc,_=>rfl
 |.nilIface,_=>rfl
theorem aR{n:Nat}:∀{vs:List AV},AV.closeds vs=true→AV.unders n vs=true
 | [],_=>rfl
 |v::vs,h=>by
  simp only[AV.closeds,Bool.and_eq_true] at h
  simp only[AV.unders,vy h.1,aR h.2];rfl
end
mutual
theorem Bq{ρ:Nat→Option Nat}:∀{v:AV},v.closed=true→v.ren ρ=v
 |.ptr _ _,h=>by simp[AV.closed] at h
 |.slice _ _ _ _,h=>by simp[AV.closed] at h
 |.map _,h=>by simp[AV.closed] at h
 |.yield _,h=>by simp[AV.closed] at h
 |.func _ cs,h=>by simp only[AV.closed] at h;simp only[AV.ren,aJ h]
 |.iface _ v,h=>by simp only[AV.closed] at h;simp only[AV.ren,Bq h]
 |.agg cs,h=>by simp only[AV.closed] at h;simp only[AV.ren,aJ h]
 |.tuple cs,h=>by simp only[AV.closed] at h;simp only[AV.ren,aJ h]
 |.undef,_=>rfl
 |.bool _,_=>rfl
 |.int _ _,_=>rfl
 |.str _,_=>rfl
 |.nilptr,_=>rfl
 |.nilslice,_=>rfl
 |.nilmap,_=>rfl
 |.nilFunc,_=>rfl
 |.nilIface,_=>rfl
theorem aJ{ρ:Nat→Option Nat}:∀{vs:List AV},AV.closeds vs=true→AV.rens ρ vs=vs
 | [],_=>rfl
 |v::vs,h=>by
  simp only[AV.closeds,Bool.and_eq_true] at h
  simp only[AV.rens,Bq h.1,aJ h.2]
end
theorem tJ(s n:Nat):(s:Int).tmod (n:Int)=((s%n:Nat):Int):=rfl
theorem tI(s n:Nat):(s:Int).tdiv (n:Int)=((s / n:Nat):Int):=rfl
theorem xJ(s n:Nat):(s:Int).tmod (OfNat.ofNat n)=((s%n:Nat):Int):=rfl
theorem Qm(s n:Nat):(s:Int).tdiv (OfNat.ofNat n)=((s / n:Nat):Int):=rfl
theorem Ho(m:Nat) (a b:List AV):AV.refsL m (a++b)=AV.refsL m a++AV.refsL m b:=by
 induction a with
 |nil=>rfl
 |cons x a ih=>simp[AV.refsL,ih]
theorem Ju(ρ:Nat→Option Nat) (a b:List AV):AV.rens ρ (a++b)=AV.rens ρ a++AV.rens ρ b:=by
 induction a with
 |nil=>rfl
 |cons x a ih=>simp[AV.rens,ih]
theorem AP(ok:Nat→Bool) (a b:List AV):AV.refsOkL ok (a++b)=(AV.refsOkL ok a&&AV.refsOkL ok b):=by
 induction a with
 |nil=>rfl
 |cons x a ih=>simp[AV.refsOkL,ih,Bool.and_assoc]
attribute [simp] Ho Ju AP
end Go.Eng
namespace Go.Eng
def RowAt(k:IntKind) (M:Mem) (x:AV) (A:List Nat):Prop:=∃b o cs,x=.slice b 0 A.length none∧M[b]? =some (.cells o 1 cs)∧cs.take A.length=iN k A
def bB(k:IntKind) (M:Mem):AV→Option (List Nat)
 |.slice b 0 n none=>match M[b]? with
  |some (.cells _ 1 cs)=>if n≤cs.length then zw k (cs.take n) else none
  |_=>none
 |_=>none
theorem bI{k:IntKind}{M:Mem}{x:AV}{A:List Nat}(h:bB k M x=some A):RowAt k M x A:=by
 unfold bB at h
 split at h
 ·rename_i b n
  split at h
  ·rename_i o cs hb
   split at h
   ·rename_i hn
    have hA:=zx h
    have hl:n=A.length:=by
     have:=congrArg List.length hA
     simp at this;omega
    subst hl
    exact⟨b,o,cs,rfl,hb,hA⟩
   ·cases h
  ·cases h
 ·cases h
theorem ba{k:IntKind}{M:Mem}{b n:Nat}{ow:Bool}{cs:List AV}{A:List Nat}(h:M[b]? =some (.cells ow 1 cs)) (hn:n≤cs.length) (hA:cs.take n=iN k A):bB k M (.slice b 0 n none)=some A:=by
 simp only[bB,h]
 rw[if_pos hn,hA,N6]
theorem SubSlot.row{k:IntKind}{ks:List Nat}{M:Mem}{b:Nat}{o:Bool}{cs:List AV}{A:List Nat}(h:M[b]? =some (.cells o 1 cs)) (ht:cs.take A.length=iN k A):SubSlot ks M b (.cells false 1 (iN k A)):=by
 refine⟨HC _ _ _,o,cs,h,fun j v hv=>?_⟩
 have hj:j<A.length:=by
  have:=(List.getElem?_eq_some_iff.1 hv).1
  simpa using this
 have:cs[j]? =(iN k A)[j]? :=by rw[←ht,List.getElem?_take_of_lt hj]
 rw[this,hv]
 rw[NM] at hv
 simp only[Option.map_eq_some_iff] at hv
 obtain⟨n,_,rfl⟩:=hv
 simp[AV.ren]
section
variable {P:Program}{k:IntKind}{f:FuncId}{A B:List Nat}{M:Mem}{x y:AV}
theorem ACallsTo.rows1{rest:List AV}{v:AV}{new:Mem}(hr:AV.closeds rest=true) (hn:new.all (fun s=>s.own||match s with | .absent=>true | _=>false)=true)
  (h:ACallsTo P f (.slice 0 0 A.length none::rest) [.cells false 1 (iN k A)] v (.cells false 1 (iN k A)::new)) (hx:RowAt k M x A):
  ∃b,x=.slice b 0 A.length none∧ACallsTo P f (x::rest) M (v.ren (eK [b] M.length)) (M++new.map (Slot.ren (eK [b] M.length))):=by
 obtain⟨b,o,cs,rfl,hb,ht⟩:=hx
 refine⟨b,rfl,?_⟩
 have hlt:=(List.getElem?_eq_some_iff.1 hb).1
 have:=ACallsTo.frame (M:=M) [b] (m:=[.cells false 1 (iN k A)]) rfl (by simpa using hlt) (by simp only[AV.unders,AV.under,aR hr];rfl) (fun i s hs=>by
  cases i with
  |zero=>simp at hs;subst hs;exact .row hb ht
  |succ i=>simp at hs) hn h
 simpa [AV.rens,AV.ren,eK,aJ hr] using this
theorem ACallsTo.rows2{v:AV}{new:Mem}(hn:new.all (fun s=>s.own||match s with | .absent=>true | _=>false)=true)
  (h:ACallsTo P f [.slice 0 0 A.length none,.slice 1 0 B.length none] [.cells false 1 (iN k A),.cells false 1 (iN k B)] v (.cells false 1 (iN k A)::.cells false 1 (iN k B)::new)) (hx:RowAt k M x A) (hy:RowAt k M y B):
  ∃b c,x=.slice b 0 A.length none∧y=.slice c 0 B.length none∧ACallsTo P f [x,y] M (v.ren (eK [b,c] M.length)) (M++new.map (Slot.ren (eK [b,c] M.length))):=by
 obtain⟨b,o,cs,rfl,hb,ht⟩:=hx
 obtain⟨c,o',cs',rfl,hc,ht'⟩:=hy
 refine⟨b,c,rfl,rfl,?_⟩
 have hlt:=(List.getElem?_eq_some_iff.1 hb).1
 have hlt' :=(List.getElem?_eq_some_iff.1 hc).1
 have:=ACallsTo.frame (M:=M) [b,c] (m:=[.cells false 1 (iN k A),.cells false 1 (iN k B)]) rfl (by simp[hlt,hlt']) (by simp) (fun i s hs=>by
  match i with
  |0=>simp at hs;subst hs;exact .row hb ht
  |1=>simp at hs;subst hs;exact .row hc ht'
  |i+2=>simp at hs) hn h
 simpa [AV.rens,AV.ren,eK] using this
theorem ACallsTo.trunc{args:List AV}{m:Mem}{v:AV}{o:Bool}{es:Nat}{cs cs' :List AV}(h:ACallsTo P f args m v (m++[Slot.cells o es cs])) (hp:cs' <+: cs):ACallsTo P f args m v (m++[Slot.cells o es cs']):=by
 refine⟨h.1,fun base μ w Vs hG hH hV=>(h.2 base μ w Vs hG hH hV).mono ?_⟩
 rintro e w' ⟨V,v',m',μ',rfl,q1,q2,q3,rfl,rfl⟩
 have key:∀b s2,(m++[Slot.cells o es cs'])[b]? =some s2→∃s1,(m++[Slot.cells o es cs])[b]? =some s1∧s1.own=s2.own∧(s1=.absent→s2=.absent)∧SRel μ' (m++[Slot.cells o es cs]).length base w' (μ' b) s2:=by
  intro b s2 hb
  by_cases hlt:b<m.length
  ·rw[List.getElem?_append_left hlt] at hb
   have hb' :(m++[Slot.cells o es cs])[b]? =some s2:=by rw[List.getElem?_append_left hlt];exact hb
   exact⟨s2,hb',rfl,id,q2.slot b s2 hb'⟩
  ·have hbe:b=m.length:=by have:=(List.getElem?_eq_some_iff.1 hb).1;simp at this;omega
   subst hbe
   simp at hb
   subst hb
   have hb' :(m++[Slot.cells o es cs])[m.length]? =some (Slot.cells o es cs):=by simp
   refine⟨_,hb',rfl,(fun h=>by cases h),?_⟩
   have:=q2.slot _ _ hb'
   simp only[SRel] at this ⊢
   obtain⟨cur,el,fr,g1,g2,g3,g4,g5⟩:=this
   refine⟨cur,el,fr,g1,g2,Nat.le_trans hp.length_le g3,fun j u hj=>g4 j u ?_,g5⟩
   obtain⟨t,rfl⟩:=hp
   rw[List.getElem?_append_left (List.getElem?_eq_some_iff.1 hj).1];exact hj
 have hlen:(m++[Slot.cells o es cs']).length=(m++[Slot.cells o es cs]).length:=by simp
 refine⟨V,_,_,μ',rfl,by rw[hlen];exact q1,q2.swap hlen key,⟨by rw[hlen];exact q3.len,q3.agree,q3.os,q3.tape,q3.output,q3.size,q3.frame,fun b hb hlt=>?_,q3.drawn⟩,rfl,rfl⟩
 obtain⟨s,g1,g2⟩:=hb
 obtain⟨s1,k1,k2,_,_⟩:=key b s g1
 exact q3.owner b ⟨s1,k1,by rw[k2];exact g2⟩ hlt
end
end Go.Eng
namespace Go.Eng
def qA(P:Program) (c:Callee) (args:List AV) (m:Mem) (r:CallRes):Prop:=
 (match c with
  |.fn f=>ACallsTo P f args m r.v (r.mem m)
  |.yld b=>eD P b args m r.v (r.mem m))∧∀q,r.pre=some q→q.length=m.length
open Classical in
theorem gy{P:Program}{ι:Type}(p:ι→Prop) (c:ι→Callee) (a:ι→List AV) (m:ι→Mem) (r:ι→CallRes) (hs:∀i,p i→qA P (c i) (a i) (m i) (r i))
  (hc:∀i j,p i→p j→c i=c j→a i=a j→m i=m j→r i=r j):∃O:Oracle,OracleOk P O∧∀i,p i→O (c i) (a i) (m i)=some (r i):=by
 refine⟨fun c' a' m' =>if h:∃i,p i∧c i=c' ∧a i=a' ∧m i=m' then some (r (Classical.choose h)) else none,?_,fun i hi=>?_⟩
 ·have key:∀c' a' m' r',(if h:∃i,p i∧c i=c' ∧a i=a' ∧m i=m' then some (r (Classical.choose h)) else none)=some r' →qA P c' a' m' r' :=by
   intro c' a' m' r' h
   split at h
   ·rename_i hex
    obtain⟨h1,h2,h3,h4⟩:=Classical.choose_spec hex
    cases h
    have:=hs _ h1
    rw[h2,h3,h4] at this
    exact this
   ·cases h
  exact⟨fun f a' m' r' h=>(key _ _ _ _ h).1,fun b a' m' r' h=>(key _ _ _ _ h).1,fun c' a' m' r' q h hq=>(key _ _ _ _ h).2 q hq⟩
 ·have hex:∃j,p j∧c j=c i∧a j=a i∧m j=m i:=⟨i,hi,rfl,rfl,rfl⟩
  simp only[dif_pos hex]
  obtain⟨h1,h2,h3,h4⟩:=Classical.choose_spec hex
  rw[hc _ _ h1 hi h2 h3 h4]
theorem tE{n:Nat}{r:LoopA}(h:r.env.flatMap (fun e=>e.2.refs n)=[]):Slot.refs n (.loop r)=[]:=h
theorem Ke{n:Nat}{ks:List Nat}{r:LoopA}(h:r.env.flatMap (fun e=>e.2.refs n)=[]):Slot.ren (rho n ks) (.loop r)=.loop r:=Slot.ren_refs (tE h)
theorem CH{n:Nat}{m:Mem}(h:∀s∈m,s.refs n=[]):m.flatMap (Slot.refs n)=[]:=by
 rw[List.flatMap_eq_nil_iff];exact h
theorem vI{n:Nat}{ks:List Nat}{m:Mem}(h:∀s∈m,s.refs n=[]):m.map (Slot.ren (rho n ks))=m:=by
 conv=>rhs;rw[←List.map_id m]
 apply List.map_congr_left
 intro s hs
 rw[Slot.ren_refs (h s hs)];rfl
theorem GD{T:TypeId→Option TyI}{lv:Code→List Nat}{G:FuncId→Option Func}{O:Oracle}{K:Nat}{f:FuncId}{args:List AV}{mem mem' :Mem}{fn:Func}{c:Code}{v:AV}{e:Exit}{env' :Env}
  (hf:G f=some fn) (hb:fn.body=some c) (hl:args.length≤fn.ntmps) (he:e=.normal∨e=.ret)
  (h:aU T lv O K fn.ntmps mem.length true c ⟨cB 0 args,mem,false⟩=some (e,⟨env',mem',true⟩)) (hv:gB T fn.results.toList env' mem' =some v) (hlen:mem'.length=mem.length) (hv0:v.refs mem.length=[])
  (hm:∀s∈mem',s.refs mem.length=[]):aa T lv G O K f args mem=some ⟨v,some mem',[]⟩:=by
 have ht:mem'.take mem.length=mem' :=List.take_of_length_le (by omega)
 unfold aa
 simp only[hf,hb]
 rw[if_pos hl,h]
 have hks:mU mem.length mem' 1000 (v.refs mem.length++(mem'.take mem.length).flatMap (Slot.refs mem.length)) []=[]:=by
  rw[hv0,ht,CH hm];rfl
 rcases he with rfl | rfl
 ·simp only[hv,if_true]
  rw[hks,ht]
  simp[AM,keep,vI hm,AV.ren_refs hv0]
 ·simp only[hv,if_true]
  rw[hks,ht]
  simp[AM,keep,vI hm,AV.ren_refs hv0]
theorem rI{T:TypeId→Option TyI}{lv:Code→List Nat}{O:Oracle}{K N m0:Nat}{tp:Bool}{b:Code}{L:List Nat}(hlv:lv b=L) {mem mem' :Mem}{e:Exit}(d0 d1:Bool) (pre:Env→Prop) (post:Env→Env→Prop)
  (h:∀env0,pre env0→∃env',fA L (ad b) env0 mem.length (aU T lv O K N m0 tp b) K ⟨az L (ad b) env0 env0,mem,d0⟩=some (e,⟨env',mem',d1⟩)∧post env0 env'):
  ∃F:Env→Env,∀env0,pre env0→aU T lv O K N m0 tp (.loop b) ⟨env0,mem,d0⟩=some (e,⟨F env0,mem',d1⟩)∧post env0 (F env0):=by
 obtain⟨F,hF⟩:=pd (p:=fun env0 _=>pre env0) (q:=fun env0 _ e' =>aU T lv O K N m0 tp (.loop b) ⟨env0,mem,d0⟩=some (e,⟨e',mem',d1⟩)∧post env0 e') (fun env0 _ hp=>by
  obtain⟨env',h1,h2⟩:=h env0 hp
  exact⟨env',by rw[aZ,hlv];exact h1,h2⟩)
 exact⟨fun env0=>F env0 true,fun env0 hp=>hF env0 true hp⟩
def ef:Code→List (Array Tmp×Code×Code)
 |.seq a b=>ef a++ef b
 |.cond _ a b=>ef a++ef b
 |.block _ b=>ef b
 |.loop b=>ef b
 |.rangeFunc _ ps a b=>[(ps,a,b)]
 |_=>[]
def de(f:Func):List (Array Tmp×Code×Code):=match f.body with
 |some c=>ef c
 |none=>[]
theorem Jq{n:Nat}{ks:List Nat}{env:Env}(h:env.flatMap (fun e=>e.2.refs n)=[]):oZ (rho n ks) env=env:=by
 unfold oZ
 rw[List.flatMap_eq_nil_iff] at h
 conv=>rhs;rw[←List.map_id env]
 apply List.map_congr_left
 intro e he
 rw[AV.ren_refs (h e he)];rfl
attribute [simp] Slot.refsOk
theorem ca{P:Program}{O:Oracle}(key:∀c args M r,O c args M=some r→qA P c args M r):OracleOk P O:=
 ⟨fun f args M r h=>(key _ _ _ _ h).1,fun b args M r h=>(key _ _ _ _ h).1,fun c args M r p h hp=>(key _ _ _ _ h).2 p hp⟩
theorem dJ{P:Program}{O:Oracle}(hO:OracleOk P O) {c:Go.Eng.Callee}{args:List AV}{M:Mem}{r:CallRes}(h:O c args M=some r):qA P c args M r:=by
 refine⟨?_,fun q hq=>hO.pre _ _ _ _ _ h hq⟩
 cases c with
 |fn f=>exact hO.fn _ _ _ _ h
 |yld b=>exact hO.yld _ _ _ _ h
theorem ah{P:Program}{f:FuncId}{args:List AV}{M new:Mem}{v:AV}(h:ACallsTo P f args M v (M++new)):qA P (.fn f) args M ⟨v,none,new⟩:=⟨h,fun q hq=>by cases hq⟩
def CutOf(s s' :Slot):Prop:=s=s' ∨∃o es cs cs',s' =.cells o es cs∧s=.cells o es cs' ∧cs' <+: cs
theorem CutOf.row{k:IntKind}{o:Bool}{es:Nat}{l r:List Nat}(h:l <+: r):CutOf (.cells o es (iN k l)) (.cells o es (iN k r)):=by
 obtain⟨t,rfl⟩:=h
 exact .inr ⟨o,es,_,_,rfl,rfl,iN k t,by rw[←cR]⟩
theorem ACallsTo.truncs{P:Program}{f:FuncId}{args:List AV}{m m1 m2:Mem}{v:AV}(h:ACallsTo P f args m v m1) (hl:m2.length=m1.length) (hc:∀(b:Nat) s,m2[b]? =some s→∃s',m1[b]? =some s' ∧CutOf s s'):ACallsTo P f args m v m2:=by
 refine⟨h.1,fun base μ w Vs hG hH hV=>(h.2 base μ w Vs hG hH hV).mono ?_⟩
 rintro e w' ⟨V,v',m',μ',rfl,q1,q2,q3,rfl,rfl⟩
 have key:∀b s2,m2[b]? =some s2→∃s1,m'[b]? =some s1∧s1.own=s2.own∧(s1=.absent→s2=.absent)∧SRel μ' m'.length base w' (μ' b) s2:=by
  intro b s2 hb
  obtain⟨s',h1,h2⟩:=hc b s2 hb
  rcases h2 with rfl | ⟨o,es,cs,cs',rfl,rfl,hp⟩
  ·exact⟨s2,h1,rfl,id,q2.slot b s2 h1⟩
  ·refine⟨_,h1,rfl,(fun h=>by cases h),?_⟩
   have:=q2.slot _ _ h1
   simp only[SRel] at this ⊢
   obtain⟨cur,el,fr,g1,g2,g3,g4,g5⟩:=this
   refine⟨cur,el,fr,g1,g2,Nat.le_trans hp.length_le g3,fun j u hj=>g4 j u ?_,g5⟩
   obtain⟨t,rfl⟩:=hp
   rw[List.getElem?_append_left (List.getElem?_eq_some_iff.1 hj).1];exact hj
 refine⟨V,v',m2,μ',rfl,by rw[hl];exact q1,q2.swap hl key,⟨by rw[hl];exact q3.len,q3.agree,q3.os,q3.tape,q3.output,q3.size,q3.frame,fun b hb hlt=>?_,q3.drawn⟩,rfl,rfl⟩
 obtain⟨s,g1,g2⟩:=hb
 obtain⟨s1,k1,k2,_,_⟩:=key b s g1
 exact q3.owner b ⟨s1,k1,by rw[k2];exact g2⟩ hlt
section
variable {P:Program}{T:TypeId→Option TyI}{O:Oracle}{K:Nat}{lv:Code→List Nat}
theorem ACalls.intro_raw(hT:cf P T) {f:FuncId}{fn:Func}{c:Code}{args:List AV}{mem:Mem}{R:AV→Mem→Prop}(hf:P.funcs[f]? =some fn) (hb:fn.body=some c)
  (hn:(fn.name == "runtime.NumGoroutine")=false) (hl:args.length≤fn.ntmps)
  (h:AWP P true fn.ntmps mem.length c ⟨cB 0 args,mem⟩ fun e st' =>(e=.normal∨e=.ret)∧∃v,gB T fn.results.toList st'.env st'.mem=some v∧R v st'.mem):
  ACalls P f args mem R:=by
 refine⟨⟨fn,hf,by simp[hb],hn⟩,fun base μ w Vs hG hH hV=>?_⟩
 refine xz.1 (callsIn_of_wp_marks (F:=Fr none) (n:=0) hf hb trivial (wpIn_mono (h none w.heap.size base μ w _ (fun _=>rfl) hH ?_ ?_ (MOk.nil w hG hH.base_le (Nat.le_refl _)) (Nat.le_refl _)) ?_) rfl)
 ·intro t
  have:=uS 0 hV t
  simp only[Nat.not_lt_zero,if_false,Nat.sub_zero] at this
  by_cases ht:t<Vs.length
  ·have e:(⟨Vs⟩++Array.replicate (fn.ntmps-(⟨Vs⟩:Array Value).size) undef:Array Value).getD t undef=Vs.getD t undef:=by
    simp only[Array.getD_eq_getD_getElem?]
    rw[Array.getElem?_append_left (by simpa using ht)]
    simp[List.getD]
   show VRel μ mem.length (ab (cB 0 args) t) ((⟨Vs⟩++Array.replicate (fn.ntmps-(⟨Vs⟩:Array Value).size) undef:Array Value).getD t undef)
   rw[e];exact this
  ·have:ab (cB 0 args) t=.undef:=by
    have hlen:=hV.length
    have:∀(vs:List AV) (i:Nat),i+vs.length≤t→ab (cB i vs) t=.undef:=by
     intro vs
     induction vs with
     |nil=>intro i _;rfl
     |cons v vs ih=>
      intro i hi
      simp only[List.length_cons] at hi
      simp only[cB,ab]
      rw[if_neg (by omega)]
      exact ih (i+1) (by omega)
    exact this args 0 (by omega)
   show VRel μ mem.length (ab (cB 0 args) t) _
   rw[this];simp[VRel]
 ·simp only[Array.size_append,List.size_toArray,Array.size_replicate,hV.length];omega
 ·rintro e a' w' ⟨st',μ',b1,b2,b3,b4,b5,b6,he,v,hv,hR⟩
  have post:LeavesInM (Fr none) 0 P fn a'.tmps (fun e w' =>∃V v mem' μ',e=.returned V∧VRel μ' mem'.length v V∧HRel base μ' mem' w' ∧Step mem.length μ mem w μ' mem' w' ∧R v mem') a'.defers .returning w' :=by
   refine oI a'.defers w' b4 b1 b6 fun w2 e1 e2=>?_
   obtain⟨V,k1,k2⟩:=qt (P:=P) (fn:=fn) hT e1 b2 hv
   exact⟨V,k1,⟨V,_,_,_,rfl,k2,e1,e2,hR⟩⟩
  rcases he with rfl | rfl
  ·exact post
  ·exact post
def bT(T:TypeId→Option TyI) (lv:Code→List Nat) (G:FuncId→Option Func) (O:Oracle) (K:Nat) (f:FuncId) (args:List AV) (mem:Mem):Option (AV×Mem):=
 match G f with
 |none=>none
 |some fn=>match fn.body with
  |none=>none
  |some c=>
   if args.length≤fn.ntmps then
    match aU T lv O K fn.ntmps mem.length true c ⟨cB 0 args,mem,false⟩ with
    |some (e,s)=>
     match e with
     |.normal | .ret=>
      match gB T fn.results.toList s.env s.mem with
      |some v=>some (v,s.mem)
      |none=>none
     |_=>none
    |none=>none
   else none
theorem bQ(hm:P.follows .mixedOrders=true) (hT:cf P T) (hO:OracleOk P O) {G:FuncId→Option Func}(hG:FnTab P G) {f:FuncId}{args:List AV}{mem mem' :Mem}{v:AV}
  (h:bT T lv G O K f args mem=some (v,mem')):ACallsTo P f args mem v mem' :=by
 unfold bT at h
 split at h
 ·cases h
 ·rename_i fn hfn
  obtain⟨g1,g2,g3⟩:=hG.fn _ _ hfn
  split at h
  ·cases h
  ·rename_i c hb
   split at h
   ·rename_i hl
    split at h
    ·rename_i e s he
     obtain⟨a1,_⟩:=cw hm hT hO (g3 c hb) he
     have main:(e=.normal∨e=.ret)→(match gB T fn.results.toList s.env s.mem with
      |some v=>some (v,s.mem)
      |none=>none)=some (v,mem')→ACallsTo P f args mem v mem' :=by
      intro hen h
      split at h
      ·rename_i v hv
       cases h
       exact ACalls.intro_raw hT g1 hb g2 hl (a1 _ ⟨hen,_,hv,rfl,rfl⟩)
      ·cases h
     split at h
     ·exact main (.inl rfl) h
     ·exact main (.inr rfl) h
     ·cases h
    ·cases h
   ·cases h
theorem AYields.intro_raw{mem:Mem}{b:Nat}{args:List AV}{R:AV→Mem→Prop}{r:LoopA}(hb:mem[b]? =some (.loop r)) (_hst:r.st=.ready) (hl:args.length=r.ps.toList.length) (hps:∀t∈r.ps.toList,t<r.N)
  (h:AWP P false r.N mem.length r.assign ⟨vw r.ps.toList args r.env,mem⟩ fun e st1=>e=.normal∧∃r1,st1.mem[b]? =some (.loop r1)∧r1.st=.ready∧
   AWP P false r.N mem.length r.body ⟨st1.env,st1.mem.set b (.loop { r1 with st:=.busy })⟩ fun e st2=>∃r2 j,oH e=some j∧st2.mem[b]? =some (.loop r2)∧
    R (.bool j.isNone) (st2.mem.set b (.loop { r2 with st:=ku j,pend:=j }))):
  AYields P b args mem R:=by
 intro base μ w Vs hG hH hV hbl
 have hsl:=hH.slot b _ hb
 simp only[SRel] at hsl
 obtain⟨L,h1,h2,h3⟩:=hsl
 have hlen:Vs.length=L.params.size:=by rw[hV.length,hl,h3.ps];simp
 refine⟨L.fn,(L.params.zip ⟨Vs⟩).foldl (fun tmps (t,a)=>tmps.setIfInBounds t a) L.tmps,L.assign,L.body,?_,?_⟩
 ·simp only[Instr.yield,Sem.run_bind,fR h1,Result.andThen_ok]
  rw[if_neg (by simp[hlen])]
  rfl
 ·refine roundIn_of_wpIn (F:=Fence.wide) trivial ?_
  have hzip:(L.params.zip ⟨Vs⟩).foldl (fun tmps (t,a)=>tmps.setIfInBounds t a) L.tmps=(r.ps.toList.zip Vs).foldl (fun tmps (t,a)=>tmps.setIfInBounds t a) L.tmps:=by
   rw[h3.ps,←Array.foldl_toList]
   simp
  have hb0:=CA (ts:=r.ps.toList) hV h3.tmps hl (fun t ht=>by rw[h3.size];exact hps t ht)
  rw[h3.assign,h3.body]
  refine wpIn_mono (F:=Fr (some (μ b).blk)) (h (some (μ b).blk) w.heap.size base μ w ⟨_,[]⟩ (fun h=>by cases h) hH (by rw[hzip];exact hb0.1) (by rw[hzip,hb0.2];exact h3.size) (MOk.nil w hG hH.base_le (Nat.le_refl _)) (Nat.le_refl _)) ?_
  rintro e a1 w1 ⟨st1,μ1,c1,c2,c3,c4,c5,c6,rfl,r1,c7,c8,hbody⟩
  have hsl1:=c1.slot b _ c7
  simp only[SRel] at hsl1
  obtain⟨L1,d1,d2,d3⟩:=hsl1
  have hμ:μ1 b=μ b:=c6.agree b hbl
  rw[hμ] at d1
  obtain⟨e1,e2,e3⟩:=sY (P:=P) (r' :={ r1 with st:=.busy }) (L' :={ L1 with state:=.busy }) c1 c7 (by rw[hμ];exact d1) { d3 with st:=rfl }
  rw[hμ] at e1 e2 e3
  refine⟨_,?_,wpIn_mono (F:=Fr (some (μ b).blk)) (hbody (some (μ b).blk) w.heap.size base μ1 _ a1 (fun h=>by cases h) e2 (by rw[List.length_set];exact c2) c3 (c4.step c1 e3) (by rw[List.length_set];exact c5)) ?_⟩
  ·simp only[Instr.beginRound,Sem.run_bind,fR d1,Result.andThen_ok,e1]
   rw[d3.st,c8]
   rfl
  ·rintro e a2 w2 ⟨st2,μ2,f1,f2,f3,f4,f5,f6,r2,j,f7,f8,f10⟩
   have hsl2:=f1.slot b _ f8
   simp only[SRel] at hsl2
   obtain⟨L2,g1,g2,g3⟩:=hsl2
   have hμ2:μ2 b=μ b:=by rw[f6.agree b hbl,hμ]
   rw[hμ2] at g1
   obtain⟨k1,k2,k3⟩:=sY (P:=P) (r' :={ r2 with st:=ku j,pend:=j }) (L' :={ L2 with state:=ku j,pending:=j }) f1 f8 (by rw[hμ2];exact g1) { g3 with st:=rfl,pend:=rfl }
   rw[hμ2] at k1 k2 k3
   have hrun:(Instr.endRound (μ b).blk j).run P w2=.ok (.bool j.isNone) { w2 with heap:=w2.heap.setIfInBounds (μ b).blk (.loop { L2 with state:=ku j,pending:=j }) }:=by
    unfold ku at k1 ⊢
    simp only[Instr.endRound,Sem.run_bind,fR g1,Result.andThen_ok,k1]
    rfl
   have hS:Step mem.length μ mem w _ _ _:=((c6.trans (e3.mono c5)).trans f6).trans (k3.mono f5)
   have hfin:∃V v mem' μ',(Ending.returned (.bool j.isNone):Ending)=.returned V∧VRel μ' mem'.length v V∧HRel base μ' mem' { w2 with heap:=w2.heap.setIfInBounds (μ b).blk (.loop { L2 with state:=ku j,pending:=j }) }∧
     Step mem.length μ mem w μ' mem' { w2 with heap:=w2.heap.setIfInBounds (μ b).blk (.loop { L2 with state:=ku j,pending:=j }) }∧R v mem' :=
    ⟨_,.bool j.isNone,_,_,rfl,by simp[VRel],k2,hS,f10⟩
   cases e<;>simp only[oH,Option.some.injEq,reduceCtorEq] at f7<;>subst f7<;>exact⟨_,_,hrun,hfin⟩
def eL(T:TypeId→Option TyI) (lv:Code→List Nat) (O:Oracle) (K:Nat) (b:Nat) (args:List AV) (mem:Mem):Option (AV×Mem):=
 match mem[b]? with
 |some (.loop r)=>
  if r.st== .ready&&decide (args.length=r.ps.toList.length)&&r.ps.toList.all (fun t=>decide (t<r.N))&&bW r.assign&&bW r.body then
   match aU T lv O K r.N mem.length false r.assign ⟨vw r.ps.toList args r.env,mem,true⟩ with
   |some (.normal,s1)=>match s1.mem[b]? with
    |some (.loop r1)=>
     if r1.st== .ready then
      match aU T lv O K r.N mem.length false r.body ⟨s1.env,s1.mem.set b (.loop { r1 with st:=.busy }),true⟩ with
      |some (e,s2)=>match oH e,s2.mem[b]? with
       |some j,some (.loop r2)=>some (.bool j.isNone,s2.mem.set b (.loop { r2 with st:=ku j,pend:=j }))
       |_,_=>none
      |none=>none
     else none
    |_=>none
   |_=>none
  else none
 |_=>none
theorem fL(hm:P.follows .mixedOrders=true) (hT:cf P T) (hO:OracleOk P O) {b:Nat}{args:List AV}{mem mem' :Mem}{v:AV}
  (h:eL T lv O K b args mem=some (v,mem')):eD P b args mem v mem' :=by
 unfold eL at h
 split at h
 ·rename_i lp hlp
  split at h
  ·rename_i hc
   simp only[Bool.and_eq_true,decide_eq_true_eq,List.all_eq_true] at hc
   obtain⟨⟨⟨⟨c1,c2⟩,c3⟩,c4⟩,c5⟩:=hc
   have st_of:∀{x:LoopState},(x== .ready)=true→x=.ready:=fun {x} h=>by cases x<;>first | rfl | cases h
   split at h
   ·rename_i s1 h1
    obtain⟨a1,a2⟩:=cw hm hT hO c4 h1
    split at h
    ·rename_i r1 hr1
     split at h
     ·rename_i hst1
      split at h
      ·rename_i e s2 h2
       obtain⟨b1,b2⟩:=cw hm hT hO c5 h2
       split at h
       ·rename_i j r2 hj hr2
        cases h
        exact AYields.intro_raw hlp (st_of c1) c2 c3 (a1 _ ⟨rfl,r1,hr1,st_of hst1,b1 _ ⟨r2,j,hj,hr2,rfl,rfl⟩⟩)
       ·cases h
      ·cases h
     ·cases h
    ·cases h
   ·cases h
  ·cases h
 ·cases h
end
end Go.Eng
namespace Go.Eng
def Qt(es:Nat) (M:Mem) (x:AV) (n:Nat) (cs:List AV):Prop:=∃b o cs',x=.slice b 0 n none∧M[b]? =some (.cells o es cs')∧cs'.take cs.length=cs
def GF(es:Nat) (M:Mem):AV→Option (List AV)
 |.slice b 0 n none=>match M[b]? with
  |some (.cells _ es' cs)=>if es' =es∧n*es≤cs.length then some (cs.take (n*es)) else none
  |_=>none
 |.nilslice=>some []
 |_=>none
theorem Nr{es:Nat}{M:Mem}{b n:Nat}{o:Bool}{cs cs' :List AV}(h:M[b]? =some (.cells o es cs')) (hn:n*es≤cs'.length) (hc:cs'.take (n*es)=cs):GF es M (.slice b 0 n none)=some cs:=by
 simp[GF,h,hn,hc]
theorem I2{es:Nat}{M:Mem}{x:AV}{cs:List AV}(h:GF es M x=some cs):(∃n,cs.length=n*es∧Qt es M x n cs)∨(x=.nilslice∧cs=[]):=by
 unfold GF at h
 split at h
 ·rename_i b n
  split at h
  ·rename_i o es' cs' hb
   split at h
   ·rename_i hc
    obtain⟨rfl,hn⟩:=hc
    cases h
    have hl:(cs'.take (n*es')).length=n*es' :=by rw[List.length_take];omega
    exact .inl ⟨n,hl,b,o,cs',rfl,hb,by rw[hl]⟩
   ·cases h
  ·cases h
 ·cases h;exact .inr ⟨rfl,rfl⟩
 ·cases h
theorem dO{ks:List Nat}{M:Mem}{b es:Nat}{o:Bool}{cs cs' :List AV}(hc:AV.closeds cs=true) (h:M[b]? =some (.cells o es cs')) (ht:cs'.take cs.length=cs):SubSlot ks M b (.cells false es cs):=by
 refine⟨aR hc,o,cs',h,fun j v hv=>?_⟩
 have hj:=(List.getElem?_eq_some_iff.1 hv).1
 have h1:cs'[j]? =cs[j]? :=by
  have:(cs'.take cs.length)[j]? =cs'[j]? :=List.getElem?_take_of_lt hj
  rw[←this,ht]
 have hr:=aJ (ρ:=eK ks M.length) hc
 rw[fZ] at hr
 have hr2:(cs.map (AV.ren (eK ks M.length)))[j]? =cs[j]? :=by rw[hr]
 rw[List.getElem?_map,hv] at hr2
 rw[h1,hv];exact hr2.symm
section
variable {P:Program}{f:FuncId}{M:Mem}{x y:AV}
theorem ACallsTo.rows1C{es n:Nat}{cs:List AV}{rest:List AV}{v:AV}{new:Mem}(hc:AV.closeds cs=true) (hr:AV.closeds rest=true) (hn:new.all (fun s=>s.own||match s with | .absent=>true | _=>false)=true)
  (h:ACallsTo P f (.slice 0 0 n none::rest) [.cells false es cs] v (.cells false es cs::new)) (hx:Qt es M x n cs):
  ∃b,x=.slice b 0 n none∧b<M.length∧ACallsTo P f (x::rest) M (v.ren (eK [b] M.length)) (M++new.map (Slot.ren (eK [b] M.length))):=by
 obtain⟨b,o,cs',rfl,hb,ht⟩:=hx
 have hlt:=(List.getElem?_eq_some_iff.1 hb).1
 refine⟨b,rfl,hlt,?_⟩
 have:=ACallsTo.frame (M:=M) [b] (m:=[.cells false es cs]) rfl (by simpa using hlt) (by simp only[AV.unders,AV.under,aR hr];rfl) (fun i s hs=>by
  cases i with
  |zero=>simp at hs;subst hs;exact dO hc hb ht
  |succ i=>simp at hs) hn h
 simpa [AV.rens,AV.ren,eK,aJ hr] using this
theorem ACallsTo.rows2C{es es2 n n2:Nat}{cs cs2:List AV}{rest:List AV}{v:AV}{new:Mem}(hc:AV.closeds cs=true) (hc2:AV.closeds cs2=true) (hr:AV.closeds rest=true) (hn:new.all (fun s=>s.own||match s with | .absent=>true | _=>false)=true)
  (h:ACallsTo P f (.slice 0 0 n none::.slice 1 0 n2 none::rest) [.cells false es cs,.cells false es2 cs2] v (.cells false es cs::.cells false es2 cs2::new)) (hx:Qt es M x n cs) (hy:Qt es2 M y n2 cs2):
  ∃b c,x=.slice b 0 n none∧y=.slice c 0 n2 none∧b<M.length∧c<M.length∧ACallsTo P f (x::y::rest) M (v.ren (eK [b,c] M.length)) (M++new.map (Slot.ren (eK [b,c] M.length))):=by
 obtain⟨b,o,cs',rfl,hb,ht⟩:=hx
 obtain⟨c,o',cs2',rfl,hcc,ht'⟩:=hy
 have hlt:=(List.getElem?_eq_some_iff.1 hb).1
 have hlt' :=(List.getElem?_eq_some_iff.1 hcc).1
 refine⟨b,c,rfl,rfl,hlt,hlt',?_⟩
 have:=ACallsTo.frame (M:=M) [b,c] (m:=[.cells false es cs,.cells false es2 cs2]) rfl (by simp[hlt,hlt']) (by simp only[AV.unders,AV.under,aR hr];rfl) (fun i s hs=>by
  match i with
  |0=>simp at hs;subst hs;exact dO hc hb ht
  |1=>simp at hs;subst hs;exact dO hc2 hcc ht'
  |i+2=>simp at hs) hn h
 simpa [AV.rens,AV.ren,eK,aJ hr] using this
theorem o8{v:AV}(ks:List Nat) (n:Nat) (hv:v.closed=true):v.ren (eK ks n)=v:=by
 have:=aJ (vs:=[v]) (ρ:=eK ks n) (by simp[AV.closeds,hv])
 simpa [AV.rens] using this
theorem ACallsTo.rows1R{es n:Nat}{cs:List AV}{rest:List AV}{v:AV}(hc:AV.closeds cs=true) (hr:AV.closeds rest=true) (hv:v.closed=true)
  (h:ACallsTo P f (.slice 0 0 n none::rest) [.cells false es cs] v [.cells false es cs]) (hx:Qt es M x n cs):ACallsTo P f (x::rest) M v M:=by
 obtain⟨b,_,_,h2⟩:=ACallsTo.rows1C (new:=[]) hc hr rfl h hx
 simpa [o8 _ _ hv] using h2
theorem ACallsTo.rows2R{es es2 n n2:Nat}{cs cs2:List AV}{rest:List AV}{v:AV}(hc:AV.closeds cs=true) (hc2:AV.closeds cs2=true) (hr:AV.closeds rest=true) (hv:v.closed=true)
  (h:ACallsTo P f (.slice 0 0 n none::.slice 1 0 n2 none::rest) [.cells false es cs,.cells false es2 cs2] v [.cells false es cs,.cells false es2 cs2]) (hx:Qt es M x n cs) (hy:Qt es2 M y n2 cs2):ACallsTo P f (x::y::rest) M v M:=by
 obtain⟨b,c,_,_,_,_,h2⟩:=ACallsTo.rows2C (new:=[]) hc hc2 hr rfl h hx hy
 simpa [o8 _ _ hv] using h2
end
end Go.Eng
namespace Go.Eng
mutual
def AV.same:AV→AV→Bool
 |.undef,.undef=>true
 |.bool a,.bool b=>a==b
 |.int k n,.int k' m=>decide (k=k')&&decide (n=m)
 |.str s,.str t=>s==t
 |.ptr b o,.ptr b' o' =>Nat.beq b b' &&Nat.beq o o'
 |.nilptr,.nilptr=>true
 |.slice b o n none,.slice b' o' n' none=>Nat.beq b b' &&Nat.beq o o' &&Nat.beq n n'
 |.nilslice,.nilslice=>true
 |.map b,.map b' =>Nat.beq b b'
 |.nilmap,.nilmap=>true
 |.func f cs,.func f' cs' =>Nat.beq f f' &&AV.sames cs cs'
 |.nilFunc,.nilFunc=>true
 |.nilIface,.nilIface=>true
 |.agg cs,.agg cs' =>AV.sames cs cs'
 |.tuple cs,.tuple cs' =>AV.sames cs cs'
 |_,_=>false
def AV.sames:List AV→List AV→Bool
 | [],[]=>true
 |v::vs,w::ws=>AV.same v w&&AV.sames vs ws
 |_,_=>false
end
structure Memo where
 f:FuncId
 args:List AV
 m:Mem
 v:AV
 new:Mem
theorem oJ{P:Program}{T:TypeId→Option TyI}{lv:Code→List Nat}{G:FuncId→Option Func}{O:Oracle}{K n:Nat}(hm:P.follows .mixedOrders=true) (hT:cf P T) (hG:FnTab P G) (hO:OracleOk P O) {f:FuncId}{args:List AV}{m:Mem}{v:AV}{new:Mem}
  (h:(AG T lv G O K n (.fn f) args m).map (fun r=>(r.v,r.mem m))=some (v,m++new)):ACallsTo P f args m v (m++new):=by
 rw[Option.map_eq_some_iff] at h
 obtain⟨r,h1,h2⟩:=h
 obtain⟨h3,h4⟩:=Prod.mk.inj h2
 have:=(mj hm hT hG hO n).fn _ _ _ _ h1
 rw[h3,h4] at this
 exact this
end Go.Eng
namespace Go.Eng
open Classical in
noncomputable def AS(S:Callee→List AV→Mem→CallRes→Prop):Oracle:=fun c args M=>if h:∃r,S c args M r then some (Classical.choose h) else none
theorem C9{P:Program}{S:Callee→List AV→Mem→CallRes→Prop}(h:∀c a M r,S c a M r→qA P c a M r):OracleOk P (AS S):=ca fun c a M r hr=>by
 unfold AS at hr
 split at hr
 ·rename_i hex
  cases hr
  exact h _ _ _ _ (Classical.choose_spec hex)
 ·cases hr
theorem Mw{S:Callee→List AV→Mem→CallRes→Prop}{c:Callee}{a:List AV}{M:Mem}(h:∃r,S c a M r):∃r,AS S c a M=some r∧S c a M r:=by
 refine⟨_,?_,Classical.choose_spec h⟩
 unfold AS
 rw[dif_pos h]
theorem k9{S:Callee→List AV→Mem→CallRes→Prop}{c:Callee}{a:List AV}{M:Mem}{r:CallRes}(h:S c a M r) (hd:∀r',S c a M r' →r' =r):AS S c a M=some r:=by
 obtain⟨r',h1,h2⟩:=Mw ⟨r,h⟩
 rw[h1,hd r' h2]
theorem N2(M X:Mem) (k:Nat):(M++X)[M.length+k]? =X[k]? :=by
 rw[List.getElem?_append_right (by omega)]
 congr 1;omega
theorem Q4(M X:Mem):(M++X)[M.length]? =X[0]? :=N2 M X 0
theorem N3(M X:Mem) (k:Nat) (s:Slot):(M++X).set (M.length+k) s=M++X.set k s:=by
 rw[List.set_append_right _ _ (by omega)]
 congr 2;omega
theorem P0(M X:Mem) (s:Slot):(M++X).set M.length s=M++X.set 0 s:=N3 M X 0 s
theorem th(f:Nat→Bool):∀(i:Nat) (M:Mem),bk [] i M (br f i M)=M
 |_,[]=>rfl
 |i,s::M=>by simp[br,bk,th f (i+1) M]
theorem rJ(f:Nat→Bool):∀(i:Nat) (M:Mem) (b:Nat),(br f i M)[b]? =(M[b]?).map fun s=>if f (i+b) then s else .absent
 |_,[],_=>by simp[br]
 |i,s::M,0=>by simp[br]
 |i,s::M,b+1=>by simp[br,rJ f (i+1) M b,Nat.add_assoc,Nat.add_comm 1 b]
theorem Bk:∀(i:Nat) (M:Mem),br (fun _=>true) i M=M
 |_,[]=>rfl
 |i,s::M=>by simp[br,Bk (i+1) M]
theorem Jf(a b:Nat):(a≤b∧b<a)=False:=by
 rw[eq_iff_iff,iff_false];omega
theorem vK:∀(i:Nat) (M:Mem),bk [] i M M=M
 |_,[]=>rfl
 |i,s::M=>by simp[bk,vK (i+1) M]
end Go.Eng
