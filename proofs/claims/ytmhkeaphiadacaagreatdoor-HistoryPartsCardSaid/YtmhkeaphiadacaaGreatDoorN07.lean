/- See N58. -/
import Derived.Test.YtmhkeaphiadacaaGreatDoorN05
import Derived.Test.YtmhkeaphiadacaaGreatDoorN06
set_option linter.all false
namespace Go.Eng
mutual
def AV.under(n:Nat):AV→Bool
 |.ptr b _=>decide (b<n)
 |.slice b _ _ _=>decide (b<n)
 |.map b=>decide (b<n)
 |.yield b=>decide (b<n)
 |.func _ cs=>AV.unders n cs
 |.iface _ v=>v.under n
 |.agg cs=>AV.unders n cs
 |.tuple cs=>AV.unders n cs
 |_=>true
def AV.unders(n:Nat):List AV→Bool
 | []=>true
 |v::vs=>v.under n&&AV.unders n vs
end
def da(ks:List Nat) (n:Nat) (b:Nat):Option Nat:=if b<ks.length then some (ks.getD b 0) else some (n+(b-ks.length))
mutual
theorem VRel.unren{μ:Nat→Place}{N:Nat}{ks:List Nat}{n0:Nat}:∀{v V},v.under ks.length=true→VRel μ N (v.ren (da ks n0)) V→VRel (fun i=>μ (ks.getD i 0)) ks.length v V
 |.undef,V,_,_=>by simp[VRel]
 |.bool b,V,_,h=>by simpa [AV.ren,VRel] using h
 |.int k i,V,_,h=>by simpa [AV.ren,VRel] using h
 |.str s,V,_,h=>by simpa [AV.ren,VRel] using h
 |.ptr b o,V,hb,h=>by
  simp only[AV.under,decide_eq_true_eq] at hb
  simp only[AV.ren,da,hb,if_true,VRel] at h ⊢
  exact⟨trivial,h.2⟩
 |.nilptr,V,_,h=>by simpa [AV.ren,VRel] using h
 |.slice b o l c,V,hb,h=>by
  simp only[AV.under,decide_eq_true_eq] at hb
  simp only[AV.ren,da,hb,if_true,VRel] at h ⊢
  exact⟨trivial,h.2⟩
 |.nilslice,V,_,h=>by simpa [AV.ren,VRel] using h
 |.map b,V,hb,h=>by
  simp only[AV.under,decide_eq_true_eq] at hb
  simp only[AV.ren,da,hb,if_true,VRel] at h ⊢
  exact⟨trivial,h.2⟩
 |.yield b,V,hb,h=>by
  simp only[AV.under,decide_eq_true_eq] at hb
  simp only[AV.ren,da,hb,if_true,VRel] at h ⊢
  exact⟨trivial,h.2⟩
 |.nilmap,V,_,h=>by simpa [AV.ren,VRel] using h
 |.func f cs,V,hb,h=>by
  simp only[AV.under] at hb
  simp only[AV.ren,VRel] at h ⊢
  obtain⟨Us,rfl,h⟩:=h
  exact⟨Us,rfl,VRels.unren hb h⟩
 |.nilFunc,V,_,h=>by simpa [AV.ren,VRel] using h
 |.iface t v,V,hb,h=>by
  simp only[AV.under] at hb
  simp only[AV.ren,VRel] at h ⊢
  obtain⟨U,rfl,h⟩:=h
  exact⟨U,rfl,VRel.unren hb h⟩
 |.nilIface,V,_,h=>by simpa [AV.ren,VRel] using h
 |.agg cs,V,hb,h=>by
  simp only[AV.under] at hb
  simp only[AV.ren,VRel] at h ⊢
  obtain⟨Us,rfl,h⟩:=h
  exact⟨Us,rfl,VRels.unren hb h⟩
 |.tuple cs,V,hb,h=>by
  simp only[AV.under] at hb
  simp only[AV.ren,VRel] at h ⊢
  obtain⟨Us,rfl,h⟩:=h
  exact⟨Us,rfl,VRels.unren hb h⟩
theorem VRels.unren{μ:Nat→Place}{N:Nat}{ks:List Nat}{n0:Nat}:∀{vs Us},AV.unders ks.length vs=true→VRels μ N (AV.rens (da ks n0) vs) Us→VRels (fun i=>μ (ks.getD i 0)) ks.length vs Us
 | [],Us,_,h=>by simpa [AV.rens,VRels] using h
 |v::vs,Us,hb,h=>by
  simp only[AV.unders,Bool.and_eq_true] at hb
  simp only[AV.rens,VRels] at h ⊢
  obtain⟨U,Ws,rfl,h1,h2⟩:=h
  exact⟨U,Ws,rfl,VRel.unren hb.1 h1,VRels.unren hb.2 h2⟩
end
def SubSlot(ks:List Nat) (M:Mem) (k:Nat):Slot→Prop
 |.absent=>True
 |.cells false es cs=>AV.unders ks.length cs=true∧∃o cs',M[k]? =some (.cells o es cs')∧∀(j:Nat) v,cs[j]? =some v→cs'[j]? =some (v.ren (da ks M.length))
 |.fmap es=>∃es',(M[k]? =some (.fmap es')∨M[k]? =some (.map es'))∧es'.length=es.length∧
   ∀(j:Nat) e,es[j]? =some e→(e.1.under ks.length=true∧e.2.under ks.length=true)∧es'[j]? =some (e.1.ren (da ks M.length),e.2.ren (da ks M.length))
 |_=>False
theorem Bh{n:Nat}:∀{cs:List AV},AV.unders n cs=true→∀(j:Nat) v,cs[j]? =some v→v.under n=true
 | [],_,j,v,h=>by simp at h
 |c::cs,h,j,v,hj=>by
  simp only[AV.unders,Bool.and_eq_true] at h
  cases j with
  |zero=>simp at hj;subst hj;exact h.1
  |succ j=>exact Bh h.2 j v (by simpa using hj)
theorem wk{α:Type}{cs cs' :List α}{g:α→α}(h:∀(j:Nat) v,cs[j]? =some v→cs'[j]? =some (g v)):cs.length≤cs'.length:=by
 by_cases h0:cs.length=0
 ·omega
 ·have:=h (cs.length-1) (cs[cs.length-1]'(by omega)) (by simp)
  have:=(List.getElem?_eq_some_iff.1 this).1
  omega
section
variable {P:Program}
theorem ACallsTo.frame{f:FuncId}{args:List AV}{m new M:Mem}{v:AV}(ks:List Nat) (hl:m.length=ks.length) (hk:∀k∈ks,k<M.length) (ha:AV.unders ks.length args=true)
  (hm:∀(i:Nat) s,m[i]? =some s→SubSlot ks M (ks.getD i 0) s) (hn:new.all (fun s=>s.own||match s with | .absent=>true | _=>false)=true)
  (h:ACallsTo P f args m v (m++new)):ACallsTo P f (AV.rens (da ks M.length) args) M (v.ren (da ks M.length)) (M++new.map (Slot.ren (da ks M.length))):=by
 refine⟨h.1,fun base μ w Vs hG hH hV=>?_⟩
 have hnone:∀b,¬dv m b:=by
  rintro b ⟨s,hs,ho⟩
  have:=hm b s hs
  cases s with
  |absent=>cases ho
  |cells own es cs=>simp only[Slot.own] at ho;subst ho;exact this
  |map es=>exact this
  |fmap es=>cases ho
  |loop r=>exact this
 have hms:HRel base (fun i=>μ (ks.getD i 0)) m w:=by
  refine⟨hH.base_le,fun b s hs=>?_,fun b b' s' hb=>absurd hb (hnone b)⟩
  have hsub:=hm b s hs
  cases s with
  |absent=>trivial
  |map es=>exact hsub.elim
  |fmap es=>
   obtain⟨es',h1,h2,h3⟩:=hsub
   have hs:∃ents clock,w.heap[(μ (ks.getD b 0)).blk]? =some (.map ents clock)∧Ac ents clock∧ents.size=es'.length∧∀(j:Nat) e,es'[j]? =some e→∃E,ents[j]? =some E∧Km μ M.length e E:=by
    rcases h1 with h1 | h1
    ·have:=hH.slot _ _ h1;simpa only[SRel] using this
    ·have:=hH.slot _ _ h1
     simp only[SRel] at this
     obtain⟨ents,clock,k1,k2,k3,k4⟩:=this
     exact⟨ents,clock,k1,k2.2,k3,k4⟩
   obtain⟨ents,clock,k1,k2,k3,k4⟩:=hs
   simp only[SRel]
   refine⟨ents,clock,k1,k2,by omega,fun j e he=>?_⟩
   obtain⟨⟨u1,u2⟩,u3⟩:=h3 j e he
   obtain⟨E,hE,r1,r2⟩:=k4 j _ u3
   rw[hl]
   exact⟨E,hE,VRel.unren u1 r1,VRel.unren u2 r2⟩
  |loop r=>exact hsub.elim
  |cells own es cs=>
   cases own with
   |true=>exact hsub.elim
   |false=>
    obtain⟨hb,o,cs',h1,h2⟩:=hsub
    have:=hH.slot _ _ h1
    simp only[SRel] at this ⊢
    obtain⟨cur,e,fr,g1,g2,g3,g4,_⟩:=this
    refine⟨cur,e,fr,g1,g2,Nat.le_trans (wk h2) g3,fun j u hj=>?_,fun h=>by cases h⟩
    obtain⟨V,hV,hr⟩:=g4 j _ (h2 j u hj)
    rw[hl]
    exact⟨V,hV,VRel.unren (Bh hb j u hj) hr⟩
 have hargs:=VRels.unren ha hV
 rw[←hl] at hargs
 refine(h.2 base _ w Vs hG hms hargs).mono ?_
 rintro e w' ⟨V,v',mem',μ',rfl,q1,q2,q3,rfl,rfl⟩
 have hg:Gentle w w' :=⟨q3.size,fun k hk=>q3.frame k hk fun b hb=>absurd hb (hnone b),q3.os,q3.tape,q3.output,q3.drawn⟩
 have hfresh:∀b,dv (m++new) b→w.heap.size≤(μ' b).blk:=by
  intro b hb
  by_cases hlt:(μ' b).blk<w.heap.size
  ·obtain⟨b0,h0,_⟩:=q3.owner b hb hlt
   exact absurd h0 (hnone b0)
  ·omega
 obtain⟨μ2,hμ2⟩:∃μ2:Nat→Place,μ2=fun b=>if b<M.length then μ b else μ' (b-M.length+m.length):=⟨_,rfl⟩
 have hold:∀b,b<M.length→μ2 b=μ b:=fun b hb=>by rw[hμ2];simp[hb]
 have hnew:∀i,μ2 (M.length+i)=μ' (m.length+i):=fun i=>by
  rw[hμ2]
  simp only
  rw[if_neg (by omega)]
  congr 1;omega
 have hρ:∀b b',b<(m++new).length→da ks M.length b=some b' →b' <(M++new.map (Slot.ren (da ks M.length))).length∧μ2 b' =μ' b:=by
  intro b b' hb hb'
  simp only[List.length_append,List.length_map] at hb ⊢
  unfold da at hb'
  split at hb'
  ·rename_i hlt
   cases hb'
   have hmem:ks.getD b 0∈ks:=by
    rw[List.getD_eq_getElem?_getD,List.getElem?_eq_getElem hlt,Option.getD_some]
    exact List.getElem_mem hlt
   have:=hk _ hmem
   refine⟨by omega,?_⟩
   rw[hold _ this]
   exact(q3.agree b (by omega)).symm
  ·rename_i hlt
   cases hb'
   refine⟨by omega,?_⟩
   rw[hnew,show m.length+(b-ks.length)=b by omega]
 have hget:∀b s,(M++new.map (Slot.ren (da ks M.length)))[b]? =some s→(b<M.length∧M[b]? =some s)∨∃i s0,b=M.length+i∧new[i]? =some s0∧s=s0.ren (da ks M.length):=by
  intro b s hs
  by_cases hb:b<M.length
  ·rw[List.getElem?_append_left hb] at hs
   exact .inl ⟨hb,hs⟩
  ·rw[List.getElem?_append_right (by omega),List.getElem?_map] at hs
   simp only[Option.map_eq_some_iff] at hs
   obtain⟨s0,h1,h2⟩:=hs
   exact .inr ⟨b-M.length,s0,by omega,h1,h2.symm⟩
 have hnewget:∀i s0,new[i]? =some s0→(m++new)[m.length+i]? =some s0:=by
  intro i s0 h
  rw[List.getElem?_append_right (by omega),Nat.add_sub_cancel_left];exact h
 have hnewown:∀i s0,new[i]? =some s0→s0≠ .absent→dv (m++new) (m.length+i):=by
  intro i s0 h hne
  refine⟨s0,hnewget i s0 h,?_⟩
  have:=List.all_eq_true.1 hn s0 (List.mem_of_getElem? h)
  cases s0<;>simp_all
 have renabs:∀s0:Slot,s0.ren (da ks M.length)≠ .absent→s0≠ .absent:=by
  rintro s0 h rfl;exact h rfl
 refine⟨V,_,_,μ2,rfl,q1.ren hρ,⟨Nat.le_trans hH.base_le hg.size,fun b s hs=>?_,fun b b' s' hb hb' hne hbb=>?_⟩,?_,rfl,rfl⟩
 ·rcases hget b s hs with⟨hb,h1⟩ | ⟨i,s0,rfl,h1,rfl⟩
  ·rw[hold b hb]
   refine(hH.slot b s h1).mono (by simp) hold fun hne=>hg.heap _ ((hH.slot b s h1).blk_lt hne)
  ·rw[hnew]
   exact(q2.slot _ s0 (hnewget i s0 h1)).ren hρ
 ·obtain⟨s,hs,ho⟩:=hb
  have hsne:=Slot.own_ne ho
  rcases hget b s hs with⟨hb,h1⟩ | ⟨i,s0,rfl,h1,rfl⟩<;>rcases hget b' s' hb' with⟨hb',h1'⟩ | ⟨i',s0',rfl,h1',rfl⟩
  ·rw[hold b hb,hold b' hb']
   exact hH.sep b b' s' ⟨s,h1,ho⟩ h1' hne hbb
  ·rw[hold b hb,hnew]
   have g1:=(hH.slot b s h1).blk_lt hsne
   have g2:=hfresh _ (hnewown i' s0' h1' (renabs _ hne))
   omega
  ·rw[hold b' hb',hnew]
   have g1:=(hH.slot b' s' h1').blk_lt hne
   have g2:=hfresh _ (hnewown i s0 h1 (renabs _ hsne))
   omega
  ·rw[hnew,hnew]
   exact q2.sep _ _ s0' (hnewown i s0 h1 (renabs _ hsne)) (hnewget i' s0' h1') (renabs _ hne) (by omega)
 ·refine⟨by simp,hold,hg.os,hg.tape,hg.output,hg.size,fun k hk _=>hg.heap k hk,fun b hb hlt=>?_,hg.drawn⟩
  obtain⟨s,hs,ho⟩:=hb
  rcases hget b s hs with⟨hb,h1⟩ | ⟨i,s0,rfl,h1,rfl⟩
  ·exact⟨b,⟨s,h1,ho⟩,by rw[hold b hb]⟩
  ·rw[hnew] at hlt
   have:=hfresh _ (hnewown i s0 h1 (renabs _ (Slot.own_ne ho)))
   omega
end
end Go.Eng
namespace Go.Eng
def iN(k:IntKind) (l:List Nat):List AV:=l.map fun n:Nat=>.int k (n:Int)
def iZ(l:List Int):List AV:=l.map fun n=>.int .i64 n
section
variable (k:IntKind)
theorem QY:iN k []=[]:=rfl
theorem Cr(n:Nat) (l:List Nat):iN k (n::l)=.int k (n:Int)::iN k l:=rfl
theorem Nl(l:List Nat):(iN k l).length=l.length:=by simp[iN]
theorem Nk(l r:List Nat):iN k (l++r)=iN k l++iN k r:=by simp[iN]
theorem PT(l:List Nat) (i:Nat):(iN k l)[i]? =(l[i]?).map fun n:Nat=>.int k (n:Int):=by simp[iN]
theorem LM(l:List Nat) (i:Nat) (h:i<(iN k l).length):(iN k l)[i]=.int k ((l[i]'(by simpa [iN] using h):Nat):Int):=by simp[iN]
theorem QX(l:List Nat):(iN k l).all AV.cellOk=true:=by simp[iN,AV.cellOk]
theorem Ke(m:Nat) (l:List Nat):AV.refsL m (iN k l)=[]:=by
 induction l with
 |nil=>rfl
 |cons x l ih=>simp[Cr,AV.refsL,AV.refs,ih]
theorem NT(ρ:Nat→Option Nat) (l:List Nat):AV.rens ρ (iN k l)=iN k l:=by
 induction l with
 |nil=>rfl
 |cons x l ih=>simp[Cr,AV.rens,AV.ren,ih]
theorem Hy(m:Nat) (l:List Nat):AV.unders m (iN k l)=true:=by
 induction l with
 |nil=>rfl
 |cons x l ih=>simp[Cr,AV.unders,AV.under,ih]
theorem A4(ok:Nat→Bool) (l:List Nat):AV.refsOkL ok (iN k l)=true:=by
 induction l with
 |nil=>rfl
 |cons x l ih=>simp[Cr,AV.refsOkL,AV.refsOk,ih]
theorem Hp(m:Nat) (o:Bool) (e:Nat) (l:List Nat):Slot.refs m (.cells o e (iN k l))=[]:=by simp[Slot.refs,Ke]
theorem Jx(ρ:Nat→Option Nat) (o:Bool) (e:Nat) (l:List Nat):Slot.ren ρ (.cells o e (iN k l))=.cells o e (iN k l):=by simp[Slot.ren,NT]
theorem Aa(ok:Nat→Bool) (o:Bool) (e:Nat) (l:List Nat):Slot.refsOk ok (.cells o e (iN k l))=true:=by simp[Slot.refsOk,A4]
end
attribute [simp] QY Nl PT LM Ke NT Hy A4 Hp Jx Aa QX
attribute [simp] CF nl TyI.isAgg Slot.refs Slot.ren AV.under AV.unders Slot.own cU iY cw ra qg qh QP ej nM ef AV.known AV.cells AV.cellOk
mutual
theorem uK{n:Nat}:∀{v:AV},v.closed=true→v.under n=true
 |.ptr _ _,h=>by simp[AV.closed] at h
 |.slice _ _ _ _,h=>by simp[AV.closed] at h
 |.map _,h=>by simp[AV.closed] at h
 |.yield _,h=>by simp[AV.closed] at h
 |.func _ cs,h=>by simp only[AV.closed] at h;simp only[AV.under];exact cx h
 |.iface _ v,h=>by simp only[AV.closed] at h;simp only[AV.under];exact uK h
 |.agg cs,h=>by simp only[AV.closed] at h;simp only[AV.under];exact cx h
 |.tuple cs,h=>by simp only[AV.closed] at h;simp only[AV.under];exact cx h
 |.undef,_=>rfl
 |.bool _,_=>rfl
 |.int _ _,_=>rfl
 |.str _,_=>rfl
 |.nilptr,_=>rfl
 |.nilslice,_=>rfl
 |.nilmap,_=>rfl
 |.nilFunc,_=>rfl
 |.nilIface,_=>rfl
theorem cx{n:Nat}:∀{vs:List AV},AV.closeds vs=true→AV.unders n vs=true
 | [],_=>rfl
 |v::vs,h=>by
  simp only[AV.closeds,Bool.and_eq_true] at h
  simp only[AV.unders,uK h.1,cx h.2];rfl
end
mutual
theorem A7{ρ:Nat→Option Nat}:∀{v:AV},v.closed=true→v.ren ρ=v
 |.ptr _ _,h=>by simp[AV.closed] at h
 |.slice _ _ _ _,h=>by simp[AV.closed] at h
 |.map _,h=>by simp[AV.closed] at h
 |.yield _,h=>by simp[AV.closed] at h
 |.func _ cs,h=>by simp only[AV.closed] at h;simp only[AV.ren,bu h]
 |.iface _ v,h=>by simp only[AV.closed] at h;simp only[AV.ren,A7 h]
 |.agg cs,h=>by simp only[AV.closed] at h;simp only[AV.ren,bu h]
 |.tuple cs,h=>by simp only[AV.closed] at h;simp only[AV.ren,bu h]
 |.undef,_=>rfl
 |.bool _,_=>rfl
 |.int _ _,_=>rfl
 |.str _,_=>rfl
 |.nilptr,_=>rfl
 |.nilslice,_=>rfl
 |.nilmap,_=>rfl
 |.nilFunc,_=>rfl
 |.nilIface,_=>rfl
theorem bu{ρ:Nat→Option Nat}:∀{vs:List AV},AV.closeds vs=true→AV.rens ρ vs=vs
 | [],_=>rfl
 |v::vs,h=>by
  simp only[AV.closeds,Bool.and_eq_true] at h
  simp only[AV.rens,A7 h.1,bu h.2]
end
theorem wM(s n:Nat):(s:Int).tmod (n:Int)=((s%n:Nat):Int):=rfl
theorem CH(s n:Nat):(s:Int).tdiv (n:Int)=((s / n:Nat):Int):=rfl
theorem Ho(m:Nat) (a b:List AV):AV.refsL m (a++b)=AV.refsL m a++AV.refsL m b:=by
 induction a with
 |nil=>rfl
 |cons x a ih=>simp[AV.refsL,ih]
theorem Jz(ρ:Nat→Option Nat) (a b:List AV):AV.rens ρ (a++b)=AV.rens ρ a++AV.rens ρ b:=by
 induction a with
 |nil=>rfl
 |cons x a ih=>simp[AV.rens,ih]
theorem dQ(ok:Nat→Bool) (a b:List AV):AV.refsOkL ok (a++b)=(AV.refsOkL ok a&&AV.refsOkL ok b):=by
 induction a with
 |nil=>rfl
 |cons x a ih=>simp[AV.refsOkL,ih,Bool.and_assoc]
attribute [simp] Ho Jz dQ
end Go.Eng
namespace Go.Eng
def RowAt(k:IntKind) (M:Mem) (x:AV) (A:List Nat):Prop:=∃b o cs,x=.slice b 0 A.length none∧M[b]? =some (.cells o 1 cs)∧cs.take A.length=iN k A
theorem SubSlot.row{k:IntKind}{ks:List Nat}{M:Mem}{b:Nat}{o:Bool}{cs:List AV}{A:List Nat}(h:M[b]? =some (.cells o 1 cs)) (ht:cs.take A.length=iN k A):SubSlot ks M b (.cells false 1 (iN k A)):=by
 refine⟨Hy _ _ _,o,cs,h,fun j v hv=>?_⟩
 have hj:j<A.length:=by
  have:=(List.getElem?_eq_some_iff.1 hv).1
  simpa using this
 have:cs[j]? =(iN k A)[j]? :=by rw[←ht,List.getElem?_take_of_lt hj]
 rw[this,hv]
 rw[PT] at hv
 simp only[Option.map_eq_some_iff] at hv
 obtain⟨n,_,rfl⟩:=hv
 simp[AV.ren]
section
variable {P:Program}{k:IntKind}{f:FuncId}{A B:List Nat}{M:Mem}{x y:AV}
end
end Go.Eng
