/- See P53. -/
import Derived.Test.YtmhkeaphiadacaaGreatDoorP05
set_option linter.all false
namespace Go.Eng
attribute [simp] NU VZ rO wC AQ az qV Rv Ob KF wB AK rK aa get Vl dE Dh aa4 Cy rF aOp VY V2 V0 aUn zi ND NC rN dY PA lY rL Dq Kx vH Sq eI Nv jv aX T1 jM wV V7
attribute [simp] uf AV.refs AV.aas aa3 Kv rho AV.ren AV.aal qO iL jn fR HS.mem ay kS FH fX vD bef UT bD bh Nd T0 gb aF cw gR AV.HK AV.aaa Oper.looksAt Op.operands Call.operands Region.binds AV.closed AV.aag
def aD:Code→List Code
 |.seq a b=>aD a++aD b
 |.cond _ a b=>aD a++aD b
 |.block _ b=>aD b
 |.loop b=>b::aD b
 |_=>[]
def aj(f:Func):List Code:=match f.body with
 |some c=>aD c
 |none=>[]
attribute [simp] ab
section
variable (T:TypeId→Option TyI) (lv:Code→List Nat) (O:aac) (K N m0:Nat) (tp:Bool) (s:XS)
theorem PQ:aQ T lv O K N m0 tp .skip s=some (.normal,s):=rfl
theorem PO(id:Nat):aQ T lv O K N m0 tp (.exit id) s=some (.exit id,s):=rfl
theorem Ry:aQ T lv O K N m0 tp .ret s=some (.ret,s):=rfl
theorem eP(id:Nat)(ops:Array Oper):aQ T lv O K N m0 tp (.region id ops false) s=match aX T O N m0 ops ops.toList s with
  |some s' =>some (.normal,s')
  |none=>none:=rfl
theorem PN(id:Nat)(ops:Array Oper):aQ T lv O K N m0 tp (.region id ops true) s=match ay T O N m0 ops s with
  |some s' =>some (.normal,s')
  |none=>none:=rfl
theorem Rz(a b:Code):aQ T lv O K N m0 tp (.seq a b) s=match aQ T lv O K N m0 tp a s with
  |some (.normal,s')=>aQ T lv O K N m0 tp b s'
  |r=>r:=rfl
theorem PM(c:Operand)(a b:Code):aQ T lv O K N m0 tp (.cond c a b) s=match get s.env c with
  |.bool true=>aQ T lv O K N m0 tp a s
  |.bool false=>aQ T lv O K N m0 tp b s
  |_=>none:=rfl
theorem MV(id:Nat)(b:Code):aQ T lv O K N m0 tp (.block id b) s=match aQ T lv O K N m0 tp b s with
  |some (.exit i,s')=>if i=id then some (.normal,s') else some (.exit i,s')
  |r=>r:=rfl
theorem aR(b:Code):aQ T lv O K N m0 tp (.loop b) s=gl (lv b) (ab b) s.env s.mem.length (aQ T lv O K N m0 tp b) K ⟨az (lv b) (ab b) s.env s.env,s.mem,s.aaB⟩:=rfl
end
attribute [simp] PQ PO Ry eP PN Rz PM MV
open Classical in
theorem rq{p:Env→Bool→Prop}{q:Env→Bool→Env→Prop}(h:∀e d,p e d→∃e',q e d e'):∃F:Env→Bool→Env,∀e d,p e d→q e d (F e d):=
 ⟨fun e d=>if hp:p e d then Classical.choose (h e d hp) else [],fun e d hp=>by simp only[dif_pos hp];exact Classical.choose_spec (h e d hp)⟩
theorem bA{α:Type}{f:XS→Option (Exit×XS)}{lv wr:List Nat}{y':Env}{m1:Nat}(S:α→XS) (m:α→Nat) (Inv:α→Prop) (e0:Exit) (mem' :Mem) (d' :Bool) (Q:Env→Prop) (he:e0≠ .normal)
  (h:∀a,Inv a→(∃a' s',f (S a)=some (.normal,s')∧qV lv wr y' m1 s' =S a' ∧Inv a' ∧m a' <m a)∨(∃z',f (S a)=some (e0,⟨z',mem',d'⟩)∧Q z')):
  ∀k a,Inv a→m a<k→∃z',gl lv wr y' m1 f k (S a)=some (e0,⟨z',mem',d'⟩)∧Q z'
 |0,a,_,hk=>by omega
 |k+1,a,ha,hk=>by
  unfold gl;rcases h a ha with⟨a',s',h1,h2,h3,h4⟩ | ⟨z',h1,h3⟩
  ·rw[h1]
   simp only[h2];exact bA S m Inv e0 mem' d' Q he h k a' h3 (by omega)
  ·rw[h1]
   refine⟨z',?_,h3⟩;cases e0<;>first | rfl | exact absurd rfl he
theorem bf{T:TypeId→Option TyI}{lv:Code→List Nat}{O:aac}{K N m0:Nat}{tp:Bool}{b:Code}{L:List Nat}(XZ:lv b=L){mem mem' :Mem}{e:Exit}(pre:Env→Prop)(post:Env→Env→Prop)(h:∀y' d,pre y'→∃z',gl L (ab b) y' mem.length (aQ T lv O K N m0 tp b) K ⟨az L (ab b) y' y',mem,d⟩=some (e,⟨z',mem',d⟩)∧post y' z'):
  ∃F:Env→Bool→Env,∀y' d,pre y'→aQ T lv O K N m0 tp (.loop b) ⟨y',mem,d⟩=some (e,⟨F y' d,mem',d⟩)∧post y' (F y' d):=by
 refine rq (p:=fun y' _=>pre y') (q:=fun y' d e' =>aQ T lv O K N m0 tp (.loop b) ⟨y',mem,d⟩=some (e,⟨e',mem',d⟩)∧post y' e') ?_;intro y' d hp;obtain⟨z',h1,h2⟩:=h y' d hp;exact⟨z',by rw[aR,XZ];exact h1,h2⟩
theorem FY{n:Int}(h0:0≤n)(h1:n≤255):IntKind.u8.wrap n=n:=by simp only[IntKind.wrap,IntKind.bits,IntKind.signed,Bool.false_and,Bool.false_eq_true,if_false];omega
def NT(i:Option TyI):Bool:=match i with
 |some i=>match i.desc with
  |.interface _=>true
  |_=>false
 |none=>false
theorem PB{T:TypeId→Option TyI}{t:TypeId}(h:NT (T t)=true)(r c:Bool):Qs T t r c .nilIface .nilIface=if r||c then some true else none:=by
 unfold NT at h;unfold Qs;cases hT:T t with
 |none=>rw[hT] at h;cases h
 |some i=>
  rw[hT] at h;simp only at h ⊢;cases hd:i.desc<;>rw[hd] at h<;>first | (cases h;done) | rfl
end Go.Eng
namespace Go.Eng
mutual
def AV.under(n:Nat):AV→Bool
 |.ptr b _=>decide (b<n)
 |.slice b _ _ _=>decide (b<n)
 |.map b=>decide (b<n)
 |.yield b=>decide (b<n)
 |.func _ cs=>AV.aah n cs
 |.iface _ v=>v.under n
 |.agg cs=>AV.aah n cs
 |.tuple cs=>AV.aah n cs
 |_=>true
def AV.aah(n:Nat):List AV→Bool
 | []=>true
 |v::vs=>v.under n&&AV.aah n vs
end
def dr(ks:List Nat) (n:Nat) (b:Nat):Option Nat:=if b<ks.length then some (ks.getD b 0) else some (n+(b-ks.length))
mutual
theorem aab.aa9{μ:Nat→Place}{N:Nat}{ks:List Nat}{n0:Nat}:∀{v V},v.under ks.length=true→aab μ N (v.ren (dr ks n0)) V→aab (fun i=>μ (ks.getD i 0)) ks.length v V
 |.undef,V,_,_=>by simp[aab]
 |.bool b,V,_,h=>by simpa [AV.ren,aab] using h
 |.int k i,V,_,h=>by simpa [AV.ren,aab] using h
 |.str s,V,_,h=>by simpa [AV.ren,aab] using h
 |.ptr b o,V,hb,h=>by simp only[AV.under,decide_eq_true_eq] at hb;simp only[AV.ren,dr,hb,if_true,aab] at h ⊢;exact⟨trivial,h.2⟩
 |.aar,V,_,h=>by simpa [AV.ren,aab] using h
 |.slice b o l c,V,hb,h=>by simp only[AV.under,decide_eq_true_eq] at hb;simp only[AV.ren,dr,hb,if_true,aab] at h ⊢;exact⟨trivial,h.2⟩
 |.kO,V,_,h=>by simpa [AV.ren,aab] using h
 |.map b,V,hb,h=>by simp only[AV.under,decide_eq_true_eq] at hb;simp only[AV.ren,dr,hb,if_true,aab] at h ⊢;exact⟨trivial,h.2⟩
 |.yield b,V,hb,h=>by simp only[AV.under,decide_eq_true_eq] at hb;simp only[AV.ren,dr,hb,if_true,aab] at h ⊢;exact⟨trivial,h.2⟩
 |.aau,V,_,h=>by simpa [AV.ren,aab] using h
 |.func f cs,V,hb,h=>by simp only[AV.under] at hb;simp only[AV.ren,aab] at h ⊢;obtain⟨Us,rfl,h⟩:=h;exact⟨Us,rfl,aad.aa9 hb h⟩
 |.nilFunc,V,_,h=>by simpa [AV.ren,aab] using h
 |.iface t v,V,hb,h=>by simp only[AV.under] at hb;simp only[AV.ren,aab] at h ⊢;obtain⟨U,rfl,h⟩:=h;exact⟨U,rfl,aab.aa9 hb h⟩
 |.nilIface,V,_,h=>by simpa [AV.ren,aab] using h
 |.agg cs,V,hb,h=>by simp only[AV.under] at hb;simp only[AV.ren,aab] at h ⊢;obtain⟨Us,rfl,h⟩:=h;exact⟨Us,rfl,aad.aa9 hb h⟩
 |.tuple cs,V,hb,h=>by simp only[AV.under] at hb;simp only[AV.ren,aab] at h ⊢;obtain⟨Us,rfl,h⟩:=h;exact⟨Us,rfl,aad.aa9 hb h⟩
theorem aad.aa9{μ:Nat→Place}{N:Nat}{ks:List Nat}{n0:Nat}:∀{vs Us},AV.aah ks.length vs=true→aad μ N (AV.aal (dr ks n0) vs) Us→aad (fun i=>μ (ks.getD i 0)) ks.length vs Us
 | [],Us,_,h=>by simpa [AV.aal,aad] using h
 |v::vs,Us,hb,h=>by simp only[AV.aah,Bool.and_eq_true] at hb;simp only[AV.aal,aad] at h ⊢;obtain⟨U,Ws,rfl,h1,h2⟩:=h;exact⟨U,Ws,rfl,aab.aa9 hb.1 h1,aad.aa9 hb.2 h2⟩
end
def vK(ks:List Nat) (M:Mem) (k:Nat):aae→Prop
 |.qF=>True
 |.cells false es cs=>AV.aah ks.length cs=true∧∃o WU,M[k]? =some (.cells o es WU)∧∀(j:Nat) v,cs[j]? =some v→WU[j]? =some (v.ren (dr ks M.length))
 |.aaF es=>∃Xt,(M[k]? =some (.aaF Xt)∨M[k]? =some (.map Xt))∧Xt.length=es.length∧
   ∀(j:Nat) e,es[j]? =some e→(e.1.under ks.length=true∧e.2.under ks.length=true)∧Xt[j]? =some (e.1.ren (dr ks M.length),e.2.ren (dr ks M.length))
 |_=>False
theorem xb{n:Nat}:∀{cs:List AV},AV.aah n cs=true→∀(j:Nat) v,cs[j]? =some v→v.under n=true
 | [],_,j,v,h=>by simp at h
 |c::cs,h,j,v,hj=>by
  simp only[AV.aah,Bool.and_eq_true] at h;cases j with
  |zero=>simp at hj;subst hj;exact h.1
  |succ j=>exact xb h.2 j v (by simpa using hj)
theorem za{α:Type}{cs WU :List α}{g:α→α}(h:∀(j:Nat) v,cs[j]? =some v→WU[j]? =some (g v)):cs.length≤WU.length:=by
 by_cases h0:cs.length=0
 ·omega
 ·have:=h (cs.length-1) (cs[cs.length-1]'(by omega)) (by simp)
  have:=(List.getElem?_eq_some_iff.1 this).1;omega
section
variable {P:Program}
theorem mB.frame{f:FuncId}{args:List AV}{m new M:Mem}{v:AV}(ks:List Nat)(hl:m.length=ks.length)(hk:∀k∈ks,k<M.length)(ha:AV.aah ks.length args=true)(hm:∀(i:Nat) s,m[i]? =some s→vK ks M (ks.getD i 0) s)(hn:new.all (fun s=>s.own||match s with | .qF=>true | _=>false)=true)(h:mB P f args m v (m++new)):mB P f (AV.aal (dr ks M.length) args) M (v.ren (dr ks M.length)) (M++new.map (aae.ren (dr ks M.length))):=by
 refine⟨h.1,fun base μ w Vs hG hH hV=>?_⟩;have YQ:∀b,¬dL m b:=by
  rintro b ⟨s,hs,ho⟩;have:=hm b s hs;cases s with
  |qF=>cases ho
  |cells own es cs=>simp only[aae.own] at ho;subst ho;exact this
  |map es=>exact this
  |aaF es=>cases ho
  |loop r=>exact this
 have hms:aam base (fun i=>μ (ks.getD i 0)) m w:=by
  refine⟨hH.aai,fun b s hs=>?_,fun b b' s' hb=>absurd hb (YQ b)⟩;have hsub:=hm b s hs;cases s with
  |qF=>trivial
  |map es=>exact hsub.elim
  |aaF es=>
   obtain⟨Xt,h1,h2,h3⟩:=hsub;have hs:∃Do FS,w.heap[(μ (ks.getD b 0)).blk]? =some (.map Do FS)∧CG Do FS∧Do.size=Xt.length∧∀(j:Nat) e,Xt[j]? =some e→∃E,Do[j]? =some E∧Oe μ M.length e E:=by
    rcases h1 with h1 | h1
    ·have:=hH.slot _ _ h1;simpa only[aap] using this
    ·have:=hH.slot _ _ h1
     simp only[aap] at this;obtain⟨Do,FS,k1,k2,k3,k4⟩:=this;exact⟨Do,FS,k1,k2.2,k3,k4⟩
   obtain⟨Do,FS,k1,k2,k3,k4⟩:=hs;simp only[aap];refine⟨Do,FS,k1,k2,by omega,fun j e he=>?_⟩;obtain⟨⟨u1,u2⟩,u3⟩:=h3 j e he;obtain⟨E,hE,r1,r2⟩:=k4 j _ u3;rw[hl];exact⟨E,hE,aab.aa9 u1 r1,aab.aa9 u2 r2⟩
  |loop r=>exact hsub.elim
  |cells own es cs=>
   cases own with
   |true=>exact hsub.elim
   |false=>
    obtain⟨hb,o,WU,h1,h2⟩:=hsub;have:=hH.slot _ _ h1;simp only[aap] at this ⊢;obtain⟨cur,e,fr,g1,g2,g3,g4,_⟩:=this;refine⟨cur,e,fr,g1,g2,Nat.le_trans (za h2) g3,fun j u hj=>?_,fun h=>by cases h⟩;obtain⟨V,hV,hr⟩:=g4 j _ (h2 j u hj);rw[hl];exact⟨V,hV,aab.aa9 (xb hb j u hj) hr⟩
 have XD:=aad.aa9 ha hV;rw[←hl] at XD;refine(h.2 base _ w Vs hG hms XD).mono ?_;rintro e w' ⟨V,v',mem',μ',rfl,q1,q2,q3,rfl,rfl⟩;have hg:aaC w w' :=⟨q3.size,fun k hk=>q3.frame k hk fun b hb=>absurd hb (YQ b),q3.os,q3.tape,q3.output,q3.drawn⟩;have ZS:∀b,dL (m++new) b→w.heap.size≤(μ' b).blk:=by
  intro b hb;by_cases AC:(μ' b).blk<w.heap.size
  ·obtain⟨b0,h0,_⟩:=q3.owner b hb AC
   exact absurd h0 (YQ b0)
  ·omega
 obtain⟨μ2,hμ2⟩:∃μ2:Nat→Place,μ2=fun b=>if b<M.length then μ b else μ' (b-M.length+m.length):=⟨_,rfl⟩
 have W4:∀b,b<M.length→μ2 b=μ b:=fun b hb=>by rw[hμ2];simp[hb]
 have Xc:∀i,μ2 (M.length+i)=μ' (m.length+i):=fun i=>by rw[hμ2];simp only;rw[if_neg (by omega)];congr 1;omega
 have hρ:∀b b',b<(m++new).length→dr ks M.length b=some b' →b' <(M++new.map (aae.ren (dr ks M.length))).length∧μ2 b' =μ' b:=by
  intro b b' hb J';simp only[List.length_append,List.length_map] at hb ⊢;unfold dr at J';split at J'
  ·rename_i AC
   cases J';have W8:ks.getD b 0∈ks:=by rw[List.getD_eq_getElem?_getD,List.getElem?_eq_getElem AC,Option.getD_some];exact List.getElem_mem AC
   have:=hk _ W8;refine⟨by omega,?_⟩;rw[W4 _ this];exact(q3.agree b (by omega)).symm
  ·rename_i AC
   cases J';refine⟨by omega,?_⟩;rw[Xc,show m.length+(b-ks.length)=b by omega]
 have WY:∀b s,(M++new.map (aae.ren (dr ks M.length)))[b]? =some s→(b<M.length∧M[b]? =some s)∨∃i s0,b=M.length+i∧new[i]? =some s0∧s=s0.ren (dr ks M.length):=by
  intro b s hs;by_cases hb:b<M.length
  ·rw[List.getElem?_append_left hb] at hs
   exact .inl ⟨hb,hs⟩
  ·rw[List.getElem?_append_right (by omega),List.getElem?_map] at hs
   simp only[Option.map_eq_some_iff] at hs;obtain⟨s0,h1,h2⟩:=hs;exact .inr ⟨b-M.length,s0,by omega,h1,h2.symm⟩
 have Y6:∀i s0,new[i]? =some s0→(m++new)[m.length+i]? =some s0:=by intro i s0 h;rw[List.getElem?_append_right (by omega),Nat.add_sub_cancel_left];exact h
 have Yg:∀i s0,new[i]? =some s0→s0≠ .qF→dL (m++new) (m.length+i):=by intro i s0 h H';refine⟨s0,Y6 i s0 h,?_⟩;have:=List.all_eq_true.1 hn s0 (List.mem_of_getElem? h);cases s0<;>simp_all
 have Yl:∀s0:aae,s0.ren (dr ks M.length)≠ .qF→s0≠ .qF:=by rintro s0 h rfl;exact h rfl
 refine⟨V,_,_,μ2,rfl,q1.ren hρ,⟨Nat.le_trans hH.aai hg.size,fun b s hs=>?_,fun b b' s' hb J' H' XE=>?_⟩,?_,rfl,rfl⟩
 ·rcases WY b s hs with⟨hb,h1⟩ | ⟨i,s0,rfl,h1,rfl⟩
  ·rw[W4 b hb]
   refine(hH.slot b s h1).mono (by simp) W4 fun H'=>hg.heap _ ((hH.slot b s h1).aaY H')
  ·rw[Xc]
   exact(q2.slot _ s0 (Y6 i s0 h1)).ren hρ
 ·obtain⟨s,hs,ho⟩:=hb
  have hsne:=aae.aaO ho;rcases WY b s hs with⟨hb,h1⟩ | ⟨i,s0,rfl,h1,rfl⟩<;>rcases WY b' s' J' with⟨J',Ya⟩ | ⟨i',s0',rfl,Ya,rfl⟩
  ·rw[W4 b hb,W4 b' J']
   exact hH.sep b b' s' ⟨s,h1,ho⟩ Ya H' XE
  ·rw[W4 b hb,Xc]
   have g1:=(hH.slot b s h1).aaY hsne;have g2:=ZS _ (Yg i' s0' Ya (Yl _ H'));omega
  ·rw[W4 b' J',Xc]
   have g1:=(hH.slot b' s' Ya).aaY H';have g2:=ZS _ (Yg i s0 h1 (Yl _ hsne));omega
  ·rw[Xc,Xc]
   exact q2.sep _ _ s0' (Yg i s0 h1 (Yl _ hsne)) (Y6 i' s0' Ya) (Yl _ H') (by omega)
 ·refine⟨by simp,W4,hg.os,hg.tape,hg.output,hg.size,fun k hk _=>hg.heap k hk,fun b hb AC=>?_,hg.drawn⟩
  obtain⟨s,hs,ho⟩:=hb;rcases WY b s hs with⟨hb,h1⟩ | ⟨i,s0,rfl,h1,rfl⟩
  ·exact⟨b,⟨s,h1,ho⟩,by rw[W4 b hb]⟩
  ·rw[Xc] at AC
   have:=ZS _ (Yg i s0 h1 (Yl _ (aae.aaO ho)));omega
end
end Go.Eng
namespace Go.Eng
def iN(k:IntKind) (l:List Nat):List AV:=l.map fun n:Nat=>.int k (n:Int)
def iZ(l:List Int):List AV:=l.map fun n=>.int .i64 n
section
variable (k:IntKind)
theorem VE:iN k []=[]:=rfl
theorem Fw(n:Nat)(l:List Nat):iN k (n::l)=.int k (n:Int)::iN k l:=rfl
section
variable (l:List Nat)
include l
theorem RB:(iN k l).length=l.length:=by simp[iN]
theorem VD(i:Nat):(iN k l)[i]? =(l[i]?).map fun n:Nat=>.int k (n:Int):=by simp[iN]
theorem PT(i:Nat)(h:i<(iN k l).length):(iN k l)[i]=.int k ((l[i]'(by simpa [iN] using h):Nat):Int):=by simp[iN]
theorem VC:(iN k l).all AV.qK=true:=by simp[iN,AV.qK]
end
theorem N5(m:Nat)(l:List Nat):AV.aas m (iN k l)=[]:=by
 induction l with
 |nil=>rfl
 |cons x l ih=>simp[Fw,AV.aas,AV.refs,ih]
theorem Sc(ρ:Nat→Option Nat)(l:List Nat):AV.aal ρ (iN k l)=iN k l:=by
 induction l with
 |nil=>rfl
 |cons x l ih=>simp[Fw,AV.aal,AV.ren,ih]
theorem So(m:Nat)(l:List Nat):AV.aah m (iN k l)=true:=by
 induction l with
 |nil=>rfl
 |cons x l ih=>simp[Fw,AV.aah,AV.under,ih]
theorem DD(ok:Nat→Bool)(l:List Nat):AV.aaa ok (iN k l)=true:=by
 induction l with
 |nil=>rfl
 |cons x l ih=>simp[Fw,AV.aaa,AV.HK,ih]
theorem KQ(m:Nat)(o:Bool)(e:Nat)(l:List Nat):aae.refs m (.cells o e (iN k l))=[]:=by simp[aae.refs,N5]
theorem Ng(ρ:Nat→Option Nat)(o:Bool)(e:Nat)(l:List Nat):aae.ren ρ (.cells o e (iN k l))=.cells o e (iN k l):=by simp[aae.ren,Sc]
theorem CD(ok:Nat→Bool)(o:Bool)(e:Nat)(l:List Nat):aae.HK ok (.cells o e (iN k l))=true:=by simp[aae.HK,DD]
end
attribute [simp] VE RB VD PT N5 Sc So DD KQ Ng CD VC
attribute [simp] FQ vx TyI.isAgg aae.refs aae.ren AV.under AV.aah aae.own gq jR il w9 kk ko Vk fH kB gA AV.known AV.cells AV.qK
mutual
theorem xx{n:Nat}:∀{v:AV},v.closed=true→v.under n=true
 |.ptr _ _,h=>by simp[AV.closed] at h
 |.slice _ _ _ _,h=>by simp[AV.closed] at h
 |.map _,h=>by simp[AV.closed] at h
 |.yield _,h=>by simp[AV.closed] at h
 |.func _ cs,h=>by simp only[AV.closed] at h;simp only[AV.under];exact bB h
 |.iface _ v,h=>by simp only[AV.closed] at h;simp only[AV.under];exact xx h
 |.agg cs,h=>by simp only[AV.closed] at h;simp only[AV.under];exact bB h
 |.tuple cs,h=>by simp only[AV.closed] at h;simp only[AV.under];exact bB h
 |.undef,_=>rfl
 |.bool _,_=>rfl
 |.int _ _,_=>rfl
 |.str _,_=>rfl
 |.aar,_=>rfl
 |.kO,_=>rfl
 |.aau,_=>rfl
 |.nilFunc,_=>rfl
 |.nilIface,_=>rfl
theorem bB{n:Nat}:∀{vs:List AV},AV.aag vs=true→AV.aah n vs=true
 | [],_=>rfl
 |v::vs,h=>by simp only[AV.aag,Bool.and_eq_true] at h;simp only[AV.aah,xx h.1,bB h.2];rfl
end
mutual
theorem DG{ρ:Nat→Option Nat}:∀{v:AV},v.closed=true→v.ren ρ=v
 |.ptr _ _,h=>by simp[AV.closed] at h
 |.slice _ _ _ _,h=>by simp[AV.closed] at h
 |.map _,h=>by simp[AV.closed] at h
 |.yield _,h=>by simp[AV.closed] at h
 |.func _ cs,h=>by simp only[AV.closed] at h;simp only[AV.ren,bR h]
 |.iface _ v,h=>by simp only[AV.closed] at h;simp only[AV.ren,DG h]
 |.agg cs,h=>by simp only[AV.closed] at h;simp only[AV.ren,bR h]
 |.tuple cs,h=>by simp only[AV.closed] at h;simp only[AV.ren,bR h]
 |.undef,_=>rfl
 |.bool _,_=>rfl
 |.int _ _,_=>rfl
 |.str _,_=>rfl
 |.aar,_=>rfl
 |.kO,_=>rfl
 |.aau,_=>rfl
 |.nilFunc,_=>rfl
 |.nilIface,_=>rfl
theorem bR{ρ:Nat→Option Nat}:∀{vs:List AV},AV.aag vs=true→AV.aal ρ vs=vs
 | [],_=>rfl
 |v::vs,h=>by simp only[AV.aag,Bool.and_eq_true] at h;simp only[AV.aal,DG h.1,bR h.2]
end
theorem vC(s n:Nat):(s:Int).tmod (n:Int)=((s%n:Nat):Int):=rfl
theorem FV(s n:Nat):(s:Int).tdiv (n:Int)=((s / n:Nat):Int):=rfl
theorem KO(m:Nat)(a b:List AV):AV.aas m (a++b)=AV.aas m a++AV.aas m b:=by
 induction a with
 |nil=>rfl
 |cons x a ih=>simp[AV.aas,ih]
theorem Ni(ρ:Nat→Option Nat)(a b:List AV):AV.aal ρ (a++b)=AV.aal ρ a++AV.aal ρ b:=by
 induction a with
 |nil=>rfl
 |cons x a ih=>simp[AV.aal,ih]
theorem dm(ok:Nat→Bool)(a b:List AV):AV.aaa ok (a++b)=(AV.aaa ok a&&AV.aaa ok b):=by
 induction a with
 |nil=>rfl
 |cons x a ih=>simp[AV.aaa,ih,Bool.and_assoc]
attribute [simp] KO Ni dm
end Go.Eng
namespace Go.Eng
def aat(k:IntKind) (M:Mem) (x:AV) (A:List Nat):Prop:=∃b o cs,x=.slice b 0 A.length none∧M[b]? =some (.cells o 1 cs)∧cs.take A.length=iN k A
section
variable {P:Program}{k:IntKind}{f:FuncId}{A B:List Nat}{M:Mem}{x y:AV}
end
end Go.Eng
