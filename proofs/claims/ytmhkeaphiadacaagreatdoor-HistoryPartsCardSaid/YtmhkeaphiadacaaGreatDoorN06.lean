/- See N58. -/
import Derived.Test.YtmhkeaphiadacaaGreatDoorN05
set_option linter.all false
namespace Go.Eng
attribute [simp] J4 Rd pz tV yi ay nO Nf Kj He tU yb pq ac get QQ db yh putE zY pk aOp Rc Rf Re aUn wt nE JR pw gI Lv lG pu yA AO sT N7 cX JK iy bt PE iW uk Rg
attribute [simp] qY AV.refs AV.refsL keep G5 rho AV.ren AV.rens oO gt ic gv CallRes.mem aF jx Cz eY sP bef QB bc aU Jt PC fe aD dh fG AV.refsOk AV.refsOkL Oper.looksAt Op.operands Call.operands Region.binds AV.closed AV.closeds
def aJ:Code→List Code
 |.seq a b=>aJ a++aJ b
 |.cond _ a b=>aJ a++aJ b
 |.block _ b=>aJ b
 |.loop b=>b::aJ b
 |_=>[]
def am(f:Func):List Code:=match f.body with
 |some c=>aJ c
 |none=>[]
attribute [simp] ad
section
variable (T:TypeId→Option TyI) (lv:Code→List Nat) (O:Oracle) (K N m0:Nat) (tp:Bool) (s:XS)
theorem LK:aO T lv O K N m0 tp .skip s=some (.normal,s):=rfl
theorem LJ(id:Nat):aO T lv O K N m0 tp (.exit id) s=some (.exit id,s):=rfl
theorem Nh:aO T lv O K N m0 tp .ret s=some (.ret,s):=rfl
theorem GS(id:Nat) (ops:Array Oper):aO T lv O K N m0 tp (.region id ops false) s=match bt T O N m0 ops ops.toList s with
  |some s' =>some (.normal,s')
  |none=>none:=rfl
theorem LI(id:Nat) (ops:Array Oper):aO T lv O K N m0 tp (.region id ops true) s=match aF T O N m0 ops s with
  |some s' =>some (.normal,s')
  |none=>none:=rfl
theorem Ni(a b:Code):aO T lv O K N m0 tp (.seq a b) s=match aO T lv O K N m0 tp a s with
  |some (.normal,s')=>aO T lv O K N m0 tp b s'
  |r=>r:=rfl
theorem LH(c:Operand) (a b:Code):aO T lv O K N m0 tp (.cond c a b) s=match get s.env c with
  |.bool true=>aO T lv O K N m0 tp a s
  |.bool false=>aO T lv O K N m0 tp b s
  |_=>none:=rfl
theorem Jc(id:Nat) (b:Code):aO T lv O K N m0 tp (.block id b) s=match aO T lv O K N m0 tp b s with
  |some (.exit i,s')=>if i=id then some (.normal,s') else some (.exit i,s')
  |r=>r:=rfl
theorem aC(b:Code):aO T lv O K N m0 tp (.loop b) s=dS (lv b) (ad b) s.env s.mem.length (aO T lv O K N m0 tp b) K ⟨ay (lv b) (ad b) s.env s.env,s.mem,s.dirty⟩:=rfl
end
attribute [simp] LK LJ Nh GS LI Ni LH Jc
open Classical in
theorem kX{p:Env→Bool→Prop}{q:Env→Bool→Env→Prop}(h:∀e d,p e d→∃e',q e d e'):∃F:Env→Bool→Env,∀e d,p e d→q e d (F e d):=
 ⟨fun e d=>if hp:p e d then Classical.choose (h e d hp) else [],fun e d hp=>by simp only[dif_pos hp];exact Classical.choose_spec (h e d hp)⟩
theorem bR{α:Type}{f:XS→Option (Exit×XS)}{lv wr:List Nat}{env0:Env}{m1:Nat}(S:α→XS) (m:α→Nat) (Inv:α→Prop) (e0:Exit) (mem' :Mem) (d' :Bool) (Q:Env→Prop) (he:e0≠ .normal)
  (h:∀a,Inv a→(∃a' s',f (S a)=some (.normal,s')∧nO lv wr env0 m1 s' =S a' ∧Inv a' ∧m a' <m a)∨(∃env',f (S a)=some (e0,⟨env',mem',d'⟩)∧Q env')):
  ∀k a,Inv a→m a<k→∃env',dS lv wr env0 m1 f k (S a)=some (e0,⟨env',mem',d'⟩)∧Q env'
 |0,a,_,hk=>by omega
 |k+1,a,ha,hk=>by
  unfold dS
  rcases h a ha with⟨a',s',h1,h2,h3,h4⟩ | ⟨env',h1,h3⟩
  ·rw[h1]
   simp only[h2]
   exact bR S m Inv e0 mem' d' Q he h k a' h3 (by omega)
  ·rw[h1]
   refine⟨env',?_,h3⟩
   cases e0<;>first | rfl | exact absurd rfl he
theorem bD{T:TypeId→Option TyI}{lv:Code→List Nat}{O:Oracle}{K N m0:Nat}{tp:Bool}{b:Code}{L:List Nat}(hlv:lv b=L) {mem mem' :Mem}{e:Exit}(pre:Env→Prop) (post:Env→Env→Prop)
  (h:∀env0 d,pre env0→∃env',dS L (ad b) env0 mem.length (aO T lv O K N m0 tp b) K ⟨ay L (ad b) env0 env0,mem,d⟩=some (e,⟨env',mem',d⟩)∧post env0 env'):
  ∃F:Env→Bool→Env,∀env0 d,pre env0→aO T lv O K N m0 tp (.loop b) ⟨env0,mem,d⟩=some (e,⟨F env0 d,mem',d⟩)∧post env0 (F env0 d):=by
 refine kX (p:=fun env0 _=>pre env0) (q:=fun env0 d e' =>aO T lv O K N m0 tp (.loop b) ⟨env0,mem,d⟩=some (e,⟨e',mem',d⟩)∧post env0 e') ?_
 intro env0 d hp
 obtain⟨env',h1,h2⟩:=h env0 d hp
 exact⟨env',by rw[aC,hlv];exact h1,h2⟩
theorem CK{n:Int}(h0:0≤n) (h1:n≤255):IntKind.u8.wrap n=n:=by
 simp only[IntKind.wrap,IntKind.bits,IntKind.signed,Bool.false_and,Bool.false_eq_true,if_false]
 omega
def J2(i:Option TyI):Bool:=match i with
 |some i=>match i.desc with
  |.interface _=>true
  |_=>false
 |none=>false
theorem Lw{T:TypeId→Option TyI}{t:TypeId}(h:J2 (T t)=true) (r c:Bool):zf T t r c .nilIface .nilIface=if r||c then some true else none:=by
 unfold J2 at h
 unfold zf
 cases hT:T t with
 |none=>rw[hT] at h;cases h
 |some i=>
  rw[hT] at h
  simp only at h ⊢
  cases hd:i.desc<;>rw[hd] at h<;>first | (cases h;done) | rfl
end Go.Eng
