/- See M58. -/
import Derived.Test.YtmhkeaphiadacaaGreatDoorM05
set_option linter.all false
namespace Go.Eng
attribute [simp] Jy QK oS sJ xL aw nt Nu JG Ey sE ac get Qk cU wq putE y7 oz aOp QI QH QJ aUn vF JH Jd pc nl Lm kW oU MS LU sg LN cX Iy ik bE OT iE tG QL
attribute [simp] qf AV.refs AV.refsL keep Eb rho AV.ren AV.rens nX gq gN gu CallRes.mem aC jc Bw eO rv bef PL aW aR Hl O1 eZ az cV fy AV.refsOk AV.refsOkL Oper.looksAt Op.operands Call.operands Region.binds AV.closed AV.closeds
def aB:Code→List Code
 |.seq a b=>aB a++aB b
 |.cond _ a b=>aB a++aB b
 |.block _ b=>aB b
 |.loop b=>b::aB b
 |_=>[]
def am(f:Func):List Code:=match f.body with
 |some c=>aB c
 |none=>[]
attribute [simp] ab
section
variable (T:TypeId→Option TyI) (lv:Code→List Nat) (O:Oracle) (K N m0:Nat) (tp:Bool) (s:XS)
theorem KI:aH T lv O K N m0 tp .skip s=some (.normal,s):=rfl
theorem JU(id:Nat):aH T lv O K N m0 tp (.exit id) s=some (.exit id,s):=rfl
theorem LI:aH T lv O K N m0 tp .ret s=some (.ret,s):=rfl
theorem FH(id:Nat) (ops:Array Oper):aH T lv O K N m0 tp (.region id ops false) s=match bE T O N m0 ops ops.toList s with
  |some s' =>some (.normal,s')
  |none=>none:=rfl
theorem JW(id:Nat) (ops:Array Oper):aH T lv O K N m0 tp (.region id ops true) s=match aC T O N m0 ops s with
  |some s' =>some (.normal,s')
  |none=>none:=rfl
theorem M4(a b:Code):aH T lv O K N m0 tp (.seq a b) s=match aH T lv O K N m0 tp a s with
  |some (.normal,s')=>aH T lv O K N m0 tp b s'
  |r=>r:=rfl
theorem Kt(c:Operand) (a b:Code):aH T lv O K N m0 tp (.cond c a b) s=match get s.env c with
  |.bool true=>aH T lv O K N m0 tp a s
  |.bool false=>aH T lv O K N m0 tp b s
  |_=>none:=rfl
theorem IE(id:Nat) (b:Code):aH T lv O K N m0 tp (.block id b) s=match aH T lv O K N m0 tp b s with
  |some (.exit i,s')=>if i=id then some (.normal,s') else some (.exit i,s')
  |r=>r:=rfl
theorem ay(b:Code):aH T lv O K N m0 tp (.loop b) s=dN (lv b) (ab b) s.env s.mem.length (aH T lv O K N m0 tp b) K ⟨aw (lv b) (ab b) s.env s.env,s.mem,s.dirty⟩:=rfl
end
attribute [simp] KI JU LI FH JW M4 Kt IE
open Classical in
theorem me{p:Env→Bool→Prop}{q:Env→Bool→Env→Prop}(h:∀e d,p e d→∃e',q e d e'):∃F:Env→Bool→Env,∀e d,p e d→q e d (F e d):=
 ⟨fun e d=>if hp:p e d then Classical.choose (h e d hp) else [],fun e d hp=>by simp only[dif_pos hp];exact Classical.choose_spec (h e d hp)⟩
theorem bD{α:Type}{f:XS→Option (Exit×XS)}{lv wr:List Nat}{env0:Env}{m1:Nat}(S:α→XS) (m:α→Nat) (Inv:α→Prop) (e0:Exit) (mem' :Mem) (d' :Bool) (Q:Env→Prop) (he:e0≠ .normal)
  (h:∀a,Inv a→(∃a' s',f (S a)=some (.normal,s')∧nt lv wr env0 m1 s' =S a' ∧Inv a' ∧m a' <m a)∨(∃env',f (S a)=some (e0,⟨env',mem',d'⟩)∧Q env')):
  ∀k a,Inv a→m a<k→∃env',dN lv wr env0 m1 f k (S a)=some (e0,⟨env',mem',d'⟩)∧Q env'
 |0,a,_,hk=>by omega
 |k+1,a,ha,hk=>by
  unfold dN
  rcases h a ha with⟨a',s',h1,h2,h3,h4⟩ | ⟨env',h1,h3⟩
  ·rw[h1]
   simp only[h2]
   exact bD S m Inv e0 mem' d' Q he h k a' h3 (by omega)
  ·rw[h1]
   refine⟨env',?_,h3⟩
   cases e0<;>first | rfl | exact absurd rfl he
theorem bo{T:TypeId→Option TyI}{lv:Code→List Nat}{O:Oracle}{K N m0:Nat}{tp:Bool}{b:Code}{L:List Nat}(hlv:lv b=L) {mem mem' :Mem}{e:Exit}(pre:Env→Prop) (post:Env→Env→Prop)
  (h:∀env0 d,pre env0→∃env',dN L (ab b) env0 mem.length (aH T lv O K N m0 tp b) K ⟨aw L (ab b) env0 env0,mem,d⟩=some (e,⟨env',mem',d⟩)∧post env0 env'):
  ∃F:Env→Bool→Env,∀env0 d,pre env0→aH T lv O K N m0 tp (.loop b) ⟨env0,mem,d⟩=some (e,⟨F env0 d,mem',d⟩)∧post env0 (F env0 d):=by
 refine me (p:=fun env0 _=>pre env0) (q:=fun env0 d e' =>aH T lv O K N m0 tp (.loop b) ⟨env0,mem,d⟩=some (e,⟨e',mem',d⟩)∧post env0 e') ?_
 intro env0 d hp
 obtain⟨env',h1,h2⟩:=h env0 d hp
 exact⟨env',by rw[ay,hlv];exact h1,h2⟩
theorem xf{n:Int}(h0:0≤n) (h1:n≤255):IntKind.u8.wrap n=n:=by
 simp only[IntKind.wrap,IntKind.bits,IntKind.signed,Bool.false_and,Bool.false_eq_true,if_false]
 omega
def Jr(i:Option TyI):Bool:=match i with
 |some i=>match i.desc with
  |.interface _=>true
  |_=>false
 |none=>false
theorem J0{T:TypeId→Option TyI}{t:TypeId}(h:Jr (T t)=true) (r c:Bool):yJ T t r c .nilIface .nilIface=if r||c then some true else none:=by
 unfold Jr at h
 unfold yJ
 cases hT:T t with
 |none=>rw[hT] at h;cases h
 |some i=>
  rw[hT] at h
  simp only at h ⊢
  cases hd:i.desc<;>rw[hd] at h<;>first | (cases h;done) | rfl
end Go.Eng
