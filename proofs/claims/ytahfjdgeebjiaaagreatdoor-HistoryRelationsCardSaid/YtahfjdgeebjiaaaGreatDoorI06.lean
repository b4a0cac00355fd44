/- See I57. -/
import Derived.Test.YtahfjdgeebjiaaaGreatDoorI05
set_option linter.all false
namespace Go.Eng
attribute [simp] isIntI aCap aSliceData aString bytesA normE normS dupHead tripHead normD aSliceE look get gets entryEnv bindPs putE dstOk wantedA aOp aBin aStr aInt aUn aConvert aSlice aIndex aIndexAddr aLen aLoad aField aFieldAddr hiOf loOf writesOf wrPtr wrSlice wrMap anyCallee runOps runOp resultsA resList resA
attribute [simp] reach AV.refs AV.refsL keep ksOk rho AV.ren AV.rens isConst ofVal ofScalar partA CallRes.mem runDraw runRecs recStep befores unordered bef seeOf maskBy mergeBy readsOf resWr checkRec numbered isBound okRef AV.refsOk AV.refsOkL Oper.looksAt Op.operands Call.operands Region.binds AV.closed AV.closeds
def loopsC : Code → List Code
 | .seq a b => loopsC a ++ loopsC b
 | .cond _ a b => loopsC a ++ loopsC b
 | .block _ b => loopsC b
 | .loop b => b :: loopsC b
 | _ => []
def loopsF (f : Func) : List Code := match f.body with
 | some c => loopsC c
 | none => []
attribute [simp] writesC
section
variable (T : TypeId → Option TyI) (lv : Code → List Nat) (O : Oracle) (K N m0 : Nat) (tp : Bool) (s : XS)
theorem execC_skip : execC T lv O K N m0 tp .skip s = some (.normal,s) := rfl
theorem execC_exit (id : Nat) : execC T lv O K N m0 tp (.exit id) s = some (.exit id,s) := rfl
theorem execC_ret : execC T lv O K N m0 tp .ret s = some (.ret,s) := rfl
theorem execC_region (id : Nat) (ops : Array Oper) : execC T lv O K N m0 tp (.region id ops false) s = match runOps T O N m0 ops ops.toList s with
  | some s' => some (.normal,s')
  | none => none := rfl
theorem execC_draw (id : Nat) (ops : Array Oper) : execC T lv O K N m0 tp (.region id ops true) s = match runDraw T O N m0 ops s with
  | some s' => some (.normal,s')
  | none => none := rfl
theorem execC_seq (a b : Code) : execC T lv O K N m0 tp (.seq a b) s = match execC T lv O K N m0 tp a s with
  | some (.normal,s') => execC T lv O K N m0 tp b s'
  | r => r := rfl
theorem execC_cond (c : Operand) (a b : Code) : execC T lv O K N m0 tp (.cond c a b) s = match get s.env c with
  | .bool true => execC T lv O K N m0 tp a s
  | .bool false => execC T lv O K N m0 tp b s
  | _ => none := rfl
theorem execC_block (id : Nat) (b : Code) : execC T lv O K N m0 tp (.block id b) s = match execC T lv O K N m0 tp b s with
  | some (.exit i,s') => if i = id then some (.normal,s') else some (.exit i,s')
  | r => r := rfl
theorem execC_loop (b : Code) : execC T lv O K N m0 tp (.loop b) s = iter (lv b) (writesC b) s.env s.mem.length (execC T lv O K N m0 tp b) K ⟨normE (lv b) (writesC b) s.env s.env,s.mem,s.dirty⟩ := rfl
end
attribute [simp] execC_skip execC_exit execC_ret execC_region execC_draw execC_seq execC_cond execC_block
open Classical in
theorem skolemE {p : Env → Bool → Prop} {q : Env → Bool → Env → Prop} (h : ∀ e d,p e d → ∃ e',q e d e') : ∃ F : Env → Bool → Env,∀ e d,p e d → q e d (F e d) :=
 ⟨fun e d => if hp : p e d then Classical.choose (h e d hp) else [],fun e d hp => by simp only [dif_pos hp]; exact Classical.choose_spec (h e d hp)⟩
theorem iter_ind {α : Type} {f : XS → Option (Exit × XS)} {lv wr : List Nat} {env0 : Env} {m1 : Nat} (S : α → XS) (m : α → Nat) (Inv : α → Prop) (e0 : Exit) (mem' : Mem) (d' : Bool) (Q : Env → Prop) (he : e0 ≠ .normal)
  (h : ∀ a,Inv a → (∃ a' s',f (S a) = some (.normal,s') ∧ normS lv wr env0 m1 s' = S a' ∧ Inv a' ∧ m a' < m a) ∨ (∃ env',f (S a) = some (e0,⟨env',mem',d'⟩) ∧ Q env')) :
  ∀ k a,Inv a → m a < k → ∃ env',iter lv wr env0 m1 f k (S a) = some (e0,⟨env',mem',d'⟩) ∧ Q env'
 | 0,a,_,hk => by omega
 | k + 1,a,ha,hk => by
  unfold iter
  rcases h a ha with ⟨a',s',h1,h2,h3,h4⟩ | ⟨env',h1,h3⟩
  ·rw [h1]
   simp only [h2]
   exact iter_ind S m Inv e0 mem' d' Q he h k a' h3 (by omega)
  ·rw [h1]
   refine ⟨env',?_,h3⟩
   cases e0 <;> first | rfl | exact absurd rfl he
theorem loop_rule {T : TypeId → Option TyI} {lv : Code → List Nat} {O : Oracle} {K N m0 : Nat} {tp : Bool} {b : Code} {L : List Nat} (hlv : lv b = L) {mem mem' : Mem} {e : Exit} (pre : Env → Prop) (post : Env → Env → Prop)
  (h : ∀ env0 d,pre env0 → ∃ env',iter L (writesC b) env0 mem.length (execC T lv O K N m0 tp b) K ⟨normE L (writesC b) env0 env0,mem,d⟩ = some (e,⟨env',mem',d⟩) ∧ post env0 env') :
  ∃ F : Env → Bool → Env,∀ env0 d,pre env0 → execC T lv O K N m0 tp (.loop b) ⟨env0,mem,d⟩ = some (e,⟨F env0 d,mem',d⟩) ∧ post env0 (F env0 d) := by
 refine skolemE (p := fun env0 _ => pre env0) (q := fun env0 d e' => execC T lv O K N m0 tp (.loop b) ⟨env0,mem,d⟩ = some (e,⟨e',mem',d⟩) ∧ post env0 e') ?_
 intro env0 d hp
 obtain ⟨env',h1,h2⟩ := h env0 d hp
 exact ⟨env',by rw [execC_loop,hlv]; exact h1,h2⟩
theorem wrap_u8 {n : Int} (h0 : 0 ≤ n) (h1 : n ≤ 255) : IntKind.u8.wrap n = n := by
 simp only [IntKind.wrap,IntKind.bits,IntKind.signed,Bool.false_and,Bool.false_eq_true,if_false]
 omega
def isIfaceT (i : Option TyI) : Bool := match i with
 | some i => match i.desc with
  | .interface _ => true
  | _ => false
 | none => false
theorem aNil_iface {T : TypeId → Option TyI} {t : TypeId} (h : isIfaceT (T t) = true) (r c : Bool) : aNil T t r c .nilIface .nilIface = if r || c then some true else none := by
 unfold isIfaceT at h
 unfold aNil
 cases hT : T t with
 | none => rw [hT] at h; cases h
 | some i =>
  rw [hT] at h
  simp only at h ⊢
  cases hd : i.desc <;> rw [hd] at h <;> first | (cases h; done) | rfl
end Go.Eng
