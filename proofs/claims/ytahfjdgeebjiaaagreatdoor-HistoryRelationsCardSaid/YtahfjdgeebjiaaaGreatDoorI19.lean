/- See I57. -/
import Derived.Test.YtahfjdgeebjiaaaGreatDoorI18
import Derived.Test.YtahfjdgeebjiaaaGreatDoorI17
import Derived.Test.YtahfjdgeebjiaaaGreatDoorI16
import Derived.Test.YtahfjdgeebjiaaaGreatDoorI10
set_option linter.all false
namespace Go.Proofs
open Go.Eng
noncomputable def Tryz.intF3 (f : FuncId) (args : List AV) : Option AV :=
 match f,args with
 | 255,[.str s,.str t] => match intP s,intP t with
  | some m,some n => if s.length ≤ 18 ∧ t.length ≤ 18 then some (.str (natD (m.natAbs.gcd n.natAbs))) else none
  | _,_ => none
 | 254,[.str s] => if s.length ≤ 1000000000 then some (.int .i64 (if okT (Lib.hasPrefix s [45]) (Lib.trimPrefix s [45]) then 0 else 2)) else none
 | f,args => Tryz.intF2 f args
theorem Tryz.int3_ok : OracleOk Tryz.prog (pureO Tryz.intF3) := pureO_ok fun f args v h mem => by
 unfold Tryz.intF3 at h
 split at h
 ·split at h
  ·rename_i m n hm hn
   split at h
   ·rename_i hc
    cases h
    rw [intP_some hm,intP_some hn] at hc ⊢
    exact Tryz.aGcdI m n hc.1 hc.2 mem
   ·cases h
  ·cases h
 ·split at h
  ·rename_i hl
   cases h
   exact Tryz.aCheckI _ hl mem
  ·cases h
 ·have := Tryz.int2_ok.fn _ _ mem ⟨v,none,[]⟩ (by unfold pureO; simp only; rw [h])
  simpa [CallRes.mem] using this
noncomputable def Tryz.ratF1 (f : FuncId) (args : List AV) : Option AV :=
 match f,args with
 | 171,[.str s] => match ratP s with
  | some q => if s.length ≤ 1000000000 then some (if (natD q.num.natAbs).length ≤ 9 ∧ (q.den = 1 ∨ (natD q.den).length ≤ 9) then .tuple [.int .i64 q.num,.int .i64 q.den,.bool true] else .tuple [.int .i64 0,.int .i64 0,.bool false]) else none
  | none => none
 | 177,[.int .i64 n,.int .i64 d] => if d.toNat ≠ 0 ∧ n.natAbs ≤ 4611686018427387904 ∧ 0 ≤ d ∧ d.toNat ≤ 4611686018427387904 then some (.str (ratS (mkRat n d.toNat))) else none
 | 172,[.str s] => match ratP s with
  | some q => if s.length ≤ 1000000000 then some (.tuple [.str (intS q.num),.str (natD q.den)]) else none
  | none => none
 | 258,[.str s,.str t] => match intP s,natP t with
  | some n,some d => if s.length ≤ 1000000000 ∧ t.length ≤ 1000000000 then some (.str (if d = 1 then intS n else intS n ++ 47 :: natD d)) else none
  | _,_ => none
 | 176,[.str s] => match ratP s with
  | some q => if s.length ≤ 1000000000 then some (.str (ratS (-q))) else none
  | none => none
 | 116,[.str s] => match ratP s with
  | some q => some (.int .i64 (sgnR q))
  | none => none
 | f,args => Tryz.intF3 f args
theorem Tryz.rat1_ok : OracleOk Tryz.prog (pureO Tryz.ratF1) := pureO_ok fun f args v h mem => by
 unfold Tryz.ratF1 at h
 split at h
 ·split at h
  ·rename_i q hq
   split at h
   ·rename_i hl
    cases h
    rw [ratP_some hq] at hl ⊢
    exact Tryz.aQuickR q hl mem
   ·cases h
  ·cases h
 ·split at h
  ·rename_i hc
   obtain ⟨hd,c1,c2,c3⟩ := hc
   cases h
   have := Tryz.aSmallR _ _ c1 hd c3 mem
   rw [Int.toNat_of_nonneg c2] at this
   rw [Rat.mkRat_def,dif_neg hd]
   exact this
  ·cases h
 ·split at h
  ·rename_i q hq
   split at h
   ·rename_i hl
    cases h
    rw [ratP_some hq] at hl ⊢
    exact Tryz.aParts q hl mem
   ·cases h
  ·cases h
 ·split at h
  ·rename_i m n hm hn
   split at h
   ·rename_i hc
    cases h
    rw [intP_some hm,natP_some hn] at hc ⊢
    exact Tryz.aJoin m n hc.1 hc.2 mem
   ·cases h
  ·cases h
 ·split at h
  ·rename_i q hq
   split at h
   ·rename_i hl
    cases h
    rw [ratP_some hq] at hl ⊢
    exact Tryz.aNegR q hl mem
   ·cases h
  ·cases h
 ·split at h
  ·rename_i q hq
   cases h
   rw [ratP_some hq]
   exact Tryz.aSignR q mem
  ·cases h
 ·have := Tryz.int3_ok.fn _ _ mem ⟨v,none,[]⟩ (by unfold pureO; simp only; rw [h])
  simpa [CallRes.mem] using this
theorem natP_natD' (u : Nat) : intP (natD u) = some (u : Int) := intP_intS (u : Int)
def fine (q : Rat) : Prop := (natD q.num.natAbs).length ≤ 9 ∧ (natD q.den).length ≤ 9
theorem fine_len {q : Rat} (h : fine q) : (ratS q).length ≤ 1000000000 := by
 have := intS_length q.num
 have h1 := h.1
 have h2 := h.2
 unfold ratS
 split
 ·omega
 ·simp only [List.length_append,List.length_cons]; omega
theorem ratS_mkRat (n : Int) {d : Nat} (hd : d ≠ 0) : ratS (mkRat n d) = if d / n.natAbs.gcd d = 1 then intS (n / (n.natAbs.gcd d : Nat)) else intS (n / (n.natAbs.gcd d : Nat)) ++ 47 :: natD (d / n.natAbs.gcd d) := by
 unfold ratS
 rw [Rat.num_mkRat,Rat.den_mkRat,if_neg hd,if_neg hd,Nat.gcd_comm d]
theorem natD_beq_one (n : Nat) : (natD n == [49]) = decide (n = 1) := by
 rw [Bool.eq_iff_iff,beq_iff_eq,decide_eq_true_eq]
 constructor
 ·intro e; exact natD_inj (e.trans (show [49] = natD 1 from rfl))
 ·rintro rfl; rfl
noncomputable def Tryz.ratF2 (f : FuncId) (args : List AV) : Option AV := Tryz.ratF1 f args
theorem Tryz.rat2_ok : OracleOk Tryz.prog (pureO Tryz.ratF2) := Tryz.rat1_ok
def cmpQ (a b : Rat) : Int := cmpI (a.num * b.den) (b.num * a.den)
theorem cmpQ_le {a b : Rat} : cmpQ a b ≤ 0 ↔ a ≤ b := by
 rw [Rat.le_iff]; unfold cmpQ cmpI
 split
 ·constructor <;> intro h <;> omega
 ·split <;> constructor <;> intro h <;> omega
theorem ratS_beq (a b : Rat) : (ratS a == ratS b) = decide (a = b) := by
 rw [Bool.eq_iff_iff,beq_iff_eq,decide_eq_true_eq]
 exact ⟨ratS_inj,fun h => by rw [h]⟩
def qk (q : Rat) : Prop := (natD q.num.natAbs).length ≤ 9 ∧ (q.den = 1 ∨ (natD q.den).length ≤ 9)
theorem qk_lt {q : Rat} (h : qk q) : q.num.natAbs < 10 ^ 9 ∧ q.den < 10 ^ 9 := by
 have h1 := natD_lt_pow q.num.natAbs
 have h2 := natD_lt_pow q.den
 have h3 : 10 ^ (natD q.num.natAbs).length ≤ 10 ^ 9 := Nat.pow_le_pow_right (by omega) h.1
 refine ⟨by omega,?_⟩
 rcases h.2 with h4 | h4
 ·omega
 ·have h5 : 10 ^ (natD q.den).length ≤ 10 ^ 9 := Nat.pow_le_pow_right (by omega) h4
  omega
theorem qk_of {q : Rat} (h : fine q) : qk q := ⟨h.1,.inr h.2⟩
theorem quick_cond' {α : Type} {q : Rat} (h : qk q) (x y : α) : (if (natD q.num.natAbs).length ≤ 9 ∧ (q.den = 1 ∨ (natD q.den).length ≤ 9) then x else y) = x := if_pos h
set_option maxHeartbeats 1600000 in
theorem Tryz.aCompareR (a b : Rat) (ha : fine a) (hb : fine b) (mem : Mem) :
  ACallsTo Tryz.prog 112 [.str (ratS a),.str (ratS b)] mem (.int .i64 (cmpQ a b)) mem := by
 have hG : fnOf Tryz.prog 112 = some Tryz.f112 := by kernel_rfl
 refine Tryz.run Tryz.rat2_ok (lv := fun _ => []) (K := 1) rfl rfl ?_ mem
 have la := fine_len ha
 have lb := fine_len hb
 by_cases hab : a = b
 ·subst hab
  have : cmpQ a a = 0 := by unfold cmpQ cmpI; simp
  simp [callFn,hG,Tryz.f112,this]
 ·have hbe := ratS_beq a b
  rw [decide_eq_false hab] at hbe
  obtain ⟨X,hX⟩ : ∃ X,X = a.num * (b.den : Int) := ⟨_,rfl⟩
  obtain ⟨Y,hY⟩ : ∃ Y,Y = b.num * (a.den : Int) := ⟨_,rfl⟩
  have hc : cmpQ a b = cmpI X Y := by unfold cmpQ; rw [← hX,← hY]
  have qa := qk_of ha
  have qb := qk_of hb
  ·skip
   obtain ⟨a1,a2⟩ := qk_lt qa
   obtain ⟨b1,b2⟩ := qk_lt qb
   have x1 : X.natAbs < 10 ^ 9 * 10 ^ 9 := by rw [hX]; exact natAbs_mul_lt a1 (by simpa using b2)
   have y1 : Y.natAbs < 10 ^ 9 * 10 ^ 9 := by rw [hY]; exact natAbs_mul_lt b1 (by simpa using a2)
   have w1 : IntKind.i64.wrap (a.num * (b.den : Int)) = X := by rw [← hX]; exact wrap_i64 (by omega) (by omega)
   have w2 : IntKind.i64.wrap (b.num * (a.den : Int)) = Y := by rw [← hY]; exact wrap_i64 (by omega) (by omega)
   rw [hc]
   unfold cmpI
   by_cases hxy : X < Y
   ·simp [callFn,hG,Tryz.f112,hbe,pureO,Tryz.ratF2,Tryz.ratF1,ratP_ratS,la,lb,quick_cond' qa,quick_cond' qb,w1,w2,hxy]
   ·by_cases hyx : Y < X
    ·simp [callFn,hG,Tryz.f112,hbe,pureO,Tryz.ratF2,Tryz.ratF1,ratP_ratS,la,lb,quick_cond' qa,quick_cond' qb,w1,w2,hxy,hyx]
    ·simp [callFn,hG,Tryz.f112,hbe,pureO,Tryz.ratF2,Tryz.ratF1,ratP_ratS,la,lb,quick_cond' qa,quick_cond' qb,w1,w2,hxy,hyx]
theorem ratS_beq_one (q : Rat) : (ratS q == [49]) = decide (q = 1) := by
 have := ratS_beq q 1
 rwa [show ratS 1 = [49] from rfl] at this
set_option maxHeartbeats 1600000 in
theorem Tryz.aAddR (a b : Rat) (ha : fine a) (hb : fine b) (mem : Mem) :
  ACallsTo Tryz.prog 169 [.str (ratS a),.str (ratS b)] mem (.str (ratS (a + b))) mem := by
 have hG : fnOf Tryz.prog 169 = some Tryz.f169 := by kernel_rfl
 refine Tryz.run Tryz.rat2_ok (lv := fun _ => []) (K := 1) rfl rfl ?_ mem
 have la := fine_len ha
 have lb := fine_len hb
 by_cases ha0 : a = 0
 ·subst ha0
  have : ratS 0 = [48] := rfl
  simp [callFn,hG,Tryz.f169,this,Rat.zero_add]
 by_cases hb0 : b = 0
 ·subst hb0
  have : ratS 0 = [48] := rfl
  simp [callFn,hG,Tryz.f169,this,ratS_beq_zero,ha0,Rat.add_zero]
 have pa := a.den_pos
 have pb := b.den_pos
 have hdp : a.den * b.den ≠ 0 := Nat.mul_ne_zero a.den_nz b.den_nz
 have hsum := Rat.add_def' a b
 obtain ⟨X,hX⟩ : ∃ X,X = a.num * (b.den : Int) := ⟨_,rfl⟩
 obtain ⟨Y,hY⟩ : ∃ Y,Y = b.num * (a.den : Int) := ⟨_,rfl⟩
 obtain ⟨D,hD⟩ : ∃ D,D = a.den * b.den := ⟨_,rfl⟩
 rw [← hX,← hY,← hD] at hsum
 rw [← hD] at hdp
 rw [hsum]
 have qa := qk_of ha
 have qb := qk_of hb
 ·skip
  obtain ⟨a1,a2⟩ := qk_lt qa
  obtain ⟨b1,b2⟩ := qk_lt qb
  have x1 : X.natAbs < 10 ^ 9 * 10 ^ 9 := by rw [hX]; exact natAbs_mul_lt a1 (by simpa using b2)
  have y1 : Y.natAbs < 10 ^ 9 * 10 ^ 9 := by rw [hY]; exact natAbs_mul_lt b1 (by simpa using a2)
  have d1 : D < 10 ^ 9 * 10 ^ 9 := by rw [hD]; exact Nat.mul_lt_mul'' a2 b2
  have w1 : IntKind.i64.wrap (a.num * (b.den : Int)) = X := by rw [← hX]; exact wrap_i64 (by omega) (by omega)
  have w2 : IntKind.i64.wrap (b.num * (a.den : Int)) = Y := by rw [← hY]; exact wrap_i64 (by omega) (by omega)
  have w3 : IntKind.i64.wrap (X + Y) = X + Y := wrap_i64 (by omega) (by omega)
  have w4 : IntKind.i64.wrap ((a.den : Int) * (b.den : Int)) = (D : Int) := by
   rw [← Int.natCast_mul,← hD]; exact wrap_i64 (by omega) (by omega)
  have c1 : (X + Y).natAbs ≤ 4611686018427387904 := by omega
  have c2 : D ≤ 4611686018427387904 := by omega
  simp [callFn,hG,Tryz.f169,ratS_beq_zero,ha0,hb0,pureO,Tryz.ratF2,Tryz.ratF1,ratP_ratS,la,lb,quick_cond' qa,quick_cond' qb,w1,w2,w3,w4,hdp,c1,c2]
set_option maxHeartbeats 1600000 in
theorem Tryz.aMulR (a b : Rat) (ha : fine a) (hb : fine b) (mem : Mem) :
  ACallsTo Tryz.prog 119 [.str (ratS a),.str (ratS b)] mem (.str (ratS (a * b))) mem := by
 have hG : fnOf Tryz.prog 119 = some Tryz.f119 := by kernel_rfl
 refine Tryz.run Tryz.rat2_ok (lv := fun _ => []) (K := 1) rfl rfl ?_ mem
 have la := fine_len ha
 have lb := fine_len hb
 have z0 : ratS 0 = [48] := rfl
 have z1 : ratS 1 = [49] := rfl
 by_cases ha0 : a = 0
 ·subst ha0
  simp [callFn,hG,Tryz.f119,z0,Rat.zero_mul]
 by_cases hb0 : b = 0
 ·subst hb0
  simp [callFn,hG,Tryz.f119,z0,ratS_beq_zero,ha0,Rat.mul_zero]
 by_cases ha1 : a = 1
 ·subst ha1
  simp [callFn,hG,Tryz.f119,z1,ratS_beq_zero,hb0,Rat.one_mul]
 by_cases hb1 : b = 1
 ·subst hb1
  simp [callFn,hG,Tryz.f119,z1,ratS_beq_zero,ratS_beq_one,ha0,ha1,Rat.mul_one]
 have pa := a.den_pos
 have pb := b.den_pos
 have hdp : a.den * b.den ≠ 0 := Nat.mul_ne_zero a.den_nz b.den_nz
 have hsum := Rat.mul_def' a b
 obtain ⟨X,hX⟩ : ∃ X,X = a.num * b.num := ⟨_,rfl⟩
 obtain ⟨D,hD⟩ : ∃ D,D = a.den * b.den := ⟨_,rfl⟩
 rw [← hX,← hD] at hsum
 rw [← hD] at hdp
 rw [hsum]
 have qa := qk_of ha
 have qb := qk_of hb
 ·skip
  obtain ⟨a1,a2⟩ := qk_lt qa
  obtain ⟨b1,b2⟩ := qk_lt qb
  have x1 : X.natAbs < 10 ^ 9 * 10 ^ 9 := by rw [hX]; exact natAbs_mul_lt a1 b1
  have d1 : D < 10 ^ 9 * 10 ^ 9 := by rw [hD]; exact Nat.mul_lt_mul'' a2 b2
  have w1 : IntKind.i64.wrap (a.num * b.num) = X := by rw [← hX]; exact wrap_i64 (by omega) (by omega)
  have w4 : IntKind.i64.wrap ((a.den : Int) * (b.den : Int)) = (D : Int) := by
   rw [← Int.natCast_mul,← hD]; exact wrap_i64 (by omega) (by omega)
  have c1 : X.natAbs ≤ 4611686018427387904 := by omega
  have c2 : D ≤ 4611686018427387904 := by omega
  simp [callFn,hG,Tryz.f119,ratS_beq_zero,ratS_beq_one,ha0,hb0,ha1,hb1,pureO,Tryz.ratF2,Tryz.ratF1,ratP_ratS,la,lb,quick_cond' qa,quick_cond' qb,w1,w4,hdp,c1,c2]
end Go.Proofs
