/- Part B48 of a proof: see its last part, YtiopbpbcgccngaaGreatDoorB55.lean. -/
import Derived.Test.YtiopbpbcgccngaaGreatDoorB47
import Derived.Test.YtiopbpbcgccngaaGreatDoorB30
import Derived.Test.YtiopbpbcgccngaaGreatDoorB32
set_option linter.all false
namespace Go.Proofs
open Go.Eng
noncomputable def Tryz.rgF5 (f : FuncId) (args : List AV) : Option AV :=
  match f, args with
  | 171, [.str s, .str t] => match intP s, intP t with
    | some a, some b => if (natD a.natAbs).length ≤ 10000 ∧ (natD b.natAbs).length ≤ 10000 then some (.str (intS (a + b))) else none
    | _, _ => none
  | f, args => Tryz.rgF4 f args
theorem Tryz.rg5_ok : OracleOk Tryz.prog (pureO Tryz.rgF5) := pureO_ok fun f args v h mem => by
  unfold Tryz.rgF5 at h
  split at h
  · split at h
    · rename_i m n hm hn
      split at h
      · rename_i hc; cases h; rw [intP_some hm, intP_some hn]; exact Tryz.aRAdd m n hc.1 hc.2 mem
      · cases h
    · cases h
  · have := Tryz.rg4_ok.fn _ _ mem ⟨v, none, []⟩ (by unfold pureO; simp only; rw [h])
    simpa [CallRes.mem] using this
theorem Tryz.aRSub (a b : Int) (ha : (natD a.natAbs).length ≤ 10000) (hb : (natD b.natAbs).length ≤ 10000) (mem : Mem) : ACallsTo Tryz.prog 129 [.str (intS a), .str (intS b)] mem (.str (intS (a - b))) mem := by
  have hG : fnOf Tryz.prog 129 = some Tryz.f129 := by kernel_rfl
  refine Tryz.run Tryz.rg5_ok (lv := fun _ => []) (K := 1) rfl rfl ?_ mem
  have hb1 : (natD b.natAbs).length ≤ 1000000000 := by omega
  have e : a + -b = a - b := Int.sub_eq_add_neg.symm
  simp [callFn, hG, Tryz.f129, pureO, Tryz.rgF5, Tryz.rgF4, Tryz.rgF3, intP_intS, hb1, ha, hb, e]
noncomputable def Tryz.rgF6 (f : FuncId) (args : List AV) : Option AV :=
  match f, args with
  | 129, [.str s, .str t] => match intP s, intP t with
    | some a, some b => if (natD a.natAbs).length ≤ 10000 ∧ (natD b.natAbs).length ≤ 10000 then some (.str (intS (a - b))) else none
    | _, _ => none
  | f, args => Tryz.rgF5 f args
theorem Tryz.rg6_ok : OracleOk Tryz.prog (pureO Tryz.rgF6) := pureO_ok fun f args v h mem => by
  unfold Tryz.rgF6 at h
  split at h
  · split at h
    · rename_i m n hm hn
      split at h
      · rename_i hc; cases h; rw [intP_some hm, intP_some hn]; exact Tryz.aRSub m n hc.1 hc.2 mem
      · cases h
    · cases h
  · have := Tryz.rg5_ok.fn _ _ mem ⟨v, none, []⟩ (by unfold pureO; simp only; rw [h])
    simpa [CallRes.mem] using this
theorem Tryz.aRCompare (a b : Int) (ha : (natD a.natAbs).length ≤ 10000) (hb : (natD b.natAbs).length ≤ 10000) (mem : Mem) : ACallsTo Tryz.prog 95 [.str (intS a), .str (intS b)] mem (.int .i64 (sgnI (a - b))) mem := by
  have hG : fnOf Tryz.prog 95 = some Tryz.f95 := by kernel_rfl
  refine Tryz.run Tryz.rg6_ok (lv := fun _ => []) (K := 1) rfl rfl ?_ mem
  obtain ⟨c, hc⟩ : ∃ c, c = a - b := ⟨_, rfl⟩
  simp [callFn, hG, Tryz.f95, pureO, Tryz.rgF6, Tryz.rgF5, Tryz.rgF4, Tryz.rgF3, intP_intS, ha, hb, ← hc]
end Go.Proofs
namespace Go.Proofs
open Go.Eng
theorem tdiv_exact {a : Int} {b : Nat} (hb : 0 < b) (h : 0 ≤ a ∨ a.natAbs % b = 0) : a.tdiv b = a / b ∧ a.tmod b = ((a.natAbs % b : Nat) : Int) := by
  by_cases h0 : 0 ≤ a
  · obtain ⟨n, rfl⟩ : ∃ n : Nat, a = n := ⟨a.toNat, by omega⟩
    rw [tdiv_nat, tmod_nat, Int.natAbs_natCast, Int.natCast_ediv]
    exact ⟨rfl, rfl⟩
  · have h1 : a.natAbs % b = 0 := by rcases h with h | h <;> omega
    have h2 : a = -((a.natAbs / b * b : Nat) : Int) := by
      have := Nat.div_add_mod a.natAbs b
      rw [h1, Nat.add_zero, Nat.mul_comm] at this
      omega
    obtain ⟨q, hq⟩ : ∃ q, q = a.natAbs / b := ⟨_, rfl⟩
    rw [← hq] at h2
    rw [h1, h2, Int.natCast_mul, ← Int.neg_mul]
    have hb' : (b : Int) ≠ 0 := by omega
    exact ⟨by rw [Int.mul_tdiv_cancel _ hb', Int.mul_ediv_cancel _ hb'], by rw [Int.mul_tmod_left]; rfl⟩
set_option maxHeartbeats 3200000 in
theorem Tryz.aRDivMod (a : Int) (b : Nat) (hb0 : 0 < b) (hab : 0 ≤ a ∨ a.natAbs % b = 0) (ha : (natD a.natAbs).length ≤ 10000) (hb : (natD b).length ≤ 10000) (mem : Mem) :
    ACallsTo Tryz.prog 131 [.str (intS a), .str (natD b)] mem (.tuple [.str (intS (a / b)), .str (natD (a.natAbs % b))]) mem := by
  have hG : fnOf Tryz.prog 131 = some Tryz.f131 := by kernel_rfl
  refine Tryz.run Tryz.roO_ok (lv := fun _ => []) (K := 1) rfl rfl ?_ mem
  have hpb : intP (natD b) = some (b : Int) := intP_intS (b : Int)
  have hpx : Lib.hasPrefix (natD b) [45] = false := by
    have := hasPrefix_intS (b : Int)
    rw [show intS (b : Int) = natD b from rfl] at this
    rw [this]; simp
  have hpt : Lib.trimPrefix (natD b) [45] = natD b := by
    have := trimPrefix_intS (b : Int)
    rw [show intS (b : Int) = natD b from rfl, Int.natAbs_natCast] at this
    exact this
  have hcd := closeS_div hb0 hab
  have hte := tdiv_exact hb0 hab
  obtain ⟨n, hn⟩ : ∃ n, a.natAbs = n := ⟨_, rfl⟩
  rw [hn] at hcd hte ha hab ⊢
  have la1 : (natD n).length ≤ 1000000000 := by omega
  have lb1 : (natD b).length ≤ 1000000000 := by omega
  have hrlt : n % b < b := Nat.mod_lt _ hb0
  obtain ⟨q, hq⟩ : ∃ q, q = n / b := ⟨_, rfl⟩
  obtain ⟨r, hr⟩ : ∃ r, r = n % b := ⟨_, rfl⟩
  rw [← hq] at hcd
  rw [← hr] at hte hab hrlt ⊢
  obtain ⟨Z, hZ⟩ : ∃ Z, Z = a / (b : Int) := ⟨_, rfl⟩
  rw [← hZ] at hcd hte ⊢
  have hb0' : ¬ b = 0 := by omega
  by_cases hb17 : (natD n).length ≤ 17 ∧ (natD b).length ≤ 17
  · obtain ⟨q1, q2⟩ := hb17
    have s1 : n < 10 ^ 17 := by
      have h1 := natD_lt_pow n
      have h2 : 10 ^ (natD n).length ≤ 10 ^ 17 := Nat.pow_le_pow_right (by omega) q1
      omega
    have s2 : b < 10 ^ 17 := by
      have h1 := natD_lt_pow b
      have h2 : 10 ^ (natD b).length ≤ 10 ^ 17 := Nat.pow_le_pow_right (by omega) q2
      omega
    have hZb : Z.natAbs ≤ n := by rw [hZ, ← hn]; exact Int.natAbs_ediv_le_natAbs _ _
    have w1 : IntKind.i64.wrap (a.tdiv (b : Int)) = Z := by rw [hte.1]; exact wrap_i64 (by omega) (by omega)
    have w2 : IntKind.i64.wrap Z = Z := wrap_i64 (by omega) (by omega)
    have hf1 : fitsI Z = true := by unfold fitsI; simp; omega
    have hf2 : fitsI (r : Int) = true := by unfold fitsI; simp; omega
    have hrs : intS (r : Int) = natD r := rfl
    have hrn : ¬ (r : Int) < 0 := by omega
    simp [callFn, hG, Tryz.f131, Tryz.roO, Oracle.or, pureO, Tryz.rgF4, Tryz.rgF3, intP_intS, hpb, hn, la1, lb1, q1, q2, hb0', hte, w1, w2, hrn, hf1, hf2, hrs, Nat.testBit]
  · have da := dig4_length n
    have db := dig4_length b
    have la2 : (natD n).length ≤ 1000000 := by omega
    have lb2 : (natD b).length ≤ 1000000 := by omega
    have va : lval 10000 (dig 10000 n) = n := lval_dig (by omega) _
    have vb : lval 10000 (dig 10000 b) = b := lval_dig (by omega) _
    have oa : lok 10000 (dig 10000 n) = true := lok_dig (by omega) _
    have ob : lok 10000 (dig 10000 b) = true := lok_dig (by omega) _
    have tb : ltrim (dig 10000 b) = dig 10000 b := ltrim_dig (by omega) _
    have hn0 : dig 10000 n = [] ↔ n = 0 := dig_eq_nil (by omega)
    obtain ⟨A, hA⟩ : ∃ A, A = dig 10000 n := ⟨_, rfl⟩
    obtain ⟨B, hB⟩ : ∃ B, B = dig 10000 b := ⟨_, rfl⟩
    rw [← hA] at da va oa hn0
    rw [← hB] at db vb ob tb
    have g1 : A.length ≤ 50000 := by omega
    have g2 : B.length ≤ 50000 := by omega
    have hr0 : closeS false r = natD r := closeS_false r
    obtain ⟨Q, hQ⟩ : ∃ Q, Q = dig 10000 q := ⟨_, rfl⟩
    obtain ⟨R, hR⟩ : ∃ R, R = dig 10000 r := ⟨_, rfl⟩
    have vq : lval 10000 Q = q := by rw [hQ]; exact lval_dig (by omega) _
    have oq : lok 10000 Q = true := by rw [hQ]; exact lok_dig (by omega) _
    have tq : ltrim Q = Q := by rw [hQ]; exact ltrim_dig (by omega) _
    have gq : Q.length ≤ 100000 := by
      have h1 := natD_length_mono (show q ≤ n by rw [hq]; exact Nat.div_le_self _ _)
      have h2 := dig4_length q
      rw [hQ]; omega
    have vr : lval 10000 R = r := by rw [hR]; exact lval_dig (by omega) _
    have or : lok 10000 R = true := by rw [hR]; exact lok_dig (by omega) _
    have tr : ltrim R = R := by rw [hR]; exact ltrim_dig (by omega) _
    have gr : R.length ≤ 100000 := by
      have h1 := natD_length_mono (show r ≤ b by omega)
      have h2 := dig4_length r
      rw [hR]; omega
    by_cases hA0 : A = []
    · have hn00 := hn0.1 hA0
      have hq0 : q = 0 := by rw [hq, hn00]; exact Nat.zero_div _
      have hr00 : r = 0 := by rw [hr, hn00]; exact Nat.zero_mod _
      have ha0 : ¬ a < 0 := by omega
      rw [hq0] at hcd
      have hcd2 : intS Z = [48] := by rw [← hcd]; rfl
      have hrd : natD r = [48] := by rw [hr00]; exact natD_zero
      have e1 : ∀ l, sliceN .i64 (.cells true 1 [] :: l) (.slice 0 0 0 none) = some [] := fun l => sliceN_at (A := []) rfl (by simp) rfl
      have e2 : ∀ a0 a1 l, sliceN .i64 (a0 :: a1 :: .cells true 1 [] :: l) (.slice 2 0 0 none) = some [] := fun a0 a1 l => sliceN_at (A := []) rfl (by simp) rfl
      have k1 : lok 10000 [] = true := rfl
      have k2 : ltrim [] = [] := rfl
      have k3 : lval 10000 [] = 0 := rfl
      have k4 : ∀ mn, closeS mn 0 = [48] := fun mn => rfl
      have k5 : closeS false n = [48] := by rw [hn00]; rfl
      rw [hcd2, hrd]
      rw [hA0] at hA va
      clear hcd hr0 hQ hR
      by_cases q1 : (natD n).length ≤ 17
      · have q2 : ¬ (natD b).length ≤ 17 := fun e => hb17 ⟨q1, e⟩
        simp [callFn, hG, Tryz.f131, Tryz.roO, Oracle.or, pureO, Tryz.rgF4, Tryz.rgF3, Tryz.rgF2, Tryz.rgF1, Tryz.strF, intP_intS, hpb, natP_natD, hn, la1, lb1, q1, q2, Tryz.rfO5, Tryz.rfO4, Tryz.rfO3, Tryz.rfO2, Tryz.rfO1, hasPrefix_intS, trimPrefix_intS, hpx, hpt, la2, lb2, ← hA, ← hB, rs0, rs1, rs2, rs3, oa, ob, tb, g1, g2, va, vb, hb0, hb0', ← hq, ← hr, hA0, hA0, e1, e2, k1, k2, k3, k4, k5, ha0]
      · by_cases q2 : (natD b).length ≤ 17
        · simp [callFn, hG, Tryz.f131, Tryz.roO, Oracle.or, pureO, Tryz.rgF4, Tryz.rgF3, Tryz.rgF2, Tryz.rgF1, Tryz.strF, intP_intS, hpb, natP_natD, hn, la1, lb1, q1, q2, Tryz.rfO5, Tryz.rfO4, Tryz.rfO3, Tryz.rfO2, Tryz.rfO1, hasPrefix_intS, trimPrefix_intS, hpx, hpt, la2, lb2, ← hA, ← hB, rs0, rs1, rs2, rs3, oa, ob, tb, g1, g2, va, vb, hb0, hb0', ← hq, ← hr, hA0, hA0, e1, e2, k1, k2, k3, k4, k5, ha0]
        · simp [callFn, hG, Tryz.f131, Tryz.roO, Oracle.or, pureO, Tryz.rgF4, Tryz.rgF3, Tryz.rgF2, Tryz.rgF1, Tryz.strF, intP_intS, hpb, natP_natD, hn, la1, lb1, q1, q2, Tryz.rfO5, Tryz.rfO4, Tryz.rfO3, Tryz.rfO2, Tryz.rfO1, hasPrefix_intS, trimPrefix_intS, hpx, hpt, la2, lb2, ← hA, ← hB, rs0, rs1, rs2, rs3, oa, ob, tb, g1, g2, va, vb, hb0, hb0', ← hq, ← hr, hA0, hA0, e1, e2, k1, k2, k3, k4, k5, ha0]
    · by_cases ha0 : a < 0
      · have hr00 : r = 0 := by rcases hab with h | h <;> omega
        have hR0 : R = [] := by rw [hR, hr00]; exact dig_zero _
        have hRl : ¬ 0 < R.length := by rw [hR0]; simp
        have hcd' : closeS true q = intS Z := by rw [← hcd, decide_eq_true ha0]
        by_cases q1 : (natD n).length ≤ 17
        · have q2 : ¬ (natD b).length ≤ 17 := fun e => hb17 ⟨q1, e⟩
          simp [callFn, hG, Tryz.f131, Tryz.roO, Oracle.or, pureO, Tryz.rgF4, Tryz.rgF3, Tryz.rgF2, Tryz.rgF1, Tryz.strF, intP_intS, hpb, natP_natD, hn, la1, lb1, q1, q2, Tryz.rfO5, Tryz.rfO4, Tryz.rfO3, Tryz.rfO2, Tryz.rfO1, hasPrefix_intS, trimPrefix_intS, hpx, hpt, la2, lb2, ← hA, ← hB, rs0, rs1, rs2, rs3, oa, ob, tb, g1, g2, va, vb, hb0, hb0', ← hq, ← hr, ← hQ, ← hR, vq, oq, tq, gq, vr, or, tr, gr, hr0, hA0, ha0, hRl, hcd']
        · by_cases q2 : (natD b).length ≤ 17
          · simp [callFn, hG, Tryz.f131, Tryz.roO, Oracle.or, pureO, Tryz.rgF4, Tryz.rgF3, Tryz.rgF2, Tryz.rgF1, Tryz.strF, intP_intS, hpb, natP_natD, hn, la1, lb1, q1, q2, Tryz.rfO5, Tryz.rfO4, Tryz.rfO3, Tryz.rfO2, Tryz.rfO1, hasPrefix_intS, trimPrefix_intS, hpx, hpt, la2, lb2, ← hA, ← hB, rs0, rs1, rs2, rs3, oa, ob, tb, g1, g2, va, vb, hb0, hb0', ← hq, ← hr, ← hQ, ← hR, vq, oq, tq, gq, vr, or, tr, gr, hr0, hA0, ha0, hRl, hcd']
          · simp [callFn, hG, Tryz.f131, Tryz.roO, Oracle.or, pureO, Tryz.rgF4, Tryz.rgF3, Tryz.rgF2, Tryz.rgF1, Tryz.strF, intP_intS, hpb, natP_natD, hn, la1, lb1, q1, q2, Tryz.rfO5, Tryz.rfO4, Tryz.rfO3, Tryz.rfO2, Tryz.rfO1, hasPrefix_intS, trimPrefix_intS, hpx, hpt, la2, lb2, ← hA, ← hB, rs0, rs1, rs2, rs3, oa, ob, tb, g1, g2, va, vb, hb0, hb0', ← hq, ← hr, ← hQ, ← hR, vq, oq, tq, gq, vr, or, tr, gr, hr0, hA0, ha0, hRl, hcd']
      · have hcd' : closeS false q = intS Z := by rw [← hcd, decide_eq_false ha0]
        by_cases q1 : (natD n).length ≤ 17
        · have q2 : ¬ (natD b).length ≤ 17 := fun e => hb17 ⟨q1, e⟩
          simp [callFn, hG, Tryz.f131, Tryz.roO, Oracle.or, pureO, Tryz.rgF4, Tryz.rgF3, Tryz.rgF2, Tryz.rgF1, Tryz.strF, intP_intS, hpb, natP_natD, hn, la1, lb1, q1, q2, Tryz.rfO5, Tryz.rfO4, Tryz.rfO3, Tryz.rfO2, Tryz.rfO1, hasPrefix_intS, trimPrefix_intS, hpx, hpt, la2, lb2, ← hA, ← hB, rs0, rs1, rs2, rs3, oa, ob, tb, g1, g2, va, vb, hb0, hb0', ← hq, ← hr, ← hQ, ← hR, vq, oq, tq, gq, vr, or, tr, gr, hr0, hA0, ha0, hcd']
        · by_cases q2 : (natD b).length ≤ 17
          · simp [callFn, hG, Tryz.f131, Tryz.roO, Oracle.or, pureO, Tryz.rgF4, Tryz.rgF3, Tryz.rgF2, Tryz.rgF1, Tryz.strF, intP_intS, hpb, natP_natD, hn, la1, lb1, q1, q2, Tryz.rfO5, Tryz.rfO4, Tryz.rfO3, Tryz.rfO2, Tryz.rfO1, hasPrefix_intS, trimPrefix_intS, hpx, hpt, la2, lb2, ← hA, ← hB, rs0, rs1, rs2, rs3, oa, ob, tb, g1, g2, va, vb, hb0, hb0', ← hq, ← hr, ← hQ, ← hR, vq, oq, tq, gq, vr, or, tr, gr, hr0, hA0, ha0, hcd']
          · simp [callFn, hG, Tryz.f131, Tryz.roO, Oracle.or, pureO, Tryz.rgF4, Tryz.rgF3, Tryz.rgF2, Tryz.rgF1, Tryz.strF, intP_intS, hpb, natP_natD, hn, la1, lb1, q1, q2, Tryz.rfO5, Tryz.rfO4, Tryz.rfO3, Tryz.rfO2, Tryz.rfO1, hasPrefix_intS, trimPrefix_intS, hpx, hpt, la2, lb2, ← hA, ← hB, rs0, rs1, rs2, rs3, oa, ob, tb, g1, g2, va, vb, hb0, hb0', ← hq, ← hr, ← hQ, ← hR, vq, oq, tq, gq, vr, or, tr, gr, hr0, hA0, ha0, hcd']
end Go.Proofs
namespace Go.Proofs
open Go.Eng
noncomputable def Tryz.rgF7 (f : FuncId) (args : List AV) : Option AV :=
  match f, args with
  | 131, [.str s, .str t] => match intP s, natP t with
    | some a, some b => if (natD a.natAbs).length ≤ 10000 ∧ (natD b).length ≤ 10000 ∧ 0 < b ∧ (0 ≤ a ∨ a.natAbs % b = 0) then some (.tuple [.str (intS (a / b)), .str (natD (a.natAbs % b))]) else none
    | _, _ => none
  | 95, [.str s, .str t] => match intP s, intP t with
    | some a, some b => if (natD a.natAbs).length ≤ 10000 ∧ (natD b.natAbs).length ≤ 10000 then some (.int .i64 (sgnI (a - b))) else none
    | _, _ => none
  | 93, [.str s] => if s.length ≤ 1000000000 then some (.bool (okI s)) else none
  | f, args => Tryz.rgF6 f args
theorem Tryz.rg7_ok : OracleOk Tryz.prog (pureO Tryz.rgF7) := pureO_ok fun f args v h mem => by
  unfold Tryz.rgF7 at h
  split at h
  · split at h
    · rename_i m n hm hn
      split at h
      · rename_i hc; cases h; rw [intP_some hm, natP_some hn]; exact Tryz.aRDivMod m n hc.2.2.1 hc.2.2.2 hc.1 hc.2.1 mem
      · cases h
    · cases h
  · split at h
    · rename_i m n hm hn
      split at h
      · rename_i hc; cases h; rw [intP_some hm, intP_some hn]; exact Tryz.aRCompare m n hc.1 hc.2 mem
      · cases h
    · cases h
  · split at h
    · rename_i hc; cases h; exact Tryz.aRRight _ hc mem
    · cases h
  · have := Tryz.rg6_ok.fn _ _ mem ⟨v, none, []⟩ (by unfold pureO; simp only; rw [h])
    simpa [CallRes.mem] using this
theorem natD_beq_zero (n : Nat) : (natD n == [48]) = decide (n = 0) := by
  rw [Bool.eq_iff_iff, beq_iff_eq, decide_eq_true_eq]
  constructor
  · intro e; exact natD_inj (e.trans (show [48] = natD 0 from rfl))
  · rintro rfl; rfl
theorem Tryz.rgcd_loop {K : Nat} (x y : Nat) (hx : (natD x).length ≤ 10000) (hy : (natD y).length ≤ 10000) (hK : 2 * y + 1 < K) {b : Code} (hb : loopsF Tryz.f96 = [b]) :
    ∃ F : Env → Bool → Env, ∀ env0 d, (Go.Eng.look env0 0 = .str (natD x) ∧ Go.Eng.look env0 1 = .str (natD y)) →
      execC (tyOf Tryz.prog) (fun _ => [0, 1]) (pureO Tryz.rgF7) K 22 0 true (.loop b) ⟨env0, [], d⟩ = some (.exit 0, ⟨F env0 d, [], d⟩) ∧ Go.Eng.look (F env0 d) 0 = .str (natD (x.gcd y)) := by
  refine loop_rule rfl (fun env0 => Go.Eng.look env0 0 = .str (natD x) ∧ Go.Eng.look env0 1 = .str (natD y)) (fun _ env' => Go.Eng.look env' 0 = .str (natD (x.gcd y))) ?_
  rintro env0 d ⟨h0, h1⟩
  have hn : normE [0, 1] (writesC b) env0 ((0, .str (natD x)) :: (1, .str (natD y)) :: env0) = normE [0, 1] (writesC b) env0 env0 := by simp [normE, h0, h1]
  rw [← hn]
  refine iter_ind (α := Nat × Nat) (fun s => ⟨normE [0, 1] (writesC b) env0 ((0, .str (natD s.1)) :: (1, .str (natD s.2)) :: env0), [], d⟩)
    (fun s => s.2) (fun s => s.1.gcd s.2 = x.gcd y ∧ (natD s.1).length ≤ 10000 ∧ (natD s.2).length ≤ 10000) (.exit 0) _ d _ (by simp) ?_ K (x, y) ⟨rfl, hx, hy⟩ (by show y < K; omega)
  rintro ⟨a, c⟩ ⟨hg, ha, hc⟩
  simp only at hg ha hc ⊢
  clear hn
  simp [loopsF, loopsC, Tryz.f96] at hb
  by_cases hc0 : c = 0
  · right
    subst hc0
    rw [Nat.gcd_zero_right] at hg
    rw [← hg]
    subst hb
    simp [natD_beq_zero]
  · left
    have hcp : 0 < c := by omega
    have hlt : a % c < c := Nat.mod_lt _ hcp
    have hl2 : (natD (a % c)).length ≤ 10000 := by have := natD_length_mono (show a % c ≤ c by omega); omega
    refine ⟨(c, a % c), ?_⟩
    refine exists_and_fin2 (show (c.gcd (a % c) = x.gcd y ∧ (natD c).length ≤ 10000 ∧ (natD (a % c)).length ≤ 10000) ∧ a % c < c from ⟨⟨by rw [← hg, Nat.gcd_comm a c, Nat.gcd_rec c a, Nat.gcd_comm], hc, hl2⟩, hlt⟩) ?_
    subst hb
    simp [natD_beq_zero, hc0, pureO, Tryz.rgF7, natP_natD', natP_natD, ha, hc, hcp]
theorem Tryz.aRGcd (a b : Int) (ha : (natD a.natAbs).length ≤ 10000) (hb : (natD b.natAbs).length ≤ 10000) (mem : Mem) : ACallsTo Tryz.prog 96 [.str (intS a), .str (intS b)] mem (.str (natD (a.natAbs.gcd b.natAbs))) mem := by
  have hG : fnOf Tryz.prog 96 = some Tryz.f96 := by kernel_rfl
  refine Tryz.run Tryz.rg7_ok (lv := fun _ => [0, 1]) (K := 2 * b.natAbs + 2) rfl rfl ?_ mem
  obtain ⟨c, hbd⟩ : ∃ c, loopsF Tryz.f96 = [c] := ⟨_, rfl⟩
  obtain ⟨F, hF⟩ := Tryz.rgcd_loop (K := 2 * b.natAbs + 2) a.natAbs b.natAbs ha hb (by omega) hbd
  obtain ⟨K, hK⟩ : ∃ K, K = 2 * b.natAbs + 2 := ⟨_, rfl⟩
  rw [← hK] at hF ⊢
  simp [loopsF, loopsC, Tryz.f96] at hbd
  subst hbd
  simp [callFn, hG, Tryz.f96, pureO, Tryz.rgF7, Tryz.rgF6, Tryz.rgF5, Tryz.rgF4, Tryz.rgF3, intP_intS, hF]
end Go.Proofs
