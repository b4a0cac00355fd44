/- Part L21 of a proof: see its last part, YtahfjdgeebjiaaaGreatDoorL55.lean. -/
import Derived.Test.YtahfjdgeebjiaaaGreatDoorL20
set_option linter.all false
namespace Go.Proofs
open Go.Eng
theorem lok_ltrim {B : Nat} {l : List Nat} (h : lok B l = true) : lok B (ltrim l) = true := by
  rw [ltrim_prefix l]; exact lok_take h _
theorem dig_self {B : Nat} (hB : 2 ≤ B) {l : List Nat} (h : lok B l = true) (ht : ltrim l = l) : dig B (lval B l) = l := by rw [dig_lval hB h, ht]
theorem Tryz.aSmallP {A : List Nat} {d : Nat} (hd : d < 1000000000) (hA : lok 1000000000 A = true) (hl : A.length ≤ 100000000) :
    ACallsTo Tryz.prog 336 [.slice 0 0 A.length none, .int .u64 (d : Int)] [.cells false 1 (iN .u64 A)] (.slice 1 0 (dig 1000000000 (lval 1000000000 A * d)).length none) [.cells false 1 (iN .u64 A), .cells true 1 (iN .u64 (dig 1000000000 (lval 1000000000 A * d)))] := by
  have hG : fnOf Tryz.prog 336 = some Tryz.f336 := by kernel_rfl
  have hs0 : ∀ l, sliceN .u64 (.cells false 1 (iN .u64 A) :: l) (.slice 0 0 A.length none) = some A := fun l => sliceN_at rfl (by simp) (List.take_of_length_le (by simp))
  have hs1 : ∀ a0 l, sliceN .u64 (a0 :: .cells true 1 [.int .u64 (d : Int)] :: l) (.slice 1 0 1 none) = some [d] := fun a0 l => sliceN_at (A := [d]) rfl (by simp) rfl
  have hs2 : ∀ a0 l, sliceN .u64 (a0 :: .cells true 1 [.int .u64 (d : Int)] :: l) (.slice 1 0 (ltrim [d]).length none) = some (ltrim [d]) := fun a0 l => sliceN_at rfl (by have := ltrim_length_le [d]; simpa using this) (by
    have : ([.int .u64 (d : Int)] : List AV) = iN .u64 [d] := rfl
    rw [this, iN_take, ltrim_take])
  have hld : lok 1000000000 (ltrim [d]) = true := lok_ltrim (by simp [lok]; omega)
  have hvd : lval 1000000000 (ltrim [d]) = d := by rw [lval_ltrim]; simp [lval]
  have hll : (ltrim [d]).length ≤ 100000000 := by have := ltrim_length_le [d]; simp at this; omega
  have h : callFn (tyOf Tryz.prog) (fun _ => []) (fnOf Tryz.prog) Tryz.bnO2 1 336 [.slice 0 0 A.length none, .int .u64 (d : Int)] [.cells false 1 (iN .u64 A)] = some ⟨.slice 1 0 (dig 1000000000 (lval 1000000000 A * d)).length none, none, [.cells true 1 (iN .u64 (dig 1000000000 (lval 1000000000 A * d)))]⟩ := by
    simp [callFn, hG, Tryz.f336, Tryz.bnO2, Tryz.bnO1, hs0, hs1, hs2, hA, hl, hld, hvd, hll]
  have := (callFn_sound Tryz.mixed (tyOf_ok _) Tryz.bnO2_ok (fnOf_ok _) h).1
  simpa [CallRes.mem] using this
theorem Tryz.aSmallM {M : Mem} {x : AV} {A : List Nat} {d : Nat} (hd : d < 1000000000) (hA : lok 1000000000 A = true) (hl : A.length ≤ 100000000) (hx : RowAt .u64 M x A) :
    ACallsTo Tryz.prog 336 [x, .int .u64 (d : Int)] M (.slice M.length 0 (dig 1000000000 (lval 1000000000 A * d)).length none) (M ++ [.cells true 1 (iN .u64 (dig 1000000000 (lval 1000000000 A * d)))]) := by
  obtain ⟨b, rfl, h⟩ := ACallsTo.rows1 (new := [.cells true 1 (iN .u64 (dig 1000000000 (lval 1000000000 A * d)))]) (rest := [.int .u64 (d : Int)]) rfl rfl (Tryz.aSmallP hd hA hl) hx
  simpa [AV.ren, back] using h
noncomputable def Tryz.bnO3 : Oracle := fun c args M => match c, args with
  | .fn 336, [x, .int .u64 d] => match sliceN .u64 M x with
    | some A => if lok 1000000000 A = true ∧ A.length ≤ 100000000 ∧ 0 ≤ d ∧ d < 1000000000 then some ⟨.slice M.length 0 (dig 1000000000 (lval 1000000000 A * d.toNat)).length none, none, [.cells true 1 (iN .u64 (dig 1000000000 (lval 1000000000 A * d.toNat)))]⟩ else none
    | _ => none
  | c, args => Tryz.bnO2 c args M
theorem Tryz.bnO3_ok : OracleOk Tryz.prog Tryz.bnO3 := by
  refine oracleOk_of fun c args M r h => ?_
  unfold Tryz.bnO3 at h
  split at h
  · split at h
    · rename_i hA
      split at h
      · rename_i hc
        obtain ⟨c1, c2, c3, c4⟩ := hc
        cases h
        have hd := (Int.toNat_lt c3).2 c4
        have := Tryz.aSmallM hd c1 c2 (sliceN_some hA)
        rw [Int.toNat_of_nonneg c3] at this
        exact soundAt_call this
      · cases h
    · cases h
  · exact soundAt_of Tryz.bnO2_ok h
end Go.Proofs
namespace Go.Proofs
open Go.Eng
def Tryz.divLv (c : Code) : List Nat := if (writesC c).contains 11 then [11, 5] else [13, 12]
theorem divL_spec' {B d : Nat} (hd : 0 < d) : ∀ l : List Nat, lok B l = true → (divL B d l).2 < d ∧ lval B (divL B d l).1 * d + (divL B d l).2 = lval B l ∧ lok B (divL B d l).1 = true ∧ (divL B d l).1.length = l.length
  | [], _ => by simp [divL, lval, lok, hd]
  | x :: l, h => by
    rw [lok_cons, Bool.and_eq_true, decide_eq_true_eq] at h
    obtain ⟨i1, i2, i3, i4⟩ := divL_spec' hd l h.2
    simp only [divL]
    have hmd := Nat.mod_add_div ((divL B d l).2 * B + x) d
    refine ⟨Nat.mod_lt _ hd, ?_, ?_, by simp [i4]⟩
    · rw [lval, lval, ← i2, Nat.add_mul, Nat.mul_add]
      rw [Nat.mul_comm d] at hmd
      rw [Nat.mul_assoc, Nat.mul_comm B (divL B d l).2]
      omega
    · rw [lok_cons, Bool.and_eq_true, decide_eq_true_eq]
      refine ⟨?_, i3⟩
      rw [Nat.div_lt_iff_lt_mul hd]
      have h3 : ((divL B d l).2 + 1) * B ≤ d * B := Nat.mul_le_mul_right _ i1
      rw [Nat.add_mul] at h3
      rw [Nat.mul_comm B d]
      omega
theorem Tryz.aDivLess {M : Mem} {x y : AV} {A B : List Nat} (hA : lok 1000000000 A = true) (hB : lok 1000000000 B = true) (hl : A.length ≤ 1000000000) (tA : ltrim A = A) (tB : ltrim B = B) (hlt : lval 1000000000 A < lval 1000000000 B) (hx : RowAt .u64 M x A) (hy : RowAt .u64 M y B) :
    ACallsTo Tryz.prog 298 [x, y] M (.tuple [.nilslice, x]) M := by
  have hG : fnOf Tryz.prog 298 = some Tryz.f298 := by kernel_rfl
  have hs0 : ∀ l, sliceN .u64 (.cells false 1 (iN .u64 A) :: l) (.slice 0 0 A.length none) = some A := fun l => sliceN_at rfl (by simp) (List.take_of_length_le (by simp))
  have hs1 : ∀ a l, sliceN .u64 (a :: .cells false 1 (iN .u64 B) :: l) (.slice 1 0 B.length none) = some B := fun a l => sliceN_at rfl (by simp) (List.take_of_length_le (by simp))
  have hc : cmpN (lval 1000000000 A) (lval 1000000000 B) < 0 := by unfold cmpN; rw [if_pos hlt]; omega
  have h : callFn (tyOf Tryz.prog) Tryz.divLv (fnOf Tryz.prog) Tryz.bnO3 1 298 [.slice 0 0 A.length none, .slice 1 0 B.length none] [.cells false 1 (iN .u64 A), .cells false 1 (iN .u64 B)] = some ⟨.tuple [.nilslice, .slice 0 0 A.length none], none, []⟩ := by
    simp [callFn, hG, Tryz.f298, Tryz.bnO3, Tryz.bnO2, Tryz.bnO1, hs0, hs1, hA, hB, hl, tA, tB, hc]
  have := (callFn_sound Tryz.mixed (tyOf_ok _) Tryz.bnO3_ok (fnOf_ok _) h).1
  simp only [CallRes.mem, Option.getD_none, List.cons_append, List.nil_append, List.append_nil] at this
  obtain ⟨b, c, rfl, rfl, h3⟩ := ACallsTo.rows2 (new := []) rfl this hx hy
  simpa [AV.ren, AV.rens, back] using h3
theorem Tryz.aDiv1 {M : Mem} {x y : AV} {A : List Nat} {d : Nat} (hd0 : 0 < d) (hd : d < 1000000000) (hA : lok 1000000000 A = true) (hl : A.length ≤ 100000000) (tA : ltrim A = A) (hle : d ≤ lval 1000000000 A) (hx : RowAt .u64 M x A) (hy : RowAt .u64 M y [d]) :
    ACallsTo Tryz.prog 298 [x, y] M (.tuple [.slice M.length 0 (dig 1000000000 (lval 1000000000 A / d)).length none, .slice (M.length + 1) 0 (dig 1000000000 (lval 1000000000 A % d)).length none]) (M ++ [.cells true 1 (iN .u64 (dig 1000000000 (lval 1000000000 A / d))), .cells true 1 (iN .u64 (dig 1000000000 (lval 1000000000 A % d)))]) := by
  obtain ⟨O, hO, h⟩ := Tryz.div1_end A d hd0 hd hA hl tA hle
  obtain ⟨i1, i2, i3, i4⟩ := divL_spec' hd0 A hA
  have e1 : lval 1000000000 (divL 1000000000 d A).1 = lval 1000000000 A / d := by
    rw [← i2, Nat.mul_comm, Nat.mul_add_div hd0, Nat.div_eq_of_lt i1, Nat.add_zero]
  have e2 : (divL 1000000000 d A).2 = lval 1000000000 A % d := by
    rw [← i2, Nat.mul_comm, Nat.mul_add_mod, Nat.mod_eq_of_lt i1]
  have f1 : ltrim (divL 1000000000 d A).1 = dig 1000000000 (lval 1000000000 A / d) := by rw [← dig_lval (by omega) i3, e1]
  have f2 : ltrim [(divL 1000000000 d A).2] = dig 1000000000 (lval 1000000000 A % d) := by
    rw [← dig_lval (B := 1000000000) (by omega) (by simp [lok]; omega)]
    congr 1
  have := (callFn_sound Tryz.mixed (tyOf_ok _) (Tryz.bnO2_ok.or hO) (fnOf_ok _) h).1
  simp only [CallRes.mem, Option.getD_some, List.cons_append, List.nil_append] at this
  have h2 := ACallsTo.truncs (m2 := [.cells false 1 (iN .u64 A), .cells false 1 (iN .u64 [d]), .cells true 1 (iN .u64 (dig 1000000000 (lval 1000000000 A / d))), .cells true 1 (iN .u64 (dig 1000000000 (lval 1000000000 A % d)))]) this rfl (fun b s hb => by
    match b with
    | 0 => simp at hb; subst hb; exact ⟨_, rfl, .inl rfl⟩
    | 1 => simp at hb; subst hb; exact ⟨_, rfl, .inl rfl⟩
    | 2 => simp at hb; subst hb; exact ⟨_, rfl, .row (by rw [← f1]; exact ltrim_isPrefix _)⟩
    | 3 => simp at hb; subst hb; exact ⟨_, rfl, by have := CutOf.row (k := .u64) (o := true) (es := 1) (ltrim_isPrefix [(divL 1000000000 d A).2]); rw [f2] at this; exact this⟩
    | b + 4 => simp at hb)
  rw [f1, f2] at h2
  obtain ⟨b, c, rfl, rfl, h3⟩ := ACallsTo.rows2 (B := [d]) (new := [.cells true 1 (iN .u64 (dig 1000000000 (lval 1000000000 A / d))), .cells true 1 (iN .u64 (dig 1000000000 (lval 1000000000 A % d)))]) rfl h2 hx hy
  simpa [AV.ren, AV.rens, back] using h3
noncomputable def Tryz.bnO4 : Oracle := fun c args M => match c, args with
  | .fn 298, [x, y] => match sliceN .u64 M x, sliceN .u64 M y with
    | some A, some [d] => if lok 1000000000 A = true ∧ A.length ≤ 100000000 ∧ ltrim A = A ∧ 0 < d ∧ d < 1000000000 then
        (if lval 1000000000 A < d then some ⟨.tuple [.nilslice, x], none, []⟩ else some ⟨.tuple [.slice M.length 0 (dig 1000000000 (lval 1000000000 A / d)).length none, .slice (M.length + 1) 0 (dig 1000000000 (lval 1000000000 A % d)).length none], none, [.cells true 1 (iN .u64 (dig 1000000000 (lval 1000000000 A / d))), .cells true 1 (iN .u64 (dig 1000000000 (lval 1000000000 A % d)))]⟩) else none
    | _, _ => none
  | c, args => Tryz.bnO3 c args M
theorem Tryz.bnO4_ok : OracleOk Tryz.prog Tryz.bnO4 := by
  refine oracleOk_of fun c args M r h => ?_
  unfold Tryz.bnO4 at h
  split at h
  · split at h
    · rename_i hA hB
      split at h
      · rename_i hc
        obtain ⟨c1, c2, c3, c4, c5⟩ := hc
        split at h
        · rename_i hlt
          cases h
          have := Tryz.aDivLess c1 (B := [_]) (by simp [lok]; exact c5) (by omega) c3 (by simp [ltrim]; omega) (by simpa [lval] using hlt) (sliceN_some hA) (sliceN_some hB)
          refine soundAt_call ?_
          rw [List.append_nil]; exact this
        · rename_i hlt
          cases h
          exact soundAt_call (Tryz.aDiv1 c4 c5 c1 c2 c3 (by omega) (sliceN_some hA) (sliceN_some hB))
      · cases h
    · cases h
  · exact soundAt_of Tryz.bnO3_ok h
end Go.Proofs
namespace Go.Proofs
open Go.Eng
def longMem (A B : List Nat) (n m : Nat) (a b q raw rr : List Nat) (l : Mem) : Mem :=
  .cells false 1 (iN .u64 A) :: .cells false 1 (iN .u64 B) :: .cells true 0 [.slice 5 0 m none] :: .cells true 0 [.slice 6 0 n none] :: .cells true 1 (iN .u64 a) :: .cells true 1 (iN .u64 b) :: .cells true 1 (iN .u64 q) :: .cells true 1 (iN .u64 raw) :: .absent :: .cells true 1 (iN .u64 rr) :: l
theorem Tryz.div_inner {K : Nat} (A B : List Nat) (n : Nat) (a q raw rr : List Nat) (b r d0 t : Nat) (ht : t = r / b) (hrr : rr.take (dig 1000000000 r).length = dig 1000000000 r) (hrl : (dig 1000000000 r).length ≤ rr.length)
    (hb0 : 0 < b) (hd0 : t < d0) (hdB : d0 < 1000000000) (hK : d0 < K) (hlb : ∀ d, d ≤ d0 → (dig 1000000000 (b * d)).length ≤ 100000000) (hlbb : ∀ d, d ≤ d0 → 0 < d → (dig 1000000000 b).length ≤ (dig 1000000000 (b * d)).length)
    {b1 c : Code} (hb : loopsF Tryz.f298 = [b1, c]) (hlv : Tryz.divLv c = [13, 12]) :
    ∃ F : Env → Bool → Env, ∀ env0 d, (Go.Eng.look env0 3 = .ptr 2 0 ∧ Go.Eng.look env0 5 = .slice 9 0 (dig 1000000000 r).length none ∧ Go.Eng.look env0 12 = .int .u64 d0 ∧ Go.Eng.look env0 13 = .slice 10 0 (dig 1000000000 (b * d0)).length none) →
      execC (tyOf Tryz.prog) Tryz.divLv Tryz.bnO4 K 146 2 true (.loop c) ⟨env0, longMem A B n (dig 1000000000 b).length a (dig 1000000000 b) q raw rr [.cells true 1 (iN .u64 (dig 1000000000 (b * d0)))], d⟩ =
        some (.exit 4, ⟨F env0 d, longMem A B n (dig 1000000000 b).length a (dig 1000000000 b) q raw rr [.cells true 1 (iN .u64 (dig 1000000000 (b * d0))), .cells true 1 (iN .u64 (dig 1000000000 (b * t)))], d⟩) ∧
      (Go.Eng.look (F env0 d) 13 = .slice 11 0 (dig 1000000000 (b * t)).length none ∧ Go.Eng.look (F env0 d) 12 = .int .u64 (t : Int) ∧ (∀ x ∈ [0, 3, 4, 5, 9, 10, 11], Go.Eng.look (F env0 d) x = Go.Eng.look env0 x)) := by
  refine loop_rule hlv (fun env0 => Go.Eng.look env0 3 = .ptr 2 0 ∧ Go.Eng.look env0 5 = .slice 9 0 (dig 1000000000 r).length none ∧ Go.Eng.look env0 12 = .int .u64 d0 ∧ Go.Eng.look env0 13 = .slice 10 0 (dig 1000000000 (b * d0)).length none)
    (fun env0 env' => Go.Eng.look env' 13 = .slice 11 0 (dig 1000000000 (b * t)).length none ∧ Go.Eng.look env' 12 = .int .u64 (t : Int) ∧ (∀ x ∈ [0, 3, 4, 5, 9, 10, 11], Go.Eng.look env' x = Go.Eng.look env0 x)) ?_
  clear hlv
  rintro env0 dd ⟨h3, h5, h12, h13⟩
  simp [loopsF, loopsC, Tryz.f298] at hb
  obtain ⟨_, hb⟩ := hb
  obtain ⟨S, hS⟩ : ∃ S : Nat → XS, (S d0 = ⟨normE [13, 12] (writesC c) env0 ((13, .slice 10 0 (dig 1000000000 (b * d0)).length none) :: (12, .int .u64 (d0 : Int)) :: env0), longMem A B n (dig 1000000000 b).length a (dig 1000000000 b) q raw rr [.cells true 1 (iN .u64 (dig 1000000000 (b * d0)))], dd⟩) ∧
      (∀ e, e ≠ d0 → S e = ⟨normE [13, 12] (writesC c) env0 ((13, .slice 11 0 (dig 1000000000 (b * e)).length none) :: (12, .int .u64 (e : Int)) :: env0), longMem A B n (dig 1000000000 b).length a (dig 1000000000 b) q raw rr [.cells true 1 (iN .u64 (dig 1000000000 (b * d0))), .cells true 1 (iN .u64 (dig 1000000000 (b * e)))], dd⟩) :=
    ⟨fun e => if e = d0 then ⟨normE [13, 12] (writesC c) env0 ((13, .slice 10 0 (dig 1000000000 (b * d0)).length none) :: (12, .int .u64 (d0 : Int)) :: env0), longMem A B n (dig 1000000000 b).length a (dig 1000000000 b) q raw rr [.cells true 1 (iN .u64 (dig 1000000000 (b * d0)))], dd⟩
      else ⟨normE [13, 12] (writesC c) env0 ((13, .slice 11 0 (dig 1000000000 (b * e)).length none) :: (12, .int .u64 (e : Int)) :: env0), longMem A B n (dig 1000000000 b).length a (dig 1000000000 b) q raw rr [.cells true 1 (iN .u64 (dig 1000000000 (b * d0))), .cells true 1 (iN .u64 (dig 1000000000 (b * e)))], dd⟩, by simp, fun e he => by simp [he]⟩
  have hn0 : (⟨normE [13, 12] (writesC c) env0 env0, longMem A B n (dig 1000000000 b).length a (dig 1000000000 b) q raw rr [.cells true 1 (iN .u64 (dig 1000000000 (b * d0)))], dd⟩ : XS) = S d0 := by rw [hS.1]; simp [normE, h12, h13]
  rw [hn0]
  have hlen : (longMem A B n (dig 1000000000 b).length a (dig 1000000000 b) q raw rr [.cells true 1 (iN .u64 (dig 1000000000 (b * d0)))]).length = 11 := rfl
  rw [hlen]
  refine iter_ind (α := Nat) S (fun e => e - t) (fun e => t ≤ e ∧ e ≤ d0) (.exit 4) _ dd _ (by simp) ?_ K d0 ⟨by omega, Nat.le_refl _⟩ (by omega)
  rintro e ⟨he1, he2⟩
  have hrs : ∀ l, sliceN .u64 (longMem A B n (dig 1000000000 b).length a (dig 1000000000 b) q raw rr l) (.slice 9 0 (dig 1000000000 r).length none) = some (dig 1000000000 r) := fun l => sliceN_at rfl (by simpa using hrl) (by rw [iN_take, hrr])
  have hbs : ∀ l, sliceN .u64 (longMem A B n (dig 1000000000 b).length a (dig 1000000000 b) q raw rr l) (.slice 5 0 (dig 1000000000 b).length none) = some (dig 1000000000 b) := fun l => sliceN_at rfl (by simp) (List.take_of_length_le (by simp))
  have hps : ∀ l, sliceN .u64 (longMem A B n (dig 1000000000 b).length a (dig 1000000000 b) q raw rr (.cells true 1 (iN .u64 (dig 1000000000 (b * d0))) :: l)) (.slice 10 0 (dig 1000000000 (b * d0)).length none) = some (dig 1000000000 (b * d0)) := fun l => sliceN_at rfl (by simp) (List.take_of_length_le (by simp))
  have hps2 : ∀ x l, sliceN .u64 (longMem A B n (dig 1000000000 b).length a (dig 1000000000 b) q raw rr (x :: .cells true 1 (iN .u64 (dig 1000000000 (b * e))) :: l)) (.slice 11 0 (dig 1000000000 (b * e)).length none) = some (dig 1000000000 (b * e)) := fun x l => sliceN_at rfl (by simp) (List.take_of_length_le (by simp))
  have lo : ∀ v, lok 1000000000 (dig 1000000000 v) = true := fun v => lok_dig (by omega) v
  have lt : ∀ v, ltrim (dig 1000000000 v) = dig 1000000000 v := fun v => ltrim_dig (by omega) v
  have lv : ∀ v, lval 1000000000 (dig 1000000000 v) = v := fun v => lval_dig (by omega) v
  have hle := hlb e he2
  have hle9 : (dig 1000000000 (b * e)).length ≤ 1000000000 := by omega
  simp only [longMem] at hrs hbs hps hps2 hS
  by_cases hq : e = t
  · right
    have hne : e ≠ d0 := by omega
    have hc : ¬ 0 < cmpN (b * e) r := by
      have : b * e ≤ r := by rw [hq, ht]; exact Nat.mul_div_le r b
      unfold cmpN; split
      · omega
      · rw [if_neg (by omega)]; omega
    rw [hS.2 e hne, ← hq]
    clear hS
    subst hb
    simp [Tryz.bnO4, Tryz.bnO3, Tryz.bnO2, Tryz.bnO1, longMem, h3, h5, hrs, hbs, hps2, lo, lt, lv, hle9, hc]
  · left
    have hqe : t < e := by omega
    have hgt : r < b * e := by
      have := (Nat.div_lt_iff_lt_mul hb0).1 (ht ▸ hqe)
      rwa [Nat.mul_comm] at this
    have hc : 0 < cmpN (b * e) r := by unfold cmpN; rw [if_neg (by omega), if_pos hgt]; omega
    have hbe : b ≤ b * e := Nat.le_mul_of_pos_right b (by omega)
    have hsub : b * e - b = b * (e - 1) := by rw [Nat.mul_sub, Nat.mul_one]
    have hl2 := hlbb e he2 (by omega)
    have w1 : IntKind.u64.wrap ((e : Int) - 1) = ((e - 1 : Nat) : Int) := by rw [wrap_u64 (by omega) (by omega)]; omega
    have hle2 : (dig 1000000000 (b * e)).length ≤ 100000000 := hle
    refine ⟨e - 1, ?_⟩
    rw [hS.2 (e - 1) (by omega)]
    by_cases hd : e = d0
    · rw [hd] at hc hbe hsub hl2 w1 hle2 hle9 ⊢
      rw [hS.1]
      clear hS
      subst hb
      simp [Tryz.bnO4, Tryz.bnO3, Tryz.bnO2, Tryz.bnO1, longMem, h3, h5, hrs, hbs, hps, lo, lt, lv, hle9, hc, hbe, hl2, hsub, w1, hle2]
      omega
    · rw [hS.2 e hd]
      clear hS
      subst hb
      simp [Tryz.bnO4, Tryz.bnO3, Tryz.bnO2, Tryz.bnO1, longMem, h3, h5, hrs, hbs, hps2, lo, lt, lv, hle9, hc, hbe, hl2, hsub, w1, hle2]
      omega
end Go.Proofs
