/- Part A33 of a proof: see its last part, YtindglnpfdlbhaaGreatDoorA51.lean. -/
import Derived.Test.YtindglnpfdlbhaaGreatDoorA32
import Derived.Test.YtindglnpfdlbhaaGreatDoorA09
set_option linter.all false
namespace Go.Proofs
open Go.Eng
def drawsC : Code → List (Array Oper)
  | .region _ ops true => [ops]
  | .seq a b => drawsC a ++ drawsC b
  | .cond _ a b => drawsC a ++ drawsC b
  | .block _ b => drawsC b
  | .loop b => drawsC b
  | _ => []
def drawsF (f : Func) : List (Array Oper) := match f.body with
  | some c => drawsC c
  | none => []
theorem draws_one {f : Func} {ops : Array Oper} {l : List Nat} (h : drawsF f = [ops]) (hm : (drawsF f).map (fun o => befores o.toList) = [l]) : befores ops.toList = l := by
  rw [h] at hm
  simpa using hm
def Tryz.rtimesLv (c : Code) : List Nat := if (writesC c).contains 6 then [6] else [7]
def tzS (A B : List Nat) (i k : Nat) : List Int := (tzR A B i).take i ++ addRow ((A.getD i 0 : Nat) : Int) (B.take k) ((tzR A B i).drop i)
set_option maxHeartbeats 1600000 in
theorem Tryz.rtimes_inner {O : Oracle} {K : Nat} (A B : List Nat) (hA : lok 10000 A = true) (hB : lok 10000 B = true) (hl : A.length ≤ 5000) (hl2 : B.length ≤ 5000) (hK : B.length < K) {b b2 : Code} (hbd : loopsF Tryz.f202 = [b, b2]) (i : Nat) (hi : i < A.length) :
    ∃ F : Env → Bool → Env, ∀ env0 d, (Go.Eng.look env0 0 = .slice 0 0 A.length none ∧ Go.Eng.look env0 1 = .slice 1 0 B.length none ∧ Go.Eng.look env0 5 = .slice 2 0 (A.length + B.length) none ∧ Go.Eng.look env0 6 = .int .i64 (i : Int) ∧ Go.Eng.look env0 7 = .int .i64 0) →
      execC (tyOf Tryz.prog) Tryz.rtimesLv O K 45 2 true (.loop b2) ⟨env0, [.cells false 1 (iN .i64 A), .cells false 1 (iN .i64 B), .cells true 1 (iZ (tzR A B i))], d⟩ = some (.exit 2, ⟨F env0 d, [.cells false 1 (iN .i64 A), .cells false 1 (iN .i64 B), .cells true 1 (iZ (tzR A B (i + 1)))], d⟩) ∧
      (∀ t, t ∈ [0, 1, 5, 6] → Go.Eng.look (F env0 d) t = Go.Eng.look env0 t) := by
  have hlv : Tryz.rtimesLv b2 = [7] := by
    simp [loopsF, loopsC, Tryz.f202] at hbd
    obtain ⟨rfl, rfl⟩ := hbd
    decide
  refine loop_rule hlv (fun env0 => Go.Eng.look env0 0 = .slice 0 0 A.length none ∧ Go.Eng.look env0 1 = .slice 1 0 B.length none ∧ Go.Eng.look env0 5 = .slice 2 0 (A.length + B.length) none ∧ Go.Eng.look env0 6 = .int .i64 (i : Int) ∧ Go.Eng.look env0 7 = .int .i64 0)
    (fun env0 env' => ∀ t, t ∈ [0, 1, 5, 6] → Go.Eng.look env' t = Go.Eng.look env0 t) ?_
  rintro env0 d ⟨h0, h1, h5, h6, h7⟩
  have hn : normE [7] (writesC b2) env0 ((7, .int .i64 ((0 : Nat) : Int)) :: env0) = normE [7] (writesC b2) env0 env0 := by simp [normE, h7]
  have hz0 : tzS A B i 0 = tzR A B i := by unfold tzS; rw [List.take_zero, addRow_nil, List.take_append_drop]
  have hzB : tzS A B i B.length = tzR A B (i + 1) := by unfold tzS; rw [List.take_length]; rfl
  rw [← hn, ← hz0, ← hzB]
  refine iter_ind (α := Nat) (fun k => ⟨normE [7] (writesC b2) env0 ((7, .int .i64 (k : Int)) :: env0), [.cells false 1 (iN .i64 A), .cells false 1 (iN .i64 B), .cells true 1 (iZ (tzS A B i k))], d⟩)
    (fun k => B.length - k) (fun k => k ≤ B.length) (.exit 2) _ d _ (by simp) ?_ K 0 (Nat.zero_le _) (by simp only [Nat.sub_zero]; omega)
  intro k hk
  clear hn hz0 hzB
  simp [loopsF, loopsC, Tryz.f202] at hbd
  by_cases hkb : k = B.length
  · right
    subst hkb
    obtain ⟨rfl, rfl⟩ := hbd
    simp [h1]
  · left
    have hlt : k < B.length := by omega
    obtain ⟨x, hx, hx'⟩ := get_both hi
    obtain ⟨z, hz, hz'⟩ := get_both hlt
    have hxb := lok_get hA hx
    have hzb := lok_get hB hz
    obtain ⟨t1, t2, t3⟩ := tzR_spec (c := 100000000) (by decide) hA hB i (by omega)
    have hg : A.getD i 0 = x := by simp [List.getD, hx]
    have hdl : ((tzR A B i).drop i).length = A.length + B.length - i := by rw [List.length_drop, t1]
    obtain ⟨y, hy⟩ : ∃ y, ((tzR A B i).drop i)[k]? = some y := ⟨((tzR A B i).drop i)[k]'(by omega), by simp⟩
    obtain ⟨s1, s2⟩ := addRow_step (x : Int) B _ k z y hz hy
    have hyb : y.natAbs ≤ i * 100000000 := t3 y (List.mem_of_mem_drop (List.mem_of_getElem? hy))
    have htl : ((tzR A B i).take i).length = i := by rw [List.length_take]; omega
    have hal : (addRow (x : Int) (B.take k) ((tzR A B i).drop i)).length = A.length + B.length - i := by rw [addRow_length _ _ _ (by rw [List.length_take]; omega), hdl]
    obtain ⟨S, hS⟩ : ∃ S, S = tzS A B i k := ⟨_, rfl⟩
    obtain ⟨S2, hS2⟩ : ∃ S, S = tzS A B i (k + 1) := ⟨_, rfl⟩
    have e0 : S = (tzR A B i).take i ++ addRow (x : Int) (B.take k) ((tzR A B i).drop i) := by rw [hS]; unfold tzS; rw [hg]
    have e2 : S2 = (tzR A B i).take i ++ addRow (x : Int) (B.take (k + 1)) ((tzR A B i).drop i) := by rw [hS2]; unfold tzS; rw [hg]
    have hSl : S.length = A.length + B.length := by rw [e0, List.length_append, htl, hal]; omega
    have g1 : S[i + k]? = some y := by rw [e0, List.getElem?_append_right (by omega), htl, show i + k - i = k by omega]; exact s1
    have g1' : S[i + k]'(by omega) = y := (List.getElem?_eq_some_iff.1 g1).2
    obtain ⟨p, hp⟩ : ∃ p, p = (x : Int) * (z : Int) := ⟨_, rfl⟩
    have hpb : p.natAbs ≤ 10000 * 10000 := by rw [hp, Int.natAbs_mul, Int.natAbs_natCast, Int.natAbs_natCast]; exact Nat.mul_le_mul (by omega) (by omega)
    have g2 : S.set (i + k) (y + p) = S2 := by rw [e0, e2, List.set_append_right _ _ (by omega), htl, show i + k - i = k by omega, hp, s2]
    have hyb2 : y.natAbs ≤ 5000 * 100000000 := Nat.le_trans hyb (Nat.mul_le_mul_right _ (by omega))
    have w1 : IntKind.i64.wrap ((x : Int) * (z : Int)) = p := by rw [← hp]; exact wrap_i64 (by omega) (by omega)
    have w2 : IntKind.i64.wrap (y + p) = y + p := wrap_i64 (by omega) (by omega)
    obtain ⟨ik, hik⟩ : ∃ ik, ik = i + k := ⟨_, rfl⟩
    have w3 : IntKind.i64.wrap ((i : Int) + (k : Int)) = (ik : Int) := by rw [wrap_i64 (by omega) (by omega)]; omega
    have w4 : IntKind.i64.wrap ((k : Int) + 1) = ((k + 1 : Nat) : Int) := by rw [wrap_i64 (by omega) (by omega)]; omega
    have hst : (iZ S).take ik ++ .int .i64 (y + p) :: (iZ S).drop (ik + 1) = iZ S2 := by rw [iZ_store _ _ _ (by omega), hik, g2]
    have hikl : ik < S.length := by omega
    have hikl2 : ik + 1 ≤ S.length := by omega
    have g3 : S[ik]? = some y := by rw [hik]; exact g1
    have g3' : S[ik] = y := (List.getElem?_eq_some_iff.1 g3).2
    rw [← hSl] at h5
    have hikn : (ik : Int) < (S.length : Int) := by omega
    have hikn2 : ik + 1 ≤ S.length := by omega
    have hiA : (i : Int) < (A.length : Int) := by omega
    have hkB : (k : Int) < (B.length : Int) := by omega
    refine ⟨k + 1, ?_⟩
    refine exists_and_fin (show k + 1 ≤ B.length ∧ _ from ⟨hlt, by omega⟩) ?_
    clear e0 e2 s1 s2 t3
    obtain ⟨ops, hops⟩ : ∃ ops, drawsF Tryz.f202 = [ops] := ⟨_, rfl⟩
    have hbs := draws_one hops (l := [0, 0, 0, 6, 15, 31, 0, 0, 192, 448, 0, 0, 3072, 7168, 16320, 32767, 65535, 131071]) (by kernel_rfl)
    have hab : allBef [0, 0, 0, 6, 15, 31, 0, 0, 192, 448, 0, 0, 3072, 7168, 16320, 32767, 65535, 131071] 17 = true := by decide
    simp [drawsF, drawsC, Tryz.f202] at hops
    subst hops
    obtain ⟨rfl, rfl⟩ := hbd
    simp [-runDraw, runDraw_light hbs, runDrawL, lightAll, lightRec, hab, ← hS, ← hS2, h0, h1, h5, h6, hi, hiA, hkB, hlt, w3, hikn, hikl, g3, g3', hx, hx', hz, hz', w1, w2, hst, w4, hikn2, Nat.testBit]
end Go.Proofs
namespace Go.Proofs
open Go.Eng
theorem Tryz.rtimes_outer {O : Oracle} {K : Nat} (A B : List Nat) (hA : lok 10000 A = true) (hB : lok 10000 B = true) (hl : A.length ≤ 5000) (hl2 : B.length ≤ 5000) (hK : B.length < K) (hK2 : A.length < K) {b b2 : Code} (hbd : loopsF Tryz.f202 = [b, b2]) :
    ∃ F : Env → Bool → Env, ∀ env0 d, (Go.Eng.look env0 0 = .slice 0 0 A.length none ∧ Go.Eng.look env0 1 = .slice 1 0 B.length none ∧ Go.Eng.look env0 5 = .slice 2 0 (A.length + B.length) none ∧ Go.Eng.look env0 6 = .int .i64 0) →
      execC (tyOf Tryz.prog) Tryz.rtimesLv O K 45 2 true (.loop b) ⟨env0, [.cells false 1 (iN .i64 A), .cells false 1 (iN .i64 B), .cells true 1 (iZ (List.replicate (A.length + B.length) 0))], d⟩ = some (.exit 0, ⟨F env0 d, [.cells false 1 (iN .i64 A), .cells false 1 (iN .i64 B), .cells true 1 (iZ (tzR A B A.length))], d⟩) ∧
      Go.Eng.look (F env0 d) 5 = .slice 2 0 (A.length + B.length) none := by
  have hlv : Tryz.rtimesLv b = [6] := by
    simp [loopsF, loopsC, Tryz.f202] at hbd
    obtain ⟨rfl, rfl⟩ := hbd
    decide
  refine loop_rule hlv (fun env0 => Go.Eng.look env0 0 = .slice 0 0 A.length none ∧ Go.Eng.look env0 1 = .slice 1 0 B.length none ∧ Go.Eng.look env0 5 = .slice 2 0 (A.length + B.length) none ∧ Go.Eng.look env0 6 = .int .i64 0)
    (fun _ env' => Go.Eng.look env' 5 = .slice 2 0 (A.length + B.length) none) ?_
  rintro env0 d ⟨h0, h1, h5, h6⟩
  have hn : normE [6] (writesC b) env0 ((6, .int .i64 ((0 : Nat) : Int)) :: env0) = normE [6] (writesC b) env0 env0 := by simp [normE, h6]
  rw [← hn]
  refine iter_ind (α := Nat) (fun i => ⟨normE [6] (writesC b) env0 ((6, .int .i64 (i : Int)) :: env0), [.cells false 1 (iN .i64 A), .cells false 1 (iN .i64 B), .cells true 1 (iZ (tzR A B i))], d⟩)
    (fun i => A.length - i) (fun i => i ≤ A.length) (.exit 0) _ d _ (by simp) ?_ K 0 (Nat.zero_le _) (by simp only [Nat.sub_zero]; omega)
  intro i hi
  clear hn
  by_cases hib : i = A.length
  · right
    simp [loopsF, loopsC, Tryz.f202] at hbd
    subst hib
    obtain ⟨rfl, rfl⟩ := hbd
    simp [h0, h5]
  · left
    have hlt : i < A.length := by omega
    obtain ⟨F, hF⟩ := Tryz.rtimes_inner (O := O) (K := K) A B hA hB hl hl2 hK hbd i hlt
    have w4 : IntKind.i64.wrap ((i : Int) + 1) = ((i + 1 : Nat) : Int) := by rw [wrap_i64 (by omega) (by omega)]; omega
    have hiA : (i : Int) < (A.length : Int) := by omega
    simp [loopsF, loopsC, Tryz.f202] at hbd
    obtain ⟨rfl, rfl⟩ := hbd
    refine ⟨i + 1, ?_⟩
    refine exists_and_fin (show i + 1 ≤ A.length ∧ _ from ⟨hlt, by omega⟩) ?_
    simp [h0, h1, h5, hiA, hlt, hF, w4]
end Go.Proofs
namespace Go.Proofs
open Go.Eng
theorem Tryz.rtimes_run (A B : List Nat) (hne : A ≠ [] ∨ B ≠ []) (hA : lok 10000 A = true) (hB : lok 10000 B = true) (hl : A.length ≤ 5000) (hl2 : B.length ≤ 5000) :
    callFn (tyOf Tryz.prog) Tryz.rtimesLv (fnOf Tryz.prog) Tryz.rfO2 (A.length + B.length + 1) 202 [.slice 0 0 A.length none, .slice 1 0 B.length none] [.cells false 1 (iN .i64 A), .cells false 1 (iN .i64 B)] =
      some ⟨.slice 2 0 (dig 10000 (lval 10000 A * lval 10000 B)).length none, none, [.cells true 1 (iN .i64 (dig 10000 (lval 10000 A * lval 10000 B)))]⟩ := by
  have hG : fnOf Tryz.prog 202 = some Tryz.f202 := by kernel_rfl
  obtain ⟨b, b2, hbd⟩ : ∃ b b2, loopsF Tryz.f202 = [b, b2] := ⟨_, _, rfl⟩
  obtain ⟨F, hF⟩ := Tryz.rtimes_outer (O := Tryz.rfO2) (K := A.length + B.length + 1) A B hA hB hl hl2 (by omega) (by omega) hbd
  obtain ⟨t1, t2, t3⟩ := tzR_spec (c := 100000000) (by decide) hA hB A.length (Nat.le_refl _)
  rw [List.take_length, ← Int.natCast_mul] at t2
  obtain ⟨n, hn⟩ : ∃ n, n = A.length + B.length := ⟨_, rfl⟩
  have hzs : zsm (tzR A B A.length) = true := List.all_eq_true.2 fun d hd => by
    have h1 := t3 d hd
    have h2 : A.length * 100000000 ≤ 5000 * 100000000 := Nat.mul_le_mul_right _ hl
    simp; omega
  obtain ⟨S, hS⟩ : ∃ S, S = tzR A B A.length := ⟨_, rfl⟩
  rw [← hS, ← hn] at hF
  rw [← hS] at t1 t2 hzs
  rw [← hn] at t1
  have hl3 : S.length ≤ 10000000 := by omega
  have hSn : S ≠ [] := by
    intro e
    rw [e] at t1
    rcases hne with h | h
    · have := List.length_pos_iff.2 h; simp at t1; omega
    · have := List.length_pos_iff.2 h; simp at t1; omega
  have hv0 : 0 ≤ zval 10000 S := by rw [t2]; exact Int.natCast_nonneg _
  have hvt : (zval 10000 S).toNat = lval 10000 A * lval 10000 B := by rw [t2, Int.toNat_natCast]
  have hs : ∀ (a0 a1 : Slot) l, sliceZ (a0 :: a1 :: .cells true 1 (iZ S) :: l) (.slice 2 0 n none) = some S := fun a0 a1 l => by
    rw [← t1]; exact sliceZ_at rfl (by simp) (List.take_of_length_le (by simp))
  obtain ⟨c, hc⟩ : ∃ c : Nat, c = n := ⟨_, rfl⟩
  have w1 : IntKind.i64.wrap ((A.length : Int) + (B.length : Int)) = (c : Int) := by rw [wrap_i64 (by omega) (by omega)]; omega
  have h8 : 8 * (c : Int) ≤ 281474976710656 := by omega
  have h9 : (c : Int) ≤ 281474976710656 := by omega
  obtain ⟨D, hD⟩ : ∃ D, D = dig 10000 (lval 10000 A * lval 10000 B) := ⟨_, rfl⟩
  rw [← hD] at ⊢
  rw [← hc] at hF hs
  obtain ⟨K, hK⟩ : ∃ K, K = n + 1 := ⟨_, rfl⟩
  rw [← hn, ← hK]
  rw [← hc] at hK
  rw [← hK] at hF
  have hF' := hF
  clear hF t2 t3
  simp [loopsF, loopsC, Tryz.f202] at hbd
  obtain ⟨rfl, rfl⟩ := hbd
  simp [callFn, hG, Tryz.f202, w1, h8, h9, iZ_zcells, hF', hs, Tryz.rfO2, hSn, hv0, hvt, hzs, hl3, ← hD]
theorem Tryz.aRtimesM {M : Mem} {x y : AV} {A B : List Nat} (hx : RowAt .i64 M x A) (hy : RowAt .i64 M y B) (hne : A ≠ [] ∨ B ≠ []) (hA : lok 10000 A = true) (hB : lok 10000 B = true) (hl : A.length ≤ 5000) (hl2 : B.length ≤ 5000) :
    ACallsTo Tryz.prog 202 [x, y] M (.slice M.length 0 (dig 10000 (lval 10000 A * lval 10000 B)).length none) (M ++ [.cells true 1 (iN .i64 (dig 10000 (lval 10000 A * lval 10000 B)))]) := by
  have h := (callFn_sound Tryz.mixed (tyOf_ok _) Tryz.rfO2_ok (fnOf_ok _) (Tryz.rtimes_run A B hne hA hB hl hl2)).1
  simp only [CallRes.mem, Option.getD_none, List.cons_append, List.nil_append] at h
  obtain ⟨b, c, rfl, rfl, h3⟩ := ACallsTo.rows2 (new := [.cells true 1 (iN .i64 (dig 10000 (lval 10000 A * lval 10000 B)))]) rfl h hx hy
  simpa [AV.ren, AV.rens, back] using h3
noncomputable def Tryz.rfO3 : Oracle := fun c args M => match c, args with
  | .fn 196, [.nilslice, y, .int .i64 k, .int .i64 0] => match sliceN .i64 M y with
    | some B => if B ≠ [] ∧ lok 10000 B = true ∧ k.natAbs ≤ 10000 ∧ B.length ≤ 1000000 ∧ 0 ≤ k * (lval 10000 B : Int) then some ⟨.slice M.length 0 (dig 10000 (k * (lval 10000 B : Int)).toNat).length none, none, [.cells true 1 (iN .i64 (dig 10000 (k * (lval 10000 B : Int)).toNat))]⟩ else none
    | none => none
  | .fn 196, [x, y, .int .i64 k, .int .i64 0] => match sliceN .i64 M x, sliceN .i64 M y with
    | some A, some B => if (A ≠ [] ∨ B ≠ []) ∧ lok 10000 A = true ∧ lok 10000 B = true ∧ k.natAbs ≤ 10000 ∧ A.length ≤ 1000000 ∧ B.length ≤ 1000000 ∧ 0 ≤ (lval 10000 A : Int) + k * (lval 10000 B : Int) then some ⟨.slice M.length 0 (dig 10000 ((lval 10000 A : Int) + k * (lval 10000 B : Int)).toNat).length none, none, [.cells true 1 (iN .i64 (dig 10000 ((lval 10000 A : Int) + k * (lval 10000 B : Int)).toNat))]⟩ else none
    | _, _ => none
  | .fn 202, [x, y] => match sliceN .i64 M x, sliceN .i64 M y with
    | some A, some B => if (A ≠ [] ∨ B ≠ []) ∧ lok 10000 A = true ∧ lok 10000 B = true ∧ A.length ≤ 5000 ∧ B.length ≤ 5000 then some ⟨.slice M.length 0 (dig 10000 (lval 10000 A * lval 10000 B)).length none, none, [.cells true 1 (iN .i64 (dig 10000 (lval 10000 A * lval 10000 B)))]⟩ else none
    | _, _ => none
  | c, args => Tryz.rfO2 c args M
theorem Tryz.rfO3_ok : OracleOk Tryz.prog Tryz.rfO3 := by
  refine oracleOk_of fun c args M r h => ?_
  unfold Tryz.rfO3 at h
  split at h
  · split at h
    · rename_i hB
      split at h
      · rename_i hc
        obtain ⟨c1, c2, c3, c4, c5⟩ := hc
        cases h
        have := Tryz.aJoinedM _ (A := []) (.inr ⟨rfl, rfl⟩) (sliceN_some hB) (.inr c1) rfl c2 c3 (Nat.zero_le _) c4 (by simpa [lval] using c5)
        simp only [lval, Int.natCast_zero, Int.zero_add] at this
        exact soundAt_call this
      · cases h
    · cases h
  · split at h
    · rename_i hA hB
      split at h
      · rename_i hc
        obtain ⟨c1, c2, c3, c4, c5, c6, c7⟩ := hc
        cases h
        exact soundAt_call (Tryz.aJoinedM _ (.inl (sliceN_some hA)) (sliceN_some hB) c1 c2 c3 c4 c5 c6 c7)
      · cases h
    · cases h
  · split at h
    · rename_i hA hB
      split at h
      · rename_i hc
        obtain ⟨c1, c2, c3, c4, c5⟩ := hc
        cases h
        exact soundAt_call (Tryz.aRtimesM (sliceN_some hA) (sliceN_some hB) c1 c2 c3 c4 c5)
      · cases h
    · cases h
  · exact soundAt_of Tryz.rfO2_ok h
end Go.Proofs
