/- Part L19 of a proof: see its last part, YtahfjdgeebjiaaaGreatDoorL55.lean. -/
import Derived.Test.YtahfjdgeebjiaaaGreatDoorL18
import Derived.Test.YtahfjdgeebjiaaaGreatDoorL07
import Derived.Test.YtahfjdgeebjiaaaGreatDoorL11
set_option linter.all false
namespace Go.Proofs
open Go.Eng
theorem ltrim_take (l : List Nat) : l.take (ltrim l).length = ltrim l := (ltrim_prefix l).symm
theorem Tryz.aTrimM {M : Mem} {x : AV} {A : List Nat} (hl : A.length ≤ 1000000000) (hx : RowAt .u64 M x A) : ∃ b, x = .slice b 0 A.length none ∧ ACallsTo Tryz.prog 305 [x] M (.slice b 0 (ltrim A).length none) M := by
  obtain ⟨b, e, h⟩ := ACallsTo.rows1 (new := []) (rest := []) rfl rfl (Tryz.aTrim A hl) hx
  refine ⟨b, e, ?_⟩
  simpa [AV.ren, back] using h
theorem Tryz.aOrderM {M : Mem} {x y : AV} {A B : List Nat} (hA : lok 1000000000 A = true) (hB : lok 1000000000 B = true) (hl : A.length ≤ 1000000000) (tA : ltrim A = A) (tB : ltrim B = B) (hx : RowAt .u64 M x A) (hy : RowAt .u64 M y B) :
    ACallsTo Tryz.prog 300 [x, y] M (.int .i64 (cmpN (lval 1000000000 A) (lval 1000000000 B))) M := by
  obtain ⟨b, c, e1, e2, h⟩ := ACallsTo.rows2 (new := []) rfl (Tryz.aOrder A B hA hB hl tA tB) hx hy
  simpa [AV.ren] using h
noncomputable def Tryz.bnO1 : Oracle := fun c args M => match c, args with
  | .fn 305, [x] => match x, sliceN .u64 M x with
    | .slice b _ _ _, some A => if A.length ≤ 1000000000 then some ⟨.slice b 0 (ltrim A).length none, none, []⟩ else none
    | _, _ => none
  | .fn 300, [x, y] => match sliceN .u64 M x, sliceN .u64 M y with
    | some A, some B => if lok 1000000000 A = true ∧ lok 1000000000 B = true ∧ A.length ≤ 1000000000 ∧ ltrim A = A ∧ ltrim B = B then some ⟨.int .i64 (cmpN (lval 1000000000 A) (lval 1000000000 B)), none, []⟩ else none
    | _, _ => none
  | _, _ => none
theorem Tryz.bnO1_ok : OracleOk Tryz.prog Tryz.bnO1 := by
  have key : ∀ c args M r, Tryz.bnO1 c args M = some r → (∃ f, c = .fn f ∧ ACallsTo Tryz.prog f args M r.v (r.mem M)) ∧ r.pre = none := by
    intro c args M r h
    unfold Tryz.bnO1 at h
    split at h
    · split at h
      · rename_i hA
        split at h
        · rename_i hl
          cases h
          obtain ⟨b, e, h⟩ := Tryz.aTrimM hl (sliceN_some hA)
          cases e
          exact ⟨⟨_, rfl, by simpa [CallRes.mem] using h⟩, rfl⟩
        · cases h
      · cases h
    · split at h
      · rename_i hA hB
        split at h
        · rename_i hc
          obtain ⟨c1, c2, c3, c4, c5⟩ := hc
          cases h
          exact ⟨⟨_, rfl, by simpa [CallRes.mem] using Tryz.aOrderM c1 c2 c3 c4 c5 (sliceN_some hA) (sliceN_some hB)⟩, rfl⟩
        · cases h
      · cases h
    · cases h
  refine ⟨fun f args M r h => ?_, fun b args M r h => ?_, fun c args M r p h hp => ?_⟩
  · obtain ⟨⟨f', e, h1⟩, _⟩ := key _ _ _ _ h
    cases e; exact h1
  · obtain ⟨⟨f', e, h1⟩, _⟩ := key _ _ _ _ h
    cases e
  · obtain ⟨_, h1⟩ := key _ _ _ _ h
    rw [h1] at hp; cases hp
def sumMem (X Y : List Nat) : Nat → List Nat → Mem
  | 0, _ => [.cells false 1 (iN .u64 X), .cells false 1 (iN .u64 Y), .cells true 1 []]
  | _ + 1, done => [.cells false 1 (iN .u64 X), .cells false 1 (iN .u64 Y), .absent, .cells true 1 (iN .u64 done)]
def sumOut : Nat → AV
  | 0 => .slice 2 0 0 none
  | i + 1 => .slice 3 0 (i + 1) none
theorem sumMem_succ (X Y : List Nat) (i : Nat) (done : List Nat) : sumMem X Y (i + 1) done = [.cells false 1 (iN .u64 X), .cells false 1 (iN .u64 Y), .absent, .cells true 1 (iN .u64 done)] := rfl
theorem sumMem_len (X Y : List Nat) : (sumMem X Y 0 []).length = 3 := rfl
theorem sumOut_succ (i : Nat) : sumOut (i + 1) = .slice 3 0 (i + 1) none := rfl
theorem exists_and_fin {α : Type} {p q : α → Prop} {r : Prop} (hr : r) (h : ∃ s, p s ∧ q s) : ∃ s, p s ∧ q s ∧ r := let ⟨s, a, b⟩ := h; ⟨s, a, b, hr⟩
theorem Tryz.plus_loop {O : Oracle} {K : Nat} {lv : Code → List Nat} (X Y A B : List Nat) (sa sb : Nat) (hs : (sa = 0 ∧ sb = 1 ∧ X = A ∧ Y = B) ∨ (sa = 1 ∧ sb = 0 ∧ X = B ∧ Y = A)) (hA : lok 1000000000 A = true) (hB : lok 1000000000 B = true) (hl : A.length ≤ 1000000000) (hlen : B.length ≤ A.length) (hK : A.length < K)
    {b : Code} (hb : loopsF Tryz.f299 = [b]) (hlv : lv b = [22, 5, 6]) :
    ∃ F : Env → Bool → Env, ∀ env0 d, (Go.Eng.look env0 1 = .slice sb 0 B.length none ∧ Go.Eng.look env0 20 = .slice sa 0 A.length none ∧ Go.Eng.look env0 21 = .int .i64 A.length ∧ Go.Eng.look env0 5 = .slice 2 0 0 none ∧ Go.Eng.look env0 6 = .int .u64 0 ∧ Go.Eng.look env0 22 = .int .i64 0) →
      execC (tyOf Tryz.prog) lv O K 53 2 true (.loop b) ⟨env0, sumMem X Y 0 [], d⟩ = some (.exit 0, ⟨F env0 d, sumMem X Y A.length ((addL 1000000000 A B 0).take A.length), d⟩) ∧
        (Go.Eng.look (F env0 d) 5 = sumOut A.length ∧ Go.Eng.look (F env0 d) 6 = .int .u64 (((addL 1000000000 A B 0).getD A.length 0 : Nat) : Int)) := by
  refine loop_rule hlv (fun env0 => Go.Eng.look env0 1 = .slice sb 0 B.length none ∧ Go.Eng.look env0 20 = .slice sa 0 A.length none ∧ Go.Eng.look env0 21 = .int .i64 A.length ∧ Go.Eng.look env0 5 = .slice 2 0 0 none ∧ Go.Eng.look env0 6 = .int .u64 0 ∧ Go.Eng.look env0 22 = .int .i64 0)
    (fun _ env' => Go.Eng.look env' 5 = sumOut A.length ∧ Go.Eng.look env' 6 = .int .u64 (((addL 1000000000 A B 0).getD A.length 0 : Nat) : Int)) ?_
  clear hlv
  rintro env0 d ⟨h1, h20, h21, h5, h6, h22⟩
  simp [loopsF, loopsC, Tryz.f299] at hb
  have hn : normE [22, 5, 6] (writesC b) env0 ((22, .int .i64 ((0 : Nat) : Int)) :: (5, sumOut 0) :: (6, .int .u64 ((0 : Nat) : Int)) :: env0) = normE [22, 5, 6] (writesC b) env0 env0 := by simp [normE, h5, h6, h22, sumOut]
  rw [← hn]
  refine iter_ind (α := Nat × List Nat × Nat) (fun a => ⟨normE [22, 5, 6] (writesC b) env0 ((22, .int .i64 (a.1 : Int)) :: (5, sumOut a.1) :: (6, .int .u64 (a.2.2 : Int)) :: env0), sumMem X Y a.1 a.2.1, d⟩) (fun a => A.length - a.1)
    (fun a => a.1 ≤ A.length ∧ a.2.1.length = a.1 ∧ a.2.2 ≤ 1 ∧ a.2.1 ++ addL 1000000000 (A.drop a.1) (B.drop a.1) a.2.2 = addL 1000000000 A B 0) (.exit 0) _ d _ (by simp) ?_ K (0, [], 0) ⟨Nat.zero_le _, rfl, Nat.zero_le _, rfl⟩ (by simpa using hK)
  rintro ⟨i, done, c⟩ ⟨hi, hd, hc, hinv⟩
  simp only at hi hd hc hinv
  clear hn
  subst hb
  by_cases hiA : i = A.length
  · right
    subst hiA
    rw [List.drop_length, addL] at hinv
    rw [← hinv, ← hd]
    simp only [List.take_left']
    simp [h21, hd]
  · left
    have hlt : i < A.length := by omega
    obtain ⟨x, hx, hx'⟩ := get_both hlt
    have hxb := lok_get hA hx
    have eA : A.drop i = x :: A.drop (i + 1) := by rw [List.drop_eq_getElem_cons hlt, hx']
    have w0 : IntKind.i64.wrap 1 = 1 := by decide
    have w1 : IntKind.i64.wrap ((i : Int) + 1) = (i : Int) + 1 := wrap_i64 (by omega) (by omega)
    have hI : (i : Int) < (A.length : Int) := by omega
    have hm1 : (i + 1) * 8 ≤ 140737488355328 := by omega
    have hm2 : i + 1 ≤ 140737488355328 := by omega
    have ht : (iN .u64 done).take i = iN .u64 done := List.take_of_length_le (by simp [hd])
    have hM : 0 < i → sumMem X Y i done = [.cells false 1 (iN .u64 X), .cells false 1 (iN .u64 Y), .absent, .cells true 1 (iN .u64 done)] := fun h => by cases i with
      | zero => omega
      | succ i => rfl
    have hO : 0 < i → sumOut i = .slice 3 0 i none := fun h => by cases i with
      | zero => omega
      | succ i => rfl
    by_cases hb1 : i < B.length
    · obtain ⟨y, hy, hy'⟩ := get_both hb1
      have hyb := lok_get hB hy
      have eB : B.drop i = y :: B.drop (i + 1) := by rw [List.drop_eq_getElem_cons hb1, hy']
      rw [eA, eB, addL, List.headD_cons, List.tail_cons] at hinv
      obtain ⟨s, hs'⟩ : ∃ s : Nat, s = c + x + y := ⟨_, rfl⟩
      rw [← hs'] at hinv
      have w2 : IntKind.u64.wrap ((c : Int) + (x : Int)) = (c : Int) + (x : Int) := wrap_u64 (by omega) (by omega)
      have w3 : IntKind.u64.wrap ((c : Int) + (x : Int) + (y : Int)) = (s : Int) := by rw [wrap_u64 (by omega) (by omega)]; omega
      have w4 : (s : Int).tmod 1000000000 = (s : Int) % 1000000000 := tmod_lit s 1000000000
      have w5 : IntKind.u64.wrap ((s : Int) / 1000000000) = (s : Int) / 1000000000 := wrap_u64 (by omega) (by omega)
      refine ⟨(i + 1, done ++ [s % 1000000000], s / 1000000000), ?_⟩
      refine exists_and_fin (r := _ ∧ _) (show (i + 1 ≤ A.length ∧ (done ++ [s % 1000000000]).length = i + 1 ∧ s / 1000000000 ≤ 1 ∧ (done ++ [s % 1000000000]) ++ addL 1000000000 (A.drop (i + 1)) (B.drop (i + 1)) (s / 1000000000) = addL 1000000000 A B 0) ∧ A.length - (i + 1) < A.length - i by
        refine ⟨⟨by omega, by simp [hd], by omega, ?_⟩, by omega⟩
        rw [← hinv]; simp) ?_
      clear hinv
      rcases hs with ⟨rfl, rfl, rfl, rfl⟩ | ⟨rfl, rfl, rfl, rfl⟩ <;> rcases Nat.eq_zero_or_pos i with rfl | hpos
      all_goals first
        | (have hd0 := List.eq_nil_of_length_eq_zero hd; subst hd0; simp [sumMem, sumOut, h1, h20, h21, hx', hy', hlt, hb1, w0, w2, w3, w4, w5, iN_cons]; done)
        | simp [hM hpos, hO hpos, sumMem_succ, sumOut_succ, sumMem_len, h1, h20, h21, hx', hy', hI, hm1, hm2, hlt, hb1, hd, w1, w2, w3, w4, w5, ht, iN_append, iN_cons]
    · have eB : B.drop i = [] := List.drop_eq_nil_of_le (by omega)
      have eB2 : B.drop (i + 1) = [] := List.drop_eq_nil_of_le (by omega)
      rw [eA, eB, addL] at hinv
      simp only [List.headD_nil, List.tail_nil, Nat.add_zero] at hinv
      obtain ⟨s, hs'⟩ : ∃ s : Nat, s = c + x := ⟨_, rfl⟩
      rw [← hs'] at hinv
      have w3 : IntKind.u64.wrap ((c : Int) + (x : Int)) = (s : Int) := by rw [wrap_u64 (by omega) (by omega)]; omega
      have w4 : (s : Int).tmod 1000000000 = (s : Int) % 1000000000 := tmod_lit s 1000000000
      have w5 : IntKind.u64.wrap ((s : Int) / 1000000000) = (s : Int) / 1000000000 := wrap_u64 (by omega) (by omega)
      refine ⟨(i + 1, done ++ [s % 1000000000], s / 1000000000), ?_⟩
      refine exists_and_fin (r := _ ∧ _) (show (i + 1 ≤ A.length ∧ (done ++ [s % 1000000000]).length = i + 1 ∧ s / 1000000000 ≤ 1 ∧ (done ++ [s % 1000000000]) ++ addL 1000000000 (A.drop (i + 1)) (B.drop (i + 1)) (s / 1000000000) = addL 1000000000 A B 0) ∧ A.length - (i + 1) < A.length - i by
        refine ⟨⟨by omega, by simp [hd], by omega, ?_⟩, by omega⟩
        rw [← hinv, eB2]; simp) ?_
      clear hinv
      rcases hs with ⟨rfl, rfl, rfl, rfl⟩ | ⟨rfl, rfl, rfl, rfl⟩ <;> rcases Nat.eq_zero_or_pos i with rfl | hpos
      all_goals first
        | (have hd0 := List.eq_nil_of_length_eq_zero hd; subst hd0; simp [sumMem, sumOut, h1, h20, h21, hx', hlt, hb1, w0, w3, w4, w5, iN_cons]; done)
        | simp [hM hpos, hO hpos, sumMem_succ, sumOut_succ, sumMem_len, h1, h20, h21, hx', hI, hm1, hm2, hlt, hb1, hd, w1, w3, w4, w5, ht, iN_append, iN_cons]
end Go.Proofs
namespace Go.Proofs
open Go.Eng
theorem addL_length (B : Nat) : ∀ (a b : List Nat) (c : Nat), (addL B a b c).length = a.length + 1
  | [], _, _ => rfl
  | x :: a, b, c => by rw [addL, List.length_cons, addL_length B a]; rfl
theorem dig_addL {B : Nat} (hB : 2 ≤ B) {a b : List Nat} (ha : lok B a = true) (hb : lok B b = true) (hl : b.length ≤ a.length) : ltrim (addL B a b 0) = dig B (lval B a + lval B b) := by
  rw [← dig_lval hB (lok_addL hB a b 0 ha hb (by omega)), lval_addL B a b 0 hl, Nat.add_zero]
theorem take_getD_last {l : List Nat} {n : Nat} (h : l.length = n + 1) : l.take n ++ [l.getD n 0] = l := by
  have hn : n < l.length := by omega
  have : l.getD n 0 = l[n] := by simp [List.getD, hn]
  rw [this]
  have h2 : l.take (n + 1) = l := List.take_of_length_le (by omega)
  rw [List.take_add_one, List.getElem?_eq_getElem hn] at h2
  exact h2
theorem Tryz.plus_end (X Y A B : List Nat) (sa sb : Nat) (hs : (sa = 0 ∧ sb = 1 ∧ X = A ∧ Y = B ∧ ¬ A.length < B.length) ∨ (sa = 1 ∧ sb = 0 ∧ X = B ∧ Y = A ∧ B.length < A.length)) (hA : lok 1000000000 A = true) (hB : lok 1000000000 B = true) (hl : A.length ≤ 100000000) (hl2 : B.length ≤ A.length) :
    callFn (tyOf Tryz.prog) (fun _ => [22, 5, 6]) (fnOf Tryz.prog) Tryz.bnO1 (A.length + 1) 299 [.slice 0 0 X.length none, .slice 1 0 Y.length none] [.cells false 1 (iN .u64 X), .cells false 1 (iN .u64 Y)] =
      some ⟨.slice 2 0 (ltrim (addL 1000000000 A B 0)).length none, none, [.cells true 1 (iN .u64 (addL 1000000000 A B 0))]⟩ := by
  have hG : fnOf Tryz.prog 299 = some Tryz.f299 := by kernel_rfl
  obtain ⟨b, hb⟩ : ∃ b, loopsF Tryz.f299 = [b] := ⟨_, rfl⟩
  have hlen := addL_length 1000000000 A B 0
  have hlast := take_getD_last hlen
  obtain ⟨F, hF⟩ := Tryz.plus_loop (O := Tryz.bnO1) (K := A.length + 1) (lv := fun _ => [22, 5, 6]) X Y A B sa sb (by rcases hs with ⟨a, b, c, d, _⟩ | ⟨a, b, c, d, _⟩; exact .inl ⟨a, b, c, d⟩; exact .inr ⟨a, b, c, d⟩) hA hB (by omega) hl2 (by omega) hb rfl
  simp [loopsF, loopsC, Tryz.f299] at hb
  subst hb
  obtain ⟨cap, hcap⟩ : ∃ cap : Int, cap = (A.length : Int) + 1 := ⟨_, rfl⟩
  have w1 : IntKind.i64.wrap ((A.length : Int) + 1) = cap := by rw [hcap]; exact wrap_i64 (by omega) (by omega)
  have h0 : 0 ≤ cap := by omega
  have h1 : 8 * cap ≤ 281474976710656 := by omega
  have h2 : cap ≤ 281474976710656 := by omega
  obtain ⟨raw, hraw⟩ : ∃ raw, raw = addL 1000000000 A B 0 := ⟨_, rfl⟩
  rcases Nat.eq_zero_or_pos A.length with hz | hpos
  · have hA0 := List.eq_nil_of_length_eq_zero hz
    have hB0 : B = [] := List.eq_nil_of_length_eq_zero (by omega)
    subst hA0
    subst hB0
    simp only [List.length_nil, sumMem, sumOut, addL, Nat.zero_add, Int.cast_ofNat_Int, List.take_zero, List.getD_cons_zero, iN_nil] at hF
    have h6 : sliceN .u64 [.cells false 1 [], .cells false 1 [], .absent, .cells true 1 [.int .u64 0], .cells true 1 [.int .u64 0]] (.slice 4 0 1 none) = some [0] := by rfl
    rcases hs with ⟨rfl, rfl, rfl, rfl, hlt⟩ | ⟨rfl, rfl, rfl, rfl, hlt⟩
    · have w0 : IntKind.i64.wrap 1 = 1 := by decide
      simp only [iN_nil] at hF
      simp [callFn, hG, Tryz.f299, hF, Tryz.bnO1, h6, addL, ltrim, iN_cons, w0]
    · simp at hlt
  · have hM : ∀ done, sumMem X Y A.length done = [.cells false 1 (iN .u64 X), .cells false 1 (iN .u64 Y), .absent, .cells true 1 (iN .u64 done)] := fun done => by
      cases h : A.length with
      | zero => omega
      | succ i => rfl
    have hO : sumOut A.length = .slice 3 0 A.length none := by
      cases h : A.length with
      | zero => omega
      | succ i => rfl
    rw [hM, hO] at hF
    simp only [sumMem] at hF
    obtain ⟨pre, hpre⟩ : ∃ pre, pre = (addL 1000000000 A B 0).take A.length := ⟨_, rfl⟩
    obtain ⟨last, hla2⟩ : ∃ last, last = (addL 1000000000 A B 0).getD A.length 0 := ⟨_, rfl⟩
    rw [← hpre, ← hla2] at hF hlast
    rw [← hraw] at hlast hlen ⊢
    have hpl : pre.length = A.length := by rw [hpre, List.length_take, ← hraw, hlen]; omega
    have h3 : (A.length + 1) * 8 ≤ 140737488355328 := by omega
    have h4 : A.length ≤ 140737488355327 := by omega
    have h5 : (iN .u64 pre).take A.length = iN .u64 pre := List.take_of_length_le (by simp [hpl])
    have h6 : sliceN .u64 [.cells false 1 (iN .u64 X), .cells false 1 (iN .u64 Y), .absent, .absent, .cells true 1 [.int .u64 (last : Int)], .cells true 1 (iN .u64 raw)] (.slice 5 0 (A.length + 1) none) = some raw :=
      sliceN_at rfl (by simp [hlen]) (List.take_of_length_le (by simp [hlen]))
    have h7 : raw.length ≤ 1000000000 := by omega
    have h8 : iN .u64 pre ++ [.int .u64 (last : Int)] = iN .u64 raw := by rw [iN_snoc, hlast]
    rcases hs with ⟨rfl, rfl, rfl, rfl, hlt⟩ | ⟨rfl, rfl, rfl, rfl, hlt⟩
    · simp [callFn, hG, Tryz.f299, hlt, w1, h0, h1, h2, hF, Tryz.bnO1, hpl, h3, h4, h5, h6, h7, h8]
    · simp [callFn, hG, Tryz.f299, hlt, w1, h0, h1, h2, hF, Tryz.bnO1, hpl, h3, h4, h5, h6, h7, h8]
theorem iN_prefix {k : IntKind} {l r : List Nat} (h : l <+: r) : iN k l <+: iN k r := by
  obtain ⟨t, rfl⟩ := h
  exact ⟨iN k t, by rw [← iN_append]⟩
theorem ltrim_isPrefix (l : List Nat) : ltrim l <+: l := by
  rw [ltrim_prefix l]; exact List.take_prefix _ _
theorem Tryz.aPlusM {M : Mem} {x y : AV} {A B : List Nat} (hA : lok 1000000000 A = true) (hB : lok 1000000000 B = true) (hl : A.length ≤ 100000000) (hl2 : B.length ≤ 100000000) (hx : RowAt .u64 M x A) (hy : RowAt .u64 M y B) :
    ACallsTo Tryz.prog 299 [x, y] M (.slice M.length 0 (dig 1000000000 (lval 1000000000 A + lval 1000000000 B)).length none) (M ++ [.cells true 1 (iN .u64 (dig 1000000000 (lval 1000000000 A + lval 1000000000 B)))]) := by
  have main : ∃ raw, ltrim raw = dig 1000000000 (lval 1000000000 A + lval 1000000000 B) ∧ ACallsTo Tryz.prog 299 [.slice 0 0 A.length none, .slice 1 0 B.length none] [.cells false 1 (iN .u64 A), .cells false 1 (iN .u64 B)] (.slice 2 0 (ltrim raw).length none) [.cells false 1 (iN .u64 A), .cells false 1 (iN .u64 B), .cells true 1 (iN .u64 raw)] := by
    by_cases hlt : A.length < B.length
    · refine ⟨addL 1000000000 B A 0, by rw [dig_addL (by omega) hB hA (by omega), Nat.add_comm], ?_⟩
      have := (callFn_sound Tryz.mixed (tyOf_ok _) Tryz.bnO1_ok (fnOf_ok _) (Tryz.plus_end A B B A 1 0 (.inr ⟨rfl, rfl, rfl, rfl, hlt⟩) hB hA hl2 (by omega))).1
      simpa [CallRes.mem] using this
    · refine ⟨addL 1000000000 A B 0, dig_addL (by omega) hA hB (by omega), ?_⟩
      have := (callFn_sound Tryz.mixed (tyOf_ok _) Tryz.bnO1_ok (fnOf_ok _) (Tryz.plus_end A B A B 0 1 (.inl ⟨rfl, rfl, rfl, rfl, hlt⟩) hA hB hl (by omega))).1
      simpa [CallRes.mem] using this
  obtain ⟨raw, hr, h⟩ := main
  have h2 := ACallsTo.trunc (m := [.cells false 1 (iN .u64 A), .cells false 1 (iN .u64 B)]) h (iN_prefix (ltrim_isPrefix raw))
  obtain ⟨b, c, rfl, rfl, h3⟩ := ACallsTo.rows2 (new := [.cells true 1 (iN .u64 (ltrim raw))]) rfl h2 hx hy
  rw [hr] at h3
  simpa [AV.ren, back] using h3
end Go.Proofs
namespace Go.Proofs
open Go.Eng
theorem subL_length (B : Nat) : ∀ (a b : List Nat) (c : Nat), (subL B a b c).length = a.length
  | [], _, _ => rfl
  | x :: a, b, c => by unfold subL; split <;> simp [subL_length B a]
theorem subL_nil (B x : Nat) (a : List Nat) (c : Nat) : subL B (x :: a) [] c = if x < c then (x + B - c) :: subL B a [] 1 else (x - c) :: subL B a [] 0 := rfl
theorem Tryz.minus_loop {O : Oracle} {K : Nat} {lv : Code → List Nat} (A B : List Nat) (hA : lok 1000000000 A = true) (hB : lok 1000000000 B = true) (hl : A.length ≤ 1000000000) (hlen : B.length ≤ A.length) (hK : A.length < K)
    {b : Code} (hb : loopsF Tryz.f301 = [b]) (hlv : lv b = [15, 5, 6]) :
    ∃ F : Env → Bool → Env, ∀ env0 d, (Go.Eng.look env0 1 = .slice 1 0 B.length none ∧ Go.Eng.look env0 13 = .slice 0 0 A.length none ∧ Go.Eng.look env0 14 = .int .i64 A.length ∧ Go.Eng.look env0 5 = .slice 2 0 0 none ∧ Go.Eng.look env0 6 = .int .u64 0 ∧ Go.Eng.look env0 15 = .int .i64 0) →
      execC (tyOf Tryz.prog) lv O K 45 2 true (.loop b) ⟨env0, sumMem A B 0 [], d⟩ = some (.exit 0, ⟨F env0 d, sumMem A B A.length (subL 1000000000 A B 0), d⟩) ∧ Go.Eng.look (F env0 d) 5 = sumOut A.length := by
  refine loop_rule hlv (fun env0 => Go.Eng.look env0 1 = .slice 1 0 B.length none ∧ Go.Eng.look env0 13 = .slice 0 0 A.length none ∧ Go.Eng.look env0 14 = .int .i64 A.length ∧ Go.Eng.look env0 5 = .slice 2 0 0 none ∧ Go.Eng.look env0 6 = .int .u64 0 ∧ Go.Eng.look env0 15 = .int .i64 0)
    (fun _ env' => Go.Eng.look env' 5 = sumOut A.length) ?_
  clear hlv
  rintro env0 d ⟨h1, h20, h21, h5, h6, h22⟩
  simp [loopsF, loopsC, Tryz.f301] at hb
  have hn : normE [15, 5, 6] (writesC b) env0 ((15, .int .i64 ((0 : Nat) : Int)) :: (5, sumOut 0) :: (6, .int .u64 ((0 : Nat) : Int)) :: env0) = normE [15, 5, 6] (writesC b) env0 env0 := by simp [normE, h5, h6, h22, sumOut]
  rw [← hn]
  refine iter_ind (α := Nat × List Nat × Nat) (fun a => ⟨normE [15, 5, 6] (writesC b) env0 ((15, .int .i64 (a.1 : Int)) :: (5, sumOut a.1) :: (6, .int .u64 (a.2.2 : Int)) :: env0), sumMem A B a.1 a.2.1, d⟩) (fun a => A.length - a.1)
    (fun a => a.1 ≤ A.length ∧ a.2.1.length = a.1 ∧ a.2.2 ≤ 1 ∧ a.2.1 ++ subL 1000000000 (A.drop a.1) (B.drop a.1) a.2.2 = subL 1000000000 A B 0) (.exit 0) _ d _ (by simp) ?_ K (0, [], 0) ⟨Nat.zero_le _, rfl, Nat.zero_le _, rfl⟩ (by simpa using hK)
  rintro ⟨i, done, c⟩ ⟨hi, hd, hc, hinv⟩
  simp only at hi hd hc hinv
  clear hn
  subst hb
  by_cases hiA : i = A.length
  · right
    subst hiA
    rw [List.drop_length, subL, List.append_nil] at hinv
    rw [← hinv]
    simp [h21]
  · left
    have hlt : i < A.length := by omega
    obtain ⟨x, hx, hx'⟩ := get_both hlt
    have hxb := lok_get hA hx
    have eA : A.drop i = x :: A.drop (i + 1) := by rw [List.drop_eq_getElem_cons hlt, hx']
    have w0 : IntKind.i64.wrap 1 = 1 := by decide
    have w1 : IntKind.i64.wrap ((i : Int) + 1) = (i : Int) + 1 := wrap_i64 (by omega) (by omega)
    have hI : (i : Int) < (A.length : Int) := by omega
    have hm1 : (i + 1) * 8 ≤ 140737488355328 := by omega
    have hm2 : i + 1 ≤ 140737488355328 := by omega
    have ht : (iN .u64 done).take i = iN .u64 done := List.take_of_length_le (by simp [hd])
    have hM : 0 < i → sumMem A B i done = [.cells false 1 (iN .u64 A), .cells false 1 (iN .u64 B), .absent, .cells true 1 (iN .u64 done)] := fun h => by cases i with
      | zero => omega
      | succ i => rfl
    have hO : 0 < i → sumOut i = .slice 3 0 i none := fun h => by cases i with
      | zero => omega
      | succ i => rfl
    have hdone : i = 0 → done = [] := fun h => List.eq_nil_of_length_eq_zero (by omega)
    by_cases hb1 : i < B.length
    · obtain ⟨y, hy, hy'⟩ := get_both hb1
      have hyb := lok_get hB hy
      have eB : B.drop i = y :: B.drop (i + 1) := by rw [List.drop_eq_getElem_cons hb1, hy']
      rw [eA, eB, subL, List.headD_cons, List.tail_cons] at hinv
      obtain ⟨s, hs'⟩ : ∃ s : Nat, s = c + y := ⟨_, rfl⟩
      rw [← hs'] at hinv
      have w2 : IntKind.u64.wrap ((c : Int) + (y : Int)) = (s : Int) := by rw [wrap_u64 (by omega) (by omega)]; omega
      by_cases hxs : x < s
      · rw [if_pos hxs] at hinv
        obtain ⟨r, hr⟩ : ∃ r : Nat, r = x + 1000000000 - s := ⟨_, rfl⟩
        rw [← hr] at hinv
        have w3 : IntKind.u64.wrap ((x : Int) + 1000000000) = (x : Int) + 1000000000 := wrap_u64 (by omega) (by omega)
        have w4 : IntKind.u64.wrap ((x : Int) + 1000000000 - (s : Int)) = (r : Int) := by rw [wrap_u64 (by omega) (by omega)]; omega
        refine ⟨(i + 1, done ++ [r], 1), ?_⟩
        refine exists_and_fin (r := _ ∧ _) (show (i + 1 ≤ A.length ∧ (done ++ [r]).length = i + 1 ∧ 1 ≤ 1 ∧ (done ++ [r]) ++ subL 1000000000 (A.drop (i + 1)) (B.drop (i + 1)) 1 = subL 1000000000 A B 0) ∧ A.length - (i + 1) < A.length - i by
          refine ⟨⟨by omega, by simp [hd], by omega, ?_⟩, by omega⟩
          rw [← hinv]; simp) ?_
        clear hinv
        rcases Nat.eq_zero_or_pos i with rfl | hpos
        · obtain rfl := hdone rfl
          simp [sumMem, sumOut, h1, h20, h21, hx', hy', hlt, hb1, w0, w2, w3, w4, hxs, iN_cons]
        · simp [hM hpos, hO hpos, sumMem_succ, sumOut_succ, sumMem_len, h1, h20, h21, hx', hy', hI, hm1, hm2, hlt, hb1, hd, w1, w2, w3, w4, hxs, ht, iN_append, iN_cons]
      · rw [if_neg hxs] at hinv
        obtain ⟨r, hr⟩ : ∃ r : Nat, r = x - s := ⟨_, rfl⟩
        rw [← hr] at hinv
        have w4 : IntKind.u64.wrap ((x : Int) - (s : Int)) = (r : Int) := by rw [wrap_u64 (by omega) (by omega)]; omega
        refine ⟨(i + 1, done ++ [r], 0), ?_⟩
        refine exists_and_fin (r := _ ∧ _) (show (i + 1 ≤ A.length ∧ (done ++ [r]).length = i + 1 ∧ 0 ≤ 1 ∧ (done ++ [r]) ++ subL 1000000000 (A.drop (i + 1)) (B.drop (i + 1)) 0 = subL 1000000000 A B 0) ∧ A.length - (i + 1) < A.length - i by
          refine ⟨⟨by omega, by simp [hd], by omega, ?_⟩, by omega⟩
          rw [← hinv]; simp) ?_
        clear hinv
        rcases Nat.eq_zero_or_pos i with rfl | hpos
        · obtain rfl := hdone rfl
          simp [sumMem, sumOut, h1, h20, h21, hx', hy', hlt, hb1, w0, w2, w4, hxs, iN_cons]
        · simp [hM hpos, hO hpos, sumMem_succ, sumOut_succ, sumMem_len, h1, h20, h21, hx', hy', hI, hm1, hm2, hlt, hb1, hd, w1, w2, w4, hxs, ht, iN_append, iN_cons]
    · have eB : B.drop i = [] := List.drop_eq_nil_of_le (by omega)
      have eB2 : B.drop (i + 1) = [] := List.drop_eq_nil_of_le (by omega)
      rw [eA, eB, subL_nil] at hinv
      by_cases hxs : x < c
      · rw [if_pos hxs] at hinv
        obtain ⟨r, hr⟩ : ∃ r : Nat, r = x + 1000000000 - c := ⟨_, rfl⟩
        rw [← hr] at hinv
        have w3 : IntKind.u64.wrap ((x : Int) + 1000000000) = (x : Int) + 1000000000 := wrap_u64 (by omega) (by omega)
        have w4 : IntKind.u64.wrap ((x : Int) + 1000000000 - (c : Int)) = (r : Int) := by rw [wrap_u64 (by omega) (by omega)]; omega
        refine ⟨(i + 1, done ++ [r], 1), ?_⟩
        refine exists_and_fin (r := _ ∧ _) (show (i + 1 ≤ A.length ∧ (done ++ [r]).length = i + 1 ∧ 1 ≤ 1 ∧ (done ++ [r]) ++ subL 1000000000 (A.drop (i + 1)) (B.drop (i + 1)) 1 = subL 1000000000 A B 0) ∧ A.length - (i + 1) < A.length - i by
          refine ⟨⟨by omega, by simp [hd], by omega, ?_⟩, by omega⟩
          rw [← hinv, eB2]; simp) ?_
        clear hinv
        rcases Nat.eq_zero_or_pos i with rfl | hpos
        · obtain rfl := hdone rfl
          simp [sumMem, sumOut, h1, h20, h21, hx', hlt, hb1, w0, w3, w4, hxs, iN_cons]
        · simp [hM hpos, hO hpos, sumMem_succ, sumOut_succ, sumMem_len, h1, h20, h21, hx', hI, hm1, hm2, hlt, hb1, hd, w1, w3, w4, hxs, ht, iN_append, iN_cons]
      · rw [if_neg hxs] at hinv
        obtain ⟨r, hr⟩ : ∃ r : Nat, r = x - c := ⟨_, rfl⟩
        rw [← hr] at hinv
        have w4 : IntKind.u64.wrap ((x : Int) - (c : Int)) = (r : Int) := by rw [wrap_u64 (by omega) (by omega)]; omega
        refine ⟨(i + 1, done ++ [r], 0), ?_⟩
        refine exists_and_fin (r := _ ∧ _) (show (i + 1 ≤ A.length ∧ (done ++ [r]).length = i + 1 ∧ 0 ≤ 1 ∧ (done ++ [r]) ++ subL 1000000000 (A.drop (i + 1)) (B.drop (i + 1)) 0 = subL 1000000000 A B 0) ∧ A.length - (i + 1) < A.length - i by
          refine ⟨⟨by omega, by simp [hd], by omega, ?_⟩, by omega⟩
          rw [← hinv, eB2]; simp) ?_
        clear hinv
        rcases Nat.eq_zero_or_pos i with rfl | hpos
        · obtain rfl := hdone rfl
          simp [sumMem, sumOut, h1, h20, h21, hx', hlt, hb1, w0, w4, hxs, iN_cons]
        · simp [hM hpos, hO hpos, sumMem_succ, sumOut_succ, sumMem_len, h1, h20, h21, hx', hI, hm1, hm2, hlt, hb1, hd, w1, w4, hxs, ht, iN_append, iN_cons]
theorem Tryz.minus_end (A B : List Nat) (hA : lok 1000000000 A = true) (hB : lok 1000000000 B = true) (hl : A.length ≤ 100000000) (hl2 : B.length ≤ A.length) :
    callFn (tyOf Tryz.prog) (fun _ => [15, 5, 6]) (fnOf Tryz.prog) Tryz.bnO1 (A.length + 1) 301 [.slice 0 0 A.length none, .slice 1 0 B.length none] [.cells false 1 (iN .u64 A), .cells false 1 (iN .u64 B)] =
      some ⟨.slice 2 0 (ltrim (subL 1000000000 A B 0)).length none, none, [.cells true 1 (iN .u64 (subL 1000000000 A B 0))]⟩ := by
  have hG : fnOf Tryz.prog 301 = some Tryz.f301 := by kernel_rfl
  obtain ⟨b, hb⟩ : ∃ b, loopsF Tryz.f301 = [b] := ⟨_, rfl⟩
  have hlen := subL_length 1000000000 A B 0
  obtain ⟨F, hF⟩ := Tryz.minus_loop (O := Tryz.bnO1) (K := A.length + 1) (lv := fun _ => [15, 5, 6]) A B hA hB (by omega) hl2 (by omega) hb rfl
  simp [loopsF, loopsC, Tryz.f301] at hb
  subst hb
  obtain ⟨cap, hcap⟩ : ∃ cap : Int, cap = (A.length : Int) := ⟨_, rfl⟩
  have h0 : 0 ≤ (A.length : Int) := by omega
  have h1 : 8 * (A.length : Int) ≤ 281474976710656 := by omega
  have h2 : (A.length : Int) ≤ 281474976710656 := by omega
  obtain ⟨raw, hraw⟩ : ∃ raw, raw = subL 1000000000 A B 0 := ⟨_, rfl⟩
  rw [← hraw] at hlen hF ⊢
  rcases Nat.eq_zero_or_pos A.length with hz | hpos
  · have hA0 := List.eq_nil_of_length_eq_zero hz
    have hB0 : B = [] := List.eq_nil_of_length_eq_zero (by omega)
    subst hA0
    subst hB0
    have hr0 : raw = [] := List.eq_nil_of_length_eq_zero (by simpa using hlen)
    subst hr0
    simp only [List.length_nil, sumMem, sumOut, Nat.zero_add, Int.cast_ofNat_Int, iN_nil] at hF
    have h6 : sliceN .u64 [.cells false 1 [], .cells false 1 [], .cells true 1 []] (.slice 2 0 0 none) = some [] := by rfl
    simp [callFn, hG, Tryz.f301, hF, Tryz.bnO1, h6, ltrim]
  · have hM : ∀ done, sumMem A B A.length done = [.cells false 1 (iN .u64 A), .cells false 1 (iN .u64 B), .absent, .cells true 1 (iN .u64 done)] := fun done => by
      cases h : A.length with
      | zero => omega
      | succ i => rfl
    have hO : sumOut A.length = .slice 3 0 A.length none := by
      cases h : A.length with
      | zero => omega
      | succ i => rfl
    rw [hM, hO] at hF
    simp only [sumMem] at hF
    have h6 : sliceN .u64 [.cells false 1 (iN .u64 A), .cells false 1 (iN .u64 B), .absent, .cells true 1 (iN .u64 raw)] (.slice 3 0 A.length none) = some raw :=
      sliceN_at rfl (by simp [hlen]) (List.take_of_length_le (by simp [hlen]))
    have h7 : raw.length ≤ 1000000000 := by omega
    simp [callFn, hG, Tryz.f301, h1, h2, hF, Tryz.bnO1, h6, h7]
theorem Tryz.aMinusM {M : Mem} {x y : AV} {A B : List Nat} (hA : lok 1000000000 A = true) (hB : lok 1000000000 B = true) (hl : A.length ≤ 100000000) (hl2 : B.length ≤ A.length) (hle : lval 1000000000 B ≤ lval 1000000000 A) (hx : RowAt .u64 M x A) (hy : RowAt .u64 M y B) :
    ACallsTo Tryz.prog 301 [x, y] M (.slice M.length 0 (dig 1000000000 (lval 1000000000 A - lval 1000000000 B)).length none) (M ++ [.cells true 1 (iN .u64 (dig 1000000000 (lval 1000000000 A - lval 1000000000 B)))]) := by
  obtain ⟨s1, s2⟩ := lval_subL (B := 1000000000) (by omega) A B 0 hA hB (by omega) hl2 (by omega)
  have hr : ltrim (subL 1000000000 A B 0) = dig 1000000000 (lval 1000000000 A - lval 1000000000 B) := by
    rw [← dig_lval (by omega) s2]; congr 1; omega
  have := (callFn_sound Tryz.mixed (tyOf_ok _) Tryz.bnO1_ok (fnOf_ok _) (Tryz.minus_end A B hA hB hl hl2)).1
  simp only [CallRes.mem, Option.getD_none, List.cons_append, List.nil_append] at this
  have h2 := ACallsTo.trunc (m := [.cells false 1 (iN .u64 A), .cells false 1 (iN .u64 B)]) this (iN_prefix (ltrim_isPrefix _))
  obtain ⟨b, c, rfl, rfl, h3⟩ := ACallsTo.rows2 (new := [.cells true 1 (iN .u64 (ltrim (subL 1000000000 A B 0)))]) rfl h2 hx hy
  rw [hr] at h3
  simpa [AV.ren, back] using h3
end Go.Proofs
namespace Go.Proofs
open Go.Eng
def mulMem (A B o : List Nat) : Mem := [.cells false 1 (iN .u64 A), .cells false 1 (iN .u64 B), .cells true 1 (iN .u64 o)]
theorem iN_upd (k : IntKind) (l : List Nat) (i n : Nat) (h : i < l.length) : (iN k l).take i ++ .int k (n : Int) :: (iN k l).drop (i + 1) = iN k (l.take i ++ n :: l.drop (i + 1)) := by
  simp [iN_take, iN_drop, iN_append, iN_cons]
theorem take_upd {l : List Nat} {i n : Nat} (h : i < l.length) : (l.take i ++ n :: l.drop (i + 1)).take (i + 1) = l.take i ++ [n] := by
  have : (l.take i).length = i := by simp; omega
  rw [List.take_append, this]
  have e : i + 1 - i = 1 := by omega
  rw [e, List.take_of_length_le (by omega)]
  rfl
theorem drop_upd {l : List Nat} {i n : Nat} (h : i < l.length) : (l.take i ++ n :: l.drop (i + 1)).drop (i + 1) = l.drop (i + 1) := by
  have : (l.take i).length = i := by simp; omega
  rw [List.drop_append, this]
  have e : i + 1 - i = 1 := by omega
  rw [e, List.drop_of_length_le (by omega)]
  rfl
theorem length_upd {l : List Nat} {i n : Nat} (h : i < l.length) : (l.take i ++ n :: l.drop (i + 1)).length = l.length := by simp; omega
theorem Tryz.times_loop2 {O : Oracle} {K : Nat} {lv : Code → List Nat} (A B out : List Nat) (i x : Nat) (hx : x < 1000000000) (hB : lok 1000000000 B = true) (ho : lok 1000000000 out = true) (hl : out.length ≤ 1000000000) (hn : i + B.length < out.length) (hK : B.length < K)
    {b1 b b3 : Code} (hb : loopsF Tryz.f263 = [b1, b, b3]) (hlv : lv b = [28, 8]) :
    ∃ F : Env → Bool → Env, ∀ env0 d, (Go.Eng.look env0 5 = .slice 2 0 out.length none ∧ Go.Eng.look env0 6 = .int .i64 i ∧ Go.Eng.look env0 7 = .int .u64 x ∧ Go.Eng.look env0 26 = .slice 1 0 B.length none ∧ Go.Eng.look env0 27 = .int .i64 B.length ∧ Go.Eng.look env0 28 = .int .i64 0 ∧ Go.Eng.look env0 8 = .int .u64 0) →
      execC (tyOf Tryz.prog) lv O K 79 2 true (.loop b) ⟨env0, mulMem A B out, d⟩ = some (.exit 2, ⟨F env0 d, mulMem A B (out.take i ++ (rowK 1000000000 x (out.drop i) B 0).1), d⟩) ∧
        (Go.Eng.look (F env0 d) 8 = .int .u64 (((rowK 1000000000 x (out.drop i) B 0).2 : Nat) : Int) ∧ Go.Eng.look (F env0 d) 5 = Go.Eng.look env0 5 ∧ Go.Eng.look (F env0 d) 6 = Go.Eng.look env0 6 ∧ Go.Eng.look (F env0 d) 1 = Go.Eng.look env0 1 ∧ Go.Eng.look (F env0 d) 21 = Go.Eng.look env0 21) := by
  refine loop_rule hlv (fun env0 => Go.Eng.look env0 5 = .slice 2 0 out.length none ∧ Go.Eng.look env0 6 = .int .i64 i ∧ Go.Eng.look env0 7 = .int .u64 x ∧ Go.Eng.look env0 26 = .slice 1 0 B.length none ∧ Go.Eng.look env0 27 = .int .i64 B.length ∧ Go.Eng.look env0 28 = .int .i64 0 ∧ Go.Eng.look env0 8 = .int .u64 0)
    (fun env0 env' => Go.Eng.look env' 8 = .int .u64 (((rowK 1000000000 x (out.drop i) B 0).2 : Nat) : Int) ∧ Go.Eng.look env' 5 = Go.Eng.look env0 5 ∧ Go.Eng.look env' 6 = Go.Eng.look env0 6 ∧ Go.Eng.look env' 1 = Go.Eng.look env0 1 ∧ Go.Eng.look env' 21 = Go.Eng.look env0 21) ?_
  clear hlv
  rintro env0 d ⟨h5, h6, h7, h26, h27, h28, h8⟩
  simp [loopsF, loopsC, Tryz.f263] at hb
  obtain ⟨_, hb, _⟩ := hb
  have hn0 : normE [28, 8] (writesC b) env0 ((28, .int .i64 ((0 : Nat) : Int)) :: (8, .int .u64 ((0 : Nat) : Int)) :: env0) = normE [28, 8] (writesC b) env0 env0 := by simp [normE, h28, h8]
  rw [← hn0]
  refine iter_ind (α := Nat × List Nat × Nat) (fun a => ⟨normE [28, 8] (writesC b) env0 ((28, .int .i64 (a.1 : Int)) :: (8, .int .u64 (a.2.2 : Int)) :: env0), mulMem A B a.2.1, d⟩) (fun a => B.length - a.1)
    (fun a => a.1 ≤ B.length ∧ a.2.1.length = out.length ∧ lok 1000000000 a.2.1 = true ∧ a.2.2 < 1000000000 ∧
      a.2.1.take (i + a.1) ++ (rowK 1000000000 x (a.2.1.drop (i + a.1)) (B.drop a.1) a.2.2).1 = out.take i ++ (rowK 1000000000 x (out.drop i) B 0).1 ∧
      (rowK 1000000000 x (a.2.1.drop (i + a.1)) (B.drop a.1) a.2.2).2 = (rowK 1000000000 x (out.drop i) B 0).2) (.exit 2) _ d _ (by simp) ?_ K (0, out, 0) ⟨Nat.zero_le _, rfl, ho, by show (0 : Nat) < 1000000000; omega, rfl, rfl⟩ (by simpa using hK)
  rintro ⟨k, o, c⟩ ⟨hk, hol, hok, hc, hinv, hinv2⟩
  simp only at hk hol hok hc hinv hinv2
  clear hn0
  subst hb
  by_cases hkB : k = B.length
  · right
    subst hkB
    rw [List.drop_length, rowK_nil] at hinv hinv2
    simp only [List.take_append_drop] at hinv
    rw [← hinv, ← hinv2]
    simp [h27]
  · left
    have hlt : k < B.length := by omega
    obtain ⟨y, hy, hy'⟩ := get_both hlt
    have hyb := lok_get hB hy
    have eB : B.drop k = y :: B.drop (k + 1) := by rw [List.drop_eq_getElem_cons hlt, hy']
    obtain ⟨p, hp⟩ : ∃ p : Nat, p = i + k := ⟨_, rfl⟩
    have hlo : p < o.length := by omega
    obtain ⟨z, hz, hz'⟩ := get_both hlo
    have hzb := lok_get hok hz
    have eo : o.drop p = z :: o.drop (p + 1) := by rw [List.drop_eq_getElem_cons hlo, hz']
    rw [← hp, eB, eo, rowK] at hinv hinv2
    have hxy : x * y ≤ 999999999 * 999999999 := Nat.mul_le_mul (by omega) (by omega)
    obtain ⟨s, hs⟩ : ∃ s : Nat, s = c + (z + x * y) := ⟨_, rfl⟩
    rw [← hs] at hinv hinv2
    obtain ⟨xy, hxy'⟩ : ∃ xy : Nat, xy = x * y := ⟨_, rfl⟩
    rw [← hxy'] at hxy hs
    have hxyI : (x : Int) * (y : Int) = (xy : Int) := by rw [hxy']; exact (Int.natCast_mul x y).symm
    have w1 : IntKind.i64.wrap ((i : Int) + (k : Int)) = (p : Int) := by rw [wrap_i64 (by omega) (by omega)]; omega
    have w2 : IntKind.u64.wrap (xy : Int) = (xy : Int) := wrap_u64 (by omega) (by omega)
    have w3 : IntKind.u64.wrap ((z : Int) + (xy : Int)) = (z : Int) + (xy : Int) := wrap_u64 (by omega) (by omega)
    have w4 : IntKind.u64.wrap ((c : Int) + ((z : Int) + (xy : Int))) = (s : Int) := by rw [wrap_u64 (by omega) (by omega)]; omega
    have w5 : (s : Int).tmod 1000000000 = (s : Int) % 1000000000 := tmod_lit s 1000000000
    have w6 : IntKind.u64.wrap ((s : Int) / 1000000000) = (s : Int) / 1000000000 := wrap_u64 (by omega) (by omega)
    have w7 : IntKind.i64.wrap ((k : Int) + 1) = (k : Int) + 1 := wrap_i64 (by omega) (by omega)
    have hI : (p : Int) < (out.length : Int) := by omega
    have hp1 : p + 1 ≤ o.length := hlo
    have hu := iN_upd .u64 o p (s % 1000000000) hlo
    refine ⟨(k + 1, o.take p ++ s % 1000000000 :: o.drop (p + 1), s / 1000000000), ?_⟩
    refine exists_and_fin (r := _ ∧ _) (show (k + 1 ≤ B.length ∧ (o.take p ++ s % 1000000000 :: o.drop (p + 1)).length = out.length ∧ lok 1000000000 (o.take p ++ s % 1000000000 :: o.drop (p + 1)) = true ∧ s / 1000000000 < 1000000000 ∧
        (o.take p ++ s % 1000000000 :: o.drop (p + 1)).take (i + (k + 1)) ++ (rowK 1000000000 x ((o.take p ++ s % 1000000000 :: o.drop (p + 1)).drop (i + (k + 1))) (B.drop (k + 1)) (s / 1000000000)).1 = out.take i ++ (rowK 1000000000 x (out.drop i) B 0).1 ∧
        (rowK 1000000000 x ((o.take p ++ s % 1000000000 :: o.drop (p + 1)).drop (i + (k + 1))) (B.drop (k + 1)) (s / 1000000000)).2 = (rowK 1000000000 x (out.drop i) B 0).2) ∧ B.length - (k + 1) < B.length - k by
      have hq : i + (k + 1) = p + 1 := by omega
      rw [hq, take_upd hlo, drop_upd hlo]
      refine ⟨⟨by omega, by rw [length_upd hlo, hol], ?_, by omega, ?_, hinv2⟩, by omega⟩
      · rw [lok_append, lok_cons, lok_take hok, lok_drop hok]
        simp; omega
      · rw [← hinv]; simp) ?_
    clear hinv hinv2
    simp [mulMem, h5, h6, h7, h26, h27, hy', hz', hI, hlt, hlo, hp1, hxyI, w1, w2, w3, w4, w5, w6, w7]
    simp [iN_take, iN_drop, iN_append, iN_cons]
theorem Tryz.times_loop3 {O : Oracle} {K : Nat} {lv : Code → List Nat} (A B out : List Nat) (j0 c0 : Nat) (ho : lok 1000000000 out = true) (hc0 : c0 < 1000000000) (hl : out.length ≤ 1000000000) (hj0 : j0 ≤ out.length) (hfit : lval 1000000000 (out.drop j0) + c0 < 1000000000 ^ (out.length - j0)) (hK : out.length < K)
    {b1 b2 b : Code} (hb : loopsF Tryz.f263 = [b1, b2, b]) (hlv : lv b = [11, 8]) :
    ∃ F : Env → Bool → Env, ∀ env0 d, (Go.Eng.look env0 5 = .slice 2 0 out.length none ∧ Go.Eng.look env0 11 = .int .i64 j0 ∧ Go.Eng.look env0 8 = .int .u64 c0) →
      execC (tyOf Tryz.prog) lv O K 79 2 true (.loop b) ⟨env0, mulMem A B out, d⟩ = some (.exit 4, ⟨F env0 d, mulMem A B (out.take j0 ++ carryL 1000000000 (out.drop j0) c0), d⟩) ∧
        (Go.Eng.look (F env0 d) 5 = Go.Eng.look env0 5 ∧ Go.Eng.look (F env0 d) 1 = Go.Eng.look env0 1 ∧ Go.Eng.look (F env0 d) 21 = Go.Eng.look env0 21) := by
  refine loop_rule hlv (fun env0 => Go.Eng.look env0 5 = .slice 2 0 out.length none ∧ Go.Eng.look env0 11 = .int .i64 j0 ∧ Go.Eng.look env0 8 = .int .u64 c0)
    (fun env0 env' => Go.Eng.look env' 5 = Go.Eng.look env0 5 ∧ Go.Eng.look env' 1 = Go.Eng.look env0 1 ∧ Go.Eng.look env' 21 = Go.Eng.look env0 21) ?_
  clear hlv
  rintro env0 d ⟨h5, h11, h8⟩
  simp [loopsF, loopsC, Tryz.f263] at hb
  obtain ⟨_, _, hb⟩ := hb
  have hn0 : normE [11, 8] (writesC b) env0 ((11, .int .i64 (j0 : Int)) :: (8, .int .u64 (c0 : Int)) :: env0) = normE [11, 8] (writesC b) env0 env0 := by simp [normE, h11, h8]
  rw [← hn0]
  refine iter_ind (α := Nat × List Nat × Nat) (fun a => ⟨normE [11, 8] (writesC b) env0 ((11, .int .i64 (a.1 : Int)) :: (8, .int .u64 (a.2.2 : Int)) :: env0), mulMem A B a.2.1, d⟩) (fun a => out.length - a.1)
    (fun a => a.1 ≤ out.length ∧ a.2.1.length = out.length ∧ lok 1000000000 a.2.1 = true ∧ a.2.2 < 1000000000 ∧ lval 1000000000 (a.2.1.drop a.1) + a.2.2 < 1000000000 ^ (out.length - a.1) ∧
      a.2.1.take a.1 ++ carryL 1000000000 (a.2.1.drop a.1) a.2.2 = out.take j0 ++ carryL 1000000000 (out.drop j0) c0) (.exit 4) _ d _ (by simp) ?_ K (j0, out, c0) ⟨hj0, rfl, ho, hc0, hfit, rfl⟩ (by simp; omega)
  rintro ⟨j, o, c⟩ ⟨hj, hol, hok, hc, hf, hinv⟩
  simp only at hj hol hok hc hf hinv
  clear hn0
  subst hb
  by_cases hc00 : c = 0
  · right
    subst hc00
    rw [carryL_zero, List.take_append_drop] at hinv
    rw [← hinv]
    simp
  · left
    have hlo : j < o.length := by
      rcases Nat.lt_or_ge j out.length with h | h
      · omega
      · have : out.length - j = 0 := by omega
        rw [this, Nat.pow_zero] at hf
        omega
    obtain ⟨z, hz, hz'⟩ := get_both hlo
    have hzb := lok_get hok hz
    have eo : o.drop j = z :: o.drop (j + 1) := by rw [List.drop_eq_getElem_cons hlo, hz']
    rw [eo, carryL, if_neg hc00] at hinv
    rw [eo, lval] at hf
    obtain ⟨s, hs⟩ : ∃ s : Nat, s = c + z := ⟨_, rfl⟩
    rw [← hs] at hinv
    have w4 : IntKind.u64.wrap ((c : Int) + (z : Int)) = (s : Int) := by rw [wrap_u64 (by omega) (by omega)]; omega
    have w5 : (s : Int).tmod 1000000000 = (s : Int) % 1000000000 := tmod_lit s 1000000000
    have w6 : IntKind.u64.wrap ((s : Int) / 1000000000) = (s : Int) / 1000000000 := wrap_u64 (by omega) (by omega)
    have w7 : IntKind.i64.wrap ((j : Int) + 1) = (j : Int) + 1 := wrap_i64 (by omega) (by omega)
    have hI : (j : Int) < (out.length : Int) := by omega
    have hIn : j < out.length := by omega
    have hp1 : j + 1 ≤ o.length := hlo
    have hcp : 0 < c := by omega
    refine ⟨(j + 1, o.take j ++ s % 1000000000 :: o.drop (j + 1), s / 1000000000), ?_⟩
    refine exists_and_fin (r := _ ∧ _) (show (j + 1 ≤ out.length ∧ (o.take j ++ s % 1000000000 :: o.drop (j + 1)).length = out.length ∧ lok 1000000000 (o.take j ++ s % 1000000000 :: o.drop (j + 1)) = true ∧ s / 1000000000 < 1000000000 ∧
        lval 1000000000 ((o.take j ++ s % 1000000000 :: o.drop (j + 1)).drop (j + 1)) + s / 1000000000 < 1000000000 ^ (out.length - (j + 1)) ∧
        (o.take j ++ s % 1000000000 :: o.drop (j + 1)).take (j + 1) ++ carryL 1000000000 ((o.take j ++ s % 1000000000 :: o.drop (j + 1)).drop (j + 1)) (s / 1000000000) = out.take j0 ++ carryL 1000000000 (out.drop j0) c0) ∧ out.length - (j + 1) < out.length - j by
      rw [take_upd hlo, drop_upd hlo]
      refine ⟨⟨by omega, by rw [length_upd hlo, hol], ?_, by omega, ?_, ?_⟩, by omega⟩
      · rw [lok_append, lok_cons, lok_take hok, lok_drop hok]
        simp; omega
      · have e : out.length - j = (out.length - (j + 1)) + 1 := by omega
        rw [e, Nat.pow_succ] at hf
        generalize 1000000000 ^ (out.length - (j + 1)) = p at *
        omega
      · rw [← hinv]; simp) ?_
    clear hinv hf hfit
    simp [mulMem, h5, hz', hI, hIn, hlo, hp1, hcp, w4, w5, w6, w7]
    simp [iN_take, iN_drop, iN_append, iN_cons]
end Go.Proofs
namespace Go.Proofs
open Go.Eng
def Tryz.timesLv (c : Code) : List Nat := if (writesC c).contains 21 then [21] else if (writesC c).contains 28 then [28, 8] else [11, 8]
theorem row_eq {B i x : Nat} {o b : List Nat} (hi : i + b.length ≤ o.length) : o.take i ++ rowL B x (o.drop i) b 0 =
    (o.take i ++ (rowK B x (o.drop i) b 0).1).take (i + b.length) ++ carryL B ((o.take i ++ (rowK B x (o.drop i) b 0).1).drop (i + b.length)) (rowK B x (o.drop i) b 0).2 := by
  have h1 : (o.take i).length = i := by simp; omega
  have h2 : b.length ≤ (o.drop i).length := by rw [List.length_drop]; omega
  generalize o.take i = P at *
  generalize o.drop i = Q at *
  have e1 : (P ++ (rowK B x Q b 0).1).take (i + b.length) = P ++ (rowK B x Q b 0).1.take b.length := by
    rw [List.take_append, List.take_of_length_le (by omega), h1, Nat.add_sub_cancel_left]
  have e2 : (P ++ (rowK B x Q b 0).1).drop (i + b.length) = (rowK B x Q b 0).1.drop b.length := by
    rw [List.drop_append, List.drop_of_length_le (by omega), h1, Nat.add_sub_cancel_left, List.nil_append]
  rw [e1, e2, rowL_eq B x _ _ _ h2, List.append_assoc]
theorem Tryz.times_loop1 {O : Oracle} {K : Nat} (A B : List Nat) (n : Nat) (hA : lok 1000000000 A = true) (hB : lok 1000000000 B = true) (hl : n ≤ 1000000000) (hn : n = A.length + B.length + 1) (hK : n < K)
    {b b2 b3 : Code} (hb : loopsF Tryz.f263 = [b, b2, b3] ∧ Tryz.timesLv b = [21] ∧ Tryz.timesLv b2 = [28, 8] ∧ Tryz.timesLv b3 = [11, 8]) :
    ∃ F : Env → Bool → Env, ∀ env0 d, (Go.Eng.look env0 5 = .slice 2 0 n none ∧ Go.Eng.look env0 1 = .slice 1 0 B.length none ∧ Go.Eng.look env0 19 = .slice 0 0 A.length none ∧ Go.Eng.look env0 20 = .int .i64 A.length ∧ Go.Eng.look env0 21 = .int .i64 0) →
      execC (tyOf Tryz.prog) Tryz.timesLv O K 79 2 true (.loop b) ⟨env0, mulMem A B (List.replicate n 0), d⟩ = some (.exit 0, ⟨F env0 d, mulMem A B (rowsL 1000000000 A B (List.replicate n 0)), d⟩) ∧
        (Go.Eng.look (F env0 d) 5 = Go.Eng.look env0 5) := by
  refine loop_rule hb.2.1 (fun env0 => Go.Eng.look env0 5 = .slice 2 0 n none ∧ Go.Eng.look env0 1 = .slice 1 0 B.length none ∧ Go.Eng.look env0 19 = .slice 0 0 A.length none ∧ Go.Eng.look env0 20 = .int .i64 A.length ∧ Go.Eng.look env0 21 = .int .i64 0)
    (fun env0 env' => Go.Eng.look env' 5 = Go.Eng.look env0 5) ?_
  rintro env0 d ⟨h5, h1, h19, h20, h21⟩
  have hb1 := hb.1
  simp [loopsF, loopsC, Tryz.f263] at hb1
  obtain ⟨hb1, hb2, hb3⟩ := hb1
  have hn0 : normE [21] (writesC b) env0 ((21, .int .i64 ((0 : Nat) : Int)) :: env0) = normE [21] (writesC b) env0 env0 := by simp [normE, h21]
  rw [← hn0]
  have hz : lval 1000000000 (List.replicate n 0) = 0 := by
    clear hn hl hK h5
    induction n with
    | zero => rfl
    | succ n ih => rw [List.replicate_succ, lval, ih]
  have hzo : lok 1000000000 (List.replicate n 0) = true := by
    unfold lok
    rw [List.all_eq_true]
    intro d hd
    rw [List.mem_replicate] at hd
    simp [hd.2]
  have hfit0 : lval 1000000000 A * lval 1000000000 B < 1000000000 ^ n := by
    have h1 := lval_lt hA
    have h2 := lval_lt hB
    have h3 : lval 1000000000 A * lval 1000000000 B < 1000000000 ^ A.length * 1000000000 ^ B.length := Nat.mul_lt_mul_of_lt_of_lt h1 h2
    rw [← Nat.pow_add] at h3
    have h4 : 1000000000 ^ (A.length + B.length) ≤ 1000000000 ^ n := Nat.pow_le_pow_right (by omega) (by omega)
    omega
  refine iter_ind (α := Nat × List Nat) (fun a => ⟨normE [21] (writesC b) env0 ((21, .int .i64 (a.1 : Int)) :: env0), mulMem A B a.2, d⟩) (fun a => A.length - a.1)
    (fun a => a.1 ≤ A.length ∧ a.2.length = n ∧ lok 1000000000 a.2 = true ∧ lval 1000000000 (a.2.drop a.1) + lval 1000000000 (A.drop a.1) * lval 1000000000 B < 1000000000 ^ (n - a.1) ∧
      a.2.take a.1 ++ rowsL 1000000000 (A.drop a.1) B (a.2.drop a.1) = rowsL 1000000000 A B (List.replicate n 0)) (.exit 0) _ d _ (by simp) ?_ K (0, List.replicate n 0) ⟨Nat.zero_le _, by simp, hzo, by simp only [List.drop_zero, Nat.sub_zero]; rw [hz]; omega, by simp⟩ (by simp; omega)
  rintro ⟨i, o⟩ ⟨hi, hol, hok, hf, hinv⟩
  simp only at hi hol hok hf hinv
  clear hn0 hfit0 hz hzo
  by_cases hiA : i = A.length
  · right
    subst hiA
    rw [List.drop_length, rowsL, List.take_append_drop] at hinv
    rw [← hinv]
    subst hb1
    simp [h20]
  · left
    have hlt : i < A.length := by omega
    obtain ⟨x, hx, hx'⟩ := get_both hlt
    have hxb := lok_get hA hx
    have eA : A.drop i = x :: A.drop (i + 1) := by rw [List.drop_eq_getElem_cons hlt, hx']
    rw [eA, rowsL] at hinv
    rw [eA, lval, Nat.add_mul, Nat.mul_assoc] at hf
    have hdl : (o.drop i).length = n - i := by rw [List.length_drop, hol]
    have hdo := lok_drop hok i
    obtain ⟨r1, r2⟩ := lval_rowL (B := 1000000000) (by omega) x (o.drop i) B 0 hdo (by rw [hdl]; omega) (by omega)
    have r3 := length_rowL 1000000000 x (o.drop i) B 0
    obtain ⟨k1, k2, k3⟩ := rowK_spec (B := 1000000000) (by omega) hxb (o.drop i) B 0 hdo hB (by omega) (by omega)
    have k4 := rowK_length 1000000000 x (o.drop i) B 0
    have hrow := row_eq (B := 1000000000) (x := x) (o := o) (b := B) (i := i) (by omega)
    obtain ⟨o2, ho2⟩ : ∃ o2, o2 = o.take i ++ (rowK 1000000000 x (o.drop i) B 0).1 := ⟨_, rfl⟩
    obtain ⟨c2, hc2⟩ : ∃ c2, c2 = (rowK 1000000000 x (o.drop i) B 0).2 := ⟨_, rfl⟩
    have ho2l : o2.length = n := by rw [ho2, List.length_append, k4, hdl, List.length_take, hol]; omega
    have ho2k : lok 1000000000 o2 = true := by rw [ho2, lok_append, lok_take hok, k1]; rfl
    have hfit2 : lval 1000000000 (o2.drop (i + B.length)) + c2 < 1000000000 ^ (o2.length - (i + B.length)) := by
      have e1 : o2.drop (i + B.length) = (rowK 1000000000 x (o.drop i) B 0).1.drop B.length := by
        rw [ho2, List.drop_append, List.length_take, hol, List.drop_of_length_le (by simp [hol]; omega), List.nil_append]
        congr 1; omega
      have e2 : lval 1000000000 (rowK 1000000000 x (o.drop i) B 0).1 = lval 1000000000 ((rowK 1000000000 x (o.drop i) B 0).1.take B.length) + 1000000000 ^ B.length * lval 1000000000 ((rowK 1000000000 x (o.drop i) B 0).1.drop B.length) := by
        conv => lhs; rw [← List.take_append_drop B.length (rowK 1000000000 x (o.drop i) B 0).1]
        rw [lval_append, List.length_take, k4, hdl, Nat.min_eq_left (by omega)]
      have e3 : n - i = B.length + (o2.length - (i + B.length)) := by omega
      rw [e3, Nat.pow_add] at hf
      rw [e1, hc2]
      have : 1000000000 ^ B.length * (lval 1000000000 ((rowK 1000000000 x (o.drop i) B 0).1.drop B.length) + (rowK 1000000000 x (o.drop i) B 0).2) < 1000000000 ^ B.length * 1000000000 ^ (o2.length - (i + B.length)) := by
        rw [Nat.mul_add]; omega
      exact Nat.lt_of_mul_lt_mul_left this
    obtain ⟨F2, hF2⟩ := Tryz.times_loop2 (O := O) (K := K) (lv := Tryz.timesLv) A B o i x hxb hB hok (by omega) (by omega) (by omega) hb.1 hb.2.2.1
    obtain ⟨F3, hF3⟩ := Tryz.times_loop3 (O := O) (K := K) (lv := Tryz.timesLv) A B o2 (i + B.length) c2 ho2k (by rw [hc2]; exact k2) (by omega) (by omega) hfit2 (by omega) hb.1 hb.2.2.2
    rw [← ho2, ← hc2] at hF2 hrow
    rw [← hrow] at hF3
    obtain ⟨o3, ho3⟩ : ∃ o3, o3 = o.take i ++ rowL 1000000000 x (o.drop i) B 0 := ⟨_, rfl⟩
    rw [← ho3] at hF3
    have ho3l : o3.length = n := by rw [ho3, List.length_append, r3, hdl, List.length_take, hol]; omega
    have ho3k : lok 1000000000 o3 = true := by rw [ho3, lok_append, lok_take hok, r2]; rfl
    cases hrl : rowL 1000000000 x (o.drop i) B 0 with
    | nil => rw [hrl] at r3; simp at r3; omega
    | cons dd rr =>
      rw [hrl] at hinv r1 r3
      simp only at hinv
      have e4 : o3.take (i + 1) = o.take i ++ [dd] := by
        rw [ho3, hrl, List.take_append, List.length_take, hol, List.take_of_length_le (by simp; omega)]
        have : i + 1 - min i n = 1 := by omega
        rw [this]; rfl
      have e5 : o3.drop (i + 1) = rr := by
        rw [ho3, hrl, List.drop_append, List.length_take, hol, List.drop_of_length_le (by simp; omega)]
        have : i + 1 - min i n = 1 := by omega
        rw [this]; rfl
      obtain ⟨p, hp⟩ : ∃ p : Nat, p = i + B.length := ⟨_, rfl⟩
      have w1 : IntKind.i64.wrap ((i : Int) + (B.length : Int)) = (p : Int) := by rw [wrap_i64 (by omega) (by omega)]; omega
      have w2 : IntKind.i64.wrap ((i : Int) + 1) = (i : Int) + 1 := wrap_i64 (by omega) (by omega)
      have hI : (i : Int) < (A.length : Int) := by omega
      rw [← hp] at hF3
      refine ⟨(i + 1, o3), ?_⟩
      refine exists_and_fin (r := _ ∧ _) (show (i + 1 ≤ A.length ∧ o3.length = n ∧ lok 1000000000 o3 = true ∧ lval 1000000000 (o3.drop (i + 1)) + lval 1000000000 (A.drop (i + 1)) * lval 1000000000 B < 1000000000 ^ (n - (i + 1)) ∧
          o3.take (i + 1) ++ rowsL 1000000000 (A.drop (i + 1)) B (o3.drop (i + 1)) = rowsL 1000000000 A B (List.replicate n 0)) ∧ A.length - (i + 1) < A.length - i by
        rw [e4, e5]
        refine ⟨⟨by omega, ho3l, ho3k, ?_, by rw [← hinv]; simp⟩, by omega⟩
        rw [lval] at r1
        have e : n - i = (n - (i + 1)) + 1 := by omega
        rw [e, Nat.pow_succ] at hf
        generalize 1000000000 ^ (n - (i + 1)) = q at *
        omega) ?_
      rw [hol] at hF2
      rw [ho2l] at hF3
      clear hinv hf hfit2 r1 r2 r3 k1 k2 k3 k4 hrow e4 e5 hrl ho3 ho2 hc2
      subst hb1
      subst hb2
      subst hb3
      simp only [mulMem] at hF2 hF3
      simp [mulMem, h5, h1, h19, h20, hx', hI, hlt, w1, w2, hF2, hF3]
end Go.Proofs
namespace Go.Proofs
open Go.Eng
theorem Tryz.times_end (A B : List Nat) (hA : lok 1000000000 A = true) (hB : lok 1000000000 B = true) (hl : A.length ≤ 100000000) (hl2 : B.length ≤ 100000000) :
    ∃ raw, ltrim raw = dig 1000000000 (lval 1000000000 A * lval 1000000000 B) ∧ callFn (tyOf Tryz.prog) Tryz.timesLv (fnOf Tryz.prog) Tryz.bnO1 (A.length + B.length + 2) 263 [.slice 0 0 A.length none, .slice 1 0 B.length none] [.cells false 1 (iN .u64 A), .cells false 1 (iN .u64 B)] =
      some ⟨.slice 2 0 (ltrim raw).length none, none, [.cells true 1 (iN .u64 raw)]⟩ := by
  have hG : fnOf Tryz.prog 263 = some Tryz.f263 := by kernel_rfl
  obtain ⟨b, b2, b3, hb⟩ : ∃ b b2 b3, loopsF Tryz.f263 = [b, b2, b3] ∧ Tryz.timesLv b = [21] ∧ Tryz.timesLv b2 = [28, 8] ∧ Tryz.timesLv b3 = [11, 8] := ⟨_, _, _, rfl, by decide, by decide, by decide⟩
  obtain ⟨n, hn⟩ : ∃ n, n = A.length + B.length + 1 := ⟨_, rfl⟩
  obtain ⟨F, hF⟩ := Tryz.times_loop1 (O := Tryz.bnO1) (K := A.length + B.length + 2) A B n hA hB (by omega) hn (by omega) hb
  obtain ⟨t1, t2, t3⟩ := lval_times (B := 1000000000) (by omega) hA hB
  rw [← hn] at t1 t2 t3
  obtain ⟨raw, hraw⟩ : ∃ raw, raw = rowsL 1000000000 A B (List.replicate n 0) := ⟨_, rfl⟩
  rw [← hraw] at t1 t2 t3 hF
  refine ⟨raw, by rw [← dig_lval (by omega) t2, t1], ?_⟩
  obtain ⟨hb1, _⟩ := hb
  simp [loopsF, loopsC, Tryz.f263] at hb1
  obtain ⟨hb1, _, _⟩ := hb1
  subst hb1
  obtain ⟨s1, hs1⟩ : ∃ s1 : Nat, s1 = A.length + B.length := ⟨_, rfl⟩
  have w1 : IntKind.i64.wrap ((A.length : Int) + (B.length : Int)) = (s1 : Int) := by rw [wrap_i64 (by omega) (by omega)]; omega
  have w2 : IntKind.i64.wrap ((s1 : Int) + 1) = (n : Int) := by rw [wrap_i64 (by omega) (by omega)]; omega
  have h0 : 0 ≤ (n : Int) := by omega
  have h1 : 8 * (n : Int) ≤ 281474976710656 := by omega
  have h2 : (n : Int) ≤ 281474976710656 := by omega
  have h6 : sliceN .u64 [.cells false 1 (iN .u64 A), .cells false 1 (iN .u64 B), .cells true 1 (iN .u64 raw)] (.slice 2 0 n none) = some raw :=
    sliceN_at rfl (by simp [t3]) (List.take_of_length_le (by simp [t3]))
  have h7 : raw.length ≤ 1000000000 := by omega
  clear hn hs1 hraw
  simp only [mulMem] at hF
  simp [callFn, hG, Tryz.f263, w1, w2, h1, h2, hF, Tryz.bnO1, h6, h7, iN_zcells]
theorem Tryz.aTimesM {M : Mem} {x y : AV} {A B : List Nat} (hA : lok 1000000000 A = true) (hB : lok 1000000000 B = true) (hl : A.length ≤ 100000000) (hl2 : B.length ≤ 100000000) (hx : RowAt .u64 M x A) (hy : RowAt .u64 M y B) :
    ACallsTo Tryz.prog 263 [x, y] M (.slice M.length 0 (dig 1000000000 (lval 1000000000 A * lval 1000000000 B)).length none) (M ++ [.cells true 1 (iN .u64 (dig 1000000000 (lval 1000000000 A * lval 1000000000 B)))]) := by
  obtain ⟨raw, hr, h⟩ := Tryz.times_end A B hA hB hl hl2
  have := (callFn_sound Tryz.mixed (tyOf_ok _) Tryz.bnO1_ok (fnOf_ok _) h).1
  simp only [CallRes.mem, Option.getD_none, List.cons_append, List.nil_append] at this
  have h2 := ACallsTo.trunc (m := [.cells false 1 (iN .u64 A), .cells false 1 (iN .u64 B)]) this (iN_prefix (ltrim_isPrefix _))
  obtain ⟨b, c, rfl, rfl, h3⟩ := ACallsTo.rows2 (new := [.cells true 1 (iN .u64 (ltrim raw))]) rfl h2 hx hy
  rw [hr] at h3
  simpa [AV.ren, back] using h3
end Go.Proofs
