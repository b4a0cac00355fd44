/- Part A42 of a proof: see its last part, YtindglnpfdlbhaaGreatDoorA51.lean. -/
import Derived.Test.YtindglnpfdlbhaaGreatDoorA41
import Derived.Test.YtindglnpfdlbhaaGreatDoorA33
set_option linter.all false
namespace Go.Proofs
open Go.Eng
theorem sgnR_le {a b : Rat} : sgnR (a - b) ≤ 0 ↔ a ≤ b := by
  have h : sgnR (a - b) ≤ 0 ↔ (a - b).num ≤ 0 := by
    unfold sgnR sgnI
    split
    · constructor <;> intro h <;> omega
    · split
      · constructor <;> intro h <;> omega
      · constructor <;> intro h <;> omega
  rw [h]
  have e : a - b = -(b - a) := by grind
  have h2 : 0 ≤ (b - a).num ↔ 0 ≤ b - a := Rat.num_nonneg
  have h3 : (a - b).num = -(b - a).num := by rw [e]; exact Rat.neg_num _
  rw [h3]
  constructor
  · intro h4
    have := h2.1 (by omega)
    grind
  · intro h4
    have := h2.2 (by grind)
    omega
set_option maxHeartbeats 1600000 in
theorem Tryz.knots_loop {K : Nat} (L : List (List UInt8 × List UInt8)) (hL : ∀ k ∈ L, k.1.length ≤ 1000000000 ∧ k.2.length ≤ 1000000000) (hl : L.length ≤ 1000000000) (hK : L.length < K) {b : Code} (hb : loopsF Tryz.f13 = [b]) :
    ∃ F : Env → Bool → Env, ∀ env0 d, (Go.Eng.look env0 0 = .slice 0 0 L.length none ∧ Go.Eng.look env0 3 = .int .i64 0) →
      execC (tyOf Tryz.prog) (fun _ => [3]) (pureO Tryz.rgF12) K 46 1 true (.loop b) ⟨env0, [.cells false 2 (kC L)], d⟩ = some (if ckE none L = 0 then .exit 0 else .ret, ⟨F env0 d, [.cells false 2 (kC L)], d⟩) ∧
        (ckE none L ≠ 0 → Go.Eng.look (F env0 d) 2 = .int .i64 (ckE none L)) := by
  refine loop_rule rfl (fun env0 => (Go.Eng.look env0 0 = .slice 0 0 L.length none ∧ Go.Eng.look env0 3 = .int .i64 0)) (fun _ env' => ckE none L ≠ 0 → Go.Eng.look env' 2 = .int .i64 (ckE none L)) ?_
  rintro env0 d ⟨h0, h3⟩
  simp [loopsF, loopsC, Tryz.f13] at hb
  have hn : normE [3] (writesC b) env0 ((3, .int .i64 ((0 : Nat) : Int)) :: env0) = normE [3] (writesC b) env0 env0 := by simp [normE, h3]
  rw [← hn]
  have kl : (kC L).length = 2 * L.length := kC_length L
  refine iter_ind (α := Nat) (fun n => ⟨normE [3] (writesC b) env0 ((3, .int .i64 (n : Int)) :: env0), [.cells false 2 (kC L)], d⟩) (fun n => L.length - n) (fun n => n ≤ L.length ∧ ∃ p, behind L n p ∧ ckE none L = ckE p (L.drop n)) (if ckE none L = 0 then .exit 0 else .ret) _ d _ (by split <;> simp) ?_ K 0 ⟨by omega, none, .inl ⟨rfl, rfl⟩, by rw [List.drop_zero]⟩ (by omega)
  rintro n ⟨hn1, p, hp, he⟩
  clear hn
  obtain ⟨ops, hops⟩ : ∃ ops, drawsF Tryz.f13 = [ops] := ⟨_, rfl⟩
  have hbs := draws_one hops (l := [0, 1, 3, 7, 7, 31, 63, 127, 7, 7, 519, 1799, 3847, 7943, 16383, 32767, 65535]) (by kernel_rfl)
  have hab : allBef [0, 1, 3, 7, 7, 31, 63, 127, 7, 7, 519, 1799, 3847, 7943, 16383, 32767, 65535] 16 = true := by decide
  simp [drawsF, drawsC, Tryz.f13] at hops
  subst hops
  subst hb
  by_cases hlt : n < L.length
  · obtain ⟨k, hk⟩ : ∃ k, L[n]? = some k := ⟨L[n], List.getElem?_eq_getElem hlt⟩
    obtain ⟨k1, k2, k3⟩ := kC_at hk
    obtain ⟨l1, l2⟩ := hL k (List.mem_of_getElem? hk)
    have hd : L.drop n = k :: L.drop (n + 1) := by
      rw [List.getElem?_eq_some_iff] at hk
      obtain ⟨h1, h2⟩ := hk
      rw [← h2]; exact List.drop_eq_getElem_cons h1
    rw [hd, ckE] at he
    have w1 : IntKind.i64.wrap ((n : Int) + 1) = ((n + 1 : Nat) : Int) := by rw [wrap_i64 (by omega) (by omega)]; omega
    by_cases c1 : chkR k.1 = 0
    · by_cases c2 : chkR k.2 = 0
      · rw [if_pos ⟨c1, c2⟩] at he
        obtain ⟨q, hq, hqs, q1, q2⟩ := chkR_rat c1
        rw [hq] at he
        have q1' : (natD q.num.natAbs).length ≤ 2000 := by omega
        have q2' : (natD q.den).length ≤ 2000 := by omega
        simp only [Option.getD_some] at he
        rcases hp with ⟨rfl, rfl⟩ | ⟨m, r, j, rfl, rfl, hj, hjs, r1, r2⟩
        · rw [if_pos (by rfl)] at he
          left
          refine ⟨1, ?_⟩
          have hz : (0 : Int) < L.length := by omega
          have b1 : behind L 1 (some q) := .inr ⟨0, q, k, rfl, rfl, hk, hqs, q1, q2⟩
          have w3 : IntKind.i64.wrap 1 = 1 := rfl
          simp at k2 k3 hlt
          simp [-runDraw, runDraw_light hbs, runDrawL, lightAll, lightRec, hab, h0, hlt, pureO, Tryz.rgF12, l1, l2, c1, c2, k2, k3, w3, kC_refs, Nat.testBit]
          exact ⟨⟨by omega, _, b1, by simpa using he⟩, by omega⟩
        · obtain ⟨j1, j2, j3⟩ := kC_at hj
          have w2 : IntKind.i64.wrap (((m + 1 : Nat) : Int) - 1) = (m : Int) := by rw [wrap_i64 (by omega) (by omega)]; omega
          have r1' : (natD r.num.natAbs).length ≤ 2000 := by omega
          have r2' : (natD r.den).length ≤ 2000 := by omega
          obtain ⟨n, hn⟩ : ∃ n, n = m + 1 := ⟨_, rfl⟩
          rw [← hn] at hk k1 k2 k3 w1 w2 hlt hn1 he hd ⊢
          have n0 : (0 : Int) < n := by omega
          have n0' : 0 < n := by omega
          have hm : m < L.length := by omega
          rw [hqs] at l1 c1 k2
          rw [hjs] at j2
          have b1 : behind L (n + 1) (some q) := .inr ⟨n, q, k, rfl, rfl, hk, hqs, q1, q2⟩
          obtain ⟨v, hv⟩ : ∃ v, v = n + 1 := ⟨_, rfl⟩
          rw [← hv] at w1 b1 he
          by_cases hrq : r < q
          · have c : ¬ sgnR (q - r) ≤ 0 := fun h => by have := sgnR_le.1 h; grind
            rw [if_pos (by simp [risesB, hrq])] at he
            left
            refine ⟨v, ?_⟩
            simp [-runDraw, runDraw_light hbs, runDrawL, lightAll, lightRec, hab, h0, hlt, hm, n0, n0', pureO, Tryz.rgF12, ratP_ratS, l1, l2, c1, c2, k2, k3, j2, w1, w2, q1', q2', r1', r2', c, kC_refs, Nat.testBit]
            exact ⟨⟨by omega, _, b1, he⟩, by omega⟩
          · have c : sgnR (q - r) ≤ 0 := sgnR_le.2 (by grind)
            rw [if_neg (by simp [risesB, hrq])] at he
            right
            rw [he]
            simp [-runDraw, runDraw_light hbs, runDrawL, lightAll, lightRec, hab, h0, hlt, hm, n0, n0', pureO, Tryz.rgF12, ratP_ratS, l1, l2, c1, c2, k2, k3, j2, w2, q1', q2', r1', r2', c, Nat.testBit]
      · rw [if_neg (fun h => c2 h.2)] at he
        right
        rw [he]
        have c2' : (chkR k.2 == 0) = false := by simpa using c2
        simp [-runDraw, h0, hlt, pureO, Tryz.rgF12, l1, l2, c1, c2', k2, k3]
    · rw [if_neg (fun h => c1 h.1)] at he
      right
      rw [he]
      have c1' : (chkR k.1 == 0) = false := by simpa using c1
      simp [-runDraw, h0, hlt, pureO, Tryz.rgF12, l1, l2, c1', k2, k3]
  · right
    have e : L.drop n = [] := List.drop_of_length_le (by omega)
    rw [e, ckE] at he
    rw [he]
    have hlt' : ¬ (n : Int) < L.length := by omega
    simp [h0, hlt]
theorem Tryz.aKnots (L : List (List UInt8 × List UInt8)) (hL : ∀ k ∈ L, k.1.length ≤ 1000000000 ∧ k.2.length ≤ 1000000000) (hl : L.length ≤ 1000000000) :
    ACallsTo Tryz.prog 13 [.slice 0 0 L.length none] [.cells false 2 (kC L)] (.int .i64 (knE L)) [.cells false 2 (kC L)] := by
  have hG : fnOf Tryz.prog 13 = some Tryz.f13 := by kernel_rfl
  obtain ⟨b, hb⟩ : ∃ b, loopsF Tryz.f13 = [b] := ⟨_, rfl⟩
  obtain ⟨F, hF⟩ := Tryz.knots_loop (K := L.length + 1) L hL hl (by omega) hb
  simp [loopsF, loopsC, Tryz.f13] at hb
  subst hb
  have h : callFn (tyOf Tryz.prog) (fun _ => [3]) (fnOf Tryz.prog) (pureO Tryz.rgF12) (L.length + 1) 13 [.slice 0 0 L.length none] [.cells false 2 (kC L)] = some ⟨.int .i64 (knE L), none, []⟩ := by
    unfold knE
    by_cases h20 : 20 < L.length
    · rw [if_pos h20]
      have h20I : (20 : Int) < L.length := by omega
      simp [callFn, hG, Tryz.f13, h20I, h20]
    · rw [if_neg h20]
      have h20I : ¬ (20 : Int) < L.length := by omega
      by_cases hc : ckE none L = 0
      · rw [if_pos hc] at hF
        have hF1 := fun env0 d h => (hF env0 d h).1
        clear hF
        simp [callFn, hG, Tryz.f13, h20I, h20, hF1, kC_refs, hc]
      · rw [if_neg hc] at hF
        have hF1 := fun env0 d h => (hF env0 d h).1
        have hF3 := fun env0 d h => (hF env0 d h).2 hc
        clear hF
        simp [callFn, hG, Tryz.f13, h20I, h20, hF1, hF3, kC_refs]
  have := (callFn_sound Tryz.mixed (tyOf_ok _) Tryz.rg12_ok (fnOf_ok _) h).1
  simpa [CallRes.mem] using this
theorem Tryz.aKnotsNil (M : Mem) : ACallsTo Tryz.prog 13 [.nilslice] M (.int .i64 0) M := by
  have hG : fnOf Tryz.prog 13 = some Tryz.f13 := by kernel_rfl
  refine Tryz.run (noOracle_ok _) (lv := fun _ => [3]) (K := 1) rfl rfl ?_ M
  simp [callFn, hG, Tryz.f13, execC_loop, iter]
end Go.Proofs
namespace Go.Proofs
open Go.Eng
noncomputable def Tryz.lvF : FuncId → List AV → Option AV := Tryz.rgF12
def meets (u : Rat) (l : List (Rat × Rat)) : Bool := l.any fun q => decide (u ≤ q.1)
theorem lawL_last {u : Rat} : ∀ {l : List (Rat × Rat)} {a : Rat × Rat}, meets u l = false → lawL u a l = ((a :: l).getLast (by simp)).2
  | [], a, _ => rfl
  | b :: l, a, h => by
    simp only [meets, List.any_cons, Bool.or_eq_false_iff, decide_eq_false_iff_not] at h
    rw [lawL, if_neg h.1, List.getLast_cons (by simp)]
    exact lawL_last h.2
def valOk (Q : List (Rat × Rat)) (u : Rat) : Prop := bigK 40 Q ∧ big 40 u ∧ asc Q ∧ Q.length ≤ 1000000000
set_option maxHeartbeats 4000000 in
set_option maxRecDepth 100000 in
theorem Tryz.value_loop {K : Nat} (Q : List (Rat × Rat)) (u : Rat) (h : valOk Q u) (hp : 0 < Q.length) (hK : Q.length < K) (hfirst : ¬ u ≤ (Q.getD 0 (0, 0)).1) {b : Code} (hb : loopsF Tryz.f15 = [b]) :
    ∃ F : Env → Bool → Env, ∀ env0 d, (Go.Eng.look env0 0 = .slice 0 0 Q.length none ∧ Go.Eng.look env0 1 = .str (ratS u) ∧ Go.Eng.look env0 5 = .int .i64 1) →
      execC (tyOf Tryz.prog) (fun _ => [5]) (pureO Tryz.rgF12) K 84 1 true (.loop b) ⟨env0, [.cells false 2 (kC (kT Q))], d⟩ = some (if meets u (Q.drop 1) = true then .ret else .exit 0, ⟨F env0 d, [.cells false 2 (kC (kT Q))], d⟩) ∧
        (meets u (Q.drop 1) = true → Go.Eng.look (F env0 d) 4 = .str (ratS (lawV u Q))) ∧ (meets u (Q.drop 1) = false → Go.Eng.look (F env0 d) 0 = .slice 0 0 Q.length none) := by
  refine loop_rule rfl (fun env0 => Go.Eng.look env0 0 = .slice 0 0 Q.length none ∧ Go.Eng.look env0 1 = .str (ratS u) ∧ Go.Eng.look env0 5 = .int .i64 1) (fun _ env' => (meets u (Q.drop 1) = true → Go.Eng.look env' 4 = .str (ratS (lawV u Q))) ∧ (meets u (Q.drop 1) = false → Go.Eng.look env' 0 = .slice 0 0 Q.length none)) ?_
  rintro env0 d ⟨h0, h1, h5⟩
  obtain ⟨hQ, hu, ha, hl⟩ := h
  simp [loopsF, loopsC, Tryz.f15] at hb
  have hn : normE [5] (writesC b) env0 ((5, .int .i64 ((1 : Nat) : Int)) :: env0) = normE [5] (writesC b) env0 env0 := by simp [normE, h5]
  rw [← hn]
  have kl : (kC (kT Q)).length = 2 * Q.length := by rw [kC_length, kT_length]
  obtain ⟨q0, hq0⟩ : ∃ q, Q[0]? = some q := ⟨Q[0], List.getElem?_eq_getElem hp⟩
  rw [getD_of hq0] at hfirst
  have hlaw : lawV u Q = lawL u q0 (Q.drop 1) := by
    cases Q with
    | nil => simp at hp
    | cons a l =>
      simp at hq0; subst hq0
      simp only [lawV, if_neg hfirst]; rfl
  refine iter_ind (α := Nat) (fun n => ⟨normE [5] (writesC b) env0 ((5, .int .i64 (n : Int)) :: env0), [.cells false 2 (kC (kT Q))], d⟩) (fun n => Q.length - n)
    (fun n => ∃ m a, n = m + 1 ∧ n ≤ Q.length ∧ Q[m]? = some a ∧ lawV u Q = lawL u a (Q.drop n) ∧ meets u (Q.drop 1) = meets u (Q.drop n)) (if meets u (Q.drop 1) = true then .ret else .exit 0) _ d _ (by split <;> simp) ?_ K 1 ⟨0, q0, rfl, by omega, hq0, hlaw, rfl⟩ (by omega)
  rintro n ⟨m, a, hnm, hnl, hma, hlw, hme⟩
  clear hn
  obtain ⟨ops, ops2, hops⟩ : ∃ ops ops2, drawsF Tryz.f15 = [ops, ops2] := ⟨_, _, rfl⟩
  have hbs : befores ops.toList = [0, 0, 0, 4, 14, 30, 62, 127, 0, 0, 768, 1792, 3840, 0, 0, 16384, 57344, 122880, 253952, 524287, 1048575, 2097151] ∧ befores ops2.toList = [0, 0, 2, 7, 15, 31, 0, 0, 0, 384, 896, 1920, 0, 0, 8192, 28672, 61440, 126976, 262016, 524224, 1048575, 2097151] := by
    have : (drawsF Tryz.f15).map (fun o => befores o.toList) = [[0, 0, 0, 4, 14, 30, 62, 127, 0, 0, 768, 1792, 3840, 0, 0, 16384, 57344, 122880, 253952, 524287, 1048575, 2097151], [0, 0, 2, 7, 15, 31, 0, 0, 0, 384, 896, 1920, 0, 0, 8192, 28672, 61440, 126976, 262016, 524224, 1048575, 2097151]] := by kernel_rfl
    rw [hops] at this
    simpa using this
  obtain ⟨hbs1, hbs2⟩ := hbs
  have hab1 : allBef [0, 0, 0, 4, 14, 30, 62, 127, 0, 0, 768, 1792, 3840, 0, 0, 16384, 57344, 122880, 253952, 524287, 1048575, 2097151] 21 = true := by decide
  have hab2 : allBef [0, 0, 2, 7, 15, 31, 0, 0, 0, 384, 896, 1920, 0, 0, 8192, 28672, 61440, 126976, 262016, 524224, 1048575, 2097151] 21 = true := by decide
  simp [drawsF, drawsC, Tryz.f15] at hops
  obtain ⟨hops1, hops2⟩ := hops
  subst hops1 hops2
  subst hb
  by_cases hlt : n < Q.length
  · obtain ⟨c, hc⟩ : ∃ k, Q[n]? = some k := ⟨Q[n], List.getElem?_eq_getElem hlt⟩
    obtain ⟨a1, a2, a3⟩ := kC_at (kT_at hma)
    obtain ⟨k1, k2, k3⟩ := kC_at (kT_at hc)
    have hd : Q.drop n = c :: Q.drop (n + 1) := by
      rw [List.getElem?_eq_some_iff] at hc
      obtain ⟨h1, h2⟩ := hc
      rw [← h2]; exact List.drop_eq_getElem_cons h1
    have hac := asc_get ha m a c hma (by rw [← hnm]; exact hc)
    obtain ⟨A1, A2⟩ := hQ a (List.mem_of_getElem? hma)
    obtain ⟨C1, C2⟩ := hQ c (List.mem_of_getElem? hc)
    rw [hd, lawL] at hlw
    rw [hd] at hme
    have hm2 : meets u (c :: Q.drop (n + 1)) = (decide (u ≤ c.1) || meets u (Q.drop (n + 1))) := rfl
    rw [hm2] at hme
    have w1 : IntKind.i64.wrap ((n : Int) + 1) = ((n + 1 : Nat) : Int) := by rw [wrap_i64 (by omega) (by omega)]; omega
    have w2 : IntKind.i64.wrap ((n : Int) - 1) = (m : Int) := by rw [wrap_i64 (by omega) (by omega)]; omega
    have hml : m < Q.length := by omega
    have f2 : ∀ {q : Rat}, big 1000 q → (natD q.num.natAbs).length ≤ 2000 ∧ (natD q.den).length ≤ 2000 := fun hq => by
      have h1 := natD_length_big (by decide) hq.1
      have h2 := natD_length_big (by decide) hq.2
      exact ⟨by omega, by omega⟩
    obtain ⟨u1, u2⟩ := f2 (hu.mono (by decide))
    obtain ⟨c1, c2⟩ := f2 (C1.mono (by decide))
    obtain ⟨v, hv⟩ : ∃ v, v = n + 1 := ⟨_, rfl⟩
    rw [← hv] at w1 hme hlw
    by_cases hle : u ≤ c.1
    · right
      rw [if_pos hle] at hlw
      have hs : sgnR (u - c.1) ≤ 0 := sgnR_le.2 hle
      have hme1 : meets u (Q.drop 1) = true := by rw [hme]; simp [hle]
      have D1 := big_sub hu A1
      have D2 := big_sub C1 A1
      have D3 := big_div D1 D2
      have D4 := big_sub C2 A2
      have D5 := big_mul D3 (D4.mono (by decide))
      obtain ⟨p1, p2⟩ := f2 (A1.mono (by decide))
      obtain ⟨p3, p4⟩ := f2 (A2.mono (by decide))
      obtain ⟨p5, p6⟩ := f2 (C2.mono (by decide))
      obtain ⟨p7, p8⟩ := f2 (D1.mono (by decide))
      obtain ⟨p9, p10⟩ := f2 (D2.mono (by decide))
      obtain ⟨p11, p12⟩ := f2 (D3.mono (by decide))
      obtain ⟨p13, p14⟩ := f2 (D4.mono (by decide))
      obtain ⟨p15, p16⟩ := f2 (D5.mono (by decide))
      have hy0 : c.1 - a.1 ≠ 0 := by grind
      have hyp : 0 < c.1 - a.1 := by grind
      clear D1 D2 D3 D4 D5 A1 A2 C1 C2
      obtain ⟨x, hx⟩ : ∃ x, x = u - a.1 := ⟨_, rfl⟩
      obtain ⟨y, hy⟩ : ∃ y, y = c.1 - a.1 := ⟨_, rfl⟩
      obtain ⟨z, hz⟩ : ∃ z, z = c.2 - a.2 := ⟨_, rfl⟩
      rw [← hx] at p7 p8 p11 p12 p15 p16 hlw
      rw [← hy] at p9 p10 p11 p12 p15 p16 hlw hy0 hyp
      rw [← hz] at p13 p14 p15 p16 hlw
      have hyn : 0 < y.num := by
        have h1 : 0 ≤ (-y).num ↔ 0 ≤ -y := Rat.num_nonneg
        have h2 : (-y).num = -y.num := Rat.neg_num _
        rw [h2] at h1
        have h3 : ¬ 0 ≤ -y := by grind
        have := mt h1.1 h3
        omega
      obtain ⟨k, hk⟩ : ∃ k, k = x / y := ⟨_, rfl⟩
      rw [← hk] at p11 p12 p15 p16 hlw
      obtain ⟨t, ht⟩ : ∃ t, t = k * z := ⟨_, rfl⟩
      rw [← ht] at p15 p16 hlw
      rw [hme1, hlw]
      simp [-runDraw, runDraw_light hbs1, runDraw_light hbs2, runDrawL, lightAll, lightRec, hab1, hab2, h0, h1, hlt, hml, pureO, Tryz.rgF12, Tryz.rgF11, Tryz.rgF10, ratP_ratS, u1, u2, c1, c2, k2, k3, a2, a3, w2, hs, ← hx, ← hy, ← hz, ← hk, ← ht, p1, p2, p3, p4, p5, p6, p7, p8, p9, p10, p11, p12, p13, p14, p15, p16, hyn, Nat.testBit]
    · left
      rw [if_neg hle] at hlw
      have hs : ¬ sgnR (u - c.1) ≤ 0 := fun h => hle (sgnR_le.1 h)
      refine ⟨v, ?_⟩
      simp [-runDraw, h0, h1, hlt, pureO, Tryz.rgF12, ratP_ratS, u1, u2, c1, c2, k2, k3, w1, hs, kC_refs]
      refine ⟨⟨n, by omega, by omega, c.1, c.2, hc, hlw, ?_⟩, by omega⟩
      rw [← List.drop_one, hme]
      simp [hle]
  · right
    have e : Q.drop n = [] := List.drop_of_length_le (by omega)
    rw [e] at hme
    have hme0 : meets u (Q.drop 1) = false := hme
    rw [hme0]
    simp [-runDraw, h0, hlt]
set_option maxHeartbeats 4000000 in
set_option maxRecDepth 100000 in
theorem Tryz.aValueLaw (Q : List (Rat × Rat)) (u : Rat) (h : valOk Q u) :
    ACallsTo Tryz.prog 15 [.slice 0 0 Q.length none, .str (ratS u)] [.cells false 2 (kC (kT Q))] (.str (ratS (lawV u Q))) [.cells false 2 (kC (kT Q))] := by
  have hG : fnOf Tryz.prog 15 = some Tryz.f15 := by kernel_rfl
  have z : ratS 0 = [48] := rfl
  have kl : (kC (kT Q)).length = 2 * Q.length := by rw [kC_length, kT_length]
  have f2 : ∀ {q : Rat}, big 1000 q → (natD q.num.natAbs).length ≤ 2000 ∧ (natD q.den).length ≤ 2000 := fun hq => by
    have h1 := natD_length_big (by decide) hq.1
    have h2 := natD_length_big (by decide) hq.2
    exact ⟨by omega, by omega⟩
  have hr : callFn (tyOf Tryz.prog) (fun _ => [5]) (fnOf Tryz.prog) (pureO Tryz.rgF12) (Q.length + 1) 15 [.slice 0 0 Q.length none, .str (ratS u)] [.cells false 2 (kC (kT Q))] = some ⟨.str (ratS (lawV u Q)), none, []⟩ := by
    by_cases h0 : Q = []
    · subst h0
      simp [callFn, hG, Tryz.f15, lawV, z, -runDraw]
    · have hp : 0 < Q.length := List.length_pos_iff.2 h0
      have hp' : ¬ Q.length = 0 := by omega
      obtain ⟨a, ha⟩ : ∃ q, Q[0]? = some q := ⟨Q[0], List.getElem?_eq_getElem hp⟩
      obtain ⟨k1, k2, k3⟩ := kC_at (kT_at ha)
      simp at k2 k3
      obtain ⟨A1, A2⟩ := h.1 a (List.mem_of_getElem? ha)
      obtain ⟨u1, u2⟩ := f2 (h.2.1.mono (by decide))
      obtain ⟨a1, a2⟩ := f2 (A1.mono (by decide))
      by_cases hle : u ≤ a.1
      · have hs : sgnR (u - a.1) ≤ 0 := sgnR_le.2 hle
        have hlaw : lawV u Q = a.2 := by
          cases Q with
          | nil => exact absurd rfl h0
          | cons b l => simp at ha; subst ha; simp only [lawV, if_pos hle]
        rw [hlaw]
        simp [callFn, hG, Tryz.f15, -runDraw, h0, hp, hp', pureO, Tryz.rgF12, ratP_ratS, u1, u2, a1, a2, k2, k3, hs]
      · have hs : ¬ sgnR (u - a.1) ≤ 0 := fun h => hle (sgnR_le.1 h)
        obtain ⟨b, hb⟩ : ∃ b, loopsF Tryz.f15 = [b] := ⟨_, rfl⟩
        obtain ⟨F, hF⟩ := Tryz.value_loop (K := Q.length + 1) Q u h hp (by omega) (by rw [getD_of ha]; exact hle) hb
        simp [loopsF, loopsC, Tryz.f15] at hb
        subst hb
        cases hm : meets u (Q.drop 1) with
        | true =>
          rw [hm, if_pos rfl] at hF
          have hF1 := fun env0 d h => (hF env0 d h).1
          have hF2 := fun env0 d h => (hF env0 d h).2.1 rfl
          clear hF
          simp [callFn, hG, Tryz.f15, -runDraw, h0, hp, hp', pureO, Tryz.rgF12, ratP_ratS, u1, u2, a1, a2, k2, k3, hs, hF1, hF2]
        | false =>
          rw [hm, if_neg (by simp)] at hF
          have hF1 := fun env0 d h => (hF env0 d h).1
          have hF2 := fun env0 d h => (hF env0 d h).2.2 rfl
          clear hF
          obtain ⟨n, hn⟩ : ∃ n, Q.length = n + 1 := ⟨Q.length - 1, by omega⟩
          obtain ⟨c, hc⟩ : ∃ q, Q[n]? = some q := ⟨Q[n], List.getElem?_eq_getElem (by omega)⟩
          obtain ⟨c1, c2, c3⟩ := kC_at (kT_at hc)
          have w1 : IntKind.i64.wrap ((Q.length : Int) - 1) = (n : Int) := by rw [wrap_i64 (by have := h.2.2.2; omega) (by have := h.2.2.2; omega)]; omega
          have hnl : n < Q.length := by omega
          have hlaw : lawV u Q = c.2 := by
            cases Q with
            | nil => exact absurd rfl h0
            | cons b l =>
              simp at ha; subst ha
              simp only [lawV, if_neg hle]
              rw [lawL_last (by simpa using hm)]
              have : (b :: l).getLast? = some c := by rw [List.getLast?_eq_getElem?, hn]; exact hc
              rw [List.getLast?_eq_some_getLast (by simp)] at this
              rw [Option.some.inj this]
          rw [hlaw]
          simp [callFn, hG, Tryz.f15, -runDraw, h0, hp, hp', pureO, Tryz.rgF12, ratP_ratS, u1, u2, a1, a2, k2, k3, hs, hF1, hF2, w1, hnl, c3]
  have := (callFn_sound Tryz.mixed (tyOf_ok _) Tryz.rg12_ok (fnOf_ok _) hr).1
  simpa [CallRes.mem] using this
theorem Tryz.aValueLawNil (u : List UInt8) (M : Mem) : ACallsTo Tryz.prog 15 [.nilslice, .str u] M (.str [48]) M := by
  have hG : fnOf Tryz.prog 15 = some Tryz.f15 := by kernel_rfl
  refine Tryz.run (noOracle_ok _) (lv := fun _ => [5]) (K := 1) rfl rfl ?_ M
  simp [callFn, hG, Tryz.f15, -runDraw]
end Go.Proofs
