/- Part A36 of a proof: see its last part, YtiopbpbcgccngaaGreatDoorA47.lean. -/
import Derived.Test.YtiopbpbcgccngaaGreatDoorA12
import Derived.Test.YtiopbpbcgccngaaGreatDoorA35
import Derived.Test.YtiopbpbcgccngaaGreatDoorA31
set_option linter.all false
namespace Go.Proofs
open Go.Eng
def aheadB (p : Option Rat) (a : Rat) : Bool := match p with
  | some q => decide (a < q)
  | none => false
def ivE (p : Option Rat) (x : Iv) : Int :=
  if x.1 ≠ [] ∧ isNameB x.1 = false then 8
  else if chkR x.2.1 = 0 ∧ chkR x.2.2 = 0 then
    (if sgnR ((ratP x.2.1).getD 0) < 0 then 3
     else if (ratP x.2.2).getD 0 ≤ (ratP x.2.1).getD 0 ∨ aheadB p ((ratP x.2.1).getD 0) = true then 6 else 0)
  else 2
def logE (p : Option Rat) : List Iv → Int
  | [] => 0
  | x :: l => if ivE p x = 0 then logE (ratP x.2.2) l else ivE p x
def endAt (n : Nat) (p : Option Rat) (e : List UInt8) : Prop :=
  (n = 0 ∧ p = none) ∨ (0 < n ∧ ∃ q, p = some q ∧ e = ratS q ∧ (natD q.num.natAbs).length ≤ 200 ∧ (natD q.den).length ≤ 200)
noncomputable def Tryz.w5F (f : FuncId) (args : List AV) : Option AV :=
  match f, args with
  | 54, [.str s] => if s.length ≤ 1000000000 then some (.bool (isNameB s)) else none
  | f, args => Tryz.ratF4 f args
theorem Tryz.w5_ok : OracleOk Tryz.prog (pureO Tryz.w5F) := pureO_ok fun f args v h mem => by
  unfold Tryz.w5F at h
  split at h
  · split at h
    · rename_i hc; cases h; exact Tryz.aIsName _ hc mem
    · cases h
  · have := Tryz.rat4_ok.fn _ _ mem ⟨v, none, []⟩ (by unfold pureO; simp only; rw [h])
    simpa [CallRes.mem] using this
def shortIv (L : List Iv) : Prop := ∀ x ∈ L, x.1.length ≤ 1000000000 ∧ x.2.1.length ≤ 1000000000 ∧ x.2.2.length ≤ 1000000000
set_option maxHeartbeats 6400000 in
theorem Tryz.log_loop {K : Nat} (L : List Iv) (hL : shortIv L) (hl : L.length ≤ 1000000000) (hK : L.length < K) {b : Code} (hb : loopsF Tryz.f29 = [b]) :
    ∃ F : Env → Bool → Env × Mem × Iv, ∀ env0 d, (Go.Eng.look env0 3 = .str [48] ∧ Go.Eng.look env0 9 = .slice 0 0 L.length none ∧ Go.Eng.look env0 10 = .int .i64 L.length ∧ Go.Eng.look env0 11 = .int .i64 0) →
      execC (tyOf Tryz.prog) (fun _ => [3, 11]) (pureO Tryz.w5F) K 63 1 true (.loop b) ⟨env0, [.cells false 3 (ivC L)], d⟩ = some (if logE none L = 0 then .exit 0 else .ret, ⟨(F env0 d).1, (F env0 d).2.1, d⟩) ∧
        ((logE none L = 0 → (F env0 d).2.1 = [.cells false 3 (ivC L)]) ∧ (logE none L ≠ 0 → (F env0 d).2.1 = [.cells false 3 (ivC L), .cells true 0 [.str (F env0 d).2.2.1, .str (F env0 d).2.2.2.1, .str (F env0 d).2.2.2.2]] ∧ Go.Eng.look (F env0 d).1 2 = .int .i64 (logE none L))) := by
  refine loop_rule_m (β := Iv) rfl (fun env0 => Go.Eng.look env0 3 = .str [48] ∧ Go.Eng.look env0 9 = .slice 0 0 L.length none ∧ Go.Eng.look env0 10 = .int .i64 L.length ∧ Go.Eng.look env0 11 = .int .i64 0) (fun _ env' mem' x => (logE none L = 0 → mem' = [.cells false 3 (ivC L)]) ∧ (logE none L ≠ 0 → mem' = [.cells false 3 (ivC L), .cells true 0 [.str x.1, .str x.2.1, .str x.2.2]] ∧ Go.Eng.look env' 2 = .int .i64 (logE none L))) ?_
  rintro env0 d ⟨h3, h9, h10, h11⟩
  simp [loopsF, loopsC, Tryz.f29] at hb
  have hn : normE [3, 11] (writesC b) env0 ((3, .str [48]) :: (11, .int .i64 ((0 : Nat) : Int)) :: env0) = normE [3, 11] (writesC b) env0 env0 := by simp [normE, h3, h11]
  rw [← hn]
  have kl : (ivC L).length = L.length * 3 := ivC_length L
  refine iter_ind_m (α := Nat × List UInt8) (fun s => ⟨normE [3, 11] (writesC b) env0 ((3, .str s.2) :: (11, .int .i64 (s.1 : Int)) :: env0), [.cells false 3 (ivC L)], d⟩) (fun s => L.length - s.1) (fun s => s.1 ≤ L.length ∧ ∃ p, endAt s.1 p s.2 ∧ logE none L = logE p (L.drop s.1)) (if logE none L = 0 then .exit 0 else .ret) d (fun env' mem' => ∃ x : Iv, (logE none L = 0 → mem' = [.cells false 3 (ivC L)]) ∧ (logE none L ≠ 0 → mem' = [.cells false 3 (ivC L), .cells true 0 [.str x.1, .str x.2.1, .str x.2.2]] ∧ Go.Eng.look env' 2 = .int .i64 (logE none L))) (by split <;> simp) ?_ K (0, [48]) ⟨by simp, none, .inl ⟨rfl, rfl⟩, by rw [List.drop_zero]⟩ (by simp only; omega)
  rintro ⟨n, e⟩ ⟨hn1, p, hp, he⟩
  simp only at hn1 hp he ⊢
  clear hn
  subst hb
  by_cases hlt : n < L.length
  · obtain ⟨k, hk⟩ : ∃ k, L[n]? = some k := ⟨L[n], List.getElem?_eq_getElem hlt⟩
    obtain ⟨k1, k2, k3, k4⟩ := ivC_at hk
    obtain ⟨l1, l2, l3⟩ := hL k (List.mem_of_getElem? hk)
    have hd : L.drop n = k :: L.drop (n + 1) := by
      rw [List.getElem?_eq_some_iff] at hk
      obtain ⟨h1, h2⟩ := hk
      rw [← h2]; exact List.drop_eq_getElem_cons h1
    rw [hd, logE] at he
    have w1 : IntKind.i64.wrap ((n : Int) + 1) = ((n + 1 : Nat) : Int) := by rw [wrap_i64 (by omega) (by omega)]; omega
    have k5 : n * 3 + 3 ≤ (ivC L).length := by omega
    obtain ⟨u, f, t⟩ := k
    simp only at k1 k2 k3 k4 l1 l2 l3
    obtain ⟨v, hv⟩ : ∃ v, v = n + 1 := ⟨_, rfl⟩
    rw [← hv] at w1 he
    by_cases hu : u ≠ [] ∧ isNameB u = false
    · right
      have h8 : ivE p (u, f, t) = 8 := by unfold ivE; rw [if_pos hu]
      rw [h8, if_neg (by decide)] at he
      rw [he]
      have u1 : (u == []) = false := by simpa using hu.1
      have u2 := hu.2
      simp [h9, h10, hlt, k1, k5, pureO, Tryz.w5F, l1, u1, u2, Nat.testBit]
      exact ⟨_, _, ⟨rfl, rfl⟩, ⟨u, f, t, rfl⟩, rfl⟩
    · have hus : ((u == []) = true ∧ True) ∨ ((u == []) = false ∧ isNameB u = true) := by
        by_cases h0 : u = []
        · exact .inl ⟨by simpa using h0, trivial⟩
        · refine .inr ⟨by simpa using h0, ?_⟩
          cases hb : isNameB u with
          | true => rfl
          | false => exact absurd ⟨h0, hb⟩ hu
      by_cases c1 : chkR f = 0
      · by_cases c2 : chkR t = 0
        · obtain ⟨a, ha, has, a1, a2⟩ := chkR_rat c1
          obtain ⟨z, hz, hzs, z1, z2⟩ := chkR_rat c2
          have a1' : (natD a.num.natAbs).length ≤ 40000 := by omega
          have a2' : (natD a.den).length ≤ 40000 := by omega
          have z1' : (natD z.num.natAbs).length ≤ 40000 := by omega
          have z2' : (natD z.den).length ≤ 40000 := by omega
          have hE : ivE p (u, f, t) = if sgnR a < 0 then 3 else if z ≤ a ∨ aheadB p a = true then 6 else 0 := by
            unfold ivE; rw [if_neg hu]; simp only [c1, c2, and_self, if_true, ha, hz, Option.getD_some]
          simp only [hz] at he
          subst has hzs
          have b1 : endAt v (some z) (ratS z) := .inr ⟨by omega, z, rfl, rfl, z1, z2⟩
          by_cases hs : sgnR a < 0
          · right
            rw [show ivE p (u, ratS a, ratS z) = 3 by rw [hE, if_pos hs], if_neg (by decide)] at he
            rw [he]
            rcases hus with ⟨u1, u2⟩ | ⟨u1, u2⟩
            all_goals
              simp [h9, h10, hlt, k1, k5, pureO, Tryz.w5F, Tryz.ratF4, Tryz.ratF3, Tryz.ratF2, Tryz.ratF1, ratP_ratS, l1, l2, l3, u1, u2, c1, c2, hs, Nat.testBit]
              exact ⟨_, _, ⟨rfl, rfl⟩, ⟨_, _, _, rfl⟩, rfl⟩
          · rw [if_neg hs] at hE
            have hp' : (aheadB p a = true ∧ 0 < n ∧ ∃ q, e = ratS q ∧ cmpQ a q < 0 ∧ (natD q.num.natAbs).length ≤ 40000 ∧ (natD q.den).length ≤ 40000) ∨ (aheadB p a = false ∧ 0 < n ∧ ∃ q, e = ratS q ∧ ¬ cmpQ a q < 0 ∧ (natD q.num.natAbs).length ≤ 40000 ∧ (natD q.den).length ≤ 40000) ∨ (aheadB p a = false ∧ n = 0) := by
              rcases hp with ⟨rfl, rfl⟩ | ⟨h0, q, rfl, rfl, q1, q2⟩
              · exact .inr (.inr ⟨rfl, rfl⟩)
              · by_cases haq : a < q
                · exact .inl ⟨by simp [aheadB, haq], h0, q, rfl, cmpQ_lt.2 haq, by omega, by omega⟩
                · exact .inr (.inl ⟨by simp [aheadB, haq], h0, q, rfl, fun h => haq (cmpQ_lt.1 h), by omega, by omega⟩)
            by_cases hza : z ≤ a
            · right
              have c3 : cmpQ z a ≤ 0 := cmpQ_le.2 hza
              rw [show ivE p (u, ratS a, ratS z) = 6 by rw [hE, if_pos (.inl hza)], if_neg (by decide)] at he
              rw [he]
              rcases hus with ⟨u1, u2⟩ | ⟨u1, u2⟩
              all_goals
                simp [h9, h10, hlt, k1, k5, pureO, Tryz.w5F, Tryz.ratF4, Tryz.ratF3, Tryz.ratF2, Tryz.ratF1, ratP_ratS, l1, l2, l3, u1, u2, c1, c2, hs, a1', a2', z1', z2', c3, Nat.testBit]
                exact ⟨_, _, ⟨rfl, rfl⟩, ⟨_, _, _, rfl⟩, rfl⟩
            · have c3 : ¬ cmpQ z a ≤ 0 := fun h => hza (cmpQ_le.1 h)
              rcases hp' with ⟨g1, n0, q, rfl, g2, q1, q2⟩ | ⟨g1, n0, q, rfl, g2, q1, q2⟩ | ⟨g1, rfl⟩
              · right
                have n0' : (0 : Int) < n := by omega
                rw [show ivE p (u, ratS a, ratS z) = 6 by rw [hE, if_pos (.inr g1)], if_neg (by decide)] at he
                rw [he]
                rcases hus with ⟨u1, u2⟩ | ⟨u1, u2⟩
                all_goals
                  simp [h9, h10, hlt, k1, k5, pureO, Tryz.w5F, Tryz.ratF4, Tryz.ratF3, Tryz.ratF2, Tryz.ratF1, ratP_ratS, l1, l2, l3, u1, u2, c1, c2, hs, a1', a2', z1', z2', c3, n0, n0', g2, q1, q2, Nat.testBit]
                  exact ⟨_, _, ⟨rfl, rfl⟩, ⟨_, _, _, rfl⟩, rfl⟩
              · left
                have n0' : (0 : Int) < n := by omega
                rw [show ivE p (u, ratS a, ratS z) = 0 by rw [hE, if_neg (by rw [g1]; simp [hza])], if_pos rfl] at he
                refine ⟨(v, ratS z), ?_⟩
                rcases hus with ⟨u1, u2⟩ | ⟨u1, u2⟩
                all_goals
                  simp [h9, h10, hlt, k1, k5, pureO, Tryz.w5F, Tryz.ratF4, Tryz.ratF3, Tryz.ratF2, Tryz.ratF1, ratP_ratS, l1, l2, l3, u1, u2, c1, c2, hs, a1', a2', z1', z2', c3, n0, n0', g2, q1, q2, w1, ivC_refs, Nat.testBit]
                  exact ⟨⟨by omega, _, b1, by simpa using he⟩, by omega⟩
              · left
                rw [show ivE p (u, ratS a, ratS z) = 0 by rw [hE, if_neg (by rw [g1]; simp [hza])], if_pos rfl] at he
                have hv1 : v = 1 := by omega
                subst hv1
                have wz : IntKind.i64.wrap 1 = 1 := rfl
                have hp0 : 0 < L.length := by omega
                simp at k1 k5
                refine ⟨(1, ratS z), ?_⟩
                rcases hus with ⟨u1, u2⟩ | ⟨u1, u2⟩
                all_goals
                  simp [h9, h10, hp0, k1, k5, pureO, Tryz.w5F, Tryz.ratF4, Tryz.ratF3, Tryz.ratF2, Tryz.ratF1, ratP_ratS, l1, l2, l3, u1, u2, c1, c2, hs, a1', a2', z1', z2', c3, wz, ivC_refs, Nat.testBit]
                  exact ⟨⟨by omega, _, b1, by simpa using he⟩, by omega⟩
        · right
          have h2 : ivE p (u, f, t) = 2 := by unfold ivE; rw [if_neg hu, if_neg (fun h => c2 h.2)]
          rw [h2, if_neg (by decide)] at he
          rw [he]
          rcases hus with ⟨u1, u2⟩ | ⟨u1, u2⟩
          all_goals
            simp [h9, h10, hlt, k1, k5, pureO, Tryz.w5F, Tryz.ratF4, l1, l2, l3, u1, u2, c1, c2, Nat.testBit]
            exact ⟨_, _, ⟨rfl, rfl⟩, ⟨u, f, t, rfl⟩, rfl⟩
      · right
        have h2 : ivE p (u, f, t) = 2 := by unfold ivE; rw [if_neg hu, if_neg (fun h => c1 h.1)]
        rw [h2, if_neg (by decide)] at he
        rw [he]
        rcases hus with ⟨u1, u2⟩ | ⟨u1, u2⟩
        all_goals
          simp [h9, h10, hlt, k1, k5, pureO, Tryz.w5F, Tryz.ratF4, l1, l2, l3, u1, u2, c1, Nat.testBit]
          exact ⟨_, _, ⟨rfl, rfl⟩, ⟨u, f, t, rfl⟩, rfl⟩
  · right
    have e' : L.drop n = [] := List.drop_of_length_le (by omega)
    rw [e', logE] at he
    rw [he]
    simp [h10, hlt]
end Go.Proofs
namespace Go.Proofs
open Go.Eng
def logR (L : List Iv) : Int := if 200 < L.length then 4 else logE none L
theorem Tryz.aLogP (L : List Iv) (hL : shortIv L) (hl : L.length ≤ 1000000000) :
    ACallsTo Tryz.prog 29 [.slice 0 0 L.length none] [.cells false 3 (ivC L)] (.int .i64 (logR L)) [.cells false 3 (ivC L)] := by
  have hG : fnOf Tryz.prog 29 = some Tryz.f29 := by kernel_rfl
  obtain ⟨b, hb⟩ : ∃ b, loopsF Tryz.f29 = [b] := ⟨_, rfl⟩
  obtain ⟨F, hF⟩ := Tryz.log_loop (K := L.length + 1) L hL hl (by omega) hb
  simp [loopsF, loopsC, Tryz.f29] at hb
  subst hb
  have h : callFn (tyOf Tryz.prog) (fun _ => [3, 11]) (fnOf Tryz.prog) (pureO Tryz.w5F) (L.length + 1) 29 [.slice 0 0 L.length none] [.cells false 3 (ivC L)] = some ⟨.int .i64 (logR L), none, []⟩ := by
    unfold logR
    by_cases h200 : 200 < L.length
    · rw [if_pos h200]
      have h200I : (200 : Int) < L.length := by omega
      simp [callFn, hG, Tryz.f29, h200I, h200]
    · rw [if_neg h200]
      have h200I : ¬ (200 : Int) < L.length := by omega
      by_cases hc : logE none L = 0
      · rw [if_pos hc] at hF
        have hF1 := fun env0 d h => (hF env0 d h).1
        have hF2 := fun env0 d h => (hF env0 d h).2.1 hc
        clear hF
        simp [callFn, hG, Tryz.f29, h200I, h200, hF1, hF2, ivC_refs, hc]
      · rw [if_neg hc] at hF
        have hF1 := fun env0 d h => (hF env0 d h).1
        have hF2 := fun env0 d h => ((hF env0 d h).2.2 hc).1
        have hF3 := fun env0 d h => ((hF env0 d h).2.2 hc).2
        clear hF
        simp [callFn, hG, Tryz.f29, h200I, h200, hF1, hF2, hF3, ivC_refs]
  have := (callFn_sound Tryz.mixed (tyOf_ok _) Tryz.w5_ok (fnOf_ok _) h).1
  simpa [CallRes.mem] using this
theorem Tryz.aLogNil (M : Mem) : ACallsTo Tryz.prog 29 [.nilslice] M (.int .i64 0) M := by
  have hG : fnOf Tryz.prog 29 = some Tryz.f29 := by kernel_rfl
  refine Tryz.run (noOracle_ok _) (lv := fun _ => [3, 11]) (K := 1) rfl rfl ?_ M
  simp [callFn, hG, Tryz.f29, execC_loop, iter]
theorem logR_nil : logR [] = 0 := rfl
theorem Tryz.aLogM {M : Mem} {x : AV} {L : List Iv} (hL : shortIv L) (hl : L.length ≤ 1000000000) (hx : ivs M x = some L) : ACallsTo Tryz.prog 29 [x] M (.int .i64 (logR L)) M := by
  rcases ivs_some hx with h | ⟨rfl, rfl⟩
  · exact ACallsTo.rows1R (ivC_closed L) rfl rfl (Tryz.aLogP L hL hl) h
  · exact Tryz.aLogNil M
def shortB (L : List Iv) : Bool := L.all fun x => decide (x.1.length ≤ 1000000000) && decide (x.2.1.length ≤ 1000000000) && decide (x.2.2.length ≤ 1000000000)
theorem shortB_iff {L : List Iv} : shortB L = true ↔ shortIv L := by
  simp [shortB, shortIv, and_assoc]
noncomputable def Tryz.w6O : Oracle := fun c args M => match c, args with
  | .fn 29, [x] => match ivs M x with
    | some L => if shortB L = true ∧ L.length ≤ 1000000000 then some ⟨.int .i64 (logR L), none, []⟩ else none
    | none => none
  | c, args => pureO Tryz.w5F c args M
theorem Tryz.w6_ok : OracleOk Tryz.prog Tryz.w6O := by
  refine oracleOk_of fun c args M r h => ?_
  unfold Tryz.w6O at h
  split at h
  · split at h
    · rename_i L hL
      split at h
      · rename_i hc
        cases h
        refine soundAt_call ?_
        rw [List.append_nil]
        exact Tryz.aLogM (shortB_iff.1 hc.1) hc.2 hL
      · cases h
    · cases h
  · exact soundAt_of Tryz.w5_ok h
end Go.Proofs
namespace Go.Proofs
open Go.Eng
def idxS (s : List UInt8) : Nat → List (List UInt8) → Int
  | _, [] => -1
  | i, x :: l => if s = x then (i : Int) else idxS s (i + 1) l
theorem idxS_neg {s : List UInt8} : ∀ {i : Nat} {l : List (List UInt8)}, idxS s i l < 0 ↔ s ∉ l
  | i, [] => by simp [idxS]
  | i, x :: l => by
    unfold idxS
    by_cases h : s = x
    · rw [if_pos h]; simp [h]
    · rw [if_neg h, idxS_neg]; simp [h]
theorem idxS_ge {s : List UInt8} : ∀ {i : Nat} {l : List (List UInt8)}, -1 ≤ idxS s i l
  | i, [] => by unfold idxS; omega
  | i, x :: l => by
    unfold idxS
    split
    · omega
    · exact idxS_ge
set_option maxHeartbeats 1600000 in
theorem Tryz.index_loop {O : Oracle} {K : Nat} (L : List (List UInt8)) (s : List UInt8) (hl : L.length ≤ 1000000000) (hK : L.length < K) {b : Code} (hb : loopsF Tryz.f71 = [b]) :
    ∃ F : Env → Bool → Env, ∀ env0 d, (Go.Eng.look env0 0 = .slice 0 0 L.length none ∧ Go.Eng.look env0 1 = .str s ∧ Go.Eng.look env0 7 = .int .i64 L.length ∧ Go.Eng.look env0 8 = .int .i64 0) →
      execC (tyOf Tryz.prog) (fun _ => [8]) O K 19 1 true (.loop b) ⟨env0, [.cells false 1 (stC L)], d⟩ = some (if idxS s 0 L < 0 then .exit 0 else .ret, ⟨F env0 d, [.cells false 1 (stC L)], d⟩) ∧
        (¬ idxS s 0 L < 0 → Go.Eng.look (F env0 d) 4 = .int .i64 (idxS s 0 L)) := by
  refine loop_rule rfl (fun env0 => Go.Eng.look env0 0 = .slice 0 0 L.length none ∧ Go.Eng.look env0 1 = .str s ∧ Go.Eng.look env0 7 = .int .i64 L.length ∧ Go.Eng.look env0 8 = .int .i64 0) (fun _ env' => ¬ idxS s 0 L < 0 → Go.Eng.look env' 4 = .int .i64 (idxS s 0 L)) ?_
  rintro env0 d ⟨h0, h1, h7, h8⟩
  simp [loopsF, loopsC, Tryz.f71] at hb
  have hn : normE [8] (writesC b) env0 ((8, .int .i64 ((0 : Nat) : Int)) :: env0) = normE [8] (writesC b) env0 env0 := by simp [normE, h8]
  rw [← hn]
  have kl : (stC L).length = L.length := stC_length L
  refine iter_ind (α := Nat) (fun n => ⟨normE [8] (writesC b) env0 ((8, .int .i64 (n : Int)) :: env0), [.cells false 1 (stC L)], d⟩) (fun n => L.length - n) (fun n => n ≤ L.length ∧ idxS s 0 L = idxS s n (L.drop n)) _ _ d _ (by split <;> simp) ?_ K 0 ⟨by omega, by rw [List.drop_zero]⟩ (by omega)
  rintro n ⟨hn1, he⟩
  clear hn
  subst hb
  by_cases hlt : n < L.length
  · obtain ⟨x, hx⟩ : ∃ x, L[n]? = some x := ⟨L[n], List.getElem?_eq_getElem hlt⟩
    have k1 : ∀ h, (stC L)[n]'h = .str x := fun h => by
      have := stC_at hx
      rw [List.getElem?_eq_getElem h] at this
      exact Option.some.inj this
    have hd : L.drop n = x :: L.drop (n + 1) := by
      rw [List.getElem?_eq_some_iff] at hx
      obtain ⟨h1, h2⟩ := hx
      rw [← h2]; exact List.drop_eq_getElem_cons h1
    rw [hd, idxS] at he
    have w1 : IntKind.i64.wrap ((n : Int) + 1) = ((n + 1 : Nat) : Int) := by rw [wrap_i64 (by omega) (by omega)]; omega
    by_cases hs : s = x
    · right
      rw [if_pos hs] at he
      subst hs
      have hng : ¬ (n : Int) < 0 := by omega
      rw [he, if_neg hng]
      simp [h0, h1, h7, hlt, kl, k1]
    · left
      rw [if_neg hs] at he
      have hb : (s == x) = false := by simpa using hs
      refine ⟨n + 1, ?_⟩
      refine exists_and_fin (show (n + 1 ≤ L.length ∧ idxS s 0 L = idxS s (n + 1) (L.drop (n + 1))) ∧ L.length - (n + 1) < L.length - n from ⟨⟨by omega, he⟩, by omega⟩) ?_
      simp [h0, h1, h7, hlt, kl, k1, hb, w1]
  · right
    have e : L.drop n = [] := List.drop_of_length_le (by omega)
    rw [e, idxS] at he
    rw [he, if_pos (by decide)]
    simp [h7, hlt]
theorem Tryz.aIndexP (L : List (List UInt8)) (s : List UInt8) (hl : L.length ≤ 1000000000) :
    ACallsTo Tryz.prog 71 [.slice 0 0 L.length none, .str s] [.cells false 1 (stC L)] (.int .i64 (idxS s 0 L)) [.cells false 1 (stC L)] := by
  have hG : fnOf Tryz.prog 71 = some Tryz.f71 := by kernel_rfl
  obtain ⟨b, hb⟩ : ∃ b, loopsF Tryz.f71 = [b] := ⟨_, rfl⟩
  obtain ⟨F, hF⟩ := Tryz.index_loop (O := noOracle) (K := L.length + 1) L s hl (by omega) hb
  simp [loopsF, loopsC, Tryz.f71] at hb
  subst hb
  have h : callFn (tyOf Tryz.prog) (fun _ => [8]) (fnOf Tryz.prog) noOracle (L.length + 1) 71 [.slice 0 0 L.length none, .str s] [.cells false 1 (stC L)] = some ⟨.int .i64 (idxS s 0 L), none, []⟩ := by
    by_cases hc : idxS s 0 L < 0
    · rw [if_pos hc] at hF
      have hF1 := fun env0 d h => (hF env0 d h).1
      clear hF
      have h1 : idxS s 0 L = -1 := by have := idxS_ge (s := s) (i := 0) (l := L); omega
      rw [h1]
      simp [callFn, hG, Tryz.f71, hF1]
    · rw [if_neg hc] at hF
      have hF1 := fun env0 d h => (hF env0 d h).1
      have hF2 := fun env0 d h => (hF env0 d h).2 hc
      clear hF
      simp [callFn, hG, Tryz.f71, hF1, hF2]
  have := (callFn_sound Tryz.mixed (tyOf_ok _) (noOracle_ok _) (fnOf_ok _) h).1
  simpa [CallRes.mem] using this
theorem Tryz.aIndexNil (s : List UInt8) (M : Mem) : ACallsTo Tryz.prog 71 [.nilslice, .str s] M (.int .i64 (-1)) M := by
  have hG : fnOf Tryz.prog 71 = some Tryz.f71 := by kernel_rfl
  refine Tryz.run (noOracle_ok _) (lv := fun _ => [8]) (K := 1) rfl rfl ?_ M
  simp [callFn, hG, Tryz.f71, execC_loop, iter]
theorem Tryz.aIndexM {M : Mem} {x : AV} {L : List (List UInt8)} (s : List UInt8) (hl : L.length ≤ 1000000000) (hx : sts M x = some L) : ACallsTo Tryz.prog 71 [x, .str s] M (.int .i64 (idxS s 0 L)) M := by
  rcases sts_some hx with h | ⟨rfl, rfl⟩
  · exact ACallsTo.rows1R (rest := [.str s]) (stC_closed L) rfl rfl (Tryz.aIndexP L s hl) h
  · exact Tryz.aIndexNil s M
noncomputable def Tryz.w7O : Oracle := fun c args M => match c, args with
  | .fn 71, [x, .str s] => match sts M x with
    | some L => if L.length ≤ 1000000000 then some ⟨.int .i64 (idxS s 0 L), none, []⟩ else none
    | none => none
  | c, args => Tryz.w6O c args M
theorem Tryz.w7_ok : OracleOk Tryz.prog Tryz.w7O := by
  refine oracleOk_of fun c args M r h => ?_
  unfold Tryz.w7O at h
  split at h
  · split at h
    · rename_i L hL
      split at h
      · rename_i hc
        cases h
        refine soundAt_call ?_
        rw [List.append_nil]
        exact Tryz.aIndexM _ hc hL
      · cases h
    · cases h
  · exact soundAt_of Tryz.w6_ok h
theorem Tryz.aContainsM {M : Mem} {x : AV} {L : List (List UInt8)} (s : List UInt8) (hl : L.length ≤ 1000000000) (hx : sts M x = some L) : ACallsTo Tryz.prog 37 [x, .str s] M (.bool (decide (s ∈ L))) M := by
  have hG : fnOf Tryz.prog 37 = some Tryz.f37 := by kernel_rfl
  have hi : decide (0 ≤ idxS s 0 L) = decide (s ∈ L) := by
    rw [decide_eq_decide]
    have := idxS_neg (s := s) (i := 0) (l := L)
    by_cases h : s ∈ L
    · simp only [h, iff_true]
      exact Int.not_lt.1 fun e => this.1 e h
    · simp only [h, iff_false]
      have := this.2 h; omega
  have h : callFn (tyOf Tryz.prog) (fun _ => []) (fnOf Tryz.prog) Tryz.w7O 1 37 [x, .str s] M = some ⟨.bool (decide (s ∈ L)), none, []⟩ := by
    rw [← hi]
    simp [callFn, hG, Tryz.f37, Tryz.w7O, hx, hl]
  have := (callFn_sound Tryz.mixed (tyOf_ok _) Tryz.w7_ok (fnOf_ok _) h).1
  simpa [CallRes.mem] using this
noncomputable def Tryz.w8O : Oracle := fun c args M => match c, args with
  | .fn 37, [x, .str s] => match sts M x with
    | some L => if L.length ≤ 1000000000 then some ⟨.bool (decide (s ∈ L)), none, []⟩ else none
    | none => none
  | c, args => Tryz.w7O c args M
theorem Tryz.w8_ok : OracleOk Tryz.prog Tryz.w8O := by
  refine oracleOk_of fun c args M r h => ?_
  unfold Tryz.w8O at h
  split at h
  · split at h
    · rename_i L hL
      split at h
      · rename_i hc
        cases h
        refine soundAt_call ?_
        rw [List.append_nil]
        exact Tryz.aContainsM _ hc hL
      · cases h
    · cases h
  · exact soundAt_of Tryz.w7_ok h
end Go.Proofs
namespace Go.Proofs
open Go.Eng
def topsV (acc : List (List UInt8 × List UInt8)) : List Iv → List (List UInt8 × List UInt8)
  | [] => acc
  | x :: l => topsV (if x.1 ∈ acc.map (·.1) then acc else acc ++ [(x.1, x.2.1)]) l
def tpM (L : List Iv) : List (List UInt8 × List UInt8) → Mem
  | [] => [.cells false 3 (ivC L)]
  | a :: l => [.cells false 3 (ivC L), .cells true 1 (stC ((a :: l).map (·.1))), .cells true 1 (stC ((a :: l).map (·.2)))]
def tpU : List (List UInt8 × List UInt8) → AV
  | [] => .nilslice
  | _ :: l => .slice 1 0 (l.length + 1) none
def tpD : List (List UInt8 × List UInt8) → AV
  | [] => .nilslice
  | _ :: l => .slice 2 0 (l.length + 1) none
set_option maxHeartbeats 6400000 in
theorem Tryz.tops_loop {K : Nat} (L : List Iv) (hL : shortIv L) (hl : L.length ≤ 1000000) (hK : L.length < K) {b : Code} (hb : loopsF Tryz.f10 = [b]) :
    ∃ F : Env → Bool → Env, ∀ env0 d, (Go.Eng.look env0 2 = .nilslice ∧ Go.Eng.look env0 3 = .nilslice ∧ Go.Eng.look env0 13 = .slice 0 0 L.length none ∧ Go.Eng.look env0 14 = .int .i64 L.length ∧ Go.Eng.look env0 15 = .int .i64 0) →
      execC (tyOf Tryz.prog) (fun _ => [2, 3, 15]) Tryz.w8O K 37 1 true (.loop b) ⟨env0, [.cells false 3 (ivC L)], d⟩ = some (.exit 0, ⟨F env0 d, tpM L (topsV [] L), d⟩) ∧
        (Go.Eng.look (F env0 d) 2 = tpU (topsV [] L) ∧ Go.Eng.look (F env0 d) 3 = tpD (topsV [] L)) := by
  refine loop_rule rfl (fun env0 => Go.Eng.look env0 2 = .nilslice ∧ Go.Eng.look env0 3 = .nilslice ∧ Go.Eng.look env0 13 = .slice 0 0 L.length none ∧ Go.Eng.look env0 14 = .int .i64 L.length ∧ Go.Eng.look env0 15 = .int .i64 0) (fun _ env' => Go.Eng.look env' 2 = tpU (topsV [] L) ∧ Go.Eng.look env' 3 = tpD (topsV [] L)) ?_
  rintro env0 d ⟨h2, h3, h13, h14, h15⟩
  simp [loopsF, loopsC, Tryz.f10] at hb
  have hn : normE [2, 3, 15] (writesC b) env0 ((2, tpU []) :: (3, tpD []) :: (15, .int .i64 ((0 : Nat) : Int)) :: env0) = normE [2, 3, 15] (writesC b) env0 env0 := by simp [normE, h2, h3, h15, tpU, tpD]
  rw [← hn]
  have kl : (ivC L).length = L.length * 3 := ivC_length L
  refine iter_ind (α := Nat × List (List UInt8 × List UInt8)) (fun s => ⟨normE [2, 3, 15] (writesC b) env0 ((2, tpU s.2) :: (3, tpD s.2) :: (15, .int .i64 (s.1 : Int)) :: env0), tpM L s.2, d⟩) (fun s => L.length - s.1) (fun s => s.1 ≤ L.length ∧ s.2.length ≤ s.1 ∧ topsV [] L = topsV s.2 (L.drop s.1)) (.exit 0) _ d _ (by simp) ?_ K (0, []) ⟨by simp, by simp, by rw [List.drop_zero]⟩ (by simp only; omega)
  rintro ⟨n, acc⟩ ⟨hn1, hn2, he⟩
  simp only at hn1 hn2 he ⊢
  clear hn
  subst hb
  by_cases hlt : n < L.length
  · left
    obtain ⟨k, hk⟩ : ∃ k, L[n]? = some k := ⟨L[n], List.getElem?_eq_getElem hlt⟩
    obtain ⟨k1, _, _, _⟩ := ivC_at hk
    have hd : L.drop n = k :: L.drop (n + 1) := by
      rw [List.getElem?_eq_some_iff] at hk
      obtain ⟨h1, h2⟩ := hk
      rw [← h2]; exact List.drop_eq_getElem_cons h1
    rw [hd, topsV] at he
    have w1 : IntKind.i64.wrap ((n : Int) + 1) = ((n + 1 : Nat) : Int) := by rw [wrap_i64 (by omega) (by omega)]; omega
    have k5 : n * 3 + 3 ≤ (ivC L).length := by omega
    obtain ⟨u, f, t⟩ := k
    simp only at k1 he
    cases acc with
    | nil =>
      have hs : ∀ M, sts M .nilslice = some [] := fun M => rfl
      rw [if_neg (by simp), List.nil_append] at he
      refine ⟨(n + 1, [(u, f)]), ?_⟩
      refine exists_and_fin (show (n + 1 ≤ L.length ∧ [(u, f)].length ≤ n + 1 ∧ topsV [] L = topsV [(u, f)] (L.drop (n + 1))) ∧ L.length - (n + 1) < L.length - n from ⟨⟨by omega, by simp, he⟩, by omega⟩) ?_
      simp [h13, h14, hlt, k1, k5, tpM, tpU, tpD, Tryz.w8O, hs, w1, ivC_refs, ivC_ren, stC, Nat.testBit]
      exact ⟨rfl, rfl⟩
    | cons a acc =>
      have hs : ∀ s0 r, sts (s0 :: .cells true 1 (stC ((a :: acc).map (·.1))) :: r) (.slice 1 0 (acc.length + 1) none) = some ((a :: acc).map (·.1)) := fun s0 r => sts_at rfl (by simp) (by rw [show acc.length + 1 = ((a :: acc).map (·.1)).length by simp]; exact stC_take _)
      have hal : acc.length + 1 ≤ 1000000000 := by simp at hn2; omega
      by_cases hm : u ∈ (a :: acc).map (·.1)
      · rw [if_pos hm] at he
        refine ⟨(n + 1, a :: acc), ?_⟩
        refine exists_and_fin (show (n + 1 ≤ L.length ∧ (a :: acc).length ≤ n + 1 ∧ topsV [] L = topsV (a :: acc) (L.drop (n + 1))) ∧ L.length - (n + 1) < L.length - n from ⟨⟨by omega, by omega, he⟩, by omega⟩) ?_
        obtain ⟨U, hU⟩ : ∃ U, U = (a :: acc).map (·.1) := ⟨_, rfl⟩
        obtain ⟨D, hD⟩ : ∃ D, D = (a :: acc).map (·.2) := ⟨_, rfl⟩
        have hUl : U.length = acc.length + 1 := by rw [hU]; simp
        rw [← hU] at hs hm
        have hUl2 : U.length ≤ 1000000000 := by omega
        simp only [tpM, tpU, tpD, ← hU, ← hD]
        simp [h13, h14, hlt, k1, k5, Tryz.w8O, hs, hm, hUl2, w1, ivC_refs, ivC_ren, stC_refs, stC_ren]
        exact ⟨rfl, rfl⟩
      · rw [if_neg hm] at he
        refine ⟨(n + 1, (a :: acc) ++ [(u, f)]), ?_⟩
        refine exists_and_fin (show (n + 1 ≤ L.length ∧ ((a :: acc) ++ [(u, f)]).length ≤ n + 1 ∧ topsV [] L = topsV ((a :: acc) ++ [(u, f)]) (L.drop (n + 1))) ∧ L.length - (n + 1) < L.length - n from ⟨⟨by omega, by simp at hn2 ⊢; omega, he⟩, by omega⟩) ?_
        obtain ⟨U, hU⟩ : ∃ U, U = (a :: acc).map (·.1) := ⟨_, rfl⟩
        obtain ⟨D, hD⟩ : ∃ D, D = (a :: acc).map (·.2) := ⟨_, rfl⟩
        have hUl : (stC U).length = acc.length + 1 := by rw [hU]; simp [stC_length]
        have hDl : (stC D).length = acc.length + 1 := by rw [hD]; simp [stC_length]
        have hUt : (stC U).take (acc.length + 1) = stC U := List.take_of_length_le (by omega)
        have hDt : (stC D).take (acc.length + 1) = stC D := List.take_of_length_le (by omega)
        have hU1 : stC (((a :: acc) ++ [(u, f)]).map (·.1)) = stC U ++ [.str u] := by rw [hU]; simp [stC]
        have hD1 : stC (((a :: acc) ++ [(u, f)]).map (·.2)) = stC D ++ [.str f] := by rw [hD]; simp [stC]
        rw [← hU] at hs hm
        have hUl2 : U.length ≤ 1000000000 := by rw [stC_length] at hUl; omega
        have e1 : tpM L ((a :: acc) ++ [(u, f)]) = [.cells false 3 (ivC L), .cells true 1 (stC U ++ [.str u]), .cells true 1 (stC D ++ [.str f])] := by rw [← hU1, ← hD1]; rfl
        have e2 : tpU ((a :: acc) ++ [(u, f)]) = .slice 1 0 (acc.length + 1 + 1) none := by simp [tpU]
        have e3 : tpD ((a :: acc) ++ [(u, f)]) = .slice 2 0 (acc.length + 1 + 1) none := by simp [tpD]
        have b1 : (acc.length + 1 + 1) * 16 ≤ 140737488355328 := by simp at hn2; omega
        have b2 : acc.length + 1 + 1 ≤ 140737488355328 := by omega
        have b3 : acc.length ≤ 140737488355326 := by omega
        rw [e1, e2, e3]
        simp only [tpM, tpU, tpD, ← hU, ← hD]
        simp [h13, h14, hlt, k1, k5, Tryz.w8O, hs, hm, hUl2, hUl, hDl, hUt, hDt, b1, b2, b3, w1, ivC_refs, ivC_ren, stC_refs, stC_ren, stC_refsOk, Nat.testBit]
        exact ⟨rfl, rfl⟩
  · right
    have e : L.drop n = [] := List.drop_of_length_le (by omega)
    rw [e, topsV] at he
    rw [he]
    simp [h14, hlt]
end Go.Proofs
