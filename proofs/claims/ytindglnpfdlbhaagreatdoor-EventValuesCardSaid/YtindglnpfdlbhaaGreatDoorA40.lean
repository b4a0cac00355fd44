/- Part A40 of a proof: see its last part, YtindglnpfdlbhaaGreatDoorA51.lean. -/
import Derived.Test.YtindglnpfdlbhaaGreatDoorA39
import Derived.Test.YtindglnpfdlbhaaGreatDoorA10
import Derived.Test.YtindglnpfdlbhaaGreatDoorA29
set_option linter.all false
namespace Go.Proofs
open Go.Eng
def kC : List (List UInt8 × List UInt8) → List AV
  | [] => []
  | k :: l => .str k.1 :: .str k.2 :: kC l
theorem kC_length : ∀ l : List (List UInt8 × List UInt8), (kC l).length = 2 * l.length
  | [] => rfl
  | _ :: l => by simp only [kC, List.length_cons, kC_length l]; omega
theorem kC_drop : ∀ (l : List (List UInt8 × List UInt8)) (i : Nat), (kC l).drop (i * 2) = kC (l.drop i)
  | l, 0 => by simp
  | [], i + 1 => by simp [kC]
  | k :: l, i + 1 => by
    have : (i + 1) * 2 = i * 2 + 1 + 1 := by omega
    rw [this]
    simp only [kC, List.drop_succ_cons]
    exact kC_drop l i
theorem kC_at {l : List (List UInt8 × List UInt8)} {i : Nat} {k : List UInt8 × List UInt8} (h : l[i]? = some k) :
    ((kC l).drop (i * 2)).take 2 = [.str k.1, .str k.2] ∧ (kC l)[i * 2]? = some (.str k.1) ∧ (kC l)[i * 2 + 1]? = some (.str k.2) := by
  have hd : l.drop i = k :: l.drop (i + 1) := by
    rw [List.getElem?_eq_some_iff] at h
    obtain ⟨h1, h2⟩ := h
    rw [← h2]; exact List.drop_eq_getElem_cons h1
  have e := kC_drop l i
  rw [hd] at e
  refine ⟨by rw [e]; rfl, ?_, ?_⟩
  · have : (kC l)[i * 2]? = ((kC l).drop (i * 2))[0]? := by rw [List.getElem?_drop]; rfl
    rw [this, e]; rfl
  · have : (kC l)[i * 2 + 1]? = ((kC l).drop (i * 2))[1]? := by rw [List.getElem?_drop]
    rw [this, e]; rfl
theorem kC_refs (n : Nat) : ∀ l : List (List UInt8 × List UInt8), AV.refsL n (kC l) = []
  | [] => by simp [kC, AV.refsL]
  | k :: l => by simp [kC, AV.refsL, AV.refs, kC_refs n l]
def kT (Q : List (Rat × Rat)) : List (List UInt8 × List UInt8) := Q.map fun q => (ratS q.1, ratS q.2)
theorem kT_length (Q : List (Rat × Rat)) : (kT Q).length = Q.length := by simp [kT]
theorem kT_at {Q : List (Rat × Rat)} {i : Nat} {q : Rat × Rat} (h : Q[i]? = some q) : (kT Q)[i]? = some (ratS q.1, ratS q.2) := by simp [kT, h]
theorem passedV_take {Q : List (Rat × Rat)} {u : Rat} : ∀ {i : Nat} {q : Rat × Rat}, Q[i]? = some q → passedV (Q.take (i + 1)) u = passedV (Q.take i) u + if q.1 ≤ u then 1 else 0 := by
  induction Q with
  | nil => intro i q h; simp at h
  | cons a Q ih =>
    intro i q h
    cases i with
    | zero => simp at h; subst h; simp [passedV]
    | succ i =>
      simp at h
      have := ih h
      simp only [List.take_succ_cons, passedV] at this ⊢
      omega
def fineK (Q : List (Rat × Rat)) : Prop := ∀ q ∈ Q, fine q.1 ∧ fine q.2
set_option maxHeartbeats 1600000 in
theorem Tryz.passed_loop {K : Nat} (Q : List (Rat × Rat)) (u : Rat) (hQ : fineK Q) (hu : fine u) (hl : Q.length ≤ 1000000000) (hK : Q.length < K) {b : Code} (hb : loopsF Tryz.f122 = [b]) :
    ∃ F : Env → Bool → Env, ∀ env0 d, (Go.Eng.look env0 1 = .str (ratS u) ∧ Go.Eng.look env0 5 = .int .i64 0 ∧ Go.Eng.look env0 8 = .slice 0 0 Q.length none ∧ Go.Eng.look env0 9 = .int .i64 Q.length ∧ Go.Eng.look env0 10 = .int .i64 0) →
      execC (tyOf Tryz.prog) (fun _ => [5, 10]) (pureO Tryz.ratF3) K 23 1 true (.loop b) ⟨env0, [.cells false 2 (kC (kT Q))], d⟩ = some (.exit 0, ⟨F env0 d, [.cells false 2 (kC (kT Q))], d⟩) ∧
        Go.Eng.look (F env0 d) 5 = .int .i64 (passedV Q u) := by
  refine loop_rule rfl (fun env0 => Go.Eng.look env0 1 = .str (ratS u) ∧ Go.Eng.look env0 5 = .int .i64 0 ∧ Go.Eng.look env0 8 = .slice 0 0 Q.length none ∧ Go.Eng.look env0 9 = .int .i64 Q.length ∧ Go.Eng.look env0 10 = .int .i64 0) (fun _ env' => Go.Eng.look env' 5 = .int .i64 (passedV Q u)) ?_
  rintro env0 d ⟨h1, h5, h8, h9, h10⟩
  simp [loopsF, loopsC, Tryz.f122] at hb
  have hn : normE [5, 10] (writesC b) env0 ((5, .int .i64 ((0 : Nat) : Int)) :: (10, .int .i64 ((0 : Nat) : Int)) :: env0) = normE [5, 10] (writesC b) env0 env0 := by simp [normE, h5, h10]
  rw [← hn]
  have kl : (kC (kT Q)).length = 2 * Q.length := by rw [kC_length, kT_length]
  refine iter_ind (α := Nat) (fun n => ⟨normE [5, 10] (writesC b) env0 ((5, .int .i64 ((passedV (Q.take n) u : Nat) : Int)) :: (10, .int .i64 (n : Int)) :: env0), [.cells false 2 (kC (kT Q))], d⟩) (fun n => Q.length - n) (fun n => n ≤ Q.length) (.exit 0) _ d _ (by simp) ?_ K 0 (by omega) (by omega)
  intro n hn1
  clear hn
  subst hb
  by_cases hlt : n < Q.length
  · left
    obtain ⟨q, hq⟩ : ∃ q, Q[n]? = some q := ⟨Q[n], List.getElem?_eq_getElem hlt⟩
    obtain ⟨k1, k2, k3⟩ := kC_at (kT_at hq)
    have hp := passedV_take (u := u) hq
    have hle := passedV_le (Q.take n) u
    rw [List.length_take] at hle
    obtain ⟨P, hP⟩ : ∃ P, passedV (Q.take n) u = P := ⟨_, rfl⟩
    rw [hP] at hp hle ⊢
    have w1 : IntKind.i64.wrap ((n : Int) + 1) = ((n + 1 : Nat) : Int) := by rw [wrap_i64 (by omega) (by omega)]; omega
    have w2 : IntKind.i64.wrap ((P : Int) + 1) = ((P + 1 : Nat) : Int) := by rw [wrap_i64 (by omega) (by omega)]; omega
    obtain ⟨m, hm⟩ : ∃ m, m = n + 1 := ⟨_, rfl⟩
    rw [← hm] at w1 hp
    obtain ⟨⟨f1, f2⟩, _⟩ := hQ q (List.mem_of_getElem? hq)
    obtain ⟨u1, u2⟩ := hu
    have k4 : n * 2 + 2 ≤ (kC (kT Q)).length := by omega
    by_cases hle1 : q.1 ≤ u
    · have c := cmpQ_le.2 hle1
      rw [if_pos hle1] at hp
      rw [← hp] at w2
      refine ⟨m, ?_⟩
      simp [h1, h8, h9, hlt, pureO, Tryz.ratF3, ratP_ratS, f1, f2, u1, u2, k1, k4, c, w1, w2, kC_refs]
      omega
    · have c : ¬ cmpQ q.1 u ≤ 0 := fun h => hle1 (cmpQ_le.1 h)
      rw [if_neg hle1, Nat.add_zero] at hp
      refine ⟨m, ?_⟩
      simp [h1, h8, h9, hlt, pureO, Tryz.ratF3, ratP_ratS, f1, f2, u1, u2, k1, k4, c, w1, hp, kC_refs]
      omega
  · right
    have e : Q.take n = Q := List.take_of_length_le (by omega)
    rw [e]
    have hlt' : ¬ (n : Int) < Q.length := by omega
    simp [h9, hlt]
theorem kC_ren (f : Nat → Option Nat) : ∀ l : List (List UInt8 × List UInt8), AV.rens f (kC l) = kC l
  | [] => by simp [kC, AV.rens]
  | k :: l => by simp [kC, AV.rens, AV.ren, kC_ren f l]
theorem Tryz.aEPassed (Q : List (Rat × Rat)) (u : Rat) (hQ : fineK Q) (hu : fine u) (hl : Q.length ≤ 1000000000) :
    ACallsTo Tryz.prog 122 [.slice 0 0 Q.length none, .str (ratS u)] [.cells false 2 (kC (kT Q))] (.int .i64 (passedV Q u)) [.cells false 2 (kC (kT Q))] := by
  have hG : fnOf Tryz.prog 122 = some Tryz.f122 := by kernel_rfl
  obtain ⟨b, hb⟩ : ∃ b, loopsF Tryz.f122 = [b] := ⟨_, rfl⟩
  obtain ⟨F, hF⟩ := Tryz.passed_loop (K := Q.length + 1) Q u hQ hu hl (by omega) hb
  simp [loopsF, loopsC, Tryz.f122] at hb
  subst hb
  have h : callFn (tyOf Tryz.prog) (fun _ => [5, 10]) (fnOf Tryz.prog) (pureO Tryz.ratF3) (Q.length + 1) 122 [.slice 0 0 Q.length none, .str (ratS u)] [.cells false 2 (kC (kT Q))] = some ⟨.int .i64 (passedV Q u), none, []⟩ := by
    simp [callFn, hG, Tryz.f122, hF, kC_refs]
  have := (callFn_sound Tryz.mixed (tyOf_ok _) Tryz.rat3_ok (fnOf_ok _) h).1
  simpa [CallRes.mem] using this
end Go.Proofs
namespace Go.Proofs
open Go.Eng
noncomputable def Tryz.ratF4 (f : FuncId) (args : List AV) : Option AV :=
  match f, args with
  | 45, [.str s] => if s.length ≤ 1000000000 then some (.int .i64 (chkR s)) else none
  | 161, [.str s, .str t] => match ratP s, ratP t with
    | some a, some b => if (natD a.num.natAbs).length ≤ 40000 ∧ (natD a.den).length ≤ 40000 ∧ (natD b.num.natAbs).length ≤ 40000 ∧ (natD b.den).length ≤ 40000 then some (.str (ratS (a - b))) else none
    | _, _ => none
  | 160, [.str s, .str t] => match ratP s, ratP t with
    | some a, some b => if b ≠ 0 ∧ (natD a.num.natAbs).length ≤ 40000 ∧ (natD a.den).length ≤ 40000 ∧ (natD b.num.natAbs).length ≤ 40000 ∧ (natD b.den).length ≤ 40000 then some (.tuple [.str (ratS (a / b)), .int .i64 0]) else none
    | _, _ => none
  | f, args => Tryz.ratF3 f args
theorem Tryz.rat4_ok : OracleOk Tryz.prog (pureO Tryz.ratF4) := pureO_ok fun f args v h mem => by
  unfold Tryz.ratF4 at h
  split at h
  · split at h
    · rename_i hc; cases h; exact Tryz.aCheckR _ hc mem
    · cases h
  · split at h
    · rename_i m n hm hn
      split at h
      · rename_i hc; cases h; rw [ratP_some hm, ratP_some hn]; exact Tryz.aSubR m n ⟨hc.1, hc.2.1⟩ ⟨hc.2.2.1, hc.2.2.2⟩ mem
      · cases h
    · cases h
  · split at h
    · rename_i m n hm hn
      split at h
      · rename_i hc; cases h; rw [ratP_some hm, ratP_some hn]; exact Tryz.aDivR m n hc.1 ⟨hc.2.1, hc.2.2.1⟩ ⟨hc.2.2.2.1, hc.2.2.2.2⟩ mem
      · cases h
    · cases h
  · have := Tryz.rat3_ok.fn _ _ mem ⟨v, none, []⟩ (by unfold pureO; simp only; rw [h])
    simpa [CallRes.mem] using this
noncomputable def Tryz.rgF12 (f : FuncId) (args : List AV) : Option AV :=
  match f, args with
  | 14, [.str s] => if s.length ≤ 1000000000 then some (.bool (chkR s == 0)) else none
  | 47, [.str s, .str t] => match ratP s, ratP t with
    | some a, some b => if (natD a.num.natAbs).length ≤ 2000 ∧ (natD a.den).length ≤ 2000 ∧ (natD b.num.natAbs).length ≤ 2000 ∧ (natD b.den).length ≤ 2000 then some (.int .i64 (sgnR (a - b))) else none
    | _, _ => none
  | f, args => Tryz.rgF11 f args
theorem Tryz.rg12_ok : OracleOk Tryz.prog (pureO Tryz.rgF12) := pureO_ok fun f args v h mem => by
  unfold Tryz.rgF12 at h
  split at h
  · split at h
    · rename_i hc; cases h; exact Tryz.aPRight _ hc mem
    · cases h
  · split at h
    · rename_i m n hm hn
      split at h
      · rename_i hc; cases h; rw [ratP_some hm, ratP_some hn]; exact Tryz.aPCompare m n ⟨hc.1, hc.2.1⟩ ⟨hc.2.2.1, hc.2.2.2⟩ mem
      · cases h
    · cases h
  · have := Tryz.rg11_ok.fn _ _ mem ⟨v, none, []⟩ (by unfold pureO; simp only; rw [h])
    simpa [CallRes.mem] using this
def risesB (p : Option Rat) (q : Rat) : Bool := match p with
  | some r => decide (r < q)
  | none => true
def ckE (p : Option Rat) : List (List UInt8 × List UInt8) → Int
  | [] => 0
  | k :: l => if chkR k.1 = 0 ∧ chkR k.2 = 0 then (if risesB p ((ratP k.1).getD 0) then ckE (ratP k.1) l else 6) else 2
theorem chkR_rat {s : List UInt8} (h : chkR s = 0) : ∃ q, ratP s = some q ∧ s = ratS q ∧ (natD q.num.natAbs).length ≤ 200 ∧ (natD q.den).length ≤ 200 := by
  unfold chkR at h
  cases hq : ratP s with
  | none => rw [hq] at h; cases h
  | some q =>
    rw [hq] at h
    simp only at h
    split at h
    · rename_i hc; exact ⟨q, rfl, ratP_some hq, hc.1, hc.2⟩
    · cases h
def behind (L : List (List UInt8 × List UInt8)) (n : Nat) (p : Option Rat) : Prop :=
  (n = 0 ∧ p = none) ∨ (∃ m q k, n = m + 1 ∧ p = some q ∧ L[m]? = some k ∧ k.1 = ratS q ∧ (natD q.num.natAbs).length ≤ 200 ∧ (natD q.den).length ≤ 200)
end Go.Proofs
namespace Go.Proofs
open Go.Eng
set_option maxHeartbeats 1600000 in
theorem Tryz.check_knots_loop {K : Nat} (L : List (List UInt8 × List UInt8)) (hL : ∀ k ∈ L, k.1.length ≤ 1000000000 ∧ k.2.length ≤ 1000000000) (hl : L.length ≤ 1000000000) (hK : L.length < K) {b : Code} (hb : loopsF Tryz.f44 = [b]) :
    ∃ F : Env → Bool → Env × Mem × (List UInt8 × List UInt8), ∀ env0 d, (Go.Eng.look env0 0 = .slice 0 0 L.length none ∧ Go.Eng.look env0 8 = .slice 0 0 L.length none ∧ Go.Eng.look env0 9 = .int .i64 L.length ∧ Go.Eng.look env0 10 = .int .i64 0) →
      execC (tyOf Tryz.prog) (fun _ => [10]) (pureO Tryz.ratF4) K 40 1 true (.loop b) ⟨env0, [.cells false 2 (kC L)], d⟩ = some (if ckE none L = 0 then .exit 0 else .ret, ⟨(F env0 d).1, (F env0 d).2.1, d⟩) ∧
        ((ckE none L = 0 → (F env0 d).2.1 = [.cells false 2 (kC L)]) ∧ (ckE none L ≠ 0 → (F env0 d).2.1 = [.cells false 2 (kC L), .cells true 0 [.str (F env0 d).2.2.1, .str (F env0 d).2.2.2]] ∧ Go.Eng.look (F env0 d).1 2 = .int .i64 (ckE none L))) := by
  refine loop_rule_m (β := List UInt8 × List UInt8) rfl (fun env0 => (Go.Eng.look env0 0 = .slice 0 0 L.length none ∧ Go.Eng.look env0 8 = .slice 0 0 L.length none ∧ Go.Eng.look env0 9 = .int .i64 L.length ∧ Go.Eng.look env0 10 = .int .i64 0)) (fun _ env' mem' x => (ckE none L = 0 → mem' = [.cells false 2 (kC L)]) ∧ (ckE none L ≠ 0 → mem' = [.cells false 2 (kC L), .cells true 0 [.str x.1, .str x.2]] ∧ Go.Eng.look env' 2 = .int .i64 (ckE none L))) ?_
  rintro env0 d ⟨h0, h8, h9, h10⟩
  simp [loopsF, loopsC, Tryz.f44] at hb
  have hn : normE [10] (writesC b) env0 ((10, .int .i64 ((0 : Nat) : Int)) :: env0) = normE [10] (writesC b) env0 env0 := by simp [normE, h10]
  rw [← hn]
  have kl : (kC L).length = 2 * L.length := kC_length L
  refine iter_ind_m (α := Nat) (fun n => ⟨normE [10] (writesC b) env0 ((10, .int .i64 (n : Int)) :: env0), [.cells false 2 (kC L)], d⟩) (fun n => L.length - n) (fun n => n ≤ L.length ∧ ∃ p, behind L n p ∧ ckE none L = ckE p (L.drop n)) (if ckE none L = 0 then .exit 0 else .ret) d (fun env' mem' => ∃ x : List UInt8 × List UInt8, (ckE none L = 0 → mem' = [.cells false 2 (kC L)]) ∧ (ckE none L ≠ 0 → mem' = [.cells false 2 (kC L), .cells true 0 [.str x.1, .str x.2]] ∧ Go.Eng.look env' 2 = .int .i64 (ckE none L))) (by split <;> simp) ?_ K 0 ⟨by omega, none, .inl ⟨rfl, rfl⟩, by rw [List.drop_zero]⟩ (by omega)
  rintro n ⟨hn1, p, hp, he⟩
  clear hn
  subst hb
  by_cases hlt : n < L.length
  · obtain ⟨k, hk⟩ : ∃ k, L[n]? = some k := ⟨L[n], List.getElem?_eq_getElem hlt⟩
    obtain ⟨k1, k2, k3⟩ := kC_at hk
    obtain ⟨l1, l2⟩ := hL k (List.mem_of_getElem? hk)
    have hd : L.drop n = k :: L.drop (n + 1) := by
      rw [List.getElem?_eq_some_iff] at hk
      obtain ⟨h1, h2⟩ := hk
      rw [← h2]; exact List.drop_eq_getElem_cons h1
    rw [hd, ckE] at he
    have w1 : IntKind.i64.wrap ((n : Int) + 1) = ((n + 1 : Nat) : Int) := by rw [wrap_i64 (by omega) (by omega)]; omega
    have k4 : n * 2 + 2 ≤ (kC L).length := by omega
    by_cases c1 : chkR k.1 = 0
    · by_cases c2 : chkR k.2 = 0
      · rw [if_pos ⟨c1, c2⟩] at he
        obtain ⟨q, hq, hqs, q1, q2⟩ := chkR_rat c1
        rw [hq] at he
        have q1' : (natD q.num.natAbs).length ≤ 40000 := by omega
        have q2' : (natD q.den).length ≤ 40000 := by omega
        simp only [Option.getD_some] at he
        rcases hp with ⟨rfl, rfl⟩ | ⟨m, r, j, rfl, rfl, hj, hjs, r1, r2⟩
        · rw [if_pos (by rfl)] at he
          left
          refine ⟨1, ?_⟩
          have hz : (0 : Int) < L.length := by omega
          have b1 : behind L 1 (some q) := .inr ⟨0, q, k, rfl, rfl, hk, hqs, q1, q2⟩
          have w3 : IntKind.i64.wrap 1 = 1 := rfl
          simp at k1 k4 hlt
          simp [h0, h8, h9, hlt, pureO, Tryz.ratF4, l1, l2, c1, c2, k1, k4, w3, kC_refs, Nat.testBit]
          exact ⟨⟨by omega, _, b1, by simpa using he⟩, by omega⟩
        · obtain ⟨j1, j2, j3⟩ := kC_at hj
          have w2 : IntKind.i64.wrap (((m + 1 : Nat) : Int) - 1) = (m : Int) := by rw [wrap_i64 (by omega) (by omega)]; omega
          have r1' : (natD r.num.natAbs).length ≤ 40000 := by omega
          have r2' : (natD r.den).length ≤ 40000 := by omega
          obtain ⟨n, hn⟩ : ∃ n, n = m + 1 := ⟨_, rfl⟩
          rw [← hn] at hk k1 k2 k3 k4 w1 w2 hlt hn1 he hd ⊢
          have n0 : (0 : Int) < n := by omega
          have n0' : 0 < n := by omega
          have hm : m < L.length := by omega
          rw [hqs] at l1 c1 k1
          rw [hjs] at j2
          have b1 : behind L (n + 1) (some q) := .inr ⟨n, q, k, rfl, rfl, hk, hqs, q1, q2⟩
          obtain ⟨v, hv⟩ : ∃ v, v = n + 1 := ⟨_, rfl⟩
          rw [← hv] at w1 b1 he
          by_cases hrq : r < q
          · have c : ¬ cmpQ q r ≤ 0 := fun h => by have := cmpQ_le.1 h; grind
            rw [if_pos (by simp [risesB, hrq])] at he
            left
            refine ⟨v, ?_⟩
            simp [h0, h8, h9, hlt, hm, n0, n0', pureO, Tryz.ratF4, Tryz.ratF3, ratP_ratS, l1, l2, c1, c2, k1, k4, j2, w1, w2, q1', q2', r1', r2', c, kC_refs, Nat.testBit]
            exact ⟨⟨by omega, _, b1, he⟩, by omega⟩
          · have c : cmpQ q r ≤ 0 := cmpQ_le.2 (by grind)
            rw [if_neg (by simp [risesB, hrq])] at he
            right
            rw [he]
            simp [h0, h8, h9, hlt, hm, n0, n0', pureO, Tryz.ratF4, Tryz.ratF3, ratP_ratS, l1, l2, c1, c2, k1, k4, j2, w2, q1', q2', r1', r2', c, Nat.testBit]
            exact ⟨_, _, ⟨rfl, rfl⟩, ⟨_, _, rfl⟩, rfl⟩
      · rw [if_neg (fun h => c2 h.2)] at he
        right
        rw [he]
        simp [h0, h8, h9, hlt, pureO, Tryz.ratF4, l1, l2, c1, c2, k1, k4, Nat.testBit]
        exact ⟨_, _, ⟨rfl, rfl⟩, ⟨k.1, k.2, rfl⟩, rfl⟩
    · rw [if_neg (fun h => c1 h.1)] at he
      right
      rw [he]
      simp [h0, h8, h9, hlt, pureO, Tryz.ratF4, l1, l2, c1, k1, k4, Nat.testBit]
      exact ⟨_, _, ⟨rfl, rfl⟩, ⟨k.1, k.2, rfl⟩, rfl⟩
  · right
    have e : L.drop n = [] := List.drop_of_length_le (by omega)
    rw [e, ckE] at he
    rw [he]
    simp [h9, hlt]
end Go.Proofs
namespace Go.Proofs
open Go.Eng
def knE (L : List (List UInt8 × List UInt8)) : Int := if 20 < L.length then 4 else ckE none L
theorem Tryz.aECheckKnots (L : List (List UInt8 × List UInt8)) (hL : ∀ k ∈ L, k.1.length ≤ 1000000000 ∧ k.2.length ≤ 1000000000) (hl : L.length ≤ 1000000000) :
    ACallsTo Tryz.prog 44 [.slice 0 0 L.length none] [.cells false 2 (kC L)] (.int .i64 (knE L)) [.cells false 2 (kC L)] := by
  have hG : fnOf Tryz.prog 44 = some Tryz.f44 := by kernel_rfl
  obtain ⟨b, hb⟩ : ∃ b, loopsF Tryz.f44 = [b] := ⟨_, rfl⟩
  obtain ⟨F, hF⟩ := Tryz.check_knots_loop (K := L.length + 1) L hL hl (by omega) hb
  simp [loopsF, loopsC, Tryz.f44] at hb
  subst hb
  have h : callFn (tyOf Tryz.prog) (fun _ => [10]) (fnOf Tryz.prog) (pureO Tryz.ratF4) (L.length + 1) 44 [.slice 0 0 L.length none] [.cells false 2 (kC L)] = some ⟨.int .i64 (knE L), none, []⟩ := by
    unfold knE
    by_cases h20 : 20 < L.length
    · rw [if_pos h20]
      have h20I : (20 : Int) < L.length := by omega
      simp [callFn, hG, Tryz.f44, h20I, h20]
    · rw [if_neg h20]
      have h20I : ¬ (20 : Int) < L.length := by omega
      by_cases hc : ckE none L = 0
      · rw [if_pos hc] at hF
        have hF1 := fun env0 d h => (hF env0 d h).1
        have hF2 := fun env0 d h => (hF env0 d h).2.1 hc
        clear hF
        simp [callFn, hG, Tryz.f44, h20I, h20, hF1, hF2, kC_refs, hc]
      · rw [if_neg hc] at hF
        have hF1 := fun env0 d h => (hF env0 d h).1
        have hF2 := fun env0 d h => ((hF env0 d h).2.2 hc).1
        have hF3 := fun env0 d h => ((hF env0 d h).2.2 hc).2
        clear hF
        simp [callFn, hG, Tryz.f44, h20I, h20, hF1, hF2, hF3, kC_refs]
  have := (callFn_sound Tryz.mixed (tyOf_ok _) Tryz.rat4_ok (fnOf_ok _) h).1
  simpa [CallRes.mem] using this
end Go.Proofs
namespace Go.Proofs
open Go.Eng
def bigK (k : Nat) (Q : List (Rat × Rat)) : Prop := ∀ q ∈ Q, big k q.1 ∧ big k q.2
theorem getD_of {Q : List (Rat × Rat)} {i : Nat} {q : Rat × Rat} (h : Q[i]? = some q) : Q.getD i (0, 0) = q := by simp [List.getD, h]
set_option maxHeartbeats 1600000 in
theorem Tryz.aELine (Q : List (Rat × Rat)) (n : Nat) (hn : n ≤ Q.length) (hQ : bigK 40 Q) (hl : Q.length ≤ 1000000000)
    (hd : ∀ i a b, Q[i]? = some a → Q[i + 1]? = some b → b.1 - a.1 ≠ 0) :
    ACallsTo Tryz.prog 90 [.slice 0 0 Q.length none, .int .i64 n] [.cells false 2 (kC (kT Q))] (.tuple [.str (ratS (lineV Q n).1), .str (ratS (lineV Q n).2)]) [.cells false 2 (kC (kT Q))] := by
  have hG : fnOf Tryz.prog 90 = some Tryz.f90 := by kernel_rfl
  have z : ratS 0 = [48] := rfl
  have h : callFn (tyOf Tryz.prog) (fun _ => []) (fnOf Tryz.prog) (pureO Tryz.ratF4) 1 90 [.slice 0 0 Q.length none, .int .i64 n] [.cells false 2 (kC (kT Q))] = some ⟨.tuple [.str (ratS (lineV Q n).1), .str (ratS (lineV Q n).2)], none, []⟩ := by
    have kl : (kC (kT Q)).length = 2 * Q.length := by rw [kC_length, kT_length]
    unfold lineV
    by_cases h0 : Q = []
    · subst h0
      simp [callFn, hG, Tryz.f90, z]
    · have hp : 0 < Q.length := List.length_pos_iff.2 h0
      have hp' : ¬ Q.length = 0 := by omega
      rw [if_neg h0]
      by_cases hz : n = 0
      · subst hz
        obtain ⟨q, hq⟩ : ∃ q, Q[0]? = some q := ⟨Q[0], List.getElem?_eq_getElem hp⟩
        obtain ⟨k1, k2, k3⟩ := kC_at (kT_at hq)
        rw [if_pos rfl, getD_of hq]
        simp at k3
        simp [callFn, hG, Tryz.f90, z, h0, hp, k3]
      · rw [if_neg hz]
        obtain ⟨m, rfl⟩ : ∃ m, n = m + 1 := ⟨n - 1, by omega⟩
        obtain ⟨a, ha⟩ : ∃ q, Q[m]? = some q := ⟨Q[m], List.getElem?_eq_getElem (by omega)⟩
        obtain ⟨a1, a2, a3⟩ := kC_at (kT_at ha)
        have w2 : IntKind.i64.wrap (((m + 1 : Nat) : Int) - 1) = (m : Int) := by rw [wrap_i64 (by omega) (by omega)]; omega
        have e1 : m + 1 - 1 = m := by omega
        rw [e1, getD_of ha]
        have hm : m < Q.length := by omega
        by_cases hE : m + 1 = Q.length
        · rw [if_pos hE]
          rw [hE] at w2 ⊢
          simp [callFn, hG, Tryz.f90, z, h0, hp', hm, a3, w2]
        · rw [if_neg hE]
          have hE' : ¬ ((m : Int) + 1 = Q.length) := by omega
          obtain ⟨b, hb⟩ : ∃ q, Q[m + 1]? = some q := ⟨Q[m + 1], List.getElem?_eq_getElem (by omega)⟩
          obtain ⟨b1, b2, b3⟩ := kC_at (kT_at hb)
          rw [getD_of hb]
          have hnz := hd m a b ha hb
          obtain ⟨A1, A2⟩ := hQ a (List.mem_of_getElem? ha)
          obtain ⟨B1, B2⟩ := hQ b (List.mem_of_getElem? hb)
          have D1 := big_sub B2 A2
          have D2 := big_sub B1 A1
          have D3 := big_div D1 D2
          have D4 := big_mul D3 (A1.mono (by omega))
          unfold slopeV
          obtain ⟨⟨f1, f2⟩, f3, f4⟩ : fine a.1 ∧ fine a.2 := ⟨fine_of_big (by decide) (by decide) A1, fine_of_big (by decide) (by decide) A2⟩
          obtain ⟨⟨g1, g2⟩, g3, g4⟩ : fine b.1 ∧ fine b.2 := ⟨fine_of_big (by decide) (by decide) B1, fine_of_big (by decide) (by decide) B2⟩
          obtain ⟨⟨i1, i2⟩, i3, i4⟩ : fine (b.2 - a.2) ∧ fine (b.1 - a.1) := ⟨fine_of_big (by decide) (by decide) D1, fine_of_big (by decide) (by decide) D2⟩
          obtain ⟨⟨j1, j2⟩, j3, j4⟩ : fine ((b.2 - a.2) / (b.1 - a.1)) ∧ fine ((b.2 - a.2) / (b.1 - a.1) * a.1) := ⟨fine_of_big (by decide) (by decide) D3, fine_of_big (by decide) (by decide) D4⟩
          clear D1 D2 D3 D4 A1 A2 B1 B2
          obtain ⟨x, hx⟩ : ∃ x, x = b.2 - a.2 := ⟨_, rfl⟩
          obtain ⟨y, hy⟩ : ∃ y, y = b.1 - a.1 := ⟨_, rfl⟩
          rw [← hx] at i1 i2 j1 j2 j3 j4 ⊢
          rw [← hy] at i3 i4 j1 j2 j3 j4 hnz ⊢
          obtain ⟨s, hs⟩ : ∃ s, s = x / y := ⟨_, rfl⟩
          rw [← hs] at j1 j2 j3 j4 ⊢
          obtain ⟨t, ht⟩ : ∃ t, t = s * a.1 := ⟨_, rfl⟩
          rw [← ht] at j3 j4 ⊢
          have ka : m * 2 + 2 ≤ (kC (kT Q)).length := by omega
          have kb : (m + 1) * 2 + 2 ≤ (kC (kT Q)).length := by omega
          obtain ⟨v, hv⟩ : ∃ v, v = m + 1 := ⟨_, rfl⟩
          rw [← hv] at hE b1 kb w2 ⊢
          have hEI : ¬ (v : Int) = Q.length := by omega
          have v0 : ¬ v = 0 := by omega
          have vl : v < Q.length := by omega
          simp [callFn, hG, Tryz.f90, h0, hp', hm, hE, hEI, v0, vl, a1, b1, ka, kb, w2, pureO, Tryz.ratF4, Tryz.ratF3, ratP_ratS, f1, f2, f3, f4, g1, g2, g3, g4, ← hx, ← hy, i1, i2, i3, i4, hnz, ← hs, j1, j2, j3, j4, ← ht, Nat.testBit]
  have := (callFn_sound Tryz.mixed (tyOf_ok _) Tryz.rat4_ok (fnOf_ok _) h).1
  simpa [CallRes.mem] using this
end Go.Proofs
