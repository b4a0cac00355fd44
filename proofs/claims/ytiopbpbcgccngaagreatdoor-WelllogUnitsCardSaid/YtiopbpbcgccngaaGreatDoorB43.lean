/- Part B43 of a proof: see its last part, YtiopbpbcgccngaaGreatDoorB55.lean. -/
import Derived.Test.YtiopbpbcgccngaaGreatDoorB37
import Derived.Test.YtiopbpbcgccngaaGreatDoorB10
import Derived.Test.YtiopbpbcgccngaaGreatDoorB42
set_option linter.all false
namespace Go.Proofs
open Go.Eng
abbrev Hv := List UInt8 × Nat × Nat
def hvI (x : Hv) : Iv := (x.1, ratS (hf x.2.1), ratS (hf x.2.2))
def okH (x : Hv) : Prop := x.2.1 < x.2.2 ∧ x.2.2 ≤ 100000 ∧ x.1.length ≤ 1000000000
def mkH (a : Nat) : List Bit → List Hv
  | [] => []
  | b :: l => (unitS b.2.2, a + b.1 % 3, a + b.1 % 3 + (1 + b.2.1 % 6)) :: mkH (a + b.1 % 3 + (1 + b.2.1 % 6)) l
theorem mkL_H : ∀ (a : Nat) (l : List Bit), mkL a l = (mkH a l).map hvI
  | _, [] => rfl
  | a, b :: l => by rw [mkL, mkH, List.map_cons, mkL_H]; rfl
theorem mkH_length (a : Nat) (l : List Bit) : (mkH a l).length = l.length := by
  have := mkL_length a l
  rw [mkL_H, List.length_map] at this; exact this
theorem mkH_ok : ∀ (B : List Bit) (a : Nat), a + 8 * B.length ≤ 100000 → ∀ x ∈ mkH a B, okH x
  | [], _, _, x, hx => by cases hx
  | b :: B, a, ha, x, hx => by
    simp only [List.length_cons] at ha
    have g3 : b.1 % 3 < 3 := Nat.mod_lt _ (by omega)
    have t6 : b.2.1 % 6 < 6 := Nat.mod_lt _ (by omega)
    rw [mkH] at hx
    rcases List.mem_cons.1 hx with rfl | hx
    · exact ⟨by show a + b.1 % 3 < a + b.1 % 3 + (1 + b.2.1 % 6); omega, by show a + b.1 % 3 + (1 + b.2.1 % 6) ≤ 100000; omega, Nat.le_trans (unitS_len _) (by omega)⟩
    · exact mkH_ok B _ (by omega) x hx
theorem Tryz.aHas (u : List UInt8) (a b d : Rat) (ha : fine a) (hb : fine b) (hd : fine d) (mem : Mem) :
    ACallsTo Tryz.prog 50 [.agg [.str u, .str (ratS a), .str (ratS b)], .str (ratS d)] mem (.bool (decide (a ≤ d) && decide (d < b))) mem := by
  have hG : fnOf Tryz.prog 50 = some Tryz.f50 := by kernel_rfl
  refine Tryz.run Tryz.rat3_ok (lv := fun _ => []) (K := 1) rfl rfl ?_ mem
  obtain ⟨a1, a2⟩ := ha
  obtain ⟨b1, b2⟩ := hb
  obtain ⟨d1, d2⟩ := hd
  by_cases h1 : a ≤ d
  · have c1 := cmpQ_le.2 h1
    by_cases h2 : d < b
    · have c2 := cmpQ_lt.2 h2
      simp [callFn, hG, Tryz.f50, pureO, Tryz.ratF3, ratP_ratS, a1, a2, b1, b2, d1, d2, h1, h2, c1, c2]
    · have c2 : ¬ cmpQ d b < 0 := fun h => h2 (cmpQ_lt.1 h)
      simp [callFn, hG, Tryz.f50, pureO, Tryz.ratF3, ratP_ratS, a1, a2, b1, b2, d1, d2, h1, h2, c1, c2]
  · have c1 : ¬ cmpQ a d ≤ 0 := fun h => h1 (cmpQ_le.1 h)
    simp [callFn, hG, Tryz.f50, pureO, Tryz.ratF3, ratP_ratS, a1, a2, d1, d2, h1, c1]
def ivN (x : Iv) : Option (Rat × Rat) := match ratP x.2.1, ratP x.2.2 with
  | some a, some b => if (natD a.num.natAbs).length ≤ 200 ∧ (natD a.den).length ≤ 200 ∧ (natD b.num.natAbs).length ≤ 200 ∧ (natD b.den).length ≤ 200 then some (a, b) else none
  | _, _ => none
def hasB (d : Rat) (x : Iv) : Bool := match ivN x with
  | some (a, b) => decide (a ≤ d) && decide (d < b)
  | none => false
def rightIv (x : Iv) : Prop := ∃ a b, ivN x = some (a, b)
theorem ivN_some {x : Iv} {a b : Rat} (h : ivN x = some (a, b)) : x.2.1 = ratS a ∧ x.2.2 = ratS b ∧ fine a ∧ fine b := by
  unfold ivN at h
  split at h
  · rename_i a' b' h1 h2
    split at h
    · rename_i hc
      cases h
      exact ⟨ratP_some h1, ratP_some h2, ⟨by omega, by omega⟩, ⟨by omega, by omega⟩⟩
    · cases h
  · cases h
noncomputable def Tryz.w15F (f : FuncId) (args : List AV) : Option AV :=
  match f, args with
  | 50, [.agg [.str u, .str s, .str t], .str d] => match ivN (u, s, t), ratP d with
    | some _, some q => if (natD q.num.natAbs).length ≤ 40000 ∧ (natD q.den).length ≤ 40000 then some (.bool (hasB q (u, s, t))) else none
    | _, _ => none
  | f, args => Tryz.w5F f args
theorem Tryz.w15_ok : OracleOk Tryz.prog (pureO Tryz.w15F) := pureO_ok fun f args v h mem => by
  unfold Tryz.w15F at h
  split at h
  · rename_i u s t d
    split at h
    · rename_i p q hp hq
      obtain ⟨a, b⟩ := p
      split at h
      · rename_i hc
        cases h
        obtain ⟨e1, e2, f1, f2⟩ := ivN_some hp
        simp only at e1 e2
        rw [ratP_some hq]
        have := Tryz.aHas u a b q f1 f2 hc mem
        rw [← e1, ← e2] at this
        unfold hasB
        rw [hp]
        exact this
      · cases h
    · cases h
  · have := Tryz.w5_ok.fn _ _ mem ⟨v, none, []⟩ (by unfold pureO; simp only; rw [h])
    simpa [CallRes.mem] using this
def idxI (d : Rat) : Nat → List Iv → Int
  | _, [] => -1
  | i, x :: l => if hasB d x = true then (i : Int) else idxI d (i + 1) l
theorem idxI_ge {d : Rat} : ∀ {i : Nat} {l : List Iv}, -1 ≤ idxI d i l
  | _, [] => by unfold idxI; omega
  | i, x :: l => by
    unfold idxI
    split
    · omega
    · exact idxI_ge
def fineD (d : Rat) : Prop := (natD d.num.natAbs).length ≤ 40000 ∧ (natD d.den).length ≤ 40000
theorem Tryz.unit1_run (x : Iv) (hx : ∃ a b, ivN x = some (a, b)) (d : Rat) (hd : fineD d) (o : Bool) (e : Nat) (s0 : Slot) : callFn (tyOf Tryz.prog) (fun _ => []) (fnOf Tryz.prog) (pureO Tryz.w15F) 1 49 [.agg [.str x.1, .str x.2.1, .str x.2.2], .ptr 1 0] [s0, .cells o e [.str (ratS d)]] = some ⟨.bool (hasB d x), none, []⟩ := by
  have hG : fnOf Tryz.prog 49 = some Tryz.f49 := by kernel_rfl
  obtain ⟨a, b, hx⟩ := hx
  obtain ⟨u, s, t⟩ := x
  simp [callFn, hG, Tryz.f49, pureO, Tryz.w15F, hx, ratP_ratS, hd.1, hd.2]
noncomputable def Tryz.u1O : Oracle := fun c args M => match c, args, M with
  | .fn 49, [.agg [.str u, .str s, .str t], .ptr 1 0], [_, .cells _ _ [.str d]] => match ivN (u, s, t), ratP d with
    | some _, some q => if (natD q.num.natAbs).length ≤ 40000 ∧ (natD q.den).length ≤ 40000 then some ⟨.bool (hasB q (u, s, t)), none, []⟩ else none
    | _, _ => none
  | _, _, _ => none
theorem Tryz.u1O_ok : OracleOk Tryz.prog Tryz.u1O := by
  refine oracleOk_of fun c args M r h => ?_
  unfold Tryz.u1O at h
  split at h
  · rename_i u s t s0 o e d
    split at h
    · rename_i p q hp hq
      split at h
      · rename_i hc
        cases h
        refine soundAt_call ?_
        rw [ratP_some hq]
        have := (callFn_sound Tryz.mixed (tyOf_ok _) Tryz.w15_ok (fnOf_ok _) (Tryz.unit1_run (u, s, t) ⟨_, _, hp⟩ q hc o e s0)).1
        simpa [CallRes.mem] using this
      · cases h
    · cases h
  · cases h
set_option maxHeartbeats 1600000 in
theorem Tryz.indexf_loop {K : Nat} (L : List Iv) (hL : ∀ x ∈ L, rightIv x) (d : Rat) (hd : fineD d) (s1 : Slot) (o : Bool) (es : Nat) (hs1 : s1 = .cells o es [.str (ratS d)]) (hl : L.length ≤ 1000000000) (hK : L.length < K) {b : Code} (hb : loopsF Tryz.f48 = [b]) :
    ∃ F : Env → Bool → Env, ∀ env0 dd, (Go.Eng.look env0 0 = .slice 0 0 L.length none ∧ Go.Eng.look env0 1 = .func 49 [.ptr 1 0] ∧ Go.Eng.look env0 7 = .int .i64 L.length ∧ Go.Eng.look env0 8 = .int .i64 0) →
      execC (tyOf Tryz.prog) (fun _ => [8]) Tryz.u1O K 19 2 true (.loop b) ⟨env0, [.cells false 3 (ivC L), s1], dd⟩ = some (if idxI d 0 L < 0 then .exit 0 else .ret, ⟨F env0 dd, [.cells false 3 (ivC L), s1], dd⟩) ∧
        (¬ idxI d 0 L < 0 → Go.Eng.look (F env0 dd) 4 = .int .i64 (idxI d 0 L)) := by
  refine loop_rule rfl (fun env0 => Go.Eng.look env0 0 = .slice 0 0 L.length none ∧ Go.Eng.look env0 1 = .func 49 [.ptr 1 0] ∧ Go.Eng.look env0 7 = .int .i64 L.length ∧ Go.Eng.look env0 8 = .int .i64 0) (fun _ env' => ¬ idxI d 0 L < 0 → Go.Eng.look env' 4 = .int .i64 (idxI d 0 L)) ?_
  rintro env0 dd ⟨h0, h1, h7, h8⟩
  simp [loopsF, loopsC, Tryz.f48] at hb
  have hn : normE [8] (writesC b) env0 ((8, .int .i64 ((0 : Nat) : Int)) :: env0) = normE [8] (writesC b) env0 env0 := by simp [normE, h8]
  rw [← hn]
  have kl : (ivC L).length = L.length * 3 := ivC_length L
  refine iter_ind (α := Nat) (fun n => ⟨normE [8] (writesC b) env0 ((8, .int .i64 (n : Int)) :: env0), [.cells false 3 (ivC L), s1], dd⟩) (fun n => L.length - n) (fun n => n ≤ L.length ∧ idxI d 0 L = idxI d n (L.drop n)) _ _ dd _ (by split <;> simp) ?_ K 0 ⟨by omega, by rw [List.drop_zero]⟩ (by omega)
  rintro n ⟨hn1, he⟩
  clear hn
  subst hb
  by_cases hlt : n < L.length
  · obtain ⟨x, hx⟩ : ∃ x, L[n]? = some x := ⟨L[n], List.getElem?_eq_getElem hlt⟩
    obtain ⟨k1, _, _, _⟩ := ivC_at hx
    have k5 : n * 3 + 3 ≤ (ivC L).length := by omega
    obtain ⟨a, b, hab⟩ := hL x (List.mem_of_getElem? hx)
    have hd' : L.drop n = x :: L.drop (n + 1) := by
      rw [List.getElem?_eq_some_iff] at hx
      obtain ⟨h1, h2⟩ := hx
      rw [← h2]; exact List.drop_eq_getElem_cons h1
    rw [hd', idxI] at he
    have w1 : IntKind.i64.wrap ((n : Int) + 1) = ((n + 1 : Nat) : Int) := by rw [wrap_i64 (by omega) (by omega)]; omega
    obtain ⟨u, s, t⟩ := x
    simp only at k1
    cases hh : hasB d (u, s, t) with
    | true =>
      right
      rw [if_pos hh] at he
      have hng : ¬ (n : Int) < 0 := by omega
      rw [he, if_neg hng]
      subst hs1
      simp [h0, h1, h7, hlt, k1, k5, Tryz.u1O, hab, ratP_ratS, hd.1, hd.2, hh]
    | false =>
      left
      rw [if_neg (by rw [hh]; simp)] at he
      refine ⟨n + 1, ?_⟩
      refine exists_and_fin (show (n + 1 ≤ L.length ∧ idxI d 0 L = idxI d (n + 1) (L.drop (n + 1))) ∧ L.length - (n + 1) < L.length - n from ⟨⟨by omega, he⟩, by omega⟩) ?_
      subst hs1
      simp [h0, h1, h7, hlt, k1, k5, Tryz.u1O, hab, ratP_ratS, hd.1, hd.2, hh, w1]
  · right
    have e : L.drop n = [] := List.drop_of_length_le (by omega)
    rw [e, idxI] at he
    rw [he, if_pos (by decide)]
    simp [h7, hlt]
end Go.Proofs
namespace Go.Proofs
open Go.Eng
theorem idxI_find {d : Rat} : ∀ (i : Nat) (l : List Iv), (idxI d i l < 0 ∧ l.find? (hasB d) = none) ∨ ∃ k x, idxI d i l = ((i + k : Nat) : Int) ∧ l[k]? = some x ∧ l.find? (hasB d) = some x
  | i, [] => .inl ⟨by unfold idxI; omega, rfl⟩
  | i, x :: l => by
    unfold idxI
    cases hx : hasB d x with
    | true => exact .inr ⟨0, x, by simp, rfl, by simp [List.find?, hx]⟩
    | false =>
      rcases idxI_find (i + 1) l with ⟨h1, h2⟩ | ⟨k, y, h1, h2, h3⟩
      · exact .inl ⟨by simpa using h1, by simp [List.find?, hx, h2]⟩
      · refine .inr ⟨k + 1, y, ?_, by simpa using h2, by simp [List.find?, hx, h3]⟩
        rw [if_neg (by simp), h1]; omega
theorem logE_right : ∀ (L : List Iv) (p : Option Rat), logE p L = 0 → ∀ x ∈ L, rightIv x
  | [], _, _, x, hx => by cases hx
  | y :: L, p, h, x, hx => by
    unfold logE at h
    split at h
    · rename_i h0
      rcases List.mem_cons.1 hx with rfl | hx
      · unfold ivE at h0
        split at h0
        · cases h0
        · split at h0
          · rename_i hc
            obtain ⟨a, ha, _, a1, a2⟩ := chkR_rat hc.1
            obtain ⟨z, hz, _, z1, z2⟩ := chkR_rat hc.2
            refine ⟨a, z, ?_⟩
            unfold ivN
            rw [ha, hz]
            simp only
            rw [if_pos ⟨a1, a2, z1, z2⟩]
          · cases h0
      · exact logE_right L _ h x hx
    · rename_i h0; exact absurd h h0
theorem logR_right {L : List Iv} (h : logR L = 0) : ∀ x ∈ L, rightIv x := by
  unfold logR at h
  split at h
  · cases h
  · exact logE_right L _ h
theorem Tryz.aIndexF (L : List Iv) (hL : ∀ x ∈ L, rightIv x) (d : Rat) (hd : fineD d) (o : Bool) (es : Nat) (hl : L.length ≤ 1000000000) :
    ACallsTo Tryz.prog 48 [.slice 0 0 L.length none, .func 49 [.ptr 1 0]] [.cells false 3 (ivC L), .cells o es [.str (ratS d)]] (.int .i64 (idxI d 0 L)) [.cells false 3 (ivC L), .cells o es [.str (ratS d)]] := by
  have hG : fnOf Tryz.prog 48 = some Tryz.f48 := by kernel_rfl
  obtain ⟨b, hb⟩ : ∃ b, loopsF Tryz.f48 = [b] := ⟨_, rfl⟩
  obtain ⟨s1, hs1⟩ : ∃ s1 : Slot, s1 = .cells o es [.str (ratS d)] := ⟨_, rfl⟩
  obtain ⟨F, hF⟩ := Tryz.indexf_loop (K := L.length + 1) L hL d hd s1 o es hs1 hl (by omega) hb
  simp [loopsF, loopsC, Tryz.f48] at hb
  subst hb
  subst hs1
  have h : callFn (tyOf Tryz.prog) (fun _ => [8]) (fnOf Tryz.prog) Tryz.u1O (L.length + 1) 48 [.slice 0 0 L.length none, .func 49 [.ptr 1 0]] [.cells false 3 (ivC L), .cells o es [.str (ratS d)]] = some ⟨.int .i64 (idxI d 0 L), none, []⟩ := by
    by_cases hc : idxI d 0 L < 0
    · rw [if_pos hc] at hF
      have hF1 := fun env0 d h => (hF env0 d h).1
      clear hF
      have h1 : idxI d 0 L = -1 := by have := idxI_ge (d := d) (i := 0) (l := L); omega
      rw [h1]
      simp [callFn, hG, Tryz.f48, hF1]
    · rw [if_neg hc] at hF
      have hF1 := fun env0 d h => (hF env0 d h).1
      have hF2 := fun env0 d h => (hF env0 d h).2 hc
      clear hF
      simp [callFn, hG, Tryz.f48, hF1, hF2]
  have := (callFn_sound Tryz.mixed (tyOf_ok _) Tryz.u1O_ok (fnOf_ok _) h).1
  simpa [CallRes.mem] using this
theorem Tryz.aIndexFNil (b : Nat) (M : Mem) : ACallsTo Tryz.prog 48 [.nilslice, .func 49 [.ptr b 0]] M (.int .i64 (-1)) M := by
  have hG : fnOf Tryz.prog 48 = some Tryz.f48 := by kernel_rfl
  have h : callFn (tyOf Tryz.prog) (fun _ => [8]) (fnOf Tryz.prog) noOracle 1 48 [.nilslice, .func 49 [.ptr b 0]] M = some ⟨.int .i64 (-1), none, []⟩ := by
    simp [callFn, hG, Tryz.f48, execC_loop, iter]
  have := (callFn_sound Tryz.mixed (tyOf_ok _) (noOracle_ok _) (fnOf_ok _) h).1
  simpa [CallRes.mem] using this
def unitR (L : List Iv) (s : List UInt8) : List UInt8 × Bool × Int :=
  if logR L ≠ 0 then ([], false, logR L) else if chkR s ≠ 0 then ([], false, 2) else
  match L.find? (hasB ((ratP s).getD 0)) with
  | none => ([], false, 0)
  | some x => (x.1, true, 0)
theorem Tryz.aUnitP (L : List Iv) (hL : shortIv L) (hl : L.length ≤ 1000000) (s : List UInt8) (hs : s.length ≤ 1000000000) :
    ACallsTo Tryz.prog 17 [.slice 0 0 L.length none, .str s] [.cells false 3 (ivC L)] (.tuple [.str (unitR L s).1, .bool (unitR L s).2.1, .int .i64 (unitR L s).2.2]) [.cells false 3 (ivC L)] := by
  have hG : fnOf Tryz.prog 17 = some Tryz.f17 := by kernel_rfl
  have hi : ∀ r, ivs (.cells false 3 (ivC L) :: r) (.slice 0 0 L.length none) = some L := fun r => ivs_at rfl rfl (ivC_take L)
  have hsb := shortB_iff.2 hL
  have hl2 : L.length ≤ 1000000000 := by omega
  unfold unitR
  by_cases h0 : logR L = 0
  · rw [if_neg (by simpa using h0)]
    by_cases h1 : chkR s = 0
    · rw [if_neg (by simpa using h1)]
      obtain ⟨q, hq, rfl, q1, q2⟩ := chkR_rat h1
      have hd : fineD q := ⟨by omega, by omega⟩
      have hix := Tryz.aIndexF L (logR_right h0) q hd true 0 hl2
      have hix' : ACallsTo Tryz.prog 48 [.slice 0 0 L.length none, .func 49 [.ptr 1 0]] [.cells false 3 (ivC L), .cells true 0 [.str (ratS q)]] (.int .i64 (idxI q 0 L)) ([.cells false 3 (ivC L), .cells true 0 [.str (ratS q)]] ++ []) := by simpa using hix
      have hO := Tryz.w6_ok.or (oneO_ok hix')
      obtain ⟨O, hOd⟩ : ∃ O, O = Oracle.or Tryz.w6O (oneO 48 [.slice 0 0 L.length none, .func 49 [.ptr 1 0]] [.cells false 3 (ivC L), .cells true 0 [.str (ratS q)]] ⟨.int .i64 (idxI q 0 L), none, []⟩) := ⟨_, rfl⟩
      rw [← hOd] at hO
      have o1 : ∀ r, O (.fn 29) [.slice 0 0 L.length none] (.cells false 3 (ivC L) :: r) = some ⟨.int .i64 0, none, []⟩ := fun r => by rw [hOd]; simp [Oracle.or, Tryz.w6O, hi, hsb, hl2, h0]
      have o2 : ∀ M, O (.fn 40) [.str (ratS q)] M = some ⟨.int .i64 0, none, []⟩ := fun M => by rw [hOd]; simp [Oracle.or, Tryz.w6O, pureO, Tryz.w5F, Tryz.ratF4, hs, h1]
      have o3 : O (.fn 48) [.slice 0 0 L.length none, .func 49 [.ptr 1 0]] [.cells false 3 (ivC L), .cells true 0 [.str (ratS q)]] = some ⟨.int .i64 (idxI q 0 L), none, []⟩ := by rw [hOd]; simp [Oracle.or, Tryz.w6O, pureO, Tryz.w5F, Tryz.ratF4, Tryz.ratF3, Tryz.ratF2, Tryz.ratF1, Tryz.intF3, Tryz.intF2, Tryz.intF1, Tryz.strF, oneO_at]
      clear hOd hix hix'
      rw [hq, Option.getD_some]
      rcases idxI_find (d := q) 0 L with ⟨e1, e2⟩ | ⟨k, x, e1, e2, e3⟩
      · rw [e2]
        have h : callFn (tyOf Tryz.prog) (fun _ => []) (fnOf Tryz.prog) O 1 17 [.slice 0 0 L.length none, .str (ratS q)] [.cells false 3 (ivC L)] = some ⟨.tuple [.str [], .bool false, .int .i64 0], none, []⟩ := by
          simp [callFn, hG, Tryz.f17, o1, o2, o3, e1, ivC_refs, ivC_ren]
        have := (callFn_sound Tryz.mixed (tyOf_ok _) hO (fnOf_ok _) h).1
        simpa [CallRes.mem] using this
      · rw [e3]
        rw [Nat.zero_add] at e1
        rw [e1] at o3
        obtain ⟨k1, k2, _, _⟩ := ivC_at e2
        have kl : (ivC L).length = L.length * 3 := ivC_length L
        have klt : k < L.length := (List.getElem?_eq_some_iff.1 e2).1
        have k5 : k * 3 + 3 ≤ (ivC L).length := by omega
        have kl3 : k * 3 < (ivC L).length := by omega
        have hkn : ¬ (k : Int) < 0 := by omega
        have kg : ∀ h, (ivC L)[k * 3]'h = .str x.1 := fun h => by
          rw [List.getElem?_eq_getElem h] at k2
          exact Option.some.inj k2
        have h : callFn (tyOf Tryz.prog) (fun _ => []) (fnOf Tryz.prog) O 1 17 [.slice 0 0 L.length none, .str (ratS q)] [.cells false 3 (ivC L)] = some ⟨.tuple [.str x.1, .bool true, .int .i64 0], none, []⟩ := by
          simp [callFn, hG, Tryz.f17, o1, o2, o3, ivC_refs, ivC_ren, hkn, klt, k5, k1, k2, kl3, kg]
        have := (callFn_sound Tryz.mixed (tyOf_ok _) hO (fnOf_ok _) h).1
        simpa [CallRes.mem] using this
    · rw [if_pos h1]
      have h : callFn (tyOf Tryz.prog) (fun _ => []) (fnOf Tryz.prog) Tryz.w6O 1 17 [.slice 0 0 L.length none, .str s] [.cells false 3 (ivC L)] = some ⟨.tuple [.str [], .bool false, .int .i64 2], none, []⟩ := by
        simp [callFn, hG, Tryz.f17, Tryz.w6O, pureO, Tryz.w5F, Tryz.ratF4, hi, hsb, hl2, h0, h1, hs]
      have := (callFn_sound Tryz.mixed (tyOf_ok _) Tryz.w6_ok (fnOf_ok _) h).1
      simpa [CallRes.mem] using this
  · rw [if_pos h0]
    have h : callFn (tyOf Tryz.prog) (fun _ => []) (fnOf Tryz.prog) Tryz.w6O 1 17 [.slice 0 0 L.length none, .str s] [.cells false 3 (ivC L)] = some ⟨.tuple [.str [], .bool false, .int .i64 (logR L)], none, []⟩ := by
      simp [callFn, hG, Tryz.f17, Tryz.w6O, hi, hsb, hl2, h0]
    have := (callFn_sound Tryz.mixed (tyOf_ok _) Tryz.w6_ok (fnOf_ok _) h).1
    simpa [CallRes.mem] using this
end Go.Proofs
namespace Go.Proofs
open Go.Eng
def unitL (o : Option Iv) : List UInt8 := match o with
  | none => [45]
  | some x => x.1
set_option maxHeartbeats 3200000 in
theorem Tryz.lunit_loop {K : Nat} (L : List Iv) (hL : ∀ x ∈ L, rightIv x) (d : Rat) (hd : fineD d) (hl : L.length ≤ 1000000000) (hK : L.length < K) {b : Code} (hb : loopsF Tryz.f14 = [b]) :
    ∃ F : Env → Bool → Env × Mem × Iv, ∀ env0 dd, (Go.Eng.look env0 1 = .str (ratS d) ∧ Go.Eng.look env0 7 = .slice 0 0 L.length none ∧ Go.Eng.look env0 8 = .int .i64 L.length ∧ Go.Eng.look env0 9 = .int .i64 0) →
      execC (tyOf Tryz.prog) (fun _ => [9]) (pureO Tryz.w5F) K 28 1 true (.loop b) ⟨env0, [.cells false 3 (ivC L)], dd⟩ = some (if L.find? (hasB d) = none then .exit 0 else .ret, ⟨(F env0 dd).1, (F env0 dd).2.1, dd⟩) ∧
        ((L.find? (hasB d) = none → (F env0 dd).2.1 = [.cells false 3 (ivC L)]) ∧ (L.find? (hasB d) ≠ none → (F env0 dd).2.1 = [.cells false 3 (ivC L), .cells true 0 [.str (F env0 dd).2.2.1, .str (F env0 dd).2.2.2.1, .str (F env0 dd).2.2.2.2]] ∧ Go.Eng.look (F env0 dd).1 4 = .str (unitL (L.find? (hasB d))))) := by
  refine loop_rule_m (β := Iv) rfl (fun env0 => Go.Eng.look env0 1 = .str (ratS d) ∧ Go.Eng.look env0 7 = .slice 0 0 L.length none ∧ Go.Eng.look env0 8 = .int .i64 L.length ∧ Go.Eng.look env0 9 = .int .i64 0) (fun _ env' mem' x => (L.find? (hasB d) = none → mem' = [.cells false 3 (ivC L)]) ∧ (L.find? (hasB d) ≠ none → mem' = [.cells false 3 (ivC L), .cells true 0 [.str x.1, .str x.2.1, .str x.2.2]] ∧ Go.Eng.look env' 4 = .str (unitL (L.find? (hasB d))))) ?_
  rintro env0 dd ⟨h1, h7, h8, h9⟩
  simp [loopsF, loopsC, Tryz.f14] at hb
  have hn : normE [9] (writesC b) env0 ((9, .int .i64 ((0 : Nat) : Int)) :: env0) = normE [9] (writesC b) env0 env0 := by simp [normE, h9]
  rw [← hn]
  have kl : (ivC L).length = L.length * 3 := ivC_length L
  refine iter_ind_m (α := Nat) (fun s => ⟨normE [9] (writesC b) env0 ((9, .int .i64 (s : Int)) :: env0), [.cells false 3 (ivC L)], dd⟩) (fun s => L.length - s) (fun s => s ≤ L.length ∧ L.find? (hasB d) = (L.drop s).find? (hasB d)) (if L.find? (hasB d) = none then .exit 0 else .ret) dd (fun env' mem' => ∃ x : Iv, (L.find? (hasB d) = none → mem' = [.cells false 3 (ivC L)]) ∧ (L.find? (hasB d) ≠ none → mem' = [.cells false 3 (ivC L), .cells true 0 [.str x.1, .str x.2.1, .str x.2.2]] ∧ Go.Eng.look env' 4 = .str (unitL (L.find? (hasB d))))) (by split <;> simp) ?_ K 0 ⟨by omega, by rw [List.drop_zero]⟩ (by omega)
  rintro n ⟨hn1, he⟩
  clear hn
  subst hb
  by_cases hlt : n < L.length
  · obtain ⟨k, hk⟩ : ∃ k, L[n]? = some k := ⟨L[n], List.getElem?_eq_getElem hlt⟩
    obtain ⟨k1, _, _, _⟩ := ivC_at hk
    obtain ⟨a, z, hab⟩ := hL k (List.mem_of_getElem? hk)
    obtain ⟨e1, e2, ⟨a1, a2⟩, ⟨z1, z2⟩⟩ := ivN_some hab
    have hdr : L.drop n = k :: L.drop (n + 1) := by
      rw [List.getElem?_eq_some_iff] at hk
      obtain ⟨h1, h2⟩ := hk
      rw [← h2]; exact List.drop_eq_getElem_cons h1
    have hhas : hasB d k = (decide (a ≤ d) && decide (d < z)) := by unfold hasB; rw [hab]
    rw [hdr, List.find?_cons] at he
    have w1 : IntKind.i64.wrap ((n : Int) + 1) = ((n + 1 : Nat) : Int) := by rw [wrap_i64 (by omega) (by omega)]; omega
    have k5 : n * 3 + 3 ≤ (ivC L).length := by omega
    obtain ⟨u, f, t⟩ := k
    simp only at k1 e1 e2
    subst e1 e2
    obtain ⟨d1, d2⟩ := hd
    by_cases c1 : a ≤ d
    · have g1 := cmpQ_le.2 c1
      by_cases c2 : d < z
      · right
        have g2 := cmpQ_lt.2 c2
        have hh : hasB d (u, ratS a, ratS z) = true := by rw [hhas]; simp [c1, c2]
        rw [hh] at he
        simp only at he
        rw [he, if_neg (by simp)]
        simp [h1, h7, h8, hlt, k1, k5, pureO, Tryz.w5F, Tryz.ratF4, Tryz.ratF3, ratP_ratS, a1, a2, z1, z2, d1, d2, g1, g2, unitL]
        exact ⟨_, _, ⟨rfl, rfl⟩, ⟨_, _, _, rfl⟩, rfl⟩
      · left
        have g2 : ¬ cmpQ d z < 0 := fun h => c2 (cmpQ_lt.1 h)
        have hh : hasB d (u, ratS a, ratS z) = false := by rw [hhas]; simp [c2]
        rw [hh] at he
        simp only at he
        refine ⟨n + 1, ?_⟩
        simp [h1, h7, h8, hlt, k1, k5, pureO, Tryz.w5F, Tryz.ratF4, Tryz.ratF3, ratP_ratS, a1, a2, z1, z2, d1, d2, g1, g2, w1, ivC_refs]
        exact ⟨⟨by omega, he⟩, by omega⟩
    · left
      have g1 : ¬ cmpQ a d ≤ 0 := fun h => c1 (cmpQ_le.1 h)
      have hh : hasB d (u, ratS a, ratS z) = false := by rw [hhas]; simp [c1]
      rw [hh] at he
      simp only at he
      refine ⟨n + 1, ?_⟩
      simp [h1, h7, h8, hlt, k1, k5, pureO, Tryz.w5F, Tryz.ratF4, Tryz.ratF3, ratP_ratS, a1, a2, z1, z2, d1, d2, g1, w1, ivC_refs]
      exact ⟨⟨by omega, he⟩, by omega⟩
  · right
    have e : L.drop n = [] := List.drop_of_length_le (by omega)
    rw [e, List.find?_nil] at he
    rw [he]
    simp [h8, hlt]
theorem Tryz.aLUnitP (L : List Iv) (hL : ∀ x ∈ L, rightIv x) (d : Rat) (hd : fineD d) (hl : L.length ≤ 1000000000) :
    ACallsTo Tryz.prog 14 [.slice 0 0 L.length none, .str (ratS d)] [.cells false 3 (ivC L)] (.str (unitL (L.find? (hasB d)))) [.cells false 3 (ivC L)] := by
  have hG : fnOf Tryz.prog 14 = some Tryz.f14 := by kernel_rfl
  obtain ⟨b, hb⟩ : ∃ b, loopsF Tryz.f14 = [b] := ⟨_, rfl⟩
  obtain ⟨F, hF⟩ := Tryz.lunit_loop (K := L.length + 1) L hL d hd hl (by omega) hb
  simp [loopsF, loopsC, Tryz.f14] at hb
  subst hb
  have h : callFn (tyOf Tryz.prog) (fun _ => [9]) (fnOf Tryz.prog) (pureO Tryz.w5F) (L.length + 1) 14 [.slice 0 0 L.length none, .str (ratS d)] [.cells false 3 (ivC L)] = some ⟨.str (unitL (L.find? (hasB d))), none, []⟩ := by
    by_cases hc : L.find? (hasB d) = none
    · rw [if_pos hc] at hF
      have hF1 := fun env0 d h => (hF env0 d h).1
      have hF2 := fun env0 d h => (hF env0 d h).2.1 hc
      clear hF
      rw [hc]
      simp [callFn, hG, Tryz.f14, hF1, hF2, unitL]
    · rw [if_neg hc] at hF
      have hF1 := fun env0 d h => (hF env0 d h).1
      have hF2 := fun env0 d h => ((hF env0 d h).2.2 hc).1
      have hF3 := fun env0 d h => ((hF env0 d h).2.2 hc).2
      clear hF
      simp [callFn, hG, Tryz.f14, hF1, hF2, hF3, ivC_refs]
  have := (callFn_sound Tryz.mixed (tyOf_ok _) Tryz.w5_ok (fnOf_ok _) h).1
  simpa [CallRes.mem] using this
def thN (u : List UInt8) : List Hv → Nat
  | [] => 0
  | x :: l => (if x.1 = u then x.2.2 - x.2.1 else 0) + thN u l
theorem hf_add (n m : Nat) : hf n + hf m = hf (n + m) := by
  rw [hf_eq, hf_eq, hf_eq]; push_cast; grind
theorem hf_sub {n m : Nat} (h : m ≤ n) : hf n - hf m = hf (n - m) := by
  have := hf_add (n - m) m
  rw [show n - m + m = n by omega] at this
  grind
theorem hf_zero : ratS (hf 0) = [48] := by kernel_rfl
set_option maxHeartbeats 3200000 in
theorem Tryz.thick_loop {O : Oracle} {K : Nat} (hsub : ∀ args M, O (.fn 16) args M = pureO Tryz.w5F (.fn 16) args M) (hadd : ∀ args M, O (.fn 15) args M = pureO Tryz.w5F (.fn 15) args M) (H : List Hv) (hH : ∀ x ∈ H, okH x) (u : List UInt8) (hl : H.length ≤ 1000000000) (hK : H.length < K) (hs : thN u H ≤ 1000000) {b : Code} (hb : loopsF Tryz.f18 = [b]) :
    ∃ F : Env → Bool → Env, ∀ env0 dd, (Go.Eng.look env0 1 = .str u ∧ Go.Eng.look env0 7 = .str [48] ∧ Go.Eng.look env0 15 = .slice 0 0 H.length none ∧ Go.Eng.look env0 16 = .int .i64 H.length ∧ Go.Eng.look env0 17 = .int .i64 0) →
      execC (tyOf Tryz.prog) (fun _ => [7, 17]) O K 37 1 true (.loop b) ⟨env0, [.cells false 3 (ivC (H.map hvI))], dd⟩ = some (.exit 0, ⟨F env0 dd, [.cells false 3 (ivC (H.map hvI))], dd⟩) ∧
        Go.Eng.look (F env0 dd) 7 = .str (ratS (hf (thN u H))) := by
  refine loop_rule rfl (fun env0 => Go.Eng.look env0 1 = .str u ∧ Go.Eng.look env0 7 = .str [48] ∧ Go.Eng.look env0 15 = .slice 0 0 H.length none ∧ Go.Eng.look env0 16 = .int .i64 H.length ∧ Go.Eng.look env0 17 = .int .i64 0) (fun _ env' => Go.Eng.look env' 7 = .str (ratS (hf (thN u H)))) ?_
  rintro env0 dd ⟨h1, h7, h15, h16, h17⟩
  simp [loopsF, loopsC, Tryz.f18] at hb
  have hn : normE [7, 17] (writesC b) env0 ((7, .str (ratS (hf 0))) :: (17, .int .i64 ((0 : Nat) : Int)) :: env0) = normE [7, 17] (writesC b) env0 env0 := by simp [normE, h7, h17, hf_zero]
  rw [← hn]
  obtain ⟨L, hLd⟩ : ∃ L, L = H.map hvI := ⟨_, rfl⟩
  have hLl : L.length = H.length := by rw [hLd]; simp
  have kl : (ivC L).length = H.length * 3 := by rw [ivC_length, hLl]
  rw [← hLd]
  refine iter_ind (α := Nat × Nat) (fun s => ⟨normE [7, 17] (writesC b) env0 ((7, .str (ratS (hf s.2))) :: (17, .int .i64 (s.1 : Int)) :: env0), [.cells false 3 (ivC L)], dd⟩) (fun s => H.length - s.1) (fun s => s.1 ≤ H.length ∧ thN u H = s.2 + thN u (H.drop s.1)) (.exit 0) _ dd _ (by simp) ?_ K (0, 0) ⟨by simp, by rw [List.drop_zero]; simp⟩ (by simp only; omega)
  rintro ⟨n, c⟩ ⟨hn1, he⟩
  simp only at hn1 he ⊢
  clear hn
  subst hb
  by_cases hlt : n < H.length
  · left
    obtain ⟨k, hk⟩ : ∃ k, H[n]? = some k := ⟨H[n], List.getElem?_eq_getElem hlt⟩
    have hkL : L[n]? = some (hvI k) := by rw [hLd, List.getElem?_map, hk]; rfl
    obtain ⟨k1, _, _, _⟩ := ivC_at hkL
    obtain ⟨o1, o2, o3⟩ := hH k (List.mem_of_getElem? hk)
    have hdr : H.drop n = k :: H.drop (n + 1) := by
      rw [List.getElem?_eq_some_iff] at hk
      obtain ⟨h1, h2⟩ := hk
      rw [← h2]; exact List.drop_eq_getElem_cons h1
    rw [hdr, thN] at he
    have w1 : IntKind.i64.wrap ((n : Int) + 1) = ((n + 1 : Nat) : Int) := by rw [wrap_i64 (by omega) (by omega)]; omega
    have k5 : n * 3 + 3 ≤ (ivC L).length := by omega
    obtain ⟨v, f, t⟩ := k
    simp only [hvI] at k1 o1 o2 o3 he
    by_cases hv : v = u
    · rw [if_pos hv] at he
      subst hv
      obtain ⟨g, hg⟩ : ∃ g, g = t - f := ⟨_, rfl⟩
      have s1 : hf t - hf f = hf g := by rw [hg]; exact hf_sub (by omega)
      have s2 : hf c + hf g = hf (c + g) := hf_add c g
      obtain ⟨e, hee⟩ : ∃ e, e = c + g := ⟨_, rfl⟩
      rw [← hg, ← Nat.add_assoc, ← hee] at he
      rw [← hee] at s2
      obtain ⟨t1, t2⟩ := hf_big t (by omega)
      obtain ⟨f1, f2⟩ := hf_big f (by omega)
      obtain ⟨g1, g2⟩ := hf_big g (by omega)
      obtain ⟨c1, c2⟩ := hf_big c (by omega)
      have t1' : (natD (hf t).num.natAbs).length ≤ 40000 := by omega
      have t2' : (natD (hf t).den).length ≤ 40000 := by omega
      have f1' : (natD (hf f).num.natAbs).length ≤ 40000 := by omega
      have f2' : (natD (hf f).den).length ≤ 40000 := by omega
      have g1' : (natD (hf g).num.natAbs).length ≤ 40000 := by omega
      have g2' : (natD (hf g).den).length ≤ 40000 := by omega
      have c1' : (natD (hf c).num.natAbs).length ≤ 40000 := by omega
      have c2' : (natD (hf c).den).length ≤ 40000 := by omega
      refine ⟨(n + 1, e), ?_⟩
      simp [h1, h7, h15, h16, hlt, k1, k5, hsub, hadd, pureO, Tryz.w5F, Tryz.ratF4, Tryz.ratF3, ratP_ratS, s1, s2, t1', t2', f1', f2', g1', g2', c1', c2', w1, ivC_refs]
      exact ⟨⟨by omega, he⟩, by omega⟩
    · rw [if_neg hv, Nat.zero_add] at he
      have hvb : (v == u) = false := by simpa using hv
      refine ⟨(n + 1, c), ?_⟩
      simp [h1, h7, h15, h16, hlt, k1, k5, hvb, w1, ivC_refs]
      exact ⟨⟨by omega, he⟩, by omega⟩
  · right
    have e : H.drop n = [] := List.drop_of_length_le (by omega)
    rw [e, thN, Nat.add_zero] at he
    rw [he]
    simp [h16, hlt]
end Go.Proofs
