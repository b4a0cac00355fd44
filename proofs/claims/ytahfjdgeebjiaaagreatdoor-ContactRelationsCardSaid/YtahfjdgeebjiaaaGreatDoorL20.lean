/- Part L20 of a proof: see its last part, YtahfjdgeebjiaaaGreatDoorL55.lean. -/
import Derived.Test.YtahfjdgeebjiaaaGreatDoorL19
import Derived.Test.YtahfjdgeebjiaaaGreatDoorL08
set_option linter.all false
namespace Go.Proofs
open Go.Eng
theorem Tryz.backward {n : Nat} {A : List Nat} (hA : A.length = n) (hn : 0 < n) (hl : n ≤ 1000000000) (bs bA yb m0 eb : Nat) (ob oA : Bool) (M : Nat → Mem)
    (hlen : ∀ j, j ≤ n → (M j).length = m0) (hs : ∀ j, j ≤ n → (M j)[bs]? = some (.cells ob eb [.slice bA 0 n none])) (hr : ∀ j, j ≤ n → (M j)[bA]? = some (.cells oA 1 (iN .u64 A)))
    (hrefs : ∀ s ∈ M 0, s.refs m0 = []) (hy : ∀ j, j < n → AYieldsTo Tryz.prog yb [.int .i64 (j : Int), .int .u64 ((A.getD j 0 : Nat) : Int)] (M (j + 1)) (.bool true) (M j)) :
    ACallsTo Tryz.prog 340 [.yield yb, .ptr bs 0] (M n) (.tuple []) (M 0) := by
  have hG : fnOf Tryz.prog 340 = some Tryz.f340 := by kernel_rfl
  obtain ⟨O, hO, hOr⟩ := oracle_family (P := Tryz.prog) (fun j : Nat => j < n) (fun _ => .yld yb) (fun j => [.int .i64 (j : Int), .int .u64 ((A.getD j 0 : Nat) : Int)]) (fun j => M (j + 1)) (fun j => ⟨.bool true, some (M j), []⟩)
    (fun j hj => ⟨by simpa [CallRes.mem] using hy j hj, fun q hq => by cases hq; rw [hlen j (by omega), hlen (j + 1) (by omega)]⟩)
    (fun i j _ _ _ h _ => by
      simp only [List.cons.injEq, AV.int.injEq] at h
      have : i = j := by omega
      rw [this])
  obtain ⟨b, hb⟩ : ∃ b, loopsF Tryz.f340 = [b] := ⟨_, rfl⟩
  have loop : ∃ F : Env → Env, ∀ env0, (Go.Eng.look env0 0 = .yield yb ∧ Go.Eng.look env0 1 = .ptr bs 0 ∧ Go.Eng.look env0 3 = .int .i64 ((n : Int) - 1)) →
      execC (tyOf Tryz.prog) (fun _ => [3]) O (n + 1) 19 m0 true (.loop b) ⟨env0, M n, false⟩ = some (.exit 0, ⟨F env0, M 0, true⟩) ∧ True := by
    refine loop_rule_d rfl false true (fun env0 => Go.Eng.look env0 0 = .yield yb ∧ Go.Eng.look env0 1 = .ptr bs 0 ∧ Go.Eng.look env0 3 = .int .i64 ((n : Int) - 1)) (fun _ _ => True) ?_
    rintro env0 ⟨h0, h1, h3⟩
    simp [loopsF, loopsC, Tryz.f340] at hb
    have hn0 : normE [3] (writesC b) env0 ((3, .int .i64 ((n : Int) - 1)) :: env0) = normE [3] (writesC b) env0 env0 := by simp [normE, h3]
    rw [← hn0]
    have e0 : (⟨normE [3] (writesC b) env0 ((3, .int .i64 ((n : Int) - 1)) :: env0), M n, false⟩ : XS) = ⟨normE [3] (writesC b) env0 ((3, .int .i64 ((n : Int) - 1)) :: env0), M n, decide (n < n)⟩ := by simp
    rw [e0]
    refine iter_ind (α := Nat) (fun k => ⟨normE [3] (writesC b) env0 ((3, .int .i64 ((k : Int) - 1)) :: env0), M k, decide (k < n)⟩) id (fun k => k ≤ n) (.exit 0) (M 0) true (fun _ => True) (by simp) ?_ (n + 1) n (Nat.le_refl _) (by simp)
    intro k hk
    clear hn0 e0
    subst hb
    cases k with
    | zero =>
      right
      simp [hn]
    | succ k =>
      left
      have hkn : k < n := by omega
      have e1 : (((k + 1 : Nat) : Int) - 1) = (k : Int) := by omega
      have w1 : IntKind.i64.wrap ((k : Int) - 1) = (k : Int) - 1 := wrap_i64 (by omega) (by omega)
      have l1 := hlen k (by omega)
      have l2 := hlen n (by omega)
      have s1 := hs (k + 1) (by omega)
      have r1 := hr (k + 1) (by omega)
      have o1 := hOr k hkn
      obtain ⟨x, hx, hx'⟩ := get_both (l := A) (i := k) (by omega)
      have hg : A.getD k 0 = x := by simp [List.getD, hx]
      rw [hg] at o1
      rw [e1]
      refine ⟨k, ?_⟩
      have hkn' : (k : Int) < (n : Int) := by omega
      simp [h0, h1, w1, l1, l2, s1, r1, hx, hx', hA, hkn, o1]
      omega
  obtain ⟨F, hF⟩ := loop
  simp [loopsF, loopsC, Tryz.f340] at hb
  subst hb
  have w1 : IntKind.i64.wrap ((n : Int) - 1) = (n : Int) - 1 := wrap_i64 (by omega) (by omega)
  have l2 := hlen n (by omega)
  have s1 := hs n (by omega)
  have hc : ∃ env', execC (tyOf Tryz.prog) (fun _ => [3]) O (n + 1) Tryz.f340.ntmps (M n).length true (Tryz.f340.body.getD .skip) ⟨entryEnv 0 [.yield yb, .ptr bs 0], M n, false⟩ = some (.normal, ⟨env', M 0, true⟩) := by
    simp [Tryz.f340, s1, w1, l2, hF]
  obtain ⟨env', hc⟩ := hc
  have := callFn_plain (T := tyOf Tryz.prog) (G := fnOf Tryz.prog) (v := .tuple []) hG rfl (by simp [Tryz.f340]) (.inl rfl) hc rfl (by rw [hlen 0 (by omega), l2]) rfl (by rw [l2]; exact hrefs)
  have h2 := (callFn_sound Tryz.mixed (tyOf_ok _) hO (fnOf_ok _) this).1
  simpa [CallRes.mem] using h2
end Go.Proofs
namespace Go.Proofs
open Go.Eng
def divMem (A : List Nat) (d : Nat) (ps : Array Tmp) (asg body : Code) (env0 : Env) (j : Nat) : Mem :=
  [.cells false 1 (iN .u64 A), .cells false 1 [.int .u64 (d : Int)], .cells true 0 [.slice 1 0 1 none], .cells true 0 [.slice 4 0 A.length none],
    .cells true 1 (iN .u64 (List.replicate j 0 ++ (divL 1000000000 d (A.drop j)).1)), .cells true 0 [.int .u64 (((divL 1000000000 d (A.drop j)).2 : Nat) : Int)], .cells true 0 [.slice 0 0 A.length none],
    .loop ⟨.ready, none, env0, 146, ps, asg, body⟩]
theorem Tryz.div_round (A : List Nat) (d : Nat) (hd0 : 0 < d) (hd : d < 1000000000) (hA : lok 1000000000 A = true) (hl : A.length ≤ 1000000000) {ps : Array Tmp} {asg body : Code} (hb : rangesF Tryz.f298 = [(ps, asg, body)])
    (env0 : Env) (h3 : Go.Eng.look env0 3 = .ptr 2 0) (h4 : Go.Eng.look env0 4 = .ptr 3 0) (h6 : Go.Eng.look env0 6 = .ptr 5 0) (he : env0.flatMap (fun e => e.2.refs 8) = []) (j : Nat) (hj : j < A.length) :
    AYieldsTo Tryz.prog 7 [.int .i64 (j : Int), .int .u64 ((A.getD j 0 : Nat) : Int)] (divMem A d ps asg body env0 (j + 1)) (.bool true) (divMem A d ps asg body env0 j) := by
  obtain ⟨x, hx, hx'⟩ := get_both hj
  have hxb := lok_get hA hx
  have hg : A.getD j 0 = x := by simp [List.getD, hx]
  have eA : A.drop j = x :: A.drop (j + 1) := by rw [List.drop_eq_getElem_cons hj, hx']
  rw [hg]
  have hst : staticC asg = true ∧ staticC body = true ∧ ps = #[27, 28] := by
    simp [rangesF, rangesC, Tryz.f298] at hb
    obtain ⟨rfl, rfl, rfl⟩ := hb
    exact ⟨by decide, by decide, rfl⟩
  obtain ⟨hst1, hst2, rfl⟩ := hst
  have hren : ∀ ks, renEnv (rho 8 ks) env0 = env0 := fun ks => renEnv_refs he
  have hdl : (divL 1000000000 d (A.drop j)) = (((divL 1000000000 d (A.drop (j + 1))).2 * 1000000000 + x) / d :: (divL 1000000000 d (A.drop (j + 1))).1, ((divL 1000000000 d (A.drop (j + 1))).2 * 1000000000 + x) % d) := by rw [eA]; rfl
  obtain ⟨i1, i2, i3, i4⟩ := divL_spec hd0 hd (A.drop (j + 1)) (lok_drop hA _)
  obtain ⟨r, hr⟩ : ∃ r, r = (divL 1000000000 d (A.drop (j + 1))).2 := ⟨_, rfl⟩
  obtain ⟨q, hq⟩ : ∃ q, q = (divL 1000000000 d (A.drop (j + 1))).1 := ⟨_, rfl⟩
  rw [← hr, ← hq] at hdl
  rw [← hr] at i1
  rw [← hq] at i4
  have hM1 : divMem A d #[27, 28] asg body env0 (j + 1) = [.cells false 1 (iN .u64 A), .cells false 1 [.int .u64 (d : Int)], .cells true 0 [.slice 1 0 1 none], .cells true 0 [.slice 4 0 A.length none],
    .cells true 1 (iN .u64 (List.replicate (j + 1) 0 ++ q)), .cells true 0 [.int .u64 (r : Int)], .cells true 0 [.slice 0 0 A.length none], .loop ⟨.ready, none, env0, 146, #[27, 28], asg, body⟩] := by rw [hr, hq]; rfl
  obtain ⟨s, hs⟩ : ∃ s : Nat, s = r * 1000000000 + x := ⟨_, rfl⟩
  rw [← hs] at hdl
  have hM2 : divMem A d #[27, 28] asg body env0 j = [.cells false 1 (iN .u64 A), .cells false 1 [.int .u64 (d : Int)], .cells true 0 [.slice 1 0 1 none], .cells true 0 [.slice 4 0 A.length none],
    .cells true 1 (iN .u64 (List.replicate j 0 ++ s / d :: q)), .cells true 0 [.int .u64 ((s % d : Nat) : Int)], .cells true 0 [.slice 0 0 A.length none], .loop ⟨.ready, none, env0, 146, #[27, 28], asg, body⟩] := by unfold divMem; rw [hdl]
  rw [hM1, hM2]
  have hql : q.length = A.length - (j + 1) := by rw [i4, List.length_drop]
  have hsd : s / d ≤ s := Nat.div_le_self _ _
  have hsm : s % d < d := Nat.mod_lt _ hd0
  obtain ⟨sq, hsq⟩ : ∃ sq, sq = s / d := ⟨_, rfl⟩
  obtain ⟨sr, hsr⟩ : ∃ sr, sr = s % d := ⟨_, rfl⟩
  have w1 : IntKind.u64.wrap ((r : Int) * 1000000000) = (r : Int) * 1000000000 := wrap_u64 (by omega) (by omega)
  have w2 : IntKind.u64.wrap ((r : Int) * 1000000000 + (x : Int)) = (s : Int) := by rw [wrap_u64 (by omega) (by omega)]; omega
  have w3 : IntKind.u64.wrap ((s : Int).tdiv (d : Int)) = (sq : Int) := by rw [tdiv_nat, ← hsq]; exact wrap_u64 (by omega) (by omega)
  have w3' : IntKind.u64.wrap ((s : Int) / (d : Int)) = (sq : Int) := by rw [← Int.natCast_ediv, ← hsq]; exact wrap_u64 (by omega) (by omega)
  have w4 : (s : Int).tmod (d : Int) = (sr : Int) := by rw [tmod_nat, ← hsr]
  have hdn : ¬ d = 0 := by omega
  have hjI : (j : Int) < (A.length : Int) := by omega
  have hup : (iN .u64 (List.replicate (j + 1) 0 ++ q)).take j ++ .int .u64 (sq : Int) :: (iN .u64 (List.replicate (j + 1) 0 ++ q)).drop (j + 1) = iN .u64 (List.replicate j 0 ++ sq :: q) := by
    rw [iN_upd _ _ _ _ (by simp; omega)]
    congr 1
    rw [List.take_append_of_le_length (by simp), List.take_replicate, List.drop_append, List.drop_of_length_le (by simp)]
    simp
  have htk : (List.replicate (j + 1) 0 ++ q).take j = List.replicate j 0 := by
    rw [List.take_append_of_le_length (by simp), List.take_replicate]
    congr 1; omega
  have hjq : j + 1 ≤ (List.replicate (j + 1) 0 ++ q).length := by simp
  rw [← hsq, ← hsr]
  have hc : callYld (tyOf Tryz.prog) (fun _ => []) noOracle 1 7 [.int .i64 (j : Int), .int .u64 (x : Int)] [.cells false 1 (iN .u64 A), .cells false 1 [.int .u64 (d : Int)], .cells true 0 [.slice 1 0 1 none], .cells true 0 [.slice 4 0 A.length none],
    .cells true 1 (iN .u64 (List.replicate (j + 1) 0 ++ q)), .cells true 0 [.int .u64 (r : Int)], .cells true 0 [.slice 0 0 A.length none], .loop ⟨.ready, none, env0, 146, #[27, 28], asg, body⟩] = some ⟨.bool true, some [.cells false 1 (iN .u64 A), .cells false 1 [.int .u64 (d : Int)], .cells true 0 [.slice 1 0 1 none], .cells true 0 [.slice 4 0 A.length none],
    .cells true 1 (iN .u64 (List.replicate j 0 ++ sq :: q)), .cells true 0 [.int .u64 (sr : Int)], .cells true 0 [.slice 0 0 A.length none], .loop ⟨.ready, none, env0, 146, #[27, 28], asg, body⟩], []⟩ := by
    clear hM1 hM2 hup
    simp [callYld, hst1, hst2]
    simp [rangesF, rangesC, Tryz.f298] at hb
    obtain ⟨rfl, rfl⟩ := hb
    clear hst1 hst2
    simp [h3, h4, h6, w1, w2, w3, w3', w4, hdn, hjI, hj, he, hren, jumpOf, endSt, iN_take, iN_drop, Nat.testBit]
    rw [htk, iN_append, iN_cons]
  have := (callYld_sound Tryz.mixed (tyOf_ok _) (noOracle_ok _) hc).1
  simpa [CallRes.mem] using this
theorem Tryz.div_range (A : List Nat) (d : Nat) (hd0 : 0 < d) (hd : d < 1000000000) (hA : lok 1000000000 A = true) (hl : A.length ≤ 1000000000) (hn : 0 < A.length) {ps : Array Tmp} {asg body : Code} (hb : rangesF Tryz.f298 = [(ps, asg, body)]) :
    ∃ O : Oracle, OracleOk Tryz.prog O ∧ ∀ env0, (Go.Eng.look env0 3 = .ptr 2 0 ∧ Go.Eng.look env0 4 = .ptr 3 0 ∧ Go.Eng.look env0 6 = .ptr 5 0 ∧ env0.flatMap (fun e => e.2.refs 8) = []) →
      O (.fn 340) [.yield 7, .ptr 6 0] (divMem A d ps asg body env0 A.length) = some ⟨.tuple [], some (divMem A d ps asg body env0 0), []⟩ := by
  refine oracle_family (ι := Env) (fun env0 => Go.Eng.look env0 3 = .ptr 2 0 ∧ Go.Eng.look env0 4 = .ptr 3 0 ∧ Go.Eng.look env0 6 = .ptr 5 0 ∧ env0.flatMap (fun e => e.2.refs 8) = []) (fun _ => .fn 340) (fun _ => [.yield 7, .ptr 6 0]) (fun env0 => divMem A d ps asg body env0 A.length) (fun env0 => ⟨.tuple [], some (divMem A d ps asg body env0 0), []⟩) ?_ ?_
  · rintro env0 ⟨h3, h4, h6, he⟩
    refine ⟨?_, fun q hq => by cases hq; rfl⟩
    have := Tryz.backward (n := A.length) (A := A) rfl hn hl 6 0 7 8 0 true false (divMem A d ps asg body env0) (fun _ _ => rfl) (fun _ _ => rfl) (fun _ _ => rfl) (fun s hs => by
      simp only [divMem, List.mem_cons, List.not_mem_nil, or_false] at hs
      rcases hs with rfl | rfl | rfl | rfl | rfl | rfl | rfl | rfl
      all_goals first | exact refs_loop he | simp) (fun j hj => Tryz.div_round A d hd0 hd hA hl hb env0 h3 h4 h6 he j hj)
    simpa [CallRes.mem] using this
  · intro i j _ _ _ _ h
    simp only [divMem, List.cons.injEq, Slot.loop.injEq, LoopA.mk.injEq, and_true, true_and] at h
    rw [h]
theorem execC_range (T : TypeId → Option TyI) (lv : Code → List Nat) (O : Oracle) (K N m0 : Nat) (g : Operand) (ps : Array Tmp) (asg body : Code) (s : XS) : execC T lv O K N m0 true (.rangeFunc g ps asg body) s = match get s.env g with
      | .func f caps => match O (.fn f) (.yield s.mem.length :: caps) (s.mem ++ [.loop ⟨.ready, none, s.env, N, ps, asg, body⟩]) with
        | some r => match (r.mem (s.mem ++ [.loop ⟨.ready, none, s.env, N, ps, asg, body⟩]))[s.mem.length]? with
          | some (.loop r2) => if r2.st == .busy then none else match exitOf r2.pend with
            | some e => some (e, ⟨s.env, (r.mem (s.mem ++ [.loop ⟨.ready, none, s.env, N, ps, asg, body⟩])).set s.mem.length (.loop { r2 with st := .exhausted }), s.dirty || r.pre.isSome⟩)
            | none => none
          | _ => none
        | none => none
      | _ => none := rfl
theorem Tryz.aBackward0 (b n : Nat) (m : Mem) (hb : b < m.length) : callFn (tyOf Tryz.prog) (fun _ => []) (fnOf Tryz.prog) noOracle 1 307 [.slice b 0 n none] m = some ⟨.func 340 [.ptr m.length 0], none, [.cells true 0 [.slice b 0 n none]]⟩ := by
  have hG : fnOf Tryz.prog 307 = some Tryz.f307 := by kernel_rfl
  simp [callFn, hG, Tryz.f307, hb, List.idxOf?]
end Go.Proofs
namespace Go.Proofs
open Go.Eng
noncomputable def Tryz.bnO2 : Oracle := fun c args M => match c, args with
  | .fn 299, [x, y] => match sliceN .u64 M x, sliceN .u64 M y with
    | some A, some B => if lok 1000000000 A = true ∧ lok 1000000000 B = true ∧ A.length ≤ 100000000 ∧ B.length ≤ 100000000 then some ⟨.slice M.length 0 (dig 1000000000 (lval 1000000000 A + lval 1000000000 B)).length none, none, [.cells true 1 (iN .u64 (dig 1000000000 (lval 1000000000 A + lval 1000000000 B)))]⟩ else none
    | _, _ => none
  | .fn 301, [x, y] => match sliceN .u64 M x, sliceN .u64 M y with
    | some A, some B => if lok 1000000000 A = true ∧ lok 1000000000 B = true ∧ A.length ≤ 100000000 ∧ B.length ≤ A.length ∧ lval 1000000000 B ≤ lval 1000000000 A then some ⟨.slice M.length 0 (dig 1000000000 (lval 1000000000 A - lval 1000000000 B)).length none, none, [.cells true 1 (iN .u64 (dig 1000000000 (lval 1000000000 A - lval 1000000000 B)))]⟩ else none
    | _, _ => none
  | .fn 263, [x, y] => match sliceN .u64 M x, sliceN .u64 M y with
    | some A, some B => if lok 1000000000 A = true ∧ lok 1000000000 B = true ∧ A.length ≤ 100000000 ∧ B.length ≤ 100000000 then some ⟨.slice M.length 0 (dig 1000000000 (lval 1000000000 A * lval 1000000000 B)).length none, none, [.cells true 1 (iN .u64 (dig 1000000000 (lval 1000000000 A * lval 1000000000 B)))]⟩ else none
    | _, _ => none
  | .fn 307, [x] => match x with
    | .slice b 0 n none => if b < M.length then some ⟨.func 340 [.ptr M.length 0], none, [.cells true 0 [.slice b 0 n none]]⟩ else none
    | _ => none
  | .fn 305, [x] => Tryz.bnO1 (.fn 305) [x] M
  | .fn 300, [x, y] => Tryz.bnO1 (.fn 300) [x, y] M
  | _, _ => none
theorem Tryz.bnO2_ok : OracleOk Tryz.prog Tryz.bnO2 := by
  refine oracleOk_of fun c args M r h => ?_
  unfold Tryz.bnO2 at h
  split at h
  · split at h
    · rename_i hA hB
      split at h
      · rename_i hc
        obtain ⟨c1, c2, c3, c4⟩ := hc
        cases h
        exact soundAt_call (Tryz.aPlusM c1 c2 c3 c4 (sliceN_some hA) (sliceN_some hB))
      · cases h
    · cases h
  · split at h
    · rename_i hA hB
      split at h
      · rename_i hc
        obtain ⟨c1, c2, c3, c4, c5⟩ := hc
        cases h
        exact soundAt_call (Tryz.aMinusM c1 c2 c3 c4 c5 (sliceN_some hA) (sliceN_some hB))
      · cases h
    · cases h
  · split at h
    · rename_i hA hB
      split at h
      · rename_i hc
        obtain ⟨c1, c2, c3, c4⟩ := hc
        cases h
        exact soundAt_call (Tryz.aTimesM c1 c2 c3 c4 (sliceN_some hA) (sliceN_some hB))
      · cases h
    · cases h
  · split at h
    · split at h
      · rename_i hb
        cases h
        refine callFn_sound (T := tyOf Tryz.prog) (lv := fun _ => []) (G := fnOf Tryz.prog) (O := noOracle) (K := 1) Tryz.mixed (tyOf_ok _) (noOracle_ok _) (fnOf_ok _) ?_
        exact Tryz.aBackward0 _ _ M hb
      · cases h
    · cases h
  · exact soundAt_of Tryz.bnO1_ok h
  · exact soundAt_of Tryz.bnO1_ok h
  · cases h
theorem Tryz.div1_end (A : List Nat) (d : Nat) (hd0 : 0 < d) (hd : d < 1000000000) (hA : lok 1000000000 A = true) (hl : A.length ≤ 100000000) (tA : ltrim A = A) (hle : d ≤ lval 1000000000 A) :
    ∃ O : Oracle, OracleOk Tryz.prog O ∧ callFn (tyOf Tryz.prog) (fun _ => []) (fnOf Tryz.prog) (Tryz.bnO2.or O) 1 298 [.slice 0 0 A.length none, .slice 1 0 1 none] [.cells false 1 (iN .u64 A), .cells false 1 [.int .u64 (d : Int)]] =
      some ⟨.tuple [.slice 2 0 (ltrim (divL 1000000000 d A).1).length none, .slice 3 0 (ltrim [(divL 1000000000 d A).2]).length none], some [.cells false 1 (iN .u64 A), .cells false 1 [.int .u64 (d : Int)]], [.cells true 1 (iN .u64 (divL 1000000000 d A).1), .cells true 1 [.int .u64 (((divL 1000000000 d A).2 : Nat) : Int)]]⟩ := by
  have hG : fnOf Tryz.prog 298 = some Tryz.f298 := by kernel_rfl
  obtain ⟨ps, asg, body, hb⟩ : ∃ ps asg body, rangesF Tryz.f298 = [(ps, asg, body)] := ⟨_, _, _, rfl⟩
  have hpos : 0 < A.length := by
    rcases Nat.eq_zero_or_pos A.length with h | h
    · rw [List.eq_nil_of_length_eq_zero h] at hle; simp [lval] at hle; omega
    · exact h
  obtain ⟨O, hO, hOr⟩ := Tryz.div_range A d hd0 hd hA (by omega) hpos hb
  refine ⟨O, hO, ?_⟩
  obtain ⟨i1, i2, i3, i4⟩ := divL_spec hd0 hd A hA
  have hM0 : ∀ env0, divMem A d ps asg body env0 0 = [.cells false 1 (iN .u64 A), .cells false 1 [.int .u64 (d : Int)], .cells true 0 [.slice 1 0 1 none], .cells true 0 [.slice 4 0 A.length none],
    .cells true 1 (iN .u64 (divL 1000000000 d A).1), .cells true 0 [.int .u64 (((divL 1000000000 d A).2 : Nat) : Int)], .cells true 0 [.slice 0 0 A.length none], .loop ⟨.ready, none, env0, 146, ps, asg, body⟩] := fun env0 => rfl
  have hMn : ∀ env0, divMem A d ps asg body env0 A.length = [.cells false 1 (iN .u64 A), .cells false 1 [.int .u64 (d : Int)], .cells true 0 [.slice 1 0 1 none], .cells true 0 [.slice 4 0 A.length none],
    .cells true 1 (iN .u64 (List.replicate A.length 0)), .cells true 0 [.int .u64 0], .cells true 0 [.slice 0 0 A.length none], .loop ⟨.ready, none, env0, 146, ps, asg, body⟩] := fun env0 => by
    unfold divMem
    rw [List.drop_length]
    simp [divL]
  have hOr2 : ∀ env0, (Go.Eng.look env0 3 = .ptr 2 0 ∧ Go.Eng.look env0 4 = .ptr 3 0 ∧ Go.Eng.look env0 6 = .ptr 5 0 ∧ env0.flatMap (fun e => e.2.refs 8) = []) →
      O (.fn 340) [.yield 7, .ptr 6 0] [.cells false 1 (iN .u64 A), .cells false 1 [.int .u64 (d : Int)], .cells true 0 [.slice 1 0 1 none], .cells true 0 [.slice 4 0 A.length none],
    .cells true 1 (iN .u64 (List.replicate A.length 0)), .cells true 0 [.int .u64 0], .cells true 0 [.slice 0 0 A.length none], .loop ⟨.ready, none, env0, 146, ps, asg, body⟩] = some ⟨.tuple [], some [.cells false 1 (iN .u64 A), .cells false 1 [.int .u64 (d : Int)], .cells true 0 [.slice 1 0 1 none], .cells true 0 [.slice 4 0 A.length none],
    .cells true 1 (iN .u64 (divL 1000000000 d A).1), .cells true 0 [.int .u64 (((divL 1000000000 d A).2 : Nat) : Int)], .cells true 0 [.slice 0 0 A.length none], .loop ⟨.ready, none, env0, 146, ps, asg, body⟩], []⟩ := fun env0 h => by
    have := hOr env0 h
    rwa [hMn, hM0] at this
  clear hOr hM0 hMn
  obtain ⟨q, hq⟩ : ∃ q, q = (divL 1000000000 d A).1 := ⟨_, rfl⟩
  obtain ⟨r, hr⟩ : ∃ r, r = (divL 1000000000 d A).2 := ⟨_, rfl⟩
  rw [← hq, ← hr] at hOr2 ⊢
  rw [← hq] at i3 i4
  simp [rangesF, rangesC, Tryz.f298] at hb
  obtain ⟨rfl, rfl, rfl⟩ := hb
  have hs0 : ∀ l, sliceN .u64 (.cells false 1 (iN .u64 A) :: l) (.slice 0 0 A.length none) = some A := fun l => sliceN_at rfl (by simp) (List.take_of_length_le (by simp))
  have hs1 : ∀ l, sliceN .u64 (.cells false 1 (iN .u64 A) :: .cells false 1 [.int .u64 (d : Int)] :: l) (.slice 1 0 1 none) = some [d] := fun l => sliceN_at (A := [d]) rfl (by simp) rfl
  have hs4 : ∀ a0 a1 a2 a3 l, sliceN .u64 (a0 :: a1 :: a2 :: a3 :: .cells true 1 (iN .u64 q) :: l) (.slice 4 0 A.length none) = some q := fun a0 a1 a2 a3 l => sliceN_at rfl (by simp [i4]) (List.take_of_length_le (by simp [i4]))
  have hs8 : ∀ a0 a1 a2 a3 a4 a5 a6 a7 l, sliceN .u64 (a0 :: a1 :: a2 :: a3 :: a4 :: a5 :: a6 :: a7 :: .cells true 1 [.int .u64 (r : Int)] :: l) (.slice 8 0 1 none) = some [r] := fun a0 a1 a2 a3 a4 a5 a6 a7 l => sliceN_at (A := [r]) rfl (by simp) rfl
  have hld : lok 1000000000 [d] = true := by simp [lok]; omega
  have htd : ltrim [d] = [d] := by simp [ltrim]; omega
  have hvd : lval 1000000000 [d] = d := by simp [lval]
  have hcmp : ¬ cmpN (lval 1000000000 A) d < 0 := by unfold cmpN; rw [if_neg (by omega)]; split <;> omega
  have h8 : 8 * (A.length : Int) ≤ 281474976710656 := by omega
  have h9 : (A.length : Int) ≤ 281474976710656 := by omega
  have h10 : A.length ≤ 1000000000 := by omega
  simp [callFn, hG, Tryz.f298, Oracle.or, Tryz.bnO2, Tryz.bnO1, hs0, hs1, hA, tA, hld, htd, hvd, hcmp, h8, h9, h10, iN_zcells, execC_range, hOr2, hs4, hs8, i4, exitOf, Nat.testBit]
  exact ⟨rfl, rfl⟩
end Go.Proofs
