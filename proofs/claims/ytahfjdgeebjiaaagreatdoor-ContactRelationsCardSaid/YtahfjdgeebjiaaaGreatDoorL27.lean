/- Part L27 of a proof: see its last part, YtahfjdgeebjiaaaGreatDoorL55.lean. -/
import Derived.Test.YtahfjdgeebjiaaaGreatDoorL26
import Derived.Test.YtahfjdgeebjiaaaGreatDoorL08
set_option linter.all false
namespace Go.Proofs
open Go.Eng
def iB (s : List UInt8) : List AV := s.map fun c => .int .u8 (c.toNat : Int)
@[simp] theorem iB_length (s : List UInt8) : (iB s).length = s.length := by simp [iB]
theorem iB_append (s t : List UInt8) : iB (s ++ t) = iB s ++ iB t := by simp [iB]
@[simp] theorem iB_nil : iB [] = [] := rfl
@[simp] theorem iB_refs (m : Nat) (s : List UInt8) : AV.refsL m (iB s) = [] := by
  induction s with
  | nil => rfl
  | cons c s ih => simpa [iB, AV.refsL, AV.refs] using ih
@[simp] theorem iB_ren (ρ : Nat → Option Nat) (s : List UInt8) : AV.rens ρ (iB s) = iB s := by
  induction s with
  | nil => rfl
  | cons c s ih => simpa [iB, AV.rens, AV.ren] using ih
@[simp] theorem iB_mem (s : List UInt8) (p : AV → Prop) : (∀ x, x ∈ iB s → p x) ↔ ∀ c, c ∈ s → p (.int .u8 (c.toNat : Int)) := by
  simp [iB]
theorem bytesA_iB (s : List UInt8) : bytesA (iB s) = some s := by
  induction s with
  | nil => rfl
  | cons c s ih =>
    have h1 : (0 : Int) ≤ (c.toNat : Int) ∧ (c.toNat : Int) < 256 := by have := c.toNat_lt; omega
    show bytesA (.int .u8 (c.toNat : Int) :: iB s) = _
    rw [bytesA, if_pos h1, ih]
    simp
noncomputable def Tryz.copyO : Oracle := fun c args M => match c, args with
  | .fn 339, [.ptr b 0] => match M[b]? with
    | some (.cells true es [.nilptr, sl]) => if es = Tryz.bEs then some ⟨.tuple [], some (M.set b (.cells true Tryz.bEs [.ptr b 0, sl])), []⟩ else none
    | some (.cells true es [.ptr b' 0, _]) => if es = Tryz.bEs ∧ b' = b then some ⟨.tuple [], none, []⟩ else none
    | _ => none
  | _, _ => none
theorem Tryz.copyO_ok : OracleOk Tryz.prog Tryz.copyO where
  fn f args mem r h := by
    unfold Tryz.copyO at h
    split at h
    · rename_i heq
      cases heq
      split at h
      · rename_i b _ es sl hb
        split at h
        · rename_i he
          cases h; subst he
          simpa [CallRes.mem] using Tryz.aCopyCheck_fresh mem b sl hb
        · cases h
      · rename_i b _ es b' sl hb
        split at h
        · rename_i he
          cases h; obtain ⟨rfl, rfl⟩ := he
          simpa [CallRes.mem] using Tryz.aCopyCheck_used mem _ _ hb
        · cases h
      · cases h
    · cases h
  yld b args mem r h := by unfold Tryz.copyO at h; split at h <;> simp_all
  pre c args mem r p h hp := by
    unfold Tryz.copyO at h
    split at h
    · split at h
      · split at h
        · cases h; cases hp; simp
        · cases h
      · split at h
        · cases h; cases hp
        · cases h
      · cases h
    · cases h
theorem iB_def (s : List UInt8) : (s.map fun c => AV.int .u8 (c.toNat : Int)) = iB s := rfl
theorem Tryz.write_run0 (M : Mem) (b : Nat) (s : List UInt8) (hb : M[b]? = some (.cells true Tryz.bEs [.nilptr, .nilslice])) (hs : s ≠ []) (hl : s.length ≤ 100000000) :
    callRaw (tyOf Tryz.prog) (fun _ => []) (fnOf Tryz.prog) Tryz.copyO 1 309 [.ptr b 0, .str s] M = some (.tuple [.int .i64 (s.length : Int), .nilIface], M.set b (.cells true Tryz.bEs [.ptr b 0, .slice M.length 0 s.length none]) ++ [.cells true 6001 (iB s)]) := by
  have hG : fnOf Tryz.prog 309 = some Tryz.f309 := by kernel_rfl
  have hbl : b < M.length := (List.getElem?_eq_some_iff.1 hb).1
  have hl2 : s.length ≤ 140737488355328 := by omega
  have hset : ∀ x, (M.set b x)[b]? = some x := fun x => List.getElem?_set_self hbl
  have hset2 : ∀ x l, (M.set b x ++ l)[b]? = some x := fun x l => by rw [List.getElem?_append_left (by simpa using hbl), hset]
  have hset3 : ∀ x y l, (M.set b x ++ l).set b y = M.set b y ++ l := fun x y l => by rw [List.set_append_left _ _ (by simpa using hbl), List.set_set]
  clear hbl
  simp [callRaw, hG, Tryz.f309, Tryz.copyO, hb, hs, hl2, hset, hset2, hset3, iB_def]
theorem Tryz.writeByte_run0 (M : Mem) (b : Nat) (c : UInt8) (hb : M[b]? = some (.cells true Tryz.bEs [.nilptr, .nilslice])) :
    callRaw (tyOf Tryz.prog) (fun _ => []) (fnOf Tryz.prog) Tryz.copyO 1 306 [.ptr b 0, .int .u8 (c.toNat : Int)] M = some (.nilIface, M.set b (.cells true Tryz.bEs [.ptr b 0, .slice (M.length + 1) 0 1 none]) ++ [.cells true 1 (iB [c]), .cells true 6001 (iB [c])]) := by
  have hG : fnOf Tryz.prog 306 = some Tryz.f306 := by kernel_rfl
  have hbl : b < M.length := (List.getElem?_eq_some_iff.1 hb).1
  have hset : ∀ x, (M.set b x)[b]? = some x := fun x => List.getElem?_set_self hbl
  have hset2 : ∀ x l, (M.set b x ++ l)[b]? = some x := fun x l => by rw [List.getElem?_append_left (by simpa using hbl), hset]
  have hset3 : ∀ x y l, (M.set b x ++ l).set b y = M.set b y ++ l := fun x y l => by rw [List.set_append_left _ _ (by simpa using hbl), List.set_set]
  clear hbl
  simp [callRaw, hG, Tryz.f306, Tryz.copyO, hb, hset, hset2, hset3, iB]
theorem Tryz.write_run1 (M : Mem) (b k : Nat) (t s : List UInt8) (hb : M[b]? = some (.cells true Tryz.bEs [.ptr b 0, .slice k 0 t.length none])) (hk : M[k]? = some (.cells true 6001 (iB t))) (hbk : k ≠ b) (hl : t.length + s.length ≤ 100000000) :
    callRaw (tyOf Tryz.prog) (fun _ => []) (fnOf Tryz.prog) Tryz.copyO 1 309 [.ptr b 0, .str s] M = some (.tuple [.int .i64 (s.length : Int), .nilIface], (M.set k .absent).set b (.cells true Tryz.bEs [.ptr b 0, .slice M.length 0 (t.length + s.length) none]) ++ [.cells true 6001 (iB (t ++ s))]) := by
  have hG : fnOf Tryz.prog 309 = some Tryz.f309 := by kernel_rfl
  have hbl : b < M.length := (List.getElem?_eq_some_iff.1 hb).1
  have hl2 : t.length + s.length ≤ 140737488355328 := by omega
  have hset : ∀ x, (M.set k x)[b]? = some (.cells true Tryz.bEs [.ptr b 0, .slice k 0 t.length none]) := fun x => by rw [List.getElem?_set_ne hbk, hb]
  have hset2 : ∀ x l, (M.set k x ++ l)[b]? = some (.cells true Tryz.bEs [.ptr b 0, .slice k 0 t.length none]) := fun x l => by rw [List.getElem?_append_left (by simpa using hbl), hset]
  have hset3 : ∀ x y l, (M.set k x ++ l).set b y = (M.set k x).set b y ++ l := fun x y l => by rw [List.set_append_left _ _ (by simpa using hbl)]
  have htk : (iB t).take t.length = iB t := List.take_of_length_le (by simp)
  clear hbl
  simp [callRaw, hG, Tryz.f309, Tryz.copyO, hb, hk, hl2, hset2, hset3, iB_def, htk, iB_append]
theorem Tryz.string_run6 (s0 s1 s3 s4 : Slot) (t : List UInt8) (ht : t ≠ []) (hl : t.length ≤ 100000000) :
    callRaw (tyOf Tryz.prog) (fun _ => []) (fnOf Tryz.prog) noOracle 1 310 [.ptr 2 0] [s0, s1, .cells true Tryz.bEs [.ptr 2 0, .slice 5 0 t.length none], s3, s4, .cells true 6001 (iB t)] = some (.str t, [s0, s1, .cells true Tryz.bEs [.ptr 2 0, .slice 5 0 t.length none], s3, s4, .absent]) := by
  have hG : fnOf Tryz.prog 310 = some Tryz.f310 := by kernel_rfl
  have htk : (iB t).take t.length = iB t := List.take_of_length_le (by simp)
  have hl2 : (t.length : Int) ≤ 9223372036854775807 := by omega
  have h0 : 0 < t.length := List.length_pos_iff.2 ht
  simp [callRaw, hG, Tryz.f310, hl2, h0, htk, bytesA_iB, Nat.testBit]
theorem Tryz.string_run8 (s0 s1 s3 s4 s5 s6 : Slot) (t : List UInt8) (ht : t ≠ []) (hl : t.length ≤ 100000000) :
    callRaw (tyOf Tryz.prog) (fun _ => []) (fnOf Tryz.prog) noOracle 1 310 [.ptr 2 0] [s0, s1, .cells true Tryz.bEs [.ptr 2 0, .slice 7 0 t.length none], s3, s4, s5, s6, .cells true 6001 (iB t)] = some (.str t, [s0, s1, .cells true Tryz.bEs [.ptr 2 0, .slice 7 0 t.length none], s3, s4, s5, s6, .absent]) := by
  have hG : fnOf Tryz.prog 310 = some Tryz.f310 := by kernel_rfl
  have htk : (iB t).take t.length = iB t := List.take_of_length_le (by simp)
  have hl2 : (t.length : Int) ≤ 9223372036854775807 := by omega
  have h0 : 0 < t.length := List.length_pos_iff.2 ht
  simp [callRaw, hG, Tryz.f310, hl2, h0, htk, bytesA_iB, Nat.testBit]
end Go.Proofs
namespace Go.Proofs
open Go.Eng
theorem bytesA_eq : ∀ {cs : List AV} {t : List UInt8}, bytesA cs = some t → cs = iB t
  | [], t, h => by cases h; rfl
  | v :: l, t, h => by
    cases v <;> try (unfold bytesA at h; cases h; done)
    rename_i k n
    cases k <;> try (unfold bytesA at h; cases h; done)
    unfold bytesA at h
    split at h
    · rename_i hn
      split at h
      · rename_i r hr
        cases h
        have := bytesA_eq hr
        rw [this]
        have e : n = max n 0 % 256 := by omega
        simp only [iB, List.map_cons, List.cons.injEq, AV.int.injEq, true_and, and_true, UInt8.toNat_ofNat']
        omega
      · cases h
    · cases h
noncomputable def Tryz.bldO : Oracle := fun c args M => match c, args with
  | .fn 306, [.ptr b 0, .int .u8 n] => match M[b]? with
    | some (.cells true es [.nilptr, .nilslice]) => if es = Tryz.bEs ∧ n = 45 then some ⟨.nilIface, some (M.set b (.cells true Tryz.bEs [.ptr b 0, .slice (M.length + 1) 0 1 none])), [.cells true 1 (iB [45]), .cells true 6001 (iB [45])]⟩ else none
    | _ => none
  | .fn 309, [.ptr b 0, .str s] => match M[b]? with
    | some (.cells true es [.nilptr, .nilslice]) => if es = Tryz.bEs ∧ s ≠ [] ∧ s.length ≤ 100000000 then some ⟨.tuple [.int .i64 (s.length : Int), .nilIface], some (M.set b (.cells true Tryz.bEs [.ptr b 0, .slice M.length 0 s.length none])), [.cells true 6001 (iB s)]⟩ else none
    | some (.cells true es [.ptr b' 0, .slice k 0 n none]) => match M[k]? with
      | some (.cells true es2 cs) => match bytesA cs with
        | some t => if es = Tryz.bEs ∧ b' = b ∧ es2 = 6001 ∧ n = t.length ∧ k ≠ b ∧ t.length + s.length ≤ 100000000 then
            some ⟨.tuple [.int .i64 (s.length : Int), .nilIface], some ((M.set k .absent).set b (.cells true Tryz.bEs [.ptr b 0, .slice M.length 0 (t.length + s.length) none])), [.cells true 6001 (iB (t ++ s))]⟩ else none
        | none => none
      | _ => none
    | _ => none
  | .fn 310, [.ptr 2 0] => match M with
    | [s0, s1, .cells true es [.ptr 2 0, .slice 5 0 n none], s3, s4, .cells true es2 cs] => match bytesA cs with
      | some t => if es = Tryz.bEs ∧ es2 = 6001 ∧ n = t.length ∧ t ≠ [] ∧ t.length ≤ 100000000 then
          some ⟨.str t, some [s0, s1, .cells true Tryz.bEs [.ptr 2 0, .slice 5 0 t.length none], s3, s4, .absent], []⟩ else none
      | none => none
    | [s0, s1, .cells true es [.ptr 2 0, .slice 7 0 n none], s3, s4, s5, s6, .cells true es2 cs] => match bytesA cs with
      | some t => if es = Tryz.bEs ∧ es2 = 6001 ∧ n = t.length ∧ t ≠ [] ∧ t.length ≤ 100000000 then
          some ⟨.str t, some [s0, s1, .cells true Tryz.bEs [.ptr 2 0, .slice 7 0 t.length none], s3, s4, s5, s6, .absent], []⟩ else none
      | none => none
    | _ => none
  | _, _ => none
theorem Tryz.bldO_ok : OracleOk Tryz.prog Tryz.bldO where
  fn f args mem r h := by
    unfold Tryz.bldO at h
    split at h
    · rename_i heq
      cases heq
      split at h
      · rename_i hb
        split at h
        · rename_i hc
          cases h; obtain ⟨rfl, rfl⟩ := hc
          exact callRaw_sound Tryz.mixed (tyOf_ok _) Tryz.copyO_ok (fnOf_ok _) (Tryz.writeByte_run0 mem _ 45 hb)
        · cases h
      · cases h
    · rename_i heq
      cases heq
      split at h
      · rename_i hb
        split at h
        · rename_i hc
          cases h; obtain ⟨rfl, h2, h3⟩ := hc
          exact callRaw_sound Tryz.mixed (tyOf_ok _) Tryz.copyO_ok (fnOf_ok _) (Tryz.write_run0 mem _ _ hb h2 h3)
        · cases h
      · rename_i hb
        split at h
        · rename_i hk
          split at h
          · rename_i ht
            split at h
            · rename_i hc
              cases h; obtain ⟨rfl, rfl, rfl, rfl, h2, h3⟩ := hc
              have := bytesA_eq ht
              subst this
              exact callRaw_sound Tryz.mixed (tyOf_ok _) Tryz.copyO_ok (fnOf_ok _) (Tryz.write_run1 mem _ _ _ _ hb hk h2 h3)
            · cases h
          · cases h
        · cases h
      · cases h
    · rename_i heq
      cases heq
      split at h
      · split at h
        · rename_i ht
          split at h
          · rename_i hc
            cases h; obtain ⟨rfl, rfl, rfl, h2, h3⟩ := hc
            have := bytesA_eq ht
            subst this
            simpa [CallRes.mem] using callRaw_sound Tryz.mixed (tyOf_ok _) (noOracle_ok _) (fnOf_ok _) (Tryz.string_run6 _ _ _ _ _ h2 h3)
          · cases h
        · cases h
      · split at h
        · rename_i ht
          split at h
          · rename_i hc
            cases h; obtain ⟨rfl, rfl, rfl, h2, h3⟩ := hc
            have := bytesA_eq ht
            subst this
            simpa [CallRes.mem] using callRaw_sound Tryz.mixed (tyOf_ok _) (noOracle_ok _) (fnOf_ok _) (Tryz.string_run8 _ _ _ _ _ _ _ h2 h3)
          · cases h
        · cases h
      · cases h
    · cases h
  yld b args mem r h := by unfold Tryz.bldO at h; split at h <;> simp_all
  pre c args mem r p h hp := by
    unfold Tryz.bldO at h
    repeat' split at h
    all_goals first
      | (cases h; done)
      | (cases h; cases hp; simp; done)
end Go.Proofs
namespace Go.Proofs
open Go.Eng
theorem callFn_of {T : TypeId → Option TyI} {lv : Code → List Nat} {G : FuncId → Option Func} {O : Oracle} {K : Nat} {f : FuncId} {args : List AV} {mem mem' : Mem} {fn : Func} {c : Code} {v : AV} {e : Exit} {env' : Env} {ks : List Nat}
    (hf : G f = some fn) (hb : fn.body = some c) (hl : args.length ≤ fn.ntmps) (he : e = .normal ∨ e = .ret)
    (h : execC T lv O K fn.ntmps mem.length true c ⟨entryEnv 0 args, mem, false⟩ = some (e, ⟨env', mem', true⟩)) (hv : resultsA T fn.results.toList env' mem' = some v)
    (hks : reach mem.length mem' 1000 (v.refs mem.length ++ (mem'.take mem.length).flatMap (Slot.refs mem.length)) [] = ks) (hok : ksOk mem.length mem'.length ks = true) :
    callFn T lv G O K f args mem = some ⟨v.ren (rho mem.length ks), some ((mem'.take mem.length).map (Slot.ren (rho mem.length ks))), keep mem.length ks mem'⟩ := by
  unfold callFn
  simp only [hf, hb]
  rw [if_pos hl, h]
  rcases he with rfl | rfl
  · simp only [hv, if_true]
    rw [hks, if_pos hok]
  · simp only [hv, if_true]
    rw [hks, if_pos hok]
theorem Tryz.backwardG {n : Nat} {A : List Nat} (hA : A.length = n) (hn : 0 < n) (hl : n ≤ 1000000000) (bs bA yb m0 eb : Nat) (ob oA : Bool) (M : Nat → Mem)
    (l2 : (M n).length = m0) (hlen : ∀ j, j < n → (M (j + 1)).length ≤ (M j).length ∧ m0 < (M j).length) (hs : ∀ j, j ≤ n → (M j)[bs]? = some (.cells ob eb [.slice bA 0 n none])) (hr : ∀ j, j ≤ n → (M j)[bA]? = some (.cells oA 1 (iN .u64 A)))
    (hstay : ∀ j, j < n → ((M j).take m0).all (fun s => (s.refs m0).isEmpty) = false) (hy : ∀ j, j < n → AYieldsTo Tryz.prog yb [.int .i64 (j : Int), .int .u64 ((A.getD j 0 : Nat) : Int)] (M (j + 1)) (.bool true) (M j))
    (ks : List Nat) (hks : reach m0 (M 0) 1000 (((M 0).take m0).flatMap (Slot.refs m0)) [] = ks) (hks2 : ksOk m0 (M 0).length ks = true) :
    ACallsTo Tryz.prog 340 [.yield yb, .ptr bs 0] (M n) (.tuple []) (((M 0).take m0).map (Slot.ren (rho m0 ks)) ++ keep m0 ks (M 0)) := by
  have hG : fnOf Tryz.prog 340 = some Tryz.f340 := by kernel_rfl
  obtain ⟨O, hO, hOr⟩ := oracle_family (P := Tryz.prog) (fun j : Nat => j < n) (fun _ => .yld yb) (fun j => [.int .i64 (j : Int), .int .u64 ((A.getD j 0 : Nat) : Int)]) (fun j => M (j + 1)) (fun j => ⟨.bool true, some ((M j).take (M (j + 1)).length), (M j).drop (M (j + 1)).length⟩)
    (fun j hj => ⟨by simpa [CallRes.mem] using hy j hj, fun q hq => by cases hq; rw [List.length_take]; have := (hlen j hj).1; omega⟩)
    (fun i j _ _ _ h _ => by
      simp only [List.cons.injEq, AV.int.injEq] at h
      have : i = j := by omega
      rw [this])
  obtain ⟨b, hb⟩ : ∃ b, loopsF Tryz.f340 = [b] := ⟨_, rfl⟩
  have loop : ∃ F : Env → Env, ∀ env0, (Go.Eng.look env0 0 = .yield yb ∧ Go.Eng.look env0 1 = .ptr bs 0 ∧ Go.Eng.look env0 3 = .int .i64 ((n : Int) - 1)) →
      execC (tyOf Tryz.prog) (fun _ => [3]) O (n + 1) 19 m0 true (.loop b) ⟨env0, M n, false⟩ = some (.exit 0, ⟨F env0, M 0, true⟩) ∧ True := by
    refine loop_rule_d rfl false true (fun env0 => Go.Eng.look env0 0 = .yield yb ∧ Go.Eng.look env0 1 = .ptr bs 0 ∧ Go.Eng.look env0 3 = .int .i64 ((n : Int) - 1)) (fun _ _ => True) ?_
    rintro env0 ⟨h0, h1, h3⟩
    simp [loopsF, loopsC, Tryz.f340] at hb
    have hn0 : normE [3] (writesC b) env0 ((3, .int .i64 ((n : Int) - 1)) :: env0) = normE [3] (writesC b) env0 env0 := by simp [normE, h3]
    rw [← hn0]
    have e0 : (⟨normE [3] (writesC b) env0 ((3, .int .i64 ((n : Int) - 1)) :: env0), M n, false⟩ : XS) = ⟨normE [3] (writesC b) env0 ((3, .int .i64 ((n : Int) - 1)) :: env0), M n, decide (n < n)⟩ := by simp
    rw [e0]
    refine iter_ind (α := Nat) (fun k => ⟨normE [3] (writesC b) env0 ((3, .int .i64 ((k : Int) - 1)) :: env0), M k, decide (k < n)⟩) id (fun k => k ≤ n) (.exit 0) (M 0) true (fun _ => True) (by simp) ?_ (n + 1) n (Nat.le_refl _) (by simp)
    intro k hk
    clear hn0 e0
    subst hb
    cases k with
    | zero =>
      right
      simp [hn]
    | succ k =>
      left
      have hkn : k < n := by omega
      have e1 : (((k + 1 : Nat) : Int) - 1) = (k : Int) := by omega
      have w1 : IntKind.i64.wrap ((k : Int) - 1) = (k : Int) - 1 := wrap_i64 (by omega) (by omega)
      have l1 : ¬ (M k).length ≤ m0 := by have := (hlen k hkn).2; omega
      have s1 := hs (k + 1) (by omega)
      have r1 := hr (k + 1) (by omega)
      have o1 := hOr k hkn
      have st1 := hstay k hkn
      obtain ⟨x, hx, hx'⟩ := get_both (l := A) (i := k) (by omega)
      have hg : A.getD k 0 = x := by simp [List.getD, hx]
      rw [hg] at o1
      rw [e1]
      refine ⟨k, ?_⟩
      have hkn' : (k : Int) < (n : Int) := by omega
      simp [h0, h1, w1, l1, l2, s1, r1, hx', hA, hkn, o1, -List.all_eq_false]
      refine ⟨fun h => ?_, by omega⟩
      exfalso
      have : ((List.take m0 (M k)).all fun s => (Slot.refs m0 s).isEmpty) = true := List.all_eq_true.2 fun s hs => by
        have h1 := h s hs
        have h2 : Slot.refs m0 s = [] := by cases s <;> exact h1
        rw [h2]; rfl
      rw [st1] at this
      cases this
  obtain ⟨F, hF⟩ := loop
  simp [loopsF, loopsC, Tryz.f340] at hb
  subst hb
  have w1 : IntKind.i64.wrap ((n : Int) - 1) = (n : Int) - 1 := wrap_i64 (by omega) (by omega)
  have s1 := hs n (by omega)
  have hc : ∃ env', execC (tyOf Tryz.prog) (fun _ => [3]) O (n + 1) Tryz.f340.ntmps (M n).length true (Tryz.f340.body.getD .skip) ⟨entryEnv 0 [.yield yb, .ptr bs 0], M n, false⟩ = some (.normal, ⟨env', M 0, true⟩) := by
    simp [Tryz.f340, s1, w1, l2, hF]
  obtain ⟨env', hc⟩ := hc
  have hcf : callFn (tyOf Tryz.prog) (fun _ => [3]) (fnOf Tryz.prog) O (n + 1) 340 [.yield yb, .ptr bs 0] (M n) = some ⟨.tuple [], some (((M 0).take m0).map (Slot.ren (rho m0 ks))), keep m0 ks (M 0)⟩ := by
    have := callFn_of (T := tyOf Tryz.prog) (G := fnOf Tryz.prog) (v := .tuple []) hG rfl (by simp [Tryz.f340]) (.inl rfl) hc rfl (ks := ks) (by rw [l2]; simpa [AV.refs, AV.refsL] using hks) (by rw [l2]; exact hks2)
    rw [l2] at this
    simpa [AV.ren, AV.rens] using this
  have h2 := (callFn_sound Tryz.mixed (tyOf_ok _) hO (fnOf_ok _) hcf).1
  simpa [CallRes.mem] using h2
end Go.Proofs
