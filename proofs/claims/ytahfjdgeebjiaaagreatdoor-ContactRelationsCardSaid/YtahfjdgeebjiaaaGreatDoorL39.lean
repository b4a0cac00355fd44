/- Part L39 of a proof: see its last part, YtahfjdgeebjiaaaGreatDoorL55.lean. -/
import Derived.Test.YtahfjdgeebjiaaaGreatDoorL38
import Derived.Test.YtahfjdgeebjiaaaGreatDoorL33
import Derived.KernelRfl
set_option linter.all false
namespace Go.Proofs
open Go.Eng
def sdsOf : List (AV × AV) → Option (List Sd)
  | [] => some []
  | (.agg [.int .i64 a, .int .i64 b], .int .i64 t) :: l => match sdsOf l with
    | some r => some (((a, b), t) :: r)
    | none => none
  | _ => none
theorem sdsOf_some : ∀ {es : List (AV × AV)} {ks : List Sd}, sdsOf es = some ks → es = ks.map sdE
  | [], ks, h => by cases h; rfl
  | e :: es, ks, h => by
    unfold sdsOf at h
    split at h
    · rename_i h1; cases h1
    · rename_i a b t l h1
      cases h1
      split at h
      · rename_i r hr
        cases h
        rw [sdsOf_some hr]; rfl
      · cases h
    · cases h
def mapAt (M : Mem) (b : Nat) : Option (List (AV × AV)) := match M[b]? with
  | some (.map es) => some es
  | some (.fmap es) => some es
  | _ => none
theorem sdE_under (n : Nat) (s : Sd) : (sdE s).1.under n = true ∧ (sdE s).2.under n = true := by simp [sdE, AV.under, AV.unders]
theorem sdE_ren (f : Nat → Option Nat) (s : Sd) : ((sdE s).1.ren f, (sdE s).2.ren f) = sdE s := by simp [sdE, AV.ren, AV.rens]
theorem Tryz.aOuterM (M : Mem) (ks : List Sd) (cyc : List Int) (b b1 b2 n1 n2 : Nat) (hb1 : b1 < M.length) (hb2 : b2 < M.length) (hm : mapAt M b = some (ks.map sdE)) (hok : outerOk ks = true) (hc : cycleOf (bordL ks) = some cyc) :
    ACallsTo Tryz.prog 136 [.agg [.slice b1 0 n1 none, .slice b2 0 n2 none], .map b] M (.tuple [.slice M.length 0 cyc.length none, .bool true]) (M ++ [.cells true 1 (iZ cyc)]) := by
  have hb : b < M.length := by
    unfold mapAt at hm
    split at hm
    · rename_i es h; exact (List.getElem?_eq_some_iff.1 h).1
    · rename_i es h; exact (List.getElem?_eq_some_iff.1 h).1
    · cases hm
  have := ACallsTo.frame (M := M) (new := [.cells true 1 (iZ cyc)]) [b, b1, b2] (m := [.fmap (ks.map sdE), .absent, .absent]) rfl (by intro k hk; simp at hk; rcases hk with rfl | rfl | rfl <;> assumption) (by rfl) (fun i s hs => by
    match i with
    | 0 =>
      simp at hs; subst hs
      refine ⟨ks.map sdE, ?_, rfl, fun j e he => ?_⟩
      · unfold mapAt at hm
        split at hm
        · rename_i es h; cases hm; exact .inr h
        · rename_i es h; cases hm; exact .inl h
        · cases hm
      · rw [List.getElem?_map] at he
        simp only [Option.map_eq_some_iff] at he
        obtain ⟨s0, h1, rfl⟩ := he
        refine ⟨sdE_under _ _, ?_⟩
        rw [sdE_ren, List.getElem?_map, h1]; rfl
    | 1 => simp at hs; subst hs; trivial
    | 2 => simp at hs; subst hs; trivial
    | i + 3 => simp at hs) rfl (Tryz.aOuterP ks cyc n1 n2 hok hc)
  simpa [AV.rens, AV.ren, back, Slot.ren, rens_iZ] using this
def Tryz.kO (c : Go.Eng.Callee) (args : List AV) (M : Mem) : Option CallRes := match c, args with
  | .fn 136, [.agg [.slice b1 0 _ none, .slice b2 0 _ none], .map b] => match mapAt M b with
    | some es => match sdsOf es with
      | some ks => match cycleOf (bordL ks) with
        | some cyc => if outerOk ks && (decide (b1 < M.length) && decide (b2 < M.length)) then some ⟨.tuple [.slice M.length 0 cyc.length none, .bool true], none, [.cells true 1 (iZ cyc)]⟩ else none
        | none => none
      | none => none
    | none => none
  | _, _ => none
theorem Tryz.kO_ok : OracleOk Tryz.prog Tryz.kO := by
  refine oracleOk_of fun c args M r h => ?_
  unfold Tryz.kO at h
  split at h
  · split at h
    · rename_i es hes
      split at h
      · rename_i ks hks
        split at h
        · rename_i cyc hcyc
          split at h
          · rename_i hcond
            simp only [Bool.and_eq_true, decide_eq_true_eq] at hcond
            cases h
            refine soundAt_call (Tryz.aOuterM M ks cyc _ _ _ _ _ hcond.2.1 hcond.2.2 ?_ hcond.1 hcyc)
            rw [hes, sdsOf_some hks]
          · cases h
        · cases h
      · cases h
    · cases h
  · cases h
noncomputable def Tryz.knO : Oracle := Oracle.or Tryz.kO (pureO Tryz.ratF4)
theorem Tryz.knO_ok : OracleOk Tryz.prog Tryz.knO := OracleOk.or Tryz.kO_ok Tryz.rat4_ok
end Go.Proofs
namespace Go.Proofs
open Go.Eng
def sqP : List AV := [.str [48], .str [48], .str [52], .str [48], .str [52], .str [52], .str [48], .str [52]]
def sqT : List AV := [.int .i64 0, .int .i64 1, .int .i64 2, .int .i64 0, .int .i64 2, .int .i64 3]
theorem Tryz.check_square : callF (tyOf Tryz.prog) writesC (fnOf Tryz.prog) Tryz.knO 60 10 (.fn 54) [.agg [.slice 0 0 4 none, .slice 1 0 2 none]] [.cells false 2 sqP, .cells false 3 sqT] = some ⟨.int .i64 0, some [.cells false 2 sqP, .cells false 3 sqT], []⟩ := by
  kernel_rfl
end Go.Proofs
namespace Go.Proofs
open Go.Eng
theorem Tryz.aCheckSqP : ACallsTo Tryz.prog 54 [.agg [.slice 0 0 4 none, .slice 1 0 2 none]] [.cells false 2 sqP, .cells false 3 sqT] (.int .i64 0) [.cells false 2 sqP, .cells false 3 sqT] := by
  have := (callF_sound Tryz.mixed (tyOf_ok _) (fnOf_ok _) Tryz.knO_ok 10).fn _ _ _ _ Tryz.check_square
  simpa [CallRes.mem] using this
def sameC : List AV → List AV → Bool
  | [], [] => true
  | .str a :: l, .str b :: r => (a == b) && sameC l r
  | .int .i64 a :: l, .int .i64 b :: r => decide (a = b) && sameC l r
  | _, _ => false
theorem sameC_eq : ∀ {l r : List AV}, sameC l r = true → l = r
  | [], r, h => by cases r <;> first | rfl | (unfold sameC at h; cases h)
  | v :: l, r, h => by
    unfold sameC at h
    split at h
    · rename_i h1; cases h1
    · rename_i h1
      cases h1
      simp only [Bool.and_eq_true, beq_iff_eq] at h
      rw [h.1, sameC_eq h.2]
    · rename_i h1
      cases h1
      simp only [Bool.and_eq_true, decide_eq_true_eq] at h
      rw [h.1, sameC_eq h.2]
    · cases h
def rowIs (M : Mem) (b e : Nat) (cs : List AV) : Bool := match M[b]? with
  | some (.cells _ es l) => decide (es = e) && sameC (l.take cs.length) cs
  | _ => false
theorem rowIs_sub {M : Mem} {b e : Nat} {cs : List AV} {ks : List Nat} (h : rowIs M b e cs = true) (hu : AV.closeds cs = true) : b < M.length ∧ SubSlot ks M b (.cells false e cs) := by
  unfold rowIs at h
  split at h
  · rename_i o es l hb
    simp only [Bool.and_eq_true, decide_eq_true_eq] at h
    obtain ⟨rfl, h2⟩ := h
    have h2 := sameC_eq h2
    refine ⟨(List.getElem?_eq_some_iff.1 hb).1, closeds_unders hu, o, l, hb, fun j v hv => ?_⟩
    have hj := (List.getElem?_eq_some_iff.1 hv).1
    have : l[j]? = cs[j]? := by
      rw [← List.getElem?_take_of_lt hj, h2]
    have hr := rens_closeds (ρ := back ks M.length) hu
    rw [rens_eq_map] at hr
    have hr2 : (cs.map (AV.ren (back ks M.length)))[j]? = cs[j]? := by rw [hr]
    rw [List.getElem?_map, hv] at hr2
    rw [this, hv]; exact hr2.symm
  · cases h
theorem Tryz.aCheckSqM (M : Mem) (b c : Nat) (h1 : rowIs M b 2 sqP = true) (h2 : rowIs M c 3 sqT = true) : ACallsTo Tryz.prog 54 [.agg [.slice b 0 4 none, .slice c 0 2 none]] M (.int .i64 0) M := by
  have k1 := rowIs_sub (ks := [b, c]) h1 (by rfl)
  have k2 := rowIs_sub (ks := [b, c]) h2 (by rfl)
  have := ACallsTo.frame (M := M) (new := []) [b, c] (m := [.cells false 2 sqP, .cells false 3 sqT]) rfl (by
    intro k hk
    simp only [List.mem_cons, List.not_mem_nil, or_false] at hk
    rcases hk with h | h
    · rw [h]; exact k1.1
    · rw [h]; exact k2.1) (by rfl) (fun i s hs => by
    match i with
    | 0 => simp at hs; subst hs; exact k1.2
    | 1 => simp at hs; subst hs; exact k2.2
    | i + 2 => simp at hs) rfl Tryz.aCheckSqP
  simpa [AV.rens, AV.ren, back] using this
def Tryz.sqO (c : Go.Eng.Callee) (args : List AV) (M : Mem) : Option CallRes := match c, args with
  | .fn 54, [.agg [.slice b 0 4 none, .slice c 0 2 none]] => if rowIs M b 2 sqP && rowIs M c 3 sqT then some ⟨.int .i64 0, none, []⟩ else none
  | _, _ => none
theorem Tryz.sqO_ok : OracleOk Tryz.prog Tryz.sqO := by
  refine oracleOk_of fun c args M r h => ?_
  unfold Tryz.sqO at h
  split at h
  · split at h
    · rename_i hc
      simp only [Bool.and_eq_true] at hc
      cases h
      refine soundAt_call ?_
      rw [List.append_nil]
      exact Tryz.aCheckSqM M _ _ hc.1 hc.2
    · cases h
  · cases h
end Go.Proofs
namespace Go.Proofs
open Go.Eng
def okTrue (r : CallRes) : Bool := (match r.v with
  | .bool b => b
  | _ => false) && r.new.isEmpty && (match r.pre with
  | some p => p.isEmpty
  | none => true)
theorem okTrue_spec {r : CallRes} (h : okTrue r = true) : r.v = .bool true ∧ r.mem [] = [] := by
  obtain ⟨v, pre, new⟩ := r
  simp only [okTrue, Bool.and_eq_true, List.isEmpty_iff] at h
  obtain ⟨⟨h1, rfl⟩, h3⟩ := h
  constructor
  · cases v <;> first | (cases h1; done) | skip
    simp only at h1
    rw [h1]
  · cases pre with
    | none => rfl
    | some p => simp only [List.isEmpty_iff] at h3; subst h3; rfl
end Go.Proofs
