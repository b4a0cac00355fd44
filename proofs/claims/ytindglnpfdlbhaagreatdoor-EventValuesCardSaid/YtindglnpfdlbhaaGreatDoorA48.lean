/- Part A48 of a proof: see its last part, YtindglnpfdlbhaaGreatDoorA51.lean. -/
import Derived.Test.YtindglnpfdlbhaaGreatDoorA47
set_option linter.all false
namespace Go.Proofs.YtindglnpfdlbhaaGreatDoor
open Go.ChangeShapes Go.WideShapes Go.ChangeAt Go.WideMaps Go.WideElems Go.RowKit Go.Eng
theorem glob_of_laid {W : World} (h : laidMetH Tryz.prog laidAll W) : GOk Tryz.prog W.heap.size W := by
  rw [MakeChecks.laidMetH_plain _ _ _ (by kernel_rfl)] at h
  obtain ⟨ps, ⟨g0, t0, cs0, f0, p0, q0, hg0, ht0, hv0, hd0, ⟨g1, t1, cs1, f1, p1, q1, hg1, ht1, hv1, hd1, ⟨g2, t2, cs2, f2, p2, q2, hg2, ht2, hv2, hd2, _, _⟩, _⟩, _⟩, _, _⟩ := h
  constructor
  · have e1 : Tryz.prog.globals.size = 6 := by kernel_rfl
    have e2 : Tryz.prog.globalNamed (laidAll.getD 1 ("", .nil)).1 = some 5 := by kernel_rfl
    have e3 : g1 = 5 := (Option.some.inj (hg1.symm.trans e2))
    subst e3
    have := World.var?_cell hg1 hv1
    unfold World.var? at hv1
    rw [hg1] at hv1
    simp only [Option.bind_some] at hv1
    split at hv1
    · rename_i hh
      have := (Array.getElem?_eq_some_iff.1 hh).1
      omega
    · cases hv1
  · have e2 : Tryz.prog.globalNamed (laidAll.getD 2 ("", .nil)).1 = some 3 := by kernel_rfl
    have e3 : g2 = 3 := (Option.some.inj (hg2.symm.trans e2))
    subst e3
    have e4 : (Tryz.prog.globals[3]?).map (·.type) = some 351 := by kernel_rfl
    have e5 : t2 = 351 := (Option.some.inj (ht2.symm.trans e4))
    subst e5
    have e6 : Tryz.prog.underlying 351 = some (.array 20 288) := by kernel_rfl
    have e7 : Tryz.prog.underlying 288 = some (.int .u64) := by kernel_rfl
    have hc := Lib.cells_of_tab (k := .u64) (zs := Lib.pow10Tab) e6 e7 (by kernel_rfl) (by kernel_rfl) hd2
    have e8 : W.var? Tryz.prog itoaTab = W.var? Tryz.prog (laidAll.getD 2 ("", .nil)).1 := by rw [tab_name]
    have e9 : cs2 = (Lib.pow10Tab.map fun z => Value.int .u64 z).toArray := by rw [← hc]
    unfold Lib.TabIs
    rw [e8, ← e9]
    exact hv2
theorem kept_of {w w' : World} {mem' : Mem} {μ μ' : Nat → Eng.Place} {mem : Mem} {m0 : Nat} (h : Step m0 μ mem w μ' mem' w') (hn : ∀ b, ¬ OwnAt mem b) : Below w.heap.size w w' :=
  ⟨h.os, h.tape, h.output, h.size, fun k hk => h.frame k hk fun b hb => absurd hb (hn b)⟩
set_option maxRecDepth 100000 in
theorem post_true {H : Type} {enc : TypeId × Value → H} {f : Func} {s : ChangeSpec} {apart fresh handsOn again : Bool} {W W' : World} {args : Array Value} {ds gs : List (DataW H)} {before p : List MemPlace} (hsv : s.vars = [])
    (hW : DataW.Whole enc Tryz.prog f.params.toList s.vars apart W args.toList ds gs before) (hb : Below W.heap.size W W') (hp : before = p) (hg : gs = [])
    (hrt : f.resultTypes = #[4]) (hs : s.fn H ds = { results := [.lit (.bool true)], args := ds })
    (hargs : ∀ sp : Nat → Bool, (∀ x ∈ before, sp x.block = true) → DataW.TrodAll enc Tryz.prog W' 0 sp true f.params.toList args.toList ds p) :
    s.post enc Tryz.prog f apart fresh handsOn again W args (.bool true) W' := by
  subst hg
  have hold : ∀ p ∈ before, (fun b => decide (b < W.heap.size)) p.block = true := fun p hp => by simpa using hW.lt p hp
  have hres : ∀ (b : Nat) (sp : Nat → Bool) (hd : Bool), DataW.TrodAll enc Tryz.prog W' b sp hd f.resultTypes.toList ((Value.bool true).resultList f.resultTypes.size) (s.fn H (ds ++ [])).results [] := by
    intro b sp hd
    rw [List.append_nil, hs, hrt]
    exact trodAll_mk1 (shut_bool Tryz.underlying4 _)
  have hargs' : ∀ sp : Nat → Bool, (∀ x ∈ before, sp x.block = true) → DataW.TrodAll enc Tryz.prog W' 0 sp true f.params.toList args.toList (s.fn H (ds ++ [])).args p := by
    intro sp h
    rw [List.append_nil, hs]
    exact hargs sp h
  have hvars : ∀ sp : Nat → Bool, DataW.TrodVars enc Tryz.prog W' sp s.vars (s.fn H (ds ++ [])).vars [] := by
    intro sp
    rw [List.append_nil, hs, hsv]
    exact rfl
  refine ⟨ds, [], before, [], p, [], hW, hres _ _ _, hargs' _ hold, hvars _, World.keptBut_mono (fun q hq => ⟨hq, ?_⟩) (hb.frame _), fun _ => ?_⟩
  · rw [hp] at hq
    exact Or.inr (Or.inl hq)
  · have hlt := hW.lt
    obtain ⟨_, _, _, _, _, hz, hn⟩ := hW
    refine ⟨ok_one hrt rfl (okWide_bool_mk Tryz.underlying4 _), _, _, ([] ++ p) ++ [], ⟨[] ++ p, [], trodAll_append (hargs' _ (fun _ _ => rfl)) (hres _ _ _), hvars _, rfl, ?_, ?_⟩, ?_⟩
    · intro b off hq
      have hq' : MemPlace.cell b off ∈ before := by rw [hp]; simpa using hq
      rw [hb.frozen (p := ⟨b, off, none⟩) (hlt _ hq')]
      exact hz b off hq'
    · intro ha
      have := hn ha
      rw [hp] at this
      simpa using this
    · intro q hq _
      rw [hp]
      simpa using hq
end Go.Proofs.YtindglnpfdlbhaaGreatDoor
namespace Go.Proofs.YtindglnpfdlbhaaGreatDoor
open Go.ChangeShapes Go.WideShapes Go.ChangeAt Go.WideMaps Go.WideElems Go.RowKit Go.Eng
def bytesV : Value → List UInt8
  | .string s => s.data.toList
  | _ => []
theorem vrel_string (μ : Nat → Eng.Place) (n : Nat) (s : ByteArray) : VRel μ n (.str s.data.toList) (.string s) := by
  obtain ⟨⟨l⟩⟩ := s
  simp [VRel]
set_option maxRecDepth 100000 in
theorem open_knots {H : Type} {enc : TypeId × Value → H} {W : World} {b0 : Nat} {v : Value} {d : DataW H} {p : List MemPlace} (hval : Value.okWide Tryz.prog W .any b0 22 v) (h : DataW.Trod enc Tryz.prog W 0 (fun _ => true) true 22 v d p) :
    v = .slice none 0 0 ∨ ∃ (μ : Nat → Eng.Place) (L : List (List UInt8 × List UInt8)), HRel W.heap.size μ [.cells false 2 (kC L)] W ∧ VRel μ 1 (.slice 0 0 L.length none) v := by
  obtain ⟨fuel, hf⟩ := h
  have hu := Tryz.underlying22
  simp only [Value.okWide, hu, Cell.okWide] at hval
  obtain ⟨a, len, cap, rfl⟩ : ∃ a len cap, v = .slice a len cap := by cases v <;> simp_all [Cell.ok]
  rcases Deep.open_slice_pairs (f0 := _) (f1 := _) hu Tryz.underlying26 (by kernel_rfl) rfl rfl (by kernel_rfl) (by kernel_rfl) hf with ⟨h1, _⟩ | ⟨a', len', cap', m, n, V0, V1, D0, D1, P0, P1, h1, h2, h3, h4, h5, h6, h7⟩
  · left
    simpa [Value.cells] using h1
  · right
    simp only [Value.cells, List.cons.injEq, Value.slice.injEq, and_true] at h1
    obtain ⟨rfl, rfl, rfl⟩ := h1
    simp only [Cell.ok, hu] at hval
    obtain ⟨_, _, _, hsp, row, cells, hsh, _⟩ := hval
    simp only [if_true] at h5
    subst h5
    obtain ⟨cur, el, fr, hb⟩ : ∃ cur el fr, W.heap[a'.block]? = some (.cells cur el fr) := by
      unfold World.shape? at hsh
      split at hsh
      · rename_i c e f hh; exact ⟨_, _, _, hh⟩
      · cases hsh
    obtain ⟨blk, off, spot⟩ := a'
    simp only at hsp hb
    subst hsp
    have cell : ∀ k, W.cell? ((⟨blk, off, none⟩ : Addr).add k) = cur[off + k]? := by
      intro k
      rw [show (⟨blk, off, none⟩ : Addr).add k = ⟨blk, off + k, none⟩ from add_plain _ _ _]
      unfold World.cell?
      simp only
      rw [hb]; rfl
    obtain ⟨L, hL⟩ : ∃ L, L = (List.range len).map fun i => (bytesV (V0 i), bytesV (V1 i)) := ⟨_, rfl⟩
    have hlen : L.length = len := by rw [hL]; simp
    refine ⟨fun _ => ⟨blk, off, m * 2, 2⟩, L, ⟨Nat.le_refl _, ?_, ?_⟩, ?_⟩
    · intro b s hs
      cases b with
      | succ b => simp at hs
      | zero =>
        simp at hs; subst hs
        simp only [SRel]
        refine ⟨cur, el, fr, hb, ⟨rfl, fun h => by omega⟩, by rw [kC_length, hlen]; omega, fun j v hj => ?_, fun h => by cases h⟩
        have hj2 : j < 2 * len := by
          have := (List.getElem?_eq_some_iff.1 hj).1
          rw [kC_length, hlen] at this; exact this
        have hi : j / 2 < len := by omega
        have hLi : L[j / 2]? = some (bytesV (V0 (j / 2)), bytesV (V1 (j / 2))) := by rw [hL]; simp [hi]
        obtain ⟨_, k2, k3⟩ := kC_at hLi
        obtain ⟨e0, e1, e2, e3⟩ := h7 (j / 2) (by omega)
        rw [cell] at e0
        have e1' : cur[off + (j / 2 * 2 + 1)]? = some (V1 (j / 2)) := by
          rw [← cell]; exact e1
        obtain ⟨s0, q0, _, _⟩ := DataW.trod_string Tryz.underlying23 e2
        obtain ⟨s1, q1, _, _⟩ := DataW.trod_string Tryz.underlying23 e3
        simp only [List.cons.injEq, and_true] at q0 q1
        rcases Nat.mod_two_eq_zero_or_one j with hm | hm
        · have hje : j / 2 * 2 = j := by omega
          rw [hje] at k2 e0
          rw [hj] at k2
          cases k2
          exact ⟨_, e0, by rw [q0]; exact vrel_string _ _ _⟩
        · have hje : j / 2 * 2 + 1 = j := by omega
          rw [hje] at k3 e1'
          rw [hj] at k3
          cases k3
          exact ⟨_, e1', by rw [q1]; exact vrel_string _ _ _⟩
    · rintro b b' s' ⟨s, hs, ho⟩
      cases b with
      | succ b => simp at hs
      | zero => simp at hs; subst hs; cases ho
    · simp only [VRel, capOf]
      refine ⟨by omega, ?_⟩
      rw [hlen, Nat.add_zero, Nat.sub_zero, Nat.mul_div_cancel _ (by omega)]
end Go.Proofs.YtindglnpfdlbhaaGreatDoor
