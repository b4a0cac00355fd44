/- Part C50 of a proof: see its last part, YtiopbpbcgccngaaGreatDoorC54.lean. -/
import Derived.Test.YtiopbpbcgccngaaGreatDoorC49
import Derived.Test.YtiopbpbcgccngaaGreatDoorC46
set_option linter.all false
namespace Go.Proofs
open Go.Eng
theorem Tryz.row1At {f : FuncId} {L R : List Iv} {rest : List AV} {v : AV} (hr : AV.closeds rest = true) (h : ACallsTo Tryz.prog f (.slice 0 0 L.length none :: rest) [.cells false 3 (ivC L)] v [.cells false 3 (ivC L), .cells true 3 (ivC R)]) {M : Mem} {b : Nat} {o : Bool} (hb : M[b]? = some (.cells o 3 (ivC L))) :
    ACallsTo Tryz.prog f (.slice b 0 L.length none :: rest) M (v.ren (back [b] M.length)) (M ++ [.cells true 3 (ivC R)]) := by
  have hx : RowC 3 M (.slice b 0 L.length none) L.length (ivC L) := ⟨b, o, ivC L, rfl, hb, List.take_of_length_le (Nat.le_refl _)⟩
  obtain ⟨c, hc, _, h2⟩ := ACallsTo.rows1C (new := [.cells true 3 (ivC R)]) (ivC_closed L) hr rfl h hx
  have : b = c := by simpa using hc
  subst this
  simpa [ren_cells, ivC_ren] using h2
theorem Tryz.mergeAt {M : Mem} {b : Nat} {o : Bool} {L : List Iv} (hb : M[b]? = some (.cells o 3 (ivC L))) (hL : shortIv L) (hl : L.length ≤ 1000000) (h0 : logR L = 0) (hne : L ≠ []) :
    ACallsTo Tryz.prog 20 [.slice b 0 L.length none] M (.tuple [.slice M.length 0 (mergeL L).length none, .int .i64 0]) (M ++ [.cells true 3 (ivC (mergeL L))]) := by
  have := Tryz.row1At (rest := []) rfl (Tryz.aMergeP L hL hl h0 hne) hb
  simpa [AV.ren, AV.rens, back] using this
theorem Tryz.lmergeAt {M : Mem} {b : Nat} {o : Bool} {L : List Iv} (hb : M[b]? = some (.cells o 3 (ivC L))) (hl : L.length ≤ 1000000) (hne : L ≠ []) :
    ACallsTo Tryz.prog 23 [.slice b 0 L.length none] M (.slice M.length 0 (mergeL L).length none) (M ++ [.cells true 3 (ivC (mergeL L))]) := by
  have := Tryz.row1At (rest := []) rfl (Tryz.aMlmergeP L hl hne) hb
  simpa [AV.ren, AV.rens, back] using this
theorem Tryz.cutAt {M : Mem} {b : Nat} {o : Bool} {L : List Iv} (hb : M[b]? = some (.cells o 3 (ivC L))) (hL : shortIv L) (hl : L.length ≤ 1000000) (h0 : logR L = 0) (p q : Rat) (hp : fineD2 p) (hq : fineD2 q) (hpq : p < q) (hne : cutL p q L ≠ []) :
    ACallsTo Tryz.prog 21 [.slice b 0 L.length none, .str (ratS p), .str (ratS q)] M (.tuple [.slice M.length 0 (cutL p q L).length none, .int .i64 0]) (M ++ [.cells true 3 (ivC (cutL p q L))]) := by
  have h := Tryz.aCutP L hL hl h0 p q hp hq hpq
  cases hC : cutL p q L with
  | nil => exact absurd hC hne
  | cons x C =>
    rw [hC] at h
    have := Tryz.row1At (rest := [.str (ratS p), .str (ratS q)]) (R := x :: C) rfl h hb
    simpa [AV.ren, AV.rens, back, ctO] using this
theorem Tryz.cutAt0 {M : Mem} {b : Nat} {o : Bool} {L : List Iv} (hb : M[b]? = some (.cells o 3 (ivC L))) (hL : shortIv L) (hl : L.length ≤ 1000000) (h0 : logR L = 0) (p q : Rat) (hp : fineD2 p) (hq : fineD2 q) (hpq : p < q) (he : cutL p q L = []) :
    ACallsTo Tryz.prog 21 [.slice b 0 L.length none, .str (ratS p), .str (ratS q)] M (.tuple [.nilslice, .int .i64 0]) M := by
  have h := Tryz.aCutP L hL hl h0 p q hp hq hpq
  rw [he] at h
  have hx : RowC 3 M (.slice b 0 L.length none) L.length (ivC L) := ⟨b, o, ivC L, rfl, hb, List.take_of_length_le (Nat.le_refl _)⟩
  exact ACallsTo.rows1R (rest := [.str (ratS p), .str (ratS q)]) (ivC_closed L) rfl rfl h hx
theorem Tryz.sameAt {M : Mem} {b c : Nat} {o o2 : Bool} {L : List Iv} (hb : M[b]? = some (.cells o 3 (ivC L))) (hc : M[c]? = some (.cells o2 3 (ivC L))) (hl : L.length ≤ 1000000) :
    ACallsTo Tryz.prog 22 [.slice b 0 L.length none, .slice c 0 L.length none] M (.bool true) (M ++ []) := by
  have hx : RowC 3 M (.slice b 0 L.length none) L.length (ivC L) := ⟨b, o, ivC L, rfl, hb, List.take_of_length_le (Nat.le_refl _)⟩
  have hy : RowC 3 M (.slice c 0 L.length none) L.length (ivC L) := ⟨c, o2, ivC L, rfl, hc, List.take_of_length_le (Nat.le_refl _)⟩
  rw [List.append_nil]
  exact ACallsTo.rows2R (rest := []) (ivC_closed L) (ivC_closed L) rfl rfl (Tryz.aSameP L hl) hx hy
noncomputable def Tryz.knO3 : Oracle := fun c args M => match c, args with
  | .fn 8, [] => some ⟨.bool true, none, []⟩
  | .fn 19, [.str s] => if s.length ≤ 1000000000 then some ⟨.bool (chkR s == 0), none, []⟩ else none
  | c, args => Tryz.w25O c args M
theorem Tryz.knO3_ok : OracleOk Tryz.prog Tryz.knO3 := by
  refine oracleOk_of fun c args M r h => ?_
  unfold Tryz.knO3 at h
  split at h
  · cases h
    refine soundAt_call ?_
    rw [List.append_nil]; exact Tryz.aKnown M
  · split at h
    · rename_i hc
      cases h
      refine soundAt_call ?_
      rw [List.append_nil]; exact Tryz.aLRight _ hc M
    · cases h
  · exact soundAt_of Tryz.w25_ok h
theorem cutE_two {s t : List UInt8} (h : cutE s t ≠ 0) : (cutE s t = 2 ∧ ((chkR s == 0) = false ∨ ((chkR s == 0) = true ∧ (chkR t == 0) = false))) ∨ (cutE s t = 6 ∧ ∃ a b, s = ratS a ∧ t = ratS b ∧ fineD2 a ∧ fineD2 b ∧ cmpQ b a ≤ 0) := by
  by_cases c1 : chkR s = 0
  · by_cases c2 : chkR t = 0
    · obtain ⟨a, ha, rfl, a1, a2⟩ := chkR_rat c1
      obtain ⟨b, hb, rfl, b1, b2⟩ := chkR_rat c2
      have hE : cutE (ratS a) (ratS b) = if b ≤ a then 6 else 0 := by unfold cutE; rw [if_pos ⟨c1, c2⟩, ha, hb]; rfl
      by_cases hba : b ≤ a
      · rw [if_pos hba] at hE
        exact .inr ⟨hE, a, b, rfl, rfl, ⟨a1, a2⟩, ⟨b1, b2⟩, cmpQ_le.2 hba⟩
      · rw [if_neg hba] at hE; exact absurd hE h
    · exact .inl ⟨by unfold cutE; rw [if_neg (fun h => c2 h.2)], .inr ⟨by simpa using c1, by simpa using c2⟩⟩
  · exact .inl ⟨by unfold cutE; rw [if_neg (fun h => c1 h.1)], .inl (by simpa using c1)⟩
end Go.Proofs
namespace Go.Proofs
open Go.Eng
set_option maxHeartbeats 3200000 in
theorem Tryz.wc_err (B : List Bit) (hB : ∀ b ∈ B, okBit b) (h8 : B.length ≤ 8) (hne : B ≠ []) (s t : List UInt8) (hs : s.length ≤ 24) (ht : t.length ≤ 24) (he : cutE s t ≠ 0) : ACallsTo Tryz.prog 6 [.slice 0 0 B.length none, .str s, .str t] [.cells false 3 (btC B)] (.bool true) [.cells false 3 (btC B)] := by
  have hG : fnOf Tryz.prog 6 = some Tryz.f6 := by kernel_rfl
  have h8I : ¬ (8 : Int) < B.length := by omega
  have h8N : ¬ 8 < B.length := by omega
  have hsI : ¬ (24 : Int) < s.length := by omega
  have hsN : ¬ 24 < s.length := by omega
  have htI : ¬ (24 : Int) < t.length := by omega
  have htN : ¬ 24 < t.length := by omega
  have hs1 : s.length ≤ 1000000000 := by omega
  have ht1 : t.length ≤ 1000000000 := by omega
  have hL := mkL_short B 0 (by omega)
  have h0 := logR_mkL B h8
  have hlen := mkL_length 0 B
  have hmk := Tryz.aMakeP B hB h8
  obtain ⟨L, hLd⟩ : ∃ L, L = mkL 0 B := ⟨_, rfl⟩
  rw [← hLd] at hL h0 hlen hmk
  have hLne : L ≠ [] := by
    intro e
    rw [e] at hlen
    exact hne (List.length_eq_zero_iff.1 hlen.symm)
  have hmk2 : ACallsTo Tryz.prog 9 [.slice 0 0 B.length none] [.cells false 3 (btC B)] (.slice 1 0 L.length none) ([.cells false 3 (btC B)] ++ [.cells true 3 (ivC L)]) := by
    cases L with
    | nil => exact absurd rfl hLne
    | cons x L => exact hmk
  have hR0 : logR (mergeL L) = 0 := mergeL_logR h0
  have hRs : shortIv (mergeL L) := mergeL_short hL
  have hRl : (mergeL L).length ≤ L.length := mergeL_len L
  have hRR : mergeL (mergeL L) = mergeL L := mergeL_twice L
  have hRne : mergeL L ≠ [] := by obtain ⟨acc, z, _, e⟩ := mgV_ne hLne; rw [e]; simp
  have m1 := Tryz.mergeAt (M := [.cells false 3 (btC B), .cells true 3 (ivC L)]) (b := 1) rfl hL (by omega) h0 hLne
  have m2 := Tryz.mergeAt (M := [.cells false 3 (btC B), .cells true 3 (ivC L), .cells true 3 (ivC (mergeL L))]) (b := 2) rfl hRs (by omega) hR0 hRne
  obtain ⟨R, hR⟩ : ∃ R, R = mergeL L := ⟨_, rfl⟩
  rw [← hR] at m1 m2 hRne hR0 hRs hRl hRR
  rw [hRR] at m2
  have hct : ACallsTo Tryz.prog 21 [.slice 1 0 L.length none, .str s, .str t] [.cells false 3 (btC B), .cells true 3 (ivC L), .cells true 3 (ivC R), .cells true 3 (ivC R)] (.tuple [.nilslice, .int .i64 (cutE s t)]) ([.cells false 3 (btC B), .cells true 3 (ivC L), .cells true 3 (ivC R), .cells true 3 (ivC R)] ++ []) := by rw [List.append_nil]; exact Tryz.aCutE _ _ L (ivs_at rfl rfl (ivC_take L)) hL (by omega) h0 s t hs1 ht1 he
  have hlm := Tryz.lmergeAt (M := [.cells false 3 (btC B), .cells true 3 (ivC L), .cells true 3 (ivC R), .cells true 3 (ivC R)]) (b := 1) rfl (by omega) hLne
  rw [← hR] at hlm
  have hs1m := Tryz.sameAt (M := [.cells false 3 (btC B), .cells true 3 (ivC L), .cells true 3 (ivC R), .cells true 3 (ivC R), .cells true 3 (ivC R)]) (b := 2) (c := 4) (L := R) rfl rfl (by omega)
  have hs2m := Tryz.sameAt (M := [.cells false 3 (btC B), .cells true 3 (ivC L), .cells true 3 (ivC R), .cells true 3 (ivC R), .cells true 3 (ivC R)]) (b := 3) (c := 2) (L := R) rfl rfl (by omega)
  obtain ⟨E, hE⟩ : ∃ E, E = cutE s t := ⟨_, rfl⟩
  have h2 := cutE_two he
  rw [← hE] at hct h2
  have hO := ((oneO_ok hmk2).or ((oneO_ok m1).or ((oneO_ok m2).or ((oneO_ok hct).or ((oneO_ok hlm).or ((oneO_ok hs1m).or ((oneO_ok hs2m).or Tryz.knO3_ok)))))))
  obtain ⟨O, hOd⟩ : ∃ O, O = Oracle.or (oneO 9 [.slice 0 0 B.length none] [.cells false 3 (btC B)] ⟨.slice 1 0 L.length none, none, [.cells true 3 (ivC L)]⟩) (Oracle.or (oneO 20 [.slice 1 0 L.length none] [.cells false 3 (btC B), .cells true 3 (ivC L)] ⟨.tuple [.slice 2 0 R.length none, .int .i64 0], none, [.cells true 3 (ivC R)]⟩) (Oracle.or (oneO 20 [.slice 2 0 R.length none] [.cells false 3 (btC B), .cells true 3 (ivC L), .cells true 3 (ivC R)] ⟨.tuple [.slice 3 0 R.length none, .int .i64 0], none, [.cells true 3 (ivC R)]⟩) (Oracle.or (oneO 21 [.slice 1 0 L.length none, .str s, .str t] [.cells false 3 (btC B), .cells true 3 (ivC L), .cells true 3 (ivC R), .cells true 3 (ivC R)] ⟨.tuple [.nilslice, .int .i64 E], none, []⟩) (Oracle.or (oneO 23 [.slice 1 0 L.length none] [.cells false 3 (btC B), .cells true 3 (ivC L), .cells true 3 (ivC R), .cells true 3 (ivC R)] ⟨.slice 4 0 R.length none, none, [.cells true 3 (ivC R)]⟩) (Oracle.or (oneO 22 [.slice 2 0 R.length none, .slice 4 0 R.length none] [.cells false 3 (btC B), .cells true 3 (ivC L), .cells true 3 (ivC R), .cells true 3 (ivC R), .cells true 3 (ivC R)] ⟨.bool true, none, []⟩) (Oracle.or (oneO 22 [.slice 3 0 R.length none, .slice 2 0 R.length none] [.cells false 3 (btC B), .cells true 3 (ivC L), .cells true 3 (ivC R), .cells true 3 (ivC R), .cells true 3 (ivC R)] ⟨.bool true, none, []⟩) (Tryz.knO3))))))) := ⟨_, rfl⟩
  have hO2 : OracleOk Tryz.prog O := by rw [hOd]; exact hO
  have c0 : O (.fn 9) [.slice 0 0 B.length none] [.cells false 3 (btC B)] = some ⟨.slice 1 0 L.length none, none, [.cells true 3 (ivC L)]⟩ := by rw [hOd]; simp [Oracle.or, oneO_ne, oneO]
  have c1 : O (.fn 20) [.slice 1 0 L.length none] [.cells false 3 (btC B), .cells true 3 (ivC L)] = some ⟨.tuple [.slice 2 0 R.length none, .int .i64 0], none, [.cells true 3 (ivC R)]⟩ := by rw [hOd]; simp [Oracle.or, oneO_ne, oneO]
  have c2 : O (.fn 20) [.slice 2 0 R.length none] [.cells false 3 (btC B), .cells true 3 (ivC L), .cells true 3 (ivC R)] = some ⟨.tuple [.slice 3 0 R.length none, .int .i64 0], none, [.cells true 3 (ivC R)]⟩ := by rw [hOd]; simp [Oracle.or, oneO_ne, oneO]
  have c3 : O (.fn 21) [.slice 1 0 L.length none, .str s, .str t] [.cells false 3 (btC B), .cells true 3 (ivC L), .cells true 3 (ivC R), .cells true 3 (ivC R)] = some ⟨.tuple [.nilslice, .int .i64 E], none, []⟩ := by rw [hOd]; simp [Oracle.or, oneO_ne, oneO]
  have c4 : O (.fn 23) [.slice 1 0 L.length none] [.cells false 3 (btC B), .cells true 3 (ivC L), .cells true 3 (ivC R), .cells true 3 (ivC R)] = some ⟨.slice 4 0 R.length none, none, [.cells true 3 (ivC R)]⟩ := by rw [hOd]; simp [Oracle.or, oneO_ne, oneO]
  have c5 : O (.fn 22) [.slice 2 0 R.length none, .slice 4 0 R.length none] [.cells false 3 (btC B), .cells true 3 (ivC L), .cells true 3 (ivC R), .cells true 3 (ivC R), .cells true 3 (ivC R)] = some ⟨.bool true, none, []⟩ := by rw [hOd]; simp [Oracle.or, oneO_ne, oneO]
  have c6 : O (.fn 22) [.slice 3 0 R.length none, .slice 2 0 R.length none] [.cells false 3 (btC B), .cells true 3 (ivC L), .cells true 3 (ivC R), .cells true 3 (ivC R), .cells true 3 (ivC R)] = some ⟨.bool true, none, []⟩ := by rw [hOd]; simp [Oracle.or, oneO_ne, oneO]
  have oK : ∀ M, O (.fn 8) [] M = some ⟨.bool true, none, []⟩ := fun M => by rw [hOd]; simp [Oracle.or, oneO_ne, Tryz.knO3]
  have oR : ∀ w M, w.length ≤ 1000000000 → O (.fn 19) [.str w] M = some ⟨.bool (chkR w == 0), none, []⟩ := fun w M hw => by rw [hOd]; simp [Oracle.or, oneO_ne, Tryz.knO3, hw]
  have oC : ∀ args M, O (.fn 24) args M = Tryz.w25O (.fn 24) args M := fun args M => by rw [hOd]; simp only [Oracle.or, oneO_ne (show 24 ≠ 9 by decide), oneO_ne (show 24 ≠ 20 by decide), oneO_ne (show 24 ≠ 21 by decide), oneO_ne (show 24 ≠ 23 by decide), oneO_ne (show 24 ≠ 22 by decide)]; rfl
  clear hOd hO
  have h : callFn (tyOf Tryz.prog) (fun _ => [14, 101]) (fnOf Tryz.prog) O 1 6 [.slice 0 0 B.length none, .str s, .str t] [.cells false 3 (btC B)] = some ⟨.bool true, none, []⟩ := by
    have r1 := fun M => oR s M hs1
    have r2 := fun M => oR t M ht1
    clear oR
    rcases h2 with ⟨rfl, h3 | ⟨h3, h4⟩⟩ | ⟨rfl, a, b, rfl, rfl, ⟨a1, a2⟩, ⟨b1, b2⟩, h3⟩
    · rw [h3] at r1
      simp [callFn, hG, Tryz.f6, h8I, h8N, hsI, hsN, htI, htN, oK, r1, c0, c1, c2, c3, c4, c5, c6]
    · rw [h3] at r1
      rw [h4] at r2
      simp [callFn, hG, Tryz.f6, h8I, h8N, hsI, hsN, htI, htN, oK, r1, r2, c0, c1, c2, c3, c4, c5, c6]
    · have a1' : (natD a.num.natAbs).length ≤ 40000 := by omega
      have a2' : (natD a.den).length ≤ 40000 := by omega
      have b1' : (natD b.num.natAbs).length ≤ 40000 := by omega
      have b2' : (natD b.den).length ≤ 40000 := by omega
      rw [chkR_ratS a1 a2] at r1
      rw [chkR_ratS b1 b2] at r2
      simp [callFn, hG, Tryz.f6, h8I, h8N, hsI, hsN, htI, htN, oK, r1, r2, c0, c1, c2, c3, c4, c5, c6, oC, Tryz.w25O, Tryz.w6O, pureO, Tryz.w5F, Tryz.ratF4, Tryz.ratF3, ratP_ratS, a1', a2', b1', b2', h3]
  have := (callFn_sound Tryz.mixed (tyOf_ok _) hO2 (fnOf_ok _) h).1
  simpa [CallRes.mem] using this
end Go.Proofs
namespace Go.Proofs
open Go.Eng
set_option maxHeartbeats 3200000 in
theorem Tryz.wc_ok0 (B : List Bit) (hB : ∀ b ∈ B, okBit b) (h8 : B.length ≤ 8) (hne : B ≠ []) (s t : List UInt8) (hs : s.length ≤ 24) (ht : t.length ≤ 24) (p q : Rat) (hsp : s = ratS p) (htq : t = ratS q) (hp : fineD2 p) (hq : fineD2 q) (hpq : p < q) (hC : cutL p q (mkL 0 B) = []) : ACallsTo Tryz.prog 6 [.slice 0 0 B.length none, .str s, .str t] [.cells false 3 (btC B)] (.bool true) [.cells false 3 (btC B)] := by
  have hG : fnOf Tryz.prog 6 = some Tryz.f6 := by kernel_rfl
  have h8I : ¬ (8 : Int) < B.length := by omega
  have h8N : ¬ 8 < B.length := by omega
  have hsI : ¬ (24 : Int) < s.length := by omega
  have hsN : ¬ 24 < s.length := by omega
  have htI : ¬ (24 : Int) < t.length := by omega
  have htN : ¬ 24 < t.length := by omega
  have hs1 : s.length ≤ 1000000000 := by omega
  have ht1 : t.length ≤ 1000000000 := by omega
  have hL := mkL_short B 0 (by omega)
  have h0 := logR_mkL B h8
  have hlen := mkL_length 0 B
  have hmk := Tryz.aMakeP B hB h8
  obtain ⟨L, hLd⟩ : ∃ L, L = mkL 0 B := ⟨_, rfl⟩
  rw [← hLd] at hL h0 hlen hmk
  have hLne : L ≠ [] := by
    intro e
    rw [e] at hlen
    exact hne (List.length_eq_zero_iff.1 hlen.symm)
  have hmk2 : ACallsTo Tryz.prog 9 [.slice 0 0 B.length none] [.cells false 3 (btC B)] (.slice 1 0 L.length none) ([.cells false 3 (btC B)] ++ [.cells true 3 (ivC L)]) := by
    cases L with
    | nil => exact absurd rfl hLne
    | cons x L => exact hmk
  have hR0 : logR (mergeL L) = 0 := mergeL_logR h0
  have hRs : shortIv (mergeL L) := mergeL_short hL
  have hRl : (mergeL L).length ≤ L.length := mergeL_len L
  have hRR : mergeL (mergeL L) = mergeL L := mergeL_twice L
  have hRne : mergeL L ≠ [] := by obtain ⟨acc, z, _, e⟩ := mgV_ne hLne; rw [e]; simp
  have m1 := Tryz.mergeAt (M := [.cells false 3 (btC B), .cells true 3 (ivC L)]) (b := 1) rfl hL (by omega) h0 hLne
  have m2 := Tryz.mergeAt (M := [.cells false 3 (btC B), .cells true 3 (ivC L), .cells true 3 (ivC (mergeL L))]) (b := 2) rfl hRs (by omega) hR0 hRne
  obtain ⟨R, hR⟩ : ∃ R, R = mergeL L := ⟨_, rfl⟩
  rw [← hR] at m1 m2 hRne hR0 hRs hRl hRR
  rw [hRR] at m2
  rw [← hLd] at hC
  subst hsp htq
  have hct : ACallsTo Tryz.prog 21 [.slice 1 0 L.length none, .str (ratS p), .str (ratS q)] [.cells false 3 (btC B), .cells true 3 (ivC L), .cells true 3 (ivC R), .cells true 3 (ivC R)] (.tuple [.nilslice, .int .i64 0]) ([.cells false 3 (btC B), .cells true 3 (ivC L), .cells true 3 (ivC R), .cells true 3 (ivC R)] ++ []) := by rw [List.append_nil]; exact Tryz.cutAt0 (b := 1) rfl hL (by omega) h0 p q hp hq hpq hC
  have hlm := Tryz.lmergeAt (M := [.cells false 3 (btC B), .cells true 3 (ivC L), .cells true 3 (ivC R), .cells true 3 (ivC R)]) (b := 1) rfl (by omega) hLne
  rw [← hR] at hlm
  have hs3m : ACallsTo Tryz.prog 22 [.nilslice, .nilslice] [.cells false 3 (btC B), .cells true 3 (ivC L), .cells true 3 (ivC R), .cells true 3 (ivC R), .cells true 3 (ivC R)] (.bool true) ([.cells false 3 (btC B), .cells true 3 (ivC L), .cells true 3 (ivC R), .cells true 3 (ivC R), .cells true 3 (ivC R)] ++ []) := by rw [List.append_nil]; exact Tryz.aSameNil _
  have hs1m := Tryz.sameAt (M := [.cells false 3 (btC B), .cells true 3 (ivC L), .cells true 3 (ivC R), .cells true 3 (ivC R), .cells true 3 (ivC R)]) (b := 2) (c := 4) (L := R) rfl rfl (by omega)
  have hs2m := Tryz.sameAt (M := [.cells false 3 (btC B), .cells true 3 (ivC L), .cells true 3 (ivC R), .cells true 3 (ivC R), .cells true 3 (ivC R)]) (b := 3) (c := 2) (L := R) rfl rfl (by omega)
  have hO := ((oneO_ok hmk2).or ((oneO_ok m1).or ((oneO_ok m2).or ((oneO_ok hct).or ((oneO_ok hlm).or ((oneO_ok hs1m).or ((oneO_ok hs2m).or ((oneO_ok hs3m).or Tryz.knO3_ok))))))))
  obtain ⟨O, hOd⟩ : ∃ O, O = Oracle.or (oneO 9 [.slice 0 0 B.length none] [.cells false 3 (btC B)] ⟨.slice 1 0 L.length none, none, [.cells true 3 (ivC L)]⟩) (Oracle.or (oneO 20 [.slice 1 0 L.length none] [.cells false 3 (btC B), .cells true 3 (ivC L)] ⟨.tuple [.slice 2 0 R.length none, .int .i64 0], none, [.cells true 3 (ivC R)]⟩) (Oracle.or (oneO 20 [.slice 2 0 R.length none] [.cells false 3 (btC B), .cells true 3 (ivC L), .cells true 3 (ivC R)] ⟨.tuple [.slice 3 0 R.length none, .int .i64 0], none, [.cells true 3 (ivC R)]⟩) (Oracle.or (oneO 21 [.slice 1 0 L.length none, .str (ratS p), .str (ratS q)] [.cells false 3 (btC B), .cells true 3 (ivC L), .cells true 3 (ivC R), .cells true 3 (ivC R)] ⟨.tuple [.nilslice, .int .i64 0], none, []⟩) (Oracle.or (oneO 23 [.slice 1 0 L.length none] [.cells false 3 (btC B), .cells true 3 (ivC L), .cells true 3 (ivC R), .cells true 3 (ivC R)] ⟨.slice 4 0 R.length none, none, [.cells true 3 (ivC R)]⟩) (Oracle.or (oneO 22 [.slice 2 0 R.length none, .slice 4 0 R.length none] [.cells false 3 (btC B), .cells true 3 (ivC L), .cells true 3 (ivC R), .cells true 3 (ivC R), .cells true 3 (ivC R)] ⟨.bool true, none, []⟩) (Oracle.or (oneO 22 [.slice 3 0 R.length none, .slice 2 0 R.length none] [.cells false 3 (btC B), .cells true 3 (ivC L), .cells true 3 (ivC R), .cells true 3 (ivC R), .cells true 3 (ivC R)] ⟨.bool true, none, []⟩) (Oracle.or (oneO 22 [.nilslice, .nilslice] [.cells false 3 (btC B), .cells true 3 (ivC L), .cells true 3 (ivC R), .cells true 3 (ivC R), .cells true 3 (ivC R)] ⟨.bool true, none, []⟩) (Tryz.knO3)))))))) := ⟨_, rfl⟩
  have hO2 : OracleOk Tryz.prog O := by rw [hOd]; exact hO
  have c0 : O (.fn 9) [.slice 0 0 B.length none] [.cells false 3 (btC B)] = some ⟨.slice 1 0 L.length none, none, [.cells true 3 (ivC L)]⟩ := by rw [hOd]; simp [Oracle.or, oneO_ne, oneO]
  have c1 : O (.fn 20) [.slice 1 0 L.length none] [.cells false 3 (btC B), .cells true 3 (ivC L)] = some ⟨.tuple [.slice 2 0 R.length none, .int .i64 0], none, [.cells true 3 (ivC R)]⟩ := by rw [hOd]; simp [Oracle.or, oneO_ne, oneO]
  have c2 : O (.fn 20) [.slice 2 0 R.length none] [.cells false 3 (btC B), .cells true 3 (ivC L), .cells true 3 (ivC R)] = some ⟨.tuple [.slice 3 0 R.length none, .int .i64 0], none, [.cells true 3 (ivC R)]⟩ := by rw [hOd]; simp [Oracle.or, oneO_ne, oneO]
  have c3 : O (.fn 21) [.slice 1 0 L.length none, .str (ratS p), .str (ratS q)] [.cells false 3 (btC B), .cells true 3 (ivC L), .cells true 3 (ivC R), .cells true 3 (ivC R)] = some ⟨.tuple [.nilslice, .int .i64 0], none, []⟩ := by rw [hOd]; simp [Oracle.or, oneO_ne, oneO]
  have c4 : O (.fn 23) [.slice 1 0 L.length none] [.cells false 3 (btC B), .cells true 3 (ivC L), .cells true 3 (ivC R), .cells true 3 (ivC R)] = some ⟨.slice 4 0 R.length none, none, [.cells true 3 (ivC R)]⟩ := by rw [hOd]; simp [Oracle.or, oneO_ne, oneO]
  have c5 : O (.fn 22) [.slice 2 0 R.length none, .slice 4 0 R.length none] [.cells false 3 (btC B), .cells true 3 (ivC L), .cells true 3 (ivC R), .cells true 3 (ivC R), .cells true 3 (ivC R)] = some ⟨.bool true, none, []⟩ := by rw [hOd]; simp [Oracle.or, oneO_ne, oneO]
  have c6 : O (.fn 22) [.slice 3 0 R.length none, .slice 2 0 R.length none] [.cells false 3 (btC B), .cells true 3 (ivC L), .cells true 3 (ivC R), .cells true 3 (ivC R), .cells true 3 (ivC R)] = some ⟨.bool true, none, []⟩ := by rw [hOd]; simp [Oracle.or, oneO_ne, oneO]
  have c7 : O (.fn 22) [.nilslice, .nilslice] [.cells false 3 (btC B), .cells true 3 (ivC L), .cells true 3 (ivC R), .cells true 3 (ivC R), .cells true 3 (ivC R)] = some ⟨.bool true, none, []⟩ := by rw [hOd]; simp [Oracle.or, oneO_ne, oneO]
  have oK : ∀ M, O (.fn 8) [] M = some ⟨.bool true, none, []⟩ := fun M => by rw [hOd]; simp [Oracle.or, oneO_ne, Tryz.knO3]
  have oR : ∀ w M, w.length ≤ 1000000000 → O (.fn 19) [.str w] M = some ⟨.bool (chkR w == 0), none, []⟩ := fun w M hw => by rw [hOd]; simp [Oracle.or, oneO_ne, Tryz.knO3, hw]
  have oX : ∀ args M, O (.fn 25) args M = Tryz.w25O (.fn 25) args M := fun args M => by rw [hOd]; simp only [Oracle.or, oneO_ne (show 25 ≠ 9 by decide), oneO_ne (show 25 ≠ 20 by decide), oneO_ne (show 25 ≠ 21 by decide), oneO_ne (show 25 ≠ 23 by decide), oneO_ne (show 25 ≠ 22 by decide)]; rfl
  have oN : ∀ args M, O (.fn 26) args M = Tryz.w25O (.fn 26) args M := fun args M => by rw [hOd]; simp only [Oracle.or, oneO_ne (show 26 ≠ 9 by decide), oneO_ne (show 26 ≠ 20 by decide), oneO_ne (show 26 ≠ 21 by decide), oneO_ne (show 26 ≠ 23 by decide), oneO_ne (show 26 ≠ 22 by decide)]; rfl
  have oC : ∀ args M, O (.fn 24) args M = Tryz.w25O (.fn 24) args M := fun args M => by rw [hOd]; simp only [Oracle.or, oneO_ne (show 24 ≠ 9 by decide), oneO_ne (show 24 ≠ 20 by decide), oneO_ne (show 24 ≠ 21 by decide), oneO_ne (show 24 ≠ 23 by decide), oneO_ne (show 24 ≠ 22 by decide)]; rfl
  clear hOd hO
  obtain ⟨b, hb⟩ : ∃ b, loopsF Tryz.f6 = [b] := ⟨_, rfl⟩
  obtain ⟨F, hF⟩ := Tryz.wc_loop5 (O := O) (K := L.length + 1) oX oN oC B R L (logR_right h0) p q hp hq (by omega) (by omega) hb
  rw [hC] at hF
  simp only [wcM5, ctO] at hF
  have hF1 := fun env0 d h => (hF env0 d h).1
  have hF2 := fun env0 d h => (hF env0 d h).2.1
  have hF3 := fun env0 d h => (hF env0 d h).2.2.1
  have hF4 := fun env0 d h => (hF env0 d h).2.2.2
  clear hF
  simp [loopsF, loopsC, Tryz.f6] at hb
  subst hb
  have r1 := fun M => oR (ratS p) M hs1
  have r2 := fun M => oR (ratS q) M ht1
  clear oR
  obtain ⟨p1, p2⟩ := hp
  obtain ⟨q1, q2⟩ := hq
  rw [chkR_ratS p1 p2] at r1
  rw [chkR_ratS q1 q2] at r2
  have p1' : (natD p.num.natAbs).length ≤ 40000 := by omega
  have p2' : (natD p.den).length ≤ 40000 := by omega
  have q1' : (natD q.num.natAbs).length ≤ 40000 := by omega
  have q2' : (natD q.den).length ≤ 40000 := by omega
  have h3 : ¬ cmpQ q p ≤ 0 := fun h => absurd (cmpQ_le.1 h) (Rat.not_le.2 hpq)
  have h : callFn (tyOf Tryz.prog) (fun _ => [14, 101]) (fnOf Tryz.prog) O (L.length + 1) 6 [.slice 0 0 B.length none, .str (ratS p), .str (ratS q)] [.cells false 3 (btC B)] = some ⟨.bool true, none, []⟩ := by
    simp [callFn, hG, Tryz.f6, h8I, h8N, hsI, hsN, htI, htN, oK, r1, r2, c0, c1, c2, c3, c4, c5, c6, c7, oC, Tryz.w25O, Tryz.w6O, pureO, Tryz.w5F, Tryz.ratF4, Tryz.ratF3, ratP_ratS, p1', p2', q1', q2', h3, hF1, hF2, hF3, hF4]
  have := (callFn_sound Tryz.mixed (tyOf_ok _) hO2 (fnOf_ok _) h).1
  simpa [CallRes.mem] using this
end Go.Proofs
namespace Go.Proofs
open Go.Eng
set_option maxHeartbeats 3200000 in
theorem Tryz.wc_ok1 (B : List Bit) (hB : ∀ b ∈ B, okBit b) (h8 : B.length ≤ 8) (hne : B ≠ []) (s t : List UInt8) (hs : s.length ≤ 24) (ht : t.length ≤ 24) (p q : Rat) (hsp : s = ratS p) (htq : t = ratS q) (hp : fineD2 p) (hq : fineD2 q) (hpq : p < q) (hC : cutL p q (mkL 0 B) ≠ []) : ACallsTo Tryz.prog 6 [.slice 0 0 B.length none, .str s, .str t] [.cells false 3 (btC B)] (.bool true) [.cells false 3 (btC B)] := by
  have hG : fnOf Tryz.prog 6 = some Tryz.f6 := by kernel_rfl
  have h8I : ¬ (8 : Int) < B.length := by omega
  have h8N : ¬ 8 < B.length := by omega
  have hsI : ¬ (24 : Int) < s.length := by omega
  have hsN : ¬ 24 < s.length := by omega
  have htI : ¬ (24 : Int) < t.length := by omega
  have htN : ¬ 24 < t.length := by omega
  have hs1 : s.length ≤ 1000000000 := by omega
  have ht1 : t.length ≤ 1000000000 := by omega
  have hL := mkL_short B 0 (by omega)
  have h0 := logR_mkL B h8
  have hlen := mkL_length 0 B
  have hmk := Tryz.aMakeP B hB h8
  obtain ⟨L, hLd⟩ : ∃ L, L = mkL 0 B := ⟨_, rfl⟩
  rw [← hLd] at hL h0 hlen hmk
  have hLne : L ≠ [] := by
    intro e
    rw [e] at hlen
    exact hne (List.length_eq_zero_iff.1 hlen.symm)
  have hmk2 : ACallsTo Tryz.prog 9 [.slice 0 0 B.length none] [.cells false 3 (btC B)] (.slice 1 0 L.length none) ([.cells false 3 (btC B)] ++ [.cells true 3 (ivC L)]) := by
    cases L with
    | nil => exact absurd rfl hLne
    | cons x L => exact hmk
  have hR0 : logR (mergeL L) = 0 := mergeL_logR h0
  have hRs : shortIv (mergeL L) := mergeL_short hL
  have hRl : (mergeL L).length ≤ L.length := mergeL_len L
  have hRR : mergeL (mergeL L) = mergeL L := mergeL_twice L
  have hRne : mergeL L ≠ [] := by obtain ⟨acc, z, _, e⟩ := mgV_ne hLne; rw [e]; simp
  have m1 := Tryz.mergeAt (M := [.cells false 3 (btC B), .cells true 3 (ivC L)]) (b := 1) rfl hL (by omega) h0 hLne
  have m2 := Tryz.mergeAt (M := [.cells false 3 (btC B), .cells true 3 (ivC L), .cells true 3 (ivC (mergeL L))]) (b := 2) rfl hRs (by omega) hR0 hRne
  obtain ⟨R, hR⟩ : ∃ R, R = mergeL L := ⟨_, rfl⟩
  rw [← hR] at m1 m2 hRne hR0 hRs hRl hRR
  rw [hRR] at m2
  rw [← hLd] at hC
  subst hsp htq
  have hct := Tryz.cutAt (M := [.cells false 3 (btC B), .cells true 3 (ivC L), .cells true 3 (ivC R), .cells true 3 (ivC R)]) (b := 1) rfl hL (by omega) h0 p q hp hq hpq hC
  have hCl : (cutL p q L).length ≤ L.length := List.length_filterMap_le _ _
  obtain ⟨C, hCd⟩ : ∃ C, C = cutL p q L := ⟨_, rfl⟩
  rw [← hCd] at hct hC hCl
  have hlm := Tryz.lmergeAt (M := [.cells false 3 (btC B), .cells true 3 (ivC L), .cells true 3 (ivC R), .cells true 3 (ivC R), .cells true 3 (ivC C)]) (b := 1) rfl (by omega) hLne
  rw [← hR] at hlm
  have hs3m := Tryz.sameAt (M := [.cells false 3 (btC B), .cells true 3 (ivC L), .cells true 3 (ivC R), .cells true 3 (ivC R), .cells true 3 (ivC C), .cells true 3 (ivC R), .cells true 3 (ivC C)]) (b := 4) (c := 6) (L := C) rfl rfl (by omega)
  have hs1m := Tryz.sameAt (M := [.cells false 3 (btC B), .cells true 3 (ivC L), .cells true 3 (ivC R), .cells true 3 (ivC R), .cells true 3 (ivC C), .cells true 3 (ivC R)]) (b := 2) (c := 5) (L := R) rfl rfl (by omega)
  have hs2m := Tryz.sameAt (M := [.cells false 3 (btC B), .cells true 3 (ivC L), .cells true 3 (ivC R), .cells true 3 (ivC R), .cells true 3 (ivC C), .cells true 3 (ivC R)]) (b := 3) (c := 2) (L := R) rfl rfl (by omega)
  have hO := ((oneO_ok hmk2).or ((oneO_ok m1).or ((oneO_ok m2).or ((oneO_ok hct).or ((oneO_ok hlm).or ((oneO_ok hs1m).or ((oneO_ok hs2m).or ((oneO_ok hs3m).or Tryz.knO3_ok))))))))
  obtain ⟨O, hOd⟩ : ∃ O, O = Oracle.or (oneO 9 [.slice 0 0 B.length none] [.cells false 3 (btC B)] ⟨.slice 1 0 L.length none, none, [.cells true 3 (ivC L)]⟩) (Oracle.or (oneO 20 [.slice 1 0 L.length none] [.cells false 3 (btC B), .cells true 3 (ivC L)] ⟨.tuple [.slice 2 0 R.length none, .int .i64 0], none, [.cells true 3 (ivC R)]⟩) (Oracle.or (oneO 20 [.slice 2 0 R.length none] [.cells false 3 (btC B), .cells true 3 (ivC L), .cells true 3 (ivC R)] ⟨.tuple [.slice 3 0 R.length none, .int .i64 0], none, [.cells true 3 (ivC R)]⟩) (Oracle.or (oneO 21 [.slice 1 0 L.length none, .str (ratS p), .str (ratS q)] [.cells false 3 (btC B), .cells true 3 (ivC L), .cells true 3 (ivC R), .cells true 3 (ivC R)] ⟨.tuple [.slice 4 0 C.length none, .int .i64 0], none, [.cells true 3 (ivC C)]⟩) (Oracle.or (oneO 23 [.slice 1 0 L.length none] [.cells false 3 (btC B), .cells true 3 (ivC L), .cells true 3 (ivC R), .cells true 3 (ivC R), .cells true 3 (ivC C)] ⟨.slice 5 0 R.length none, none, [.cells true 3 (ivC R)]⟩) (Oracle.or (oneO 22 [.slice 2 0 R.length none, .slice 5 0 R.length none] [.cells false 3 (btC B), .cells true 3 (ivC L), .cells true 3 (ivC R), .cells true 3 (ivC R), .cells true 3 (ivC C), .cells true 3 (ivC R)] ⟨.bool true, none, []⟩) (Oracle.or (oneO 22 [.slice 3 0 R.length none, .slice 2 0 R.length none] [.cells false 3 (btC B), .cells true 3 (ivC L), .cells true 3 (ivC R), .cells true 3 (ivC R), .cells true 3 (ivC C), .cells true 3 (ivC R)] ⟨.bool true, none, []⟩) (Oracle.or (oneO 22 [.slice 4 0 C.length none, .slice 6 0 C.length none] [.cells false 3 (btC B), .cells true 3 (ivC L), .cells true 3 (ivC R), .cells true 3 (ivC R), .cells true 3 (ivC C), .cells true 3 (ivC R), .cells true 3 (ivC C)] ⟨.bool true, none, []⟩) (Tryz.knO3)))))))) := ⟨_, rfl⟩
  have hO2 : OracleOk Tryz.prog O := by rw [hOd]; exact hO
  have c0 : O (.fn 9) [.slice 0 0 B.length none] [.cells false 3 (btC B)] = some ⟨.slice 1 0 L.length none, none, [.cells true 3 (ivC L)]⟩ := by rw [hOd]; simp [Oracle.or, oneO_ne, oneO]
  have c1 : O (.fn 20) [.slice 1 0 L.length none] [.cells false 3 (btC B), .cells true 3 (ivC L)] = some ⟨.tuple [.slice 2 0 R.length none, .int .i64 0], none, [.cells true 3 (ivC R)]⟩ := by rw [hOd]; simp [Oracle.or, oneO_ne, oneO]
  have c2 : O (.fn 20) [.slice 2 0 R.length none] [.cells false 3 (btC B), .cells true 3 (ivC L), .cells true 3 (ivC R)] = some ⟨.tuple [.slice 3 0 R.length none, .int .i64 0], none, [.cells true 3 (ivC R)]⟩ := by rw [hOd]; simp [Oracle.or, oneO_ne, oneO]
  have c3 : O (.fn 21) [.slice 1 0 L.length none, .str (ratS p), .str (ratS q)] [.cells false 3 (btC B), .cells true 3 (ivC L), .cells true 3 (ivC R), .cells true 3 (ivC R)] = some ⟨.tuple [.slice 4 0 C.length none, .int .i64 0], none, [.cells true 3 (ivC C)]⟩ := by rw [hOd]; simp [Oracle.or, oneO_ne, oneO]
  have c4 : O (.fn 23) [.slice 1 0 L.length none] [.cells false 3 (btC B), .cells true 3 (ivC L), .cells true 3 (ivC R), .cells true 3 (ivC R), .cells true 3 (ivC C)] = some ⟨.slice 5 0 R.length none, none, [.cells true 3 (ivC R)]⟩ := by rw [hOd]; simp [Oracle.or, oneO_ne, oneO]
  have c5 : O (.fn 22) [.slice 2 0 R.length none, .slice 5 0 R.length none] [.cells false 3 (btC B), .cells true 3 (ivC L), .cells true 3 (ivC R), .cells true 3 (ivC R), .cells true 3 (ivC C), .cells true 3 (ivC R)] = some ⟨.bool true, none, []⟩ := by rw [hOd]; simp [Oracle.or, oneO_ne, oneO]
  have c6 : O (.fn 22) [.slice 3 0 R.length none, .slice 2 0 R.length none] [.cells false 3 (btC B), .cells true 3 (ivC L), .cells true 3 (ivC R), .cells true 3 (ivC R), .cells true 3 (ivC C), .cells true 3 (ivC R)] = some ⟨.bool true, none, []⟩ := by rw [hOd]; simp [Oracle.or, oneO_ne, oneO]
  have c7 : O (.fn 22) [.slice 4 0 C.length none, .slice 6 0 C.length none] [.cells false 3 (btC B), .cells true 3 (ivC L), .cells true 3 (ivC R), .cells true 3 (ivC R), .cells true 3 (ivC C), .cells true 3 (ivC R), .cells true 3 (ivC C)] = some ⟨.bool true, none, []⟩ := by rw [hOd]; simp [Oracle.or, oneO_ne, oneO]
  have oK : ∀ M, O (.fn 8) [] M = some ⟨.bool true, none, []⟩ := fun M => by rw [hOd]; simp [Oracle.or, oneO_ne, Tryz.knO3]
  have oR : ∀ w M, w.length ≤ 1000000000 → O (.fn 19) [.str w] M = some ⟨.bool (chkR w == 0), none, []⟩ := fun w M hw => by rw [hOd]; simp [Oracle.or, oneO_ne, Tryz.knO3, hw]
  have oX : ∀ args M, O (.fn 25) args M = Tryz.w25O (.fn 25) args M := fun args M => by rw [hOd]; simp only [Oracle.or, oneO_ne (show 25 ≠ 9 by decide), oneO_ne (show 25 ≠ 20 by decide), oneO_ne (show 25 ≠ 21 by decide), oneO_ne (show 25 ≠ 23 by decide), oneO_ne (show 25 ≠ 22 by decide)]; rfl
  have oN : ∀ args M, O (.fn 26) args M = Tryz.w25O (.fn 26) args M := fun args M => by rw [hOd]; simp only [Oracle.or, oneO_ne (show 26 ≠ 9 by decide), oneO_ne (show 26 ≠ 20 by decide), oneO_ne (show 26 ≠ 21 by decide), oneO_ne (show 26 ≠ 23 by decide), oneO_ne (show 26 ≠ 22 by decide)]; rfl
  have oC : ∀ args M, O (.fn 24) args M = Tryz.w25O (.fn 24) args M := fun args M => by rw [hOd]; simp only [Oracle.or, oneO_ne (show 24 ≠ 9 by decide), oneO_ne (show 24 ≠ 20 by decide), oneO_ne (show 24 ≠ 21 by decide), oneO_ne (show 24 ≠ 23 by decide), oneO_ne (show 24 ≠ 22 by decide)]; rfl
  clear hOd hO
  obtain ⟨b, hb⟩ : ∃ b, loopsF Tryz.f6 = [b] := ⟨_, rfl⟩
  obtain ⟨F, hF⟩ := Tryz.wc_loop6 (O := O) (K := L.length + 1) oX oN oC B R C L (logR_right h0) p q hp hq (by omega) (by omega) hb
  rw [← hCd] at hF
  have hCM : wcM6 B L R C C = [.cells false 3 (btC B), .cells true 3 (ivC L), .cells true 3 (ivC R), .cells true 3 (ivC R), .cells true 3 (ivC C), .cells true 3 (ivC R), .cells true 3 (ivC C)] := by cases C with | nil => exact absurd rfl hC | cons x C => rfl
  have hCO : ctO 6 C = .slice 6 0 C.length none := by cases C with | nil => exact absurd rfl hC | cons x C => rfl
  rw [hCM, hCO] at hF
  have hF1 := fun env0 d h => (hF env0 d h).1
  have hF2 := fun env0 d h => (hF env0 d h).2.1
  have hF3 := fun env0 d h => (hF env0 d h).2.2.1
  have hF4 := fun env0 d h => (hF env0 d h).2.2.2
  clear hF
  simp [loopsF, loopsC, Tryz.f6] at hb
  subst hb
  have r1 := fun M => oR (ratS p) M hs1
  have r2 := fun M => oR (ratS q) M ht1
  clear oR
  obtain ⟨p1, p2⟩ := hp
  obtain ⟨q1, q2⟩ := hq
  rw [chkR_ratS p1 p2] at r1
  rw [chkR_ratS q1 q2] at r2
  have p1' : (natD p.num.natAbs).length ≤ 40000 := by omega
  have p2' : (natD p.den).length ≤ 40000 := by omega
  have q1' : (natD q.num.natAbs).length ≤ 40000 := by omega
  have q2' : (natD q.den).length ≤ 40000 := by omega
  have h3 : ¬ cmpQ q p ≤ 0 := fun h => absurd (cmpQ_le.1 h) (Rat.not_le.2 hpq)
  have h : callFn (tyOf Tryz.prog) (fun _ => [14, 101]) (fnOf Tryz.prog) O (L.length + 1) 6 [.slice 0 0 B.length none, .str (ratS p), .str (ratS q)] [.cells false 3 (btC B)] = some ⟨.bool true, none, []⟩ := by
    simp [callFn, hG, Tryz.f6, h8I, h8N, hsI, hsN, htI, htN, oK, r1, r2, c0, c1, c2, c3, c4, c5, c6, c7, oC, Tryz.w25O, Tryz.w6O, pureO, Tryz.w5F, Tryz.ratF4, Tryz.ratF3, ratP_ratS, p1', p2', q1', q2', h3, hF1, hF2, hF3, hF4]
  have := (callFn_sound Tryz.mixed (tyOf_ok _) hO2 (fnOf_ok _) h).1
  simpa [CallRes.mem] using this
end Go.Proofs
namespace Go.Proofs
open Go.Eng
set_option maxHeartbeats 3200000 in
theorem Tryz.wc_nil0 (x : AV) (M : Mem) (hx : (x = .slice 0 0 0 none ∧ M = [.cells false 3 (btC [])]) ∨ (x = .nilslice ∧ M = [])) (s t : List UInt8) (hs : s.length ≤ 24) (ht : t.length ≤ 24) (he : cutE s t ≠ 0) :
    ACallsTo Tryz.prog 6 [x, .str s, .str t] M (.bool true) M := by
  have hG : fnOf Tryz.prog 6 = some Tryz.f6 := by kernel_rfl
  have hsI : ¬ (24 : Int) < s.length := by omega
  have hsN : ¬ 24 < s.length := by omega
  have htI : ¬ (24 : Int) < t.length := by omega
  have htN : ¬ 24 < t.length := by omega
  have hs1 : s.length ≤ 1000000000 := by omega
  have ht1 : t.length ≤ 1000000000 := by omega
  have hmk : ACallsTo Tryz.prog 9 [x] M .nilslice (M ++ []) := by
    rw [List.append_nil]
    rcases hx with ⟨rfl, rfl⟩ | ⟨rfl, rfl⟩
    · exact Tryz.aMakeP [] (fun b hb => by cases hb) (by decide)
    · exact Tryz.aMakeNil []
  have hmg : ACallsTo Tryz.prog 20 [.nilslice] M (.tuple [.nilslice, .int .i64 0]) (M ++ []) := by rw [List.append_nil]; exact Tryz.aMergeNil M
  have hlm : ACallsTo Tryz.prog 23 [.nilslice] M .nilslice (M ++ []) := by rw [List.append_nil]; exact Tryz.aMlmergeNil M
  have hsm : ACallsTo Tryz.prog 22 [.nilslice, .nilslice] M (.bool true) (M ++ []) := by rw [List.append_nil]; exact Tryz.aSameNil M
  have hct : ACallsTo Tryz.prog 21 [.nilslice, .str s, .str t] M (.tuple [.nilslice, .int .i64 (cutE s t)]) (M ++ []) := by rw [List.append_nil]; exact Tryz.aCutE .nilslice M [] rfl (fun x hx => by cases hx) (by decide) logR_nil s t hs1 ht1 he
  obtain ⟨E, hE⟩ : ∃ E, E = cutE s t := ⟨_, rfl⟩
  have h2 := cutE_two he
  rw [← hE] at hct h2
  have hO := ((oneO_ok hmk).or ((oneO_ok hmg).or ((oneO_ok hct).or ((oneO_ok hlm).or ((oneO_ok hsm).or Tryz.knO3_ok)))))
  obtain ⟨O, hOd⟩ : ∃ O, O = Oracle.or (oneO 9 [x] M ⟨.nilslice, none, []⟩) (Oracle.or (oneO 20 [.nilslice] M ⟨.tuple [.nilslice, .int .i64 0], none, []⟩) (Oracle.or (oneO 21 [.nilslice, .str s, .str t] M ⟨.tuple [.nilslice, .int .i64 E], none, []⟩) (Oracle.or (oneO 23 [.nilslice] M ⟨.nilslice, none, []⟩) (Oracle.or (oneO 22 [.nilslice, .nilslice] M ⟨.bool true, none, []⟩) (Tryz.knO3))))) := ⟨_, rfl⟩
  have hO2 : OracleOk Tryz.prog O := by rw [hOd]; exact hO
  have c0 : O (.fn 9) [x] M = some ⟨.nilslice, none, []⟩ := by rw [hOd]; simp [Oracle.or, oneO_ne, oneO]
  have c1 : O (.fn 20) [.nilslice] M = some ⟨.tuple [.nilslice, .int .i64 0], none, []⟩ := by rw [hOd]; simp [Oracle.or, oneO_ne, oneO]
  have c2 : O (.fn 21) [.nilslice, .str s, .str t] M = some ⟨.tuple [.nilslice, .int .i64 E], none, []⟩ := by rw [hOd]; simp [Oracle.or, oneO_ne, oneO]
  have c3 : O (.fn 23) [.nilslice] M = some ⟨.nilslice, none, []⟩ := by rw [hOd]; simp [Oracle.or, oneO_ne, oneO]
  have c4 : O (.fn 22) [.nilslice, .nilslice] M = some ⟨.bool true, none, []⟩ := by rw [hOd]; simp [Oracle.or, oneO_ne, oneO]
  have oK : ∀ M, O (.fn 8) [] M = some ⟨.bool true, none, []⟩ := fun M => by rw [hOd]; simp [Oracle.or, oneO_ne, Tryz.knO3]
  have oR : ∀ w M, w.length ≤ 1000000000 → O (.fn 19) [.str w] M = some ⟨.bool (chkR w == 0), none, []⟩ := fun w M hw => by rw [hOd]; simp [Oracle.or, oneO_ne, Tryz.knO3, hw]
  have oC : ∀ args M, O (.fn 24) args M = Tryz.w25O (.fn 24) args M := fun args M => by rw [hOd]; simp only [Oracle.or, oneO_ne (show 24 ≠ 9 by decide), oneO_ne (show 24 ≠ 20 by decide), oneO_ne (show 24 ≠ 21 by decide), oneO_ne (show 24 ≠ 23 by decide), oneO_ne (show 24 ≠ 22 by decide)]; rfl
  clear hOd hO
  have h : callFn (tyOf Tryz.prog) (fun _ => [14, 101]) (fnOf Tryz.prog) O 1 6 [x, .str s, .str t] M = some ⟨.bool true, none, []⟩ := by
    have r1 := fun M => oR s M hs1
    have r2 := fun M => oR t M ht1
    clear oR
    rcases h2 with ⟨rfl, h3 | ⟨h3, h4⟩⟩ | ⟨rfl, a, b, rfl, rfl, ⟨a1, a2⟩, ⟨b1, b2⟩, h3⟩
    · rw [h3] at r1
      rcases hx with ⟨rfl, rfl⟩ | ⟨rfl, rfl⟩
      all_goals simp [callFn, hG, Tryz.f6, hsI, hsN, htI, htN, oK, r1, c0, c1, c2, c3, c4]
    · rw [h3] at r1
      rw [h4] at r2
      rcases hx with ⟨rfl, rfl⟩ | ⟨rfl, rfl⟩
      all_goals simp [callFn, hG, Tryz.f6, hsI, hsN, htI, htN, oK, r1, r2, c0, c1, c2, c3, c4]
    · have a1' : (natD a.num.natAbs).length ≤ 40000 := by omega
      have a2' : (natD a.den).length ≤ 40000 := by omega
      have b1' : (natD b.num.natAbs).length ≤ 40000 := by omega
      have b2' : (natD b.den).length ≤ 40000 := by omega
      rw [chkR_ratS a1 a2] at r1
      rw [chkR_ratS b1 b2] at r2
      rcases hx with ⟨rfl, rfl⟩ | ⟨rfl, rfl⟩
      all_goals simp [callFn, hG, Tryz.f6, hsI, hsN, htI, htN, oK, r1, r2, c0, c1, c2, c3, c4, oC, Tryz.w25O, Tryz.w6O, pureO, Tryz.w5F, Tryz.ratF4, Tryz.ratF3, ratP_ratS, a1', a2', b1', b2', h3]
  have := (callFn_sound Tryz.mixed (tyOf_ok _) hO2 (fnOf_ok _) h).1
  simpa [CallRes.mem] using this
set_option maxHeartbeats 3200000 in
theorem Tryz.wc_nil1 (x : AV) (M : Mem) (hx : (x = .slice 0 0 0 none ∧ M = [.cells false 3 (btC [])]) ∨ (x = .nilslice ∧ M = [])) (s t : List UInt8) (hs : s.length ≤ 24) (ht : t.length ≤ 24) (p q : Rat) (hsp : s = ratS p) (htq : t = ratS q) (hp : fineD2 p) (hq : fineD2 q) (hpq : p < q) :
    ACallsTo Tryz.prog 6 [x, .str s, .str t] M (.bool true) M := by
  have hG : fnOf Tryz.prog 6 = some Tryz.f6 := by kernel_rfl
  have hsI : ¬ (24 : Int) < s.length := by omega
  have hsN : ¬ 24 < s.length := by omega
  have htI : ¬ (24 : Int) < t.length := by omega
  have htN : ¬ 24 < t.length := by omega
  have hs1 : s.length ≤ 1000000000 := by omega
  have ht1 : t.length ≤ 1000000000 := by omega
  have hmk : ACallsTo Tryz.prog 9 [x] M .nilslice (M ++ []) := by
    rw [List.append_nil]
    rcases hx with ⟨rfl, rfl⟩ | ⟨rfl, rfl⟩
    · exact Tryz.aMakeP [] (fun b hb => by cases hb) (by decide)
    · exact Tryz.aMakeNil []
  have hmg : ACallsTo Tryz.prog 20 [.nilslice] M (.tuple [.nilslice, .int .i64 0]) (M ++ []) := by rw [List.append_nil]; exact Tryz.aMergeNil M
  have hlm : ACallsTo Tryz.prog 23 [.nilslice] M .nilslice (M ++ []) := by rw [List.append_nil]; exact Tryz.aMlmergeNil M
  have hsm : ACallsTo Tryz.prog 22 [.nilslice, .nilslice] M (.bool true) (M ++ []) := by rw [List.append_nil]; exact Tryz.aSameNil M
  subst hsp htq
  have hct : ACallsTo Tryz.prog 21 [.nilslice, .str (ratS p), .str (ratS q)] M (.tuple [.nilslice, .int .i64 0]) (M ++ []) := by rw [List.append_nil]; exact Tryz.aCutNil p q hp hq hpq M
  have hO := ((oneO_ok hmk).or ((oneO_ok hmg).or ((oneO_ok hct).or ((oneO_ok hlm).or ((oneO_ok hsm).or Tryz.knO3_ok)))))
  obtain ⟨O, hOd⟩ : ∃ O, O = Oracle.or (oneO 9 [x] M ⟨.nilslice, none, []⟩) (Oracle.or (oneO 20 [.nilslice] M ⟨.tuple [.nilslice, .int .i64 0], none, []⟩) (Oracle.or (oneO 21 [.nilslice, .str (ratS p), .str (ratS q)] M ⟨.tuple [.nilslice, .int .i64 0], none, []⟩) (Oracle.or (oneO 23 [.nilslice] M ⟨.nilslice, none, []⟩) (Oracle.or (oneO 22 [.nilslice, .nilslice] M ⟨.bool true, none, []⟩) (Tryz.knO3))))) := ⟨_, rfl⟩
  have hO2 : OracleOk Tryz.prog O := by rw [hOd]; exact hO
  have c0 : O (.fn 9) [x] M = some ⟨.nilslice, none, []⟩ := by rw [hOd]; simp [Oracle.or, oneO_ne, oneO]
  have c1 : O (.fn 20) [.nilslice] M = some ⟨.tuple [.nilslice, .int .i64 0], none, []⟩ := by rw [hOd]; simp [Oracle.or, oneO_ne, oneO]
  have c2 : O (.fn 21) [.nilslice, .str (ratS p), .str (ratS q)] M = some ⟨.tuple [.nilslice, .int .i64 0], none, []⟩ := by rw [hOd]; simp [Oracle.or, oneO_ne, oneO]
  have c3 : O (.fn 23) [.nilslice] M = some ⟨.nilslice, none, []⟩ := by rw [hOd]; simp [Oracle.or, oneO_ne, oneO]
  have c4 : O (.fn 22) [.nilslice, .nilslice] M = some ⟨.bool true, none, []⟩ := by rw [hOd]; simp [Oracle.or, oneO_ne, oneO]
  have oK : ∀ M, O (.fn 8) [] M = some ⟨.bool true, none, []⟩ := fun M => by rw [hOd]; simp [Oracle.or, oneO_ne, Tryz.knO3]
  have oR : ∀ w M, w.length ≤ 1000000000 → O (.fn 19) [.str w] M = some ⟨.bool (chkR w == 0), none, []⟩ := fun w M hw => by rw [hOd]; simp [Oracle.or, oneO_ne, Tryz.knO3, hw]
  have oC : ∀ args M, O (.fn 24) args M = Tryz.w25O (.fn 24) args M := fun args M => by rw [hOd]; simp only [Oracle.or, oneO_ne (show 24 ≠ 9 by decide), oneO_ne (show 24 ≠ 20 by decide), oneO_ne (show 24 ≠ 21 by decide), oneO_ne (show 24 ≠ 23 by decide), oneO_ne (show 24 ≠ 22 by decide)]; rfl
  clear hOd hO
  have r1 := fun M => oR (ratS p) M hs1
  have r2 := fun M => oR (ratS q) M ht1
  clear oR
  obtain ⟨p1, p2⟩ := hp
  obtain ⟨q1, q2⟩ := hq
  rw [chkR_ratS p1 p2] at r1
  rw [chkR_ratS q1 q2] at r2
  have p1' : (natD p.num.natAbs).length ≤ 40000 := by omega
  have p2' : (natD p.den).length ≤ 40000 := by omega
  have q1' : (natD q.num.natAbs).length ≤ 40000 := by omega
  have q2' : (natD q.den).length ≤ 40000 := by omega
  have h3 : ¬ cmpQ q p ≤ 0 := fun h => absurd (cmpQ_le.1 h) (Rat.not_le.2 hpq)
  have h : callFn (tyOf Tryz.prog) (fun _ => [14, 101]) (fnOf Tryz.prog) O 1 6 [x, .str (ratS p), .str (ratS q)] M = some ⟨.bool true, none, []⟩ := by
    rcases hx with ⟨rfl, rfl⟩ | ⟨rfl, rfl⟩
    all_goals simp [callFn, hG, Tryz.f6, hsI, hsN, htI, htN, oK, r1, r2, c0, c1, c2, c3, c4, oC, Tryz.w25O, Tryz.w6O, pureO, Tryz.w5F, Tryz.ratF4, Tryz.ratF3, ratP_ratS, p1', p2', q1', q2', h3, execC_loop, iter]
  have := (callFn_sound Tryz.mixed (tyOf_ok _) hO2 (fnOf_ok _) h).1
  simpa [CallRes.mem] using this
set_option maxHeartbeats 1600000 in
theorem Tryz.wc_long (x : AV) (M : Mem) (n : Nat) (hx : (x = .slice 0 0 n none) ∨ (x = .nilslice ∧ n = 0)) (s t : List UInt8) (h : 8 < n ∨ 24 < s.length ∨ 24 < t.length) :
    ACallsTo Tryz.prog 6 [x, .str s, .str t] M (.bool true) M := by
  have hG : fnOf Tryz.prog 6 = some Tryz.f6 := by kernel_rfl
  have oK : ∀ M, Tryz.knO3 (.fn 8) [] M = some ⟨.bool true, none, []⟩ := fun M => rfl
  have h : callFn (tyOf Tryz.prog) (fun _ => [14, 101]) (fnOf Tryz.prog) Tryz.knO3 1 6 [x, .str s, .str t] M = some ⟨.bool true, none, []⟩ := by
    by_cases h8 : 8 < n
    · have h8I : (8 : Int) < n := by omega
      rcases hx with rfl | ⟨rfl, rfl⟩
      · simp [callFn, hG, Tryz.f6, oK, h8, h8I]
      · omega
    · have h8I : ¬ (8 : Int) < n := by omega
      by_cases hs : 24 < s.length
      · have hsI : (24 : Int) < s.length := by omega
        rcases hx with rfl | ⟨rfl, rfl⟩
        all_goals simp [callFn, hG, Tryz.f6, oK, h8, h8I, hs, hsI]
      · have hsI : ¬ (24 : Int) < s.length := by omega
        have ht : 24 < t.length := by omega
        have htI : (24 : Int) < t.length := by omega
        rcases hx with rfl | ⟨rfl, rfl⟩
        all_goals simp [callFn, hG, Tryz.f6, oK, h8, h8I, hs, hsI, ht, htI]
  have := (callFn_sound Tryz.mixed (tyOf_ok _) Tryz.knO3_ok (fnOf_ok _) h).1
  simpa [CallRes.mem] using this
theorem Tryz.aWelllogCuts (B : List Bit) (hB : ∀ b ∈ B, okBit b) (s t : List UInt8) : ACallsTo Tryz.prog 6 [.slice 0 0 B.length none, .str s, .str t] [.cells false 3 (btC B)] (.bool true) [.cells false 3 (btC B)] := by
  by_cases h8 : B.length ≤ 8
  · by_cases hs : s.length ≤ 24
    · by_cases ht : t.length ≤ 24
      · by_cases he : cutE s t = 0
        · obtain ⟨p, q, h1, h2, hp, hq, hpq⟩ := cutE_zero he
          by_cases hne : B = []
          · subst hne
            exact Tryz.wc_nil1 _ _ (.inl ⟨rfl, rfl⟩) s t hs ht p q h1 h2 hp hq hpq
          · by_cases hC : cutL p q (mkL 0 B) = []
            · exact Tryz.wc_ok0 B hB h8 hne s t hs ht p q h1 h2 hp hq hpq hC
            · exact Tryz.wc_ok1 B hB h8 hne s t hs ht p q h1 h2 hp hq hpq hC
        · by_cases hne : B = []
          · subst hne
            exact Tryz.wc_nil0 _ _ (.inl ⟨rfl, rfl⟩) s t hs ht he
          · exact Tryz.wc_err B hB h8 hne s t hs ht he
      · exact Tryz.wc_long _ _ B.length (.inl rfl) s t (by omega)
    · exact Tryz.wc_long _ _ B.length (.inl rfl) s t (by omega)
  · exact Tryz.wc_long _ _ B.length (.inl rfl) s t (by omega)
theorem Tryz.aWelllogCutsNil (s t : List UInt8) : ACallsTo Tryz.prog 6 [.nilslice, .str s, .str t] [] (.bool true) [] := by
  by_cases hs : s.length ≤ 24
  · by_cases ht : t.length ≤ 24
    · by_cases he : cutE s t = 0
      · obtain ⟨p, q, h1, h2, hp, hq, hpq⟩ := cutE_zero he
        exact Tryz.wc_nil1 _ _ (.inr ⟨rfl, rfl⟩) s t hs ht p q h1 h2 hp hq hpq
      · exact Tryz.wc_nil0 _ _ (.inr ⟨rfl, rfl⟩) s t hs ht he
    · exact Tryz.wc_long _ _ 0 (.inr ⟨rfl, rfl⟩) s t (by omega)
  · exact Tryz.wc_long _ _ 0 (.inr ⟨rfl, rfl⟩) s t (by omega)
end Go.Proofs
