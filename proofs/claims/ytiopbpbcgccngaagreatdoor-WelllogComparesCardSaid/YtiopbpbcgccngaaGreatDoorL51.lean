/- See L55. -/
import Derived.Test.YtiopbpbcgccngaaGreatDoorL50
import Derived.Test.YtiopbpbcgccngaaGreatDoorL11
set_option linter.all false
namespace Go.Proofs
open Go.Eng
theorem dg_of_len {q : Rat} {n : Nat} (h : (natD q.num.natAbs).length ≤ n ∧ (natD q.den).length ≤ n) : dg n n q :=
 ⟨Nat.lt_of_lt_of_le (natD_lt_pow _) (Nat.pow_le_pow_right (by omega) h.1),Nat.lt_of_lt_of_le (natD_lt_pow _) (Nat.pow_le_pow_right (by omega) h.2)⟩
theorem dg_zero (n d : Nat) (hd : d ≠ 0) : dg n d 0 := ⟨Nat.pow_pos (by omega),Nat.one_lt_pow hd (by omega)⟩
theorem ag_dg (f : Rat → List UInt8 × List UInt8) (E : List Rat) (hE : ∀ x ∈ E,(natD x.num.natAbs).length ≤ 200 ∧ (natD x.den).length ≤ 200) : ∀ j,j < E.length → dg (402 + 401 * j) (1 + 400 * j) (agJ f E j)
 | 0,_ => dg_zero _ _ (by omega)
 | j + 1,h => by
  have ih := ag_dg f E hE j (by omega)
  have g : ∀ i,i < E.length → dg 200 200 (E.getD i 0) := fun i hi => by
   rw [getD_get hi]; exact dg_of_len (hE _ (List.getElem_mem hi))
  unfold agJ
  split
  ·have h1 := dg_sub (g (j + 1) h) (g j (by omega)) (m := 400) (by omega) (by omega)
   have h2 := dg_add ih h1 (m := 802 + 401 * j) (by omega) (by omega)
   exact h2.mono (by omega) (by omega)
  ·exact ih.mono (by omega) (by omega)
theorem ag_fine (f : Rat → List UInt8 × List UInt8) (E : List Rat) (hE : ∀ x ∈ E,(natD x.num.natAbs).length ≤ 200 ∧ (natD x.den).length ≤ 200) (hl : E.length ≤ 90) (j : Nat) (hj : j < E.length) : fine (agJ f E j) := by
 have := (ag_dg f E hE j hj).lens (by omega) (by omega)
 exact ⟨by omega,by omega⟩
theorem ag_step_fine (E : List Rat) (hE : ∀ x ∈ E,(natD x.num.natAbs).length ≤ 200 ∧ (natD x.den).length ≤ 200) (j : Nat) (hj : j + 1 < E.length) : fine (E.getD (j + 1) 0 - E.getD j 0) := by
 have g : ∀ i,i < E.length → dg 200 200 (E.getD i 0) := fun i hi => by
  rw [getD_get hi]; exact dg_of_len (hE _ (List.getElem_mem hi))
 have := (dg_sub (g (j + 1) hj) (g j (by omega)) (m := 400) (by omega) (by omega)).lens (by omega) (by omega)
 exact ⟨by omega,by omega⟩
set_option maxHeartbeats 6400000 in
theorem Tryz.ag_round (S0 S1 S3 S4 S6 S7 S8 : Slot) (hS0 : stillS S0) (hS1 : stillS S1) (hS3 : stillS S3) (hS4 : stillS S4) (hS6 : stillS S6) (hS7 : stillS S7) (hS8 : stillS S8)
  (s x y : Rat) (hs : fine s) (hx : fine x) (hy : fine y) (hxy : fine (y - x)) (u w : List UInt8) {ps : Array Tmp} {asg body : Code} (hb : rangesF Tryz.f12 = [(ps,asg,body)])
  (env0 : Env) (h7 : Eng.look env0 7 = .ptr 2 0) (he9 : env0.flatMap (fun e => e.2.refs 9) = []) :
  callYld (tyOf Tryz.prog) (fun _ => []) (pureO Tryz.w5F) 1 5 [dfA (ratS x,ratS y,u,w)] [S0,S1,.cells true 0 [.str (ratS s)],S3,S4,.loop ⟨.ready,none,env0,40,ps,asg,body⟩,S6,S7,S8] =
   some ⟨.bool true,some [S0,S1,.cells true 0 [.str (ratS (agS s x y u w))],S3,S4,.loop ⟨.ready,none,env0,40,ps,asg,body⟩,S6,S7,S8],[]⟩ := by
 have hst' : staticC asg = true ∧ staticC body = true ∧ ps = #[18] := by
  simp [rangesF,rangesC,Tryz.f12] at hb
  obtain ⟨rfl,rfl,rfl⟩ := hb
  exact ⟨by kernel_rfl,by kernel_rfl,rfl⟩
 obtain ⟨hst1,hst2,rfl⟩ := hst'
 have hn9 : ∀ ks,renEnv (rho 9 ks) env0 = env0 := fun ks => renEnv_refs he9
 have q0 := hS0.1
 have q1 := hS1.1
 have q3 := hS3.1
 have q4 := hS4.1
 have q6 := hS6.1
 have q7 := hS7.1
 have q8 := hS8.1
 have m0 : ∀ ks,S0.ren (rho 9 ks) = S0 := fun ks => Slot.ren_refs q0
 have m1 : ∀ ks,S1.ren (rho 9 ks) = S1 := fun ks => Slot.ren_refs q1
 have m3 : ∀ ks,S3.ren (rho 9 ks) = S3 := fun ks => Slot.ren_refs q3
 have m4 : ∀ ks,S4.ren (rho 9 ks) = S4 := fun ks => Slot.ren_refs q4
 have m6 : ∀ ks,S6.ren (rho 9 ks) = S6 := fun ks => Slot.ren_refs q6
 have m7 : ∀ ks,S7.ren (rho 9 ks) = S7 := fun ks => Slot.ren_refs q7
 have m8 : ∀ ks,S8.ren (rho 9 ks) = S8 := fun ks => Slot.ren_refs q8
 clear hS0 hS1 hS3 hS4 hS6 hS7 hS8
 obtain ⟨s1,s2⟩ := hs
 obtain ⟨x1,x2⟩ := hx
 obtain ⟨y1,y2⟩ := hy
 obtain ⟨d1,d2⟩ := hxy
 unfold agS
 simp only [dfA]
 simp [callYld,hst1,hst2]
 simp [rangesF,rangesC,Tryz.f12] at hb
 obtain ⟨rfl,rfl⟩ := hb
 clear hst1 hst2
 by_cases huw : u = w
 ·subst huw
  by_cases hu : u = [45]
  ·subst hu
   simp [-Slot.refs,-Slot.ren,refs_cells,ren_cells,refs_lp,ren_lp,refs_absent,ren_absent,h7,he9,hn9,q0,q1,q3,q4,q6,q7,q8,m0,m1,m3,m4,m6,m7,m8,jumpOf,endSt,Nat.testBit]
  ·have hub : (u == [45]) = false := by simpa using hu
   simp [-Slot.refs,-Slot.ren,refs_cells,ren_cells,refs_lp,ren_lp,refs_absent,ren_absent,h7,he9,hn9,hub,hu,pureO,Tryz.w5F,Tryz.ratF4,Tryz.ratF3,ratP_ratS,s1,s2,x1,x2,y1,y2,d1,d2,q0,q1,q3,q4,q6,q7,q8,m0,m1,m3,m4,m6,m7,m8,jumpOf,endSt,Nat.testBit]
 ·have hub : (u == w) = false := by simpa using huw
  simp [-Slot.refs,-Slot.ren,refs_cells,ren_cells,refs_lp,ren_lp,refs_absent,ren_absent,h7,he9,hn9,hub,huw,q0,q1,q3,q4,q6,q7,q8,m0,m1,m3,m4,m6,m7,m8,jumpOf,endSt,Nat.testBit]
theorem ag_norm (S0 S1 S2 S3 S4 S5 S6 S7 S8 : Slot) (wr : List Nat) (hw : 7 ∈ wr) (env0 env' : Env) (k : Int) (h7 : Eng.look env' 7 = .int .i64 k) :
  normS [7,7] wr env0 9 ⟨env',[S0,S1,S2,S3,S4,S5,S6,S7,S8],true⟩ = ⟨normE [7,7] wr env0 ((7,.int .i64 k) :: env0),[S0,S1,S2,S3,S4,S5,S6,S7,S8],true⟩ := by
 simp [h7]
theorem Tryz.ag_loop2 {O : Oracle} {K : Nat} (p q : Bool) (hpq : p = true ∨ q = true) (A B : List Iv) (E : List Rat) (Z : List (List UInt8)) (hE : ∀ x ∈ E,fine x) (hn : E.length ≤ 100000) (hne : 0 < E.length) (hK : E.length < K)
  (lp : LoopA) (hlp : lp.env.flatMap (fun e => e.2.refs 6) = []) (C6 : List AV) (c6 : AV.refsL 6 C6 = []) (C7 : List AV) (c7 : AV.closeds C7 = true)
  (hua : ∀ e,fine e → ∀ r,O (.fn 76) [rowV p 0 A,.str (ratS e)] (rowS p A :: rowS q B :: r) = some ⟨.str (un2 A B e).1,none,[]⟩)
  (hub : ∀ e,fine e → ∀ r,O (.fn 76) [rowV q 1 B,.str (ratS e)] (rowS p A :: rowS q B :: r) = some ⟨.str (un2 A B e).2,none,[]⟩)
  (hy : ∀ j,j + 1 < E.length → O (.yld 5) [dfA (dfJ (un2 A B) E j)] (cmMem p q A B lp C6 C7 (E.map ratS ++ Z) (.str (ratS (agJ (un2 A B) E j)))) =
   some ⟨.bool true,some (cmMem p q A B lp C6 C7 (E.map ratS ++ Z) (.str (ratS (agJ (un2 A B) E (j + 1))))),[]⟩)
  {b1 b2 : Code} (hbb : loopsF Tryz.f72 = [b1,b2]) (hlv : Tryz.boLv b2 = [7,7]) :
  ∃ F : Env → Env,∀ env0,(Eng.look env0 0 = .yield 5 ∧ Eng.look env0 1 = .ptr 3 0 ∧ Eng.look env0 2 = .ptr 4 0 ∧ Eng.look env0 4 = .slice 8 0 E.length none ∧ Eng.look env0 7 = .int .i64 1) →
   execC (tyOf Tryz.prog) Tryz.boLv O K 62 6 true (.loop b2) ⟨env0,cmMem p q A B lp C6 C7 (E.map ratS ++ Z) (.str [48]),true⟩ =
    some (.exit 2,⟨F env0,cmMem p q A B lp C6 C7 (E.map ratS ++ Z) (.str (ratS (agJ (un2 A B) E (E.length - 1)))),true⟩) ∧ True := by
 refine loop_rule_d hlv true true (fun env0 => Eng.look env0 0 = .yield 5 ∧ Eng.look env0 1 = .ptr 3 0 ∧ Eng.look env0 2 = .ptr 4 0 ∧ Eng.look env0 4 = .slice 8 0 E.length none ∧ Eng.look env0 7 = .int .i64 1) (fun _ _ => True) ?_
 rintro env0 ⟨h0,h1,h2,h4,h7⟩
 obtain ⟨hw,hlook⟩ := Tryz.bo_b2 hbb
 have hml : (cmMem p q A B lp C6 C7 (E.map ratS ++ Z) (.str [48])).length = 9 := rfl
 rw [hml]
 have hn0 : normE [7,7] (writesC b2) env0 ((7,.int .i64 ((0 + 1 : Nat) : Int)) :: env0) = normE [7,7] (writesC b2) env0 env0 := by simp [normE,h7]
 rw [← hn0]
 have hz : ratS 0 = [48] := by kernel_rfl
 have hm0 : cmMem p q A B lp C6 C7 (E.map ratS ++ Z) (.str [48]) = cmMem p q A B lp C6 C7 (E.map ratS ++ Z) (.str (ratS (agJ (un2 A B) E 0))) := by rw [agJ,hz]
 rw [hm0]
 refine iter_ind (α := Nat) (fun j => ⟨normE [7,7] (writesC b2) env0 ((7,.int .i64 ((j + 1 : Nat) : Int)) :: env0),cmMem p q A B lp C6 C7 (E.map ratS ++ Z) (.str (ratS (agJ (un2 A B) E j))),true⟩) (fun j => E.length - j) (fun j => j + 1 ≤ E.length) (.exit 2) _ _ _ (by simp) ?_ K 0 (by omega) (by omega)
 intro j hj
 clear hn0 hm0 hml
 obtain ⟨l0,l1,l2,l4,l7⟩ := hlook env0 (.int .i64 ((j + 1 : Nat) : Int))
 by_cases hlt : j + 1 < E.length
 ·left
  have hjl : j < E.length := by omega
  have hfe : fine (E.getD j 0) := by
   have : E.getD j 0 = E[j] := getD_get hjl
   rw [this]; exact hE _ (List.getElem_mem hjl)
  obtain ⟨env',g1,g2⟩ := Tryz.bo_step (O := O) (K := K) p q A B (.str (ratS (agJ (un2 A B) E j))) (.str (ratS (agJ (un2 A B) E (j + 1)))) [] [] [] hpq (.inl ⟨rfl,rfl,rfl,fun _ => rfl,fun _ => rfl⟩) lp C6 hlp c6 C7 c7 (E.map ratS ++ Z) E.length (by omega)
   (ratS (E.getD j 0)) (ratS (E.getD (j + 1) 0)) (un2 A B (E.getD j 0)).1 (un2 A B (E.getD j 0)).2 j hlt (getD_map hjl) (getD_map hlt) (hua _ hfe) (hub _ hfe) (hy j hlt) hbb _ true (l0.trans h0) (l1.trans h1) (l2.trans h2) (l4.trans h4) l7
  refine ⟨j + 1,_,g1,?_,by omega,by omega⟩
  exact ag_norm _ _ _ _ _ _ _ _ _ (writesC b2) hw env0 env' _ g2
 ·right
  have hje : j = E.length - 1 := by omega
  obtain ⟨env',g1⟩ := Tryz.bo_exit (O := O) (K := K) hbb E.length (j + 1) hlt _ (cmMem p q A B lp C6 C7 (E.map ratS ++ Z) (.str (ratS (agJ (un2 A B) E j)))) true (l4.trans h4) l7
  refine ⟨env',?_,trivial⟩
  rw [g1,hje]
set_option maxHeartbeats 6400000 in
theorem Tryz.bo_ag (p q : Bool) (hpq : p = true ∨ q = true) (A B : List Iv) (hp : rowOk p A) (hq : rowOk q B) (hne : A ++ B ≠ []) (hA : ∀ x ∈ A,rightIv x) (hB : ∀ x ∈ B,rightIv x) (lAB : (A ++ B).length ≤ 40)
  {ps : Array Tmp} {asg body : Code} (hb : rangesF Tryz.f12 = [(ps,asg,body)])
  (env0 : Env) (h7 : Eng.look env0 7 = .ptr 2 0) (he : env0.flatMap (fun e => e.2.refs 6) = []) :
  ACallsTo Tryz.prog 72 [.yield 5,.ptr 3 0,.ptr 4 0] [rowS p A,rowS q B,.cells true 0 [.str [48]],.cells true 0 [rowV p 0 A],.cells true 0 [rowV q 1 B],.loop ⟨.ready,none,env0,40,ps,asg,body⟩] (.tuple [])
   [rowS p A,rowS q B,.cells true 0 [.str (ratS (agJ (un2 A B) (cutsQ A B) ((cutsQ A B).length - 1)))],.cells true 0 [rowV p 0 A],.cells true 0 [rowV q 1 B],.loop ⟨.ready,none,env0,40,ps,asg,body⟩] := by
 have hG : fnOf Tryz.prog 72 = some Tryz.f72 := by kernel_rfl
 have hC : ∀ x ∈ A ++ B,rightIv x := fun x hx => by
  rcases List.mem_append.1 hx with h | h
  ·exact hA x h
  ·exact hB x h
 have hel := endsQ_len hC
 have hCl : (A ++ B).length ≤ 40 := lAB
 have lA : A.length ≤ 1000 := by rw [List.length_append] at lAB; omega
 have lB : B.length ≤ 1000 := by rw [List.length_append] at lAB; omega
 obtain ⟨lp,hlp⟩ : ∃ lp : LoopA,lp = ⟨.ready,none,env0,40,ps,asg,body⟩ := ⟨_,rfl⟩
 have hle : lp.env.flatMap (fun e => e.2.refs 6) = [] := by rw [hlp]; exact he
 obtain ⟨E,hE⟩ : ∃ E,E = cutsQ A B := ⟨_,rfl⟩
 have hEf : ∀ x ∈ E,fine x := fun x hx => by
  rw [hE] at hx
  have := cuts_fine x hx
  exact ⟨by omega,by omega⟩
 have hE2 : ∀ x ∈ E,(natD x.num.natAbs).length ≤ 200 ∧ (natD x.den).length ≤ 200 := fun x hx => by rw [hE] at hx; exact cuts_fine x hx
 have hEl : E.length ≤ 80 := by
  rw [hE]; unfold cutsQ
  have h1 := dedS_len (sortQ (endsQ (A ++ B)))
  rw [(sortQ_perm _).length_eq,hel] at h1
  omega
 have hE0 : 0 < E.length := by
  have h0 : endsQ (A ++ B) ≠ [] := fun e => by
   rw [e] at hel
   have : (A ++ B).length = 0 := by simp only [List.length_nil] at hel; omega
   exact hne (List.eq_nil_of_length_eq_zero this)
  have h1 : sortQ (endsQ (A ++ B)) ≠ [] := fun e => by
   have := (sortQ_perm (endsQ (A ++ B))).length_eq
   rw [e] at this
   exact h0 (List.eq_nil_of_length_eq_zero this.symm)
  have h2 := dedS_ne h1
  rw [hE]
  exact List.length_pos_iff.2 h2
 have hEs := cutsQ_sorted A B
 rw [← hE] at hEs
 have c6 : AV.refsL 6 [rowV p 0 A,rowV q 1 B] = [] := by simp [AV.refsL,rowV_refs]
 have rounds : ∀ Z,∃ Y,OracleOk Tryz.prog Y ∧ (∀ f a M,Y (.fn f) a M = none) ∧ ∀ j,j + 1 < E.length → Y (.yld 5) [dfA (dfJ (un2 A B) E j)] (cmMem p q A B lp [rowV p 0 A,rowV q 1 B] (ivC (A ++ B)) (E.map ratS ++ Z) (.str (ratS (agJ (un2 A B) E j)))) =
   some ⟨.bool true,some (cmMem p q A B lp [rowV p 0 A,rowV q 1 B] (ivC (A ++ B)) (E.map ratS ++ Z) (.str (ratS (agJ (un2 A B) E (j + 1))))),[]⟩ := by
  intro Z
  obtain ⟨Y0,hY0,hY1⟩ := oracle_family (P := Tryz.prog) (fun j : Nat => j + 1 < E.length) (fun _ => .yld 5) (fun j => [dfA (dfJ (un2 A B) E j)]) (fun j => cmMem p q A B lp [rowV p 0 A,rowV q 1 B] (ivC (A ++ B)) (E.map ratS ++ Z) (.str (ratS (agJ (un2 A B) E j))))
   (fun j => ⟨.bool true,some (cmMem p q A B lp [rowV p 0 A,rowV q 1 B] (ivC (A ++ B)) (E.map ratS ++ Z) (.str (ratS (agJ (un2 A B) E (j + 1))))),[]⟩)
   (fun j hj => by
    have hjl : j < E.length := by omega
    have hxf : fine (E.getD j 0) := by rw [getD_get hjl]; exact hEf _ (List.getElem_mem hjl)
    have hyf : fine (E.getD (j + 1) 0) := by rw [getD_get hj]; exact hEf _ (List.getElem_mem hj)
    have h := Tryz.ag_round (rowS p A) (rowS q B) (.cells true 0 [rowV p 0 A]) (.cells true 0 [rowV q 1 B]) (.cells true 1 [rowV p 0 A,rowV q 1 B]) (.cells true 3 (ivC (A ++ B))) (.cells true 1 (stC (E.map ratS ++ Z)))
     (still_row p A) (still_row q B) (still_cells (by simp [AV.refsL,rowV_refs])) (still_cells (by simp [AV.refsL,rowV_refs])) (still_cells c6) (still_cells (ivC_refs _ _)) (still_cells (stC_refs _ _))
     (agJ (un2 A B) E j) (E.getD j 0) (E.getD (j + 1) 0) (ag_fine _ E hE2 (by omega) j hjl) hxf hyf (ag_step_fine E hE2 j hj) (un2 A B (E.getD j 0)).1 (un2 A B (E.getD j 0)).2 hb env0 h7 (env_mono (by omega) he)
    rw [← agJ_succ] at h
    rw [hlp]
    exact callYld_sound Tryz.mixed (tyOf_ok _) Tryz.w5_ok h)
   (fun i j hi hj _ ha _ => by
    simp only [dfA,dfJ,List.cons.injEq,AV.agg.injEq,AV.str.injEq,and_true] at ha
    have h1 := ratS_inj ha.1
    have hil : i < E.length := by omega
    have hjl : j < E.length := by omega
    rw [getD_get hil,getD_get hjl] at h1
    have : i = j := by
     rcases Nat.lt_trichotomy i j with h | h | h
     ·have := List.pairwise_iff_getElem.1 hEs i j hil hjl h
      rw [h1] at this; exact absurd this Rat.lt_irrefl
     ·exact h
     ·have := List.pairwise_iff_getElem.1 hEs j i hjl hil h
      rw [h1] at this; exact absurd this Rat.lt_irrefl
    subst this; rfl)
  refine ⟨fun c a M => match c with | .yld b => Y0 (.yld b) a M | .fn _ => none,oracleOk_of fun c a M r h => ?_,fun _ _ _ => rfl,hY1⟩
  cases c with
  | fn f => cases h
  | yld b => exact soundAt_of hY0 h
 obtain ⟨Z,hZ⟩ : ∃ Z,Z = tailZ A B := ⟨_,rfl⟩
 obtain ⟨Y,hY,hYf,hYy⟩ := rounds Z
 obtain ⟨O,hO,o1,o2,o3,ou,ov,oy⟩ := Tryz.bo_oracle p q A B hp hq hne hA hB lA lB (.cells true 0 [.str [48]]) (.cells true 0 [rowV p 0 A]) (.cells true 0 [rowV q 1 B]) (.loop lp) (by simp [refs_cells,AV.refsL,AV.refs]) (by simp [refs_cells,AV.refsL,rowV_refs]) (by simp [refs_cells,AV.refsL,rowV_refs])
  (by rw [refs_lp]; exact env_mono (by omega) hle) hY hYf
 rw [← hE,← hZ] at o3
 have hy : ∀ j,j + 1 < E.length → O (.yld 5) [dfA (dfJ (un2 A B) E j)] (cmMem p q A B lp [rowV p 0 A,rowV q 1 B] (ivC (A ++ B)) (E.map ratS ++ Z) (.str (ratS (agJ (un2 A B) E j)))) =
   some ⟨.bool true,some (cmMem p q A B lp [rowV p 0 A,rowV q 1 B] (ivC (A ++ B)) (E.map ratS ++ Z) (.str (ratS (agJ (un2 A B) E (j + 1))))),[]⟩ := fun j hj => by
  rw [oy]; exact hYy j hj
 obtain ⟨b1,b2,hbb,hlv1,hlv2⟩ : ∃ b1 b2,loopsF Tryz.f72 = [b1,b2] ∧ Tryz.boLv b1 = [4,13] ∧ Tryz.boLv b2 = [7,7] := ⟨_,_,rfl,by decide,by decide⟩
 obtain ⟨C,hCd⟩ : ∃ C,C = A ++ B := ⟨_,rfl⟩
 obtain ⟨F1,hF1⟩ := Tryz.bo_loop1 (O := O) (K := 5000) (rowS p A) (rowS q B) (.cells true 0 [.str [48]]) (.cells true 0 [rowV p 0 A]) (.cells true 0 [rowV q 1 B]) (.loop lp) (.cells true 1 [rowV p 0 A,rowV q 1 B]) (rowS_refs _ _ _) (rowS_refs _ _ _) (by simp [refs_cells,AV.refsL,AV.refs])
  (by simp [refs_cells,AV.refsL,rowV_refs]) (by simp [refs_cells,AV.refsL,rowV_refs]) (by rw [refs_lp]; exact env_mono (by omega) hle) (by simp [refs_cells,AV.refsL,rowV_refs]) C (by rw [hCd]; omega) (by rw [hCd]; omega) hbb hlv1
 obtain ⟨F2,hF2⟩ := Tryz.ag_loop2 (O := O) (K := 5000) p q hpq A B E Z hEf (by omega) hE0 (by omega) lp hle [rowV p 0 A,rowV q 1 B] c6 (ivC (A ++ B)) (ivC_closed _) ou ov hy hbb hlv2
 rw [enM_all (by rw [hCd]; exact hne),enV_all (by rw [hCd]; exact hne)] at hF1
 have g1 := fun env0 d h => (hF1 env0 d h).1
 have g2 := fun env0 d h => (hF1 env0 d h).2.1
 have g3 := fun env0 d h t ht => (hF1 env0 d h).2.2 t ht
 have g4 := fun env0 h => (hF2 env0 h).1
 clear hF1 hF2 hy rounds hYy
 rw [← hCd] at o1 o2 o3 g4
 obtain ⟨st,hst⟩ : ∃ st,st = ratS (agJ (un2 A B) E (E.length - 1)) := ⟨_,rfl⟩
 rw [← hst] at g4
 rw [← hE,← hst,← hlp]
 simp only [cmMem] at g4
 have y0 : AV.nilslice.cells = [AV.nilslice] := rfl
 have y1 : AV.nilslice.known = true := rfl
 have y2 : AV.nilslice.cellOk = true := rfl
 have v0 : (rowV p 0 A).known = true := rowV_known _ _ _
 have v1 : (rowV q 1 B).known = true := rowV_known _ _ _
 have v2 : (rowV p 0 A).cellOk = true := rowV_cellOk _ _ _
 have v3 : (rowV q 1 B).cellOk = true := rowV_cellOk _ _ _
 have r0 : AV.refs 6 (rowV p 0 A) = [] := rowV_refs (by omega) p A
 have r1 : AV.refs 6 (rowV q 1 B) = [] := rowV_refs (by omega) q B
 have n0 : ∀ ks,AV.ren (rho 6 ks) (rowV p 0 A) = rowV p 0 A := fun ks => rowV_ren (by omega) ks p A
 have n1 : ∀ ks,AV.ren (rho 6 ks) (rowV q 1 B) = rowV q 1 B := fun ks => rowV_ren (by omega) ks q B
 have hn6 : ∀ ks,renEnv (rho 6 ks) lp.env = lp.env := fun ks => renEnv_refs hle
 simp [loopsF,loopsC,Tryz.f72] at hbb
 obtain ⟨hb1,hb2⟩ := hbb
 subst hb1 hb2
 have h : callFn (tyOf Tryz.prog) Tryz.boLv (fnOf Tryz.prog) O 5000 72 [.yield 5,.ptr 3 0,.ptr 4 0] [rowS p A,rowS q B,.cells true 0 [.str [48]],.cells true 0 [rowV p 0 A],.cells true 0 [rowV q 1 B],.loop lp] =
   some ⟨.tuple [],some [rowS p A,rowS q B,.cells true 0 [.str st],.cells true 0 [rowV p 0 A],.cells true 0 [rowV q 1 B],.loop lp],[]⟩ := by
  simp [-Slot.refs,-Slot.ren,-AV.known,-AV.cells,-AV.cellOk,refs_cells,ren_cells,refs_lp,ren_lp,refs_absent,ren_absent,rowS_refs,rowS_ren,callFn,hG,Tryz.f72,o1,o2,o3,g1,g2,g3,g4,y0,y1,y2,rowV_cells,v0,v1,v2,v3,r0,r1,n0,n1,hle,hn6]
 have := (callFn_sound Tryz.mixed (tyOf_ok _) hO (fnOf_ok _) h).1
 simpa [CallRes.mem] using this
noncomputable def Tryz.chkF (f : FuncId) (args : List AV) : Option AV := match f,args with
 | 40,[.str s] => if s.length ≤ 1000000000 then some (.int .i64 (chkR s)) else none
 | _,_ => none
theorem Tryz.chk_ok : OracleOk Tryz.prog (pureO Tryz.chkF) := pureO_ok fun f args v h mem => by
 unfold Tryz.chkF at h
 split at h
 ·rename_i s
  split at h
  ·rename_i hc
   cases h
   have := Tryz.w5_ok.fn 40 [.str s] mem ⟨.int .i64 (chkR s),none,[]⟩ (by simp [pureO,Tryz.w5F,Tryz.ratF4,hc])
   simpa [CallRes.mem] using this
  ·cases h
 ·cases h
def agSt (A B : List Iv) : Rat := agJ (un2 A B) (cutsQ A B) ((cutsQ A B).length - 1)
def agRes (s : Rat) : AV := if chkR (ratS s) = 0 then .tuple [.str (ratS s),.int .i64 0] else .tuple [.str [],.int .i64 4]
theorem cuts_pos {A B : List Iv} (hA : ∀ x ∈ A,rightIv x) (hB : ∀ x ∈ B,rightIv x) (hne : A ++ B ≠ []) : 0 < (cutsQ A B).length ∧ (cutsQ A B).length ≤ (A ++ B).length * 2 := by
 have hC : ∀ x ∈ A ++ B,rightIv x := fun x hx => by
  rcases List.mem_append.1 hx with h | h
  ·exact hA x h
  ·exact hB x h
 have hel := endsQ_len hC
 constructor
 ·have h0 : endsQ (A ++ B) ≠ [] := fun e => by
   rw [e] at hel
   have : (A ++ B).length = 0 := by simp only [List.length_nil] at hel; omega
   exact hne (List.eq_nil_of_length_eq_zero this)
  have h1 : sortQ (endsQ (A ++ B)) ≠ [] := fun e => by
   have := (sortQ_perm (endsQ (A ++ B))).length_eq
   rw [e] at this
   exact h0 (List.eq_nil_of_length_eq_zero this.symm)
  exact List.length_pos_iff.2 (dedS_ne h1)
 ·unfold cutsQ
  have h1 := dedS_len (sortQ (endsQ (A ++ B)))
  rw [(sortQ_perm _).length_eq,hel] at h1
  exact h1
theorem agSt_fine {A B : List Iv} (hA : ∀ x ∈ A,rightIv x) (hB : ∀ x ∈ B,rightIv x) (hne : A ++ B ≠ []) (lAB : (A ++ B).length ≤ 40) : fine (agSt A B) := by
 have h := cuts_pos hA hB hne
 exact ag_fine _ _ (fun x hx => cuts_fine x hx) (by omega) _ (by omega)
set_option maxHeartbeats 6400000 in
theorem Tryz.aAgreeP (p q : Bool) (hpq : p = true ∨ q = true) (A B : List Iv) (hp : rowOk p A) (hq : rowOk q B) (hne : A ++ B ≠ []) (h0 : bothR A B = 0) (sA : shortIv A) (sB : shortIv B) (lAB : (A ++ B).length ≤ 40) :
  ACallsTo Tryz.prog 12 [rowV p 0 A,rowV q 1 B] [rowS p A,rowS q B] (agRes (agSt A B)) [rowS p A,rowS q B] := by
 have hG : fnOf Tryz.prog 12 = some Tryz.f12 := by kernel_rfl
 obtain ⟨hA0,hB0⟩ := bothR_zero h0
 obtain ⟨ps,asg,body,hb⟩ : ∃ ps asg body,rangesF Tryz.f12 = [(ps,asg,body)] := ⟨_,_,_,rfl⟩
 have kb := fun env0 h7 he => Tryz.bo_ag p q hpq A B hp hq hne (logR_right hA0) (logR_right hB0) lAB hb env0 h7 he
 obtain ⟨st,hst⟩ : ∃ st,st = ratS (agSt A B) := ⟨_,rfl⟩
 have hst' : ratS (agJ (un2 A B) (cutsQ A B) ((cutsQ A B).length - 1)) = st := hst.symm
 rw [hst'] at kb
 have lA : A.length ≤ 1000 := by rw [List.length_append] at lAB; omega
 have lB : B.length ≤ 1000 := by rw [List.length_append] at lAB; omega
 have hsf := agSt_fine (hA := logR_right hA0) (hB := logR_right hB0) hne lAB
 have hsl := fine_len hsf
 unfold agRes
 rw [← hst] at hsl ⊢
 obtain ⟨O3,hO3,h3⟩ := oracle_family (P := Tryz.prog) (ι := Env) (fun env0 => Eng.look env0 7 = .ptr 2 0 ∧ env0.flatMap (fun e => e.2.refs 6) = []) (fun _ => .fn 72) (fun _ => [.yield 5,.ptr 3 0,.ptr 4 0])
  (fun env0 => [rowS p A,rowS q B,.cells true 0 [.str [48]],.cells true 0 [rowV p 0 A],.cells true 0 [rowV q 1 B],.loop ⟨.ready,none,env0,40,ps,asg,body⟩])
  (fun env0 => ⟨.tuple [],some [rowS p A,rowS q B,.cells true 0 [.str st],.cells true 0 [rowV p 0 A],.cells true 0 [rowV q 1 B],.loop ⟨.ready,none,env0,40,ps,asg,body⟩],[]⟩)
  (fun env0 h => ⟨by simpa [CallRes.mem] using kb env0 h.1 h.2,fun q hq => by cases hq; rfl⟩)
  (fun i j _ _ _ _ h => by
   simp only [List.cons.injEq,Slot.loop.injEq,LoopA.mk.injEq,and_true,true_and] at h
   rw [h])
 clear kb
 have k1 : ACallsTo Tryz.prog 38 [rowV p 0 A,rowV q 1 B] [rowS p A,rowS q B] (.int .i64 0) ([rowS p A,rowS q B] ++ []) := by
  have := Tryz.aCheckBoth (ivs_row0 hp [rowS q B]) (ivs_row1 hq (rowS p A) []) sA sB (by omega) (by omega)
  rw [h0] at this
  rw [List.append_nil]; exact this
 have k2 := Tryz.aBoth p q A B (.cells true 0 [.str [48]])
 have hO := (oneO_ok k1).or ((oneO_ok k2).or (Tryz.chk_ok.or hO3))
 obtain ⟨O,hOd⟩ : ∃ O,O = Oracle.or (oneO 38 [rowV p 0 A,rowV q 1 B] [rowS p A,rowS q B] ⟨.int .i64 0,none,[]⟩) (Oracle.or (oneO 39 [rowV p 0 A,rowV q 1 B] [rowS p A,rowS q B,.cells true 0 [.str [48]]] ⟨.func 72 [.ptr 3 0,.ptr 4 0],none,[.cells true 0 [rowV p 0 A],.cells true 0 [rowV q 1 B]]⟩) (Oracle.or (pureO Tryz.chkF) O3)) := ⟨_,rfl⟩
 rw [← hOd] at hO
 have o1 : O (.fn 38) [rowV p 0 A,rowV q 1 B] [rowS p A,rowS q B] = some ⟨.int .i64 0,none,[]⟩ := by rw [hOd]; simp [Oracle.or,oneO_at]
 have o2 : O (.fn 39) [rowV p 0 A,rowV q 1 B] [rowS p A,rowS q B,.cells true 0 [.str [48]]] = some ⟨.func 72 [.ptr 3 0,.ptr 4 0],none,[.cells true 0 [rowV p 0 A],.cells true 0 [rowV q 1 B]]⟩ := by rw [hOd]; simp [Oracle.or,oneO_at,oneO_ne]
 have o3 : ∀ env0,Eng.look env0 7 = .ptr 2 0 → env0.flatMap (fun e => e.2.refs 6) = [] → O (.fn 72) [.yield 5,.ptr 3 0,.ptr 4 0] [rowS p A,rowS q B,.cells true 0 [.str [48]],.cells true 0 [rowV p 0 A],.cells true 0 [rowV q 1 B],.loop ⟨.ready,none,env0,40,ps,asg,body⟩] =
   some ⟨.tuple [],some [rowS p A,rowS q B,.cells true 0 [.str st],.cells true 0 [rowV p 0 A],.cells true 0 [rowV q 1 B],.loop ⟨.ready,none,env0,40,ps,asg,body⟩],[]⟩ := fun env0 ha hb' => by
  rw [hOd]; simp only [Oracle.or,oneO_ne (show 72 ≠ 38 by decide),oneO_ne (show 72 ≠ 39 by decide)]
  simp only [pureO,Tryz.chkF]
  exact h3 env0 ⟨ha,hb'⟩
 have o4 : ∀ n,chkR st = n → ∀ M,O (.fn 40) [.str st] M = some ⟨.int .i64 n,none,[]⟩ := fun n hn M => by
  rw [hOd]; simp [Oracle.or,oneO_ne,pureO,Tryz.chkF,hsl,hn]
 clear hOd hO3 h3 k1 k2
 have y0 : AV.nilslice.cells = [AV.nilslice] := rfl
 have y1 : AV.nilslice.known = true := rfl
 have y2 : AV.nilslice.cellOk = true := rfl
 have r0 : AV.refs 6 (rowV p 0 A) = [] := rowV_refs (by omega) p A
 have r1 : AV.refs 6 (rowV q 1 B) = [] := rowV_refs (by omega) q B
 simp [rangesF,rangesC,Tryz.f12] at hb
 obtain ⟨rfl,rfl,rfl⟩ := hb
 by_cases hc : chkR st = 0
 ·have h : callFn (tyOf Tryz.prog) (fun _ => []) (fnOf Tryz.prog) O 1 12 [rowV p 0 A,rowV q 1 B] [rowS p A,rowS q B] = some ⟨.tuple [.str st,.int .i64 0],some [rowS p A,rowS q B],[]⟩ := by
   have o4 := o4 0 hc
   simp [-Slot.refs,-Slot.ren,refs_cells,ren_cells,refs_lp,ren_lp,refs_absent,ren_absent,rowS_refs,rowS_ren,callFn,hG,Tryz.f12,execC_range,o1,o2,o3,o4,r0,r1,exitOf]
  have := (callFn_sound Tryz.mixed (tyOf_ok _) hO (fnOf_ok _) h).1
  rw [if_pos hc]
  simpa [CallRes.mem] using this
 ·have h : callFn (tyOf Tryz.prog) (fun _ => []) (fnOf Tryz.prog) O 1 12 [rowV p 0 A,rowV q 1 B] [rowS p A,rowS q B] = some ⟨.tuple [.str [],.int .i64 4],some [rowS p A,rowS q B],[]⟩ := by
   have o4 := o4 _ rfl
   simp [-Slot.refs,-Slot.ren,refs_cells,ren_cells,refs_lp,ren_lp,refs_absent,ren_absent,rowS_refs,rowS_ren,callFn,hG,Tryz.f12,execC_range,o1,o2,o3,o4,hc,r0,r1,exitOf]
  have := (callFn_sound Tryz.mixed (tyOf_ok _) hO (fnOf_ok _) h).1
  rw [if_neg hc]
  simpa [CallRes.mem] using this
theorem Tryz.cm_empty (p q : Bool) : (callF (tyOf Tryz.prog) writesC (fnOf Tryz.prog) noOracle 20 12 (.fn 11) [rowV p 0 [],rowV q 1 []] [rowS p [],rowS q []]).map (fun r => (r.v,r.mem [rowS p [],rowS q []])) = some (.tuple [.nilslice,.int .i64 0],[rowS p [],rowS q []]) := by
 cases p <;> cases q <;> kernel_rfl
theorem Tryz.ag_empty (p q : Bool) : (callF (tyOf Tryz.prog) writesC (fnOf Tryz.prog) (pureO Tryz.chkF) 20 12 (.fn 12) [rowV p 0 [],rowV q 1 []] [rowS p [],rowS q []]).map (fun r => (r.v,r.mem [rowS p [],rowS q []])) = some (.tuple [.str [48],.int .i64 0],[rowS p [],rowS q []]) := by
 cases p <;> cases q <;> kernel_rfl
theorem Tryz.of_empty {O : Oracle} (hO : OracleOk Tryz.prog O) {f : FuncId} {args : List AV} {m m' : Mem} {v : AV} (h : (callF (tyOf Tryz.prog) writesC (fnOf Tryz.prog) O 20 12 (.fn f) args m).map (fun r => (r.v,r.mem m)) = some (v,m')) : ACallsTo Tryz.prog f args m v m' := by
 rw [Option.map_eq_some_iff] at h
 obtain ⟨r,h1,h2⟩ := h
 have := (callF_sound Tryz.mixed (tyOf_ok _) (fnOf_ok _) hO (lv := writesC) (K := 20) 12).fn _ _ _ _ h1
 cases h2
 exact this
theorem cuts_nil : cutsQ [] [] = [] := by simp [cutsQ,endsQ,sortQ,dedS]
theorem Tryz.aCompareR2 (p q : Bool) (A B : List Iv) (hp : rowOk p A) (hq : rowOk q B) (h0 : bothR A B = 0) (sA : shortIv A) (sB : shortIv B) (lA : A.length ≤ 1000) (lB : B.length ≤ 1000) :
  ACallsTo Tryz.prog 11 [rowV p 0 A,rowV q 1 B] [rowS p A,rowS q B] (.tuple [ocV 2 (cmSt A B),.int .i64 0]) ([rowS p A,rowS q B] ++ ocE (cmSt A B)) := by
 by_cases hne : A ++ B = []
 ·rw [List.append_eq_nil_iff] at hne
  obtain ⟨rfl,rfl⟩ := hne
  have e : cmSt [] [] = none := by unfold cmSt; rw [cuts_nil]; rfl
  rw [e]
  simpa [ocV,ocE] using Tryz.of_empty (noOracle_ok _) (Tryz.cm_empty p q)
 ·refine Tryz.aCompareP p q ?_ A B hp hq hne h0 sA sB lA lB
  cases p with
  | true => exact .inl rfl
  | false =>
   cases q with
   | true => exact .inr rfl
   | false => exact absurd (by rw [hp rfl,hq rfl]; rfl) hne
theorem Tryz.aAgreeR2 (p q : Bool) (A B : List Iv) (hp : rowOk p A) (hq : rowOk q B) (h0 : bothR A B = 0) (sA : shortIv A) (sB : shortIv B) (lAB : (A ++ B).length ≤ 40) :
  ACallsTo Tryz.prog 12 [rowV p 0 A,rowV q 1 B] [rowS p A,rowS q B] (agRes (agSt A B)) [rowS p A,rowS q B] := by
 by_cases hne : A ++ B = []
 ·rw [List.append_eq_nil_iff] at hne
  obtain ⟨rfl,rfl⟩ := hne
  have e : agRes (agSt [] []) = .tuple [.str [48],.int .i64 0] := by
   have h1 : ratS (agSt [] []) = [48] := by unfold agSt; rw [cuts_nil]; kernel_rfl
   unfold agRes
   rw [h1,if_pos chkR_0]
  rw [e]
  exact Tryz.of_empty Tryz.chk_ok (Tryz.ag_empty p q)
 ·refine Tryz.aAgreeP p q ?_ A B hp hq hne h0 sA sB lAB
  cases p with
  | true => exact .inl rfl
  | false =>
   cases q with
   | true => exact .inr rfl
   | false => exact absurd (by rw [hp rfl,hq rfl]; rfl) hne
end Go.Proofs
