/- See L55. -/
import Derived.Test.YtiopbpbcgccngaaGreatDoorL49
set_option linter.all false
namespace Go.Proofs
open Go.Eng
theorem stJ_len (f : Rat → List UInt8 × List UInt8) (E : List Rat) : ∀ (j : Nat) (acc : List Df) (z : Df),stJ f E j = some (acc,z) → acc.length + 1 ≤ j
 | 0,_,_,h => by cases h
 | j + 1,acc,z,h => by
  unfold stJ cmStep at h
  split at h
  ·have := stJ_len f E j acc z h; omega
  ·split at h
   ·cases h; simp
   ·rename_i acc' z' h'
    have := stJ_len f E j acc' z' h'
    split at h
    ·cases h; omega
    ·cases h
     simp only [List.length_append,List.length_singleton]; omega
set_option maxHeartbeats 1600000 in
theorem cm_norm (S0 S1 S3 S4 S6 S7 S8 : Slot) (hS0 : stillS S0) (hS1 : stillS S1) (hS3 : stillS S3) (hS4 : stillS S4) (hS6 : stillS S6) (hS7 : stillS S7) (hS8 : stillS S8)
  (lp : LoopA) (h9 : lp.env.flatMap (fun e => e.2.refs 9) = []) (st : Option (List Df × Df)) (d : Df) (wr : List Nat) (hw : 7 ∈ wr) (env0 env' : Env) (k : Int) (h7 : Eng.look env' 7 = .int .i64 k) :
  normS [7,7] wr env0 9 ⟨env',[S0,S1,.cells true 0 [(cmW st d).1],S3,S4,.loop lp,S6,S7,S8] ++ (cmW st d).2.1 ++ (cmW st d).2.2,true⟩ =
   ⟨normE [7,7] wr env0 ((7,.int .i64 k) :: env0),[S0,S1,.cells true 0 [ocV 9 (cmStep st d)],S3,S4,.loop lp,S6,S7,S8] ++ ocE (cmStep st d),true⟩ := by
 have hn9 : ∀ ks,renEnv (rho 9 ks) lp.env = lp.env := fun ks => renEnv_refs h9
 have q0 := hS0.1
 have q1 := hS1.1
 have q3 := hS3.1
 have q4 := hS4.1
 have q6 := hS6.1
 have q7 := hS7.1
 have q8 := hS8.1
 have m0 : ∀ ks,S0.ren (rho 9 ks) = S0 := fun ks => Slot.ren_refs q0
 have m1 : ∀ ks,S1.ren (rho 9 ks) = S1 := fun ks => Slot.ren_refs q1
 have m3 : ∀ ks,S3.ren (rho 9 ks) = S3 := fun ks => Slot.ren_refs q3
 have m4 : ∀ ks,S4.ren (rho 9 ks) = S4 := fun ks => Slot.ren_refs q4
 have m6 : ∀ ks,S6.ren (rho 9 ks) = S6 := fun ks => Slot.ren_refs q6
 have m7 : ∀ ks,S7.ren (rho 9 ks) = S7 := fun ks => Slot.ren_refs q7
 have m8 : ∀ ks,S8.ren (rho 9 ks) = S8 := fun ks => Slot.ren_refs q8
 clear hS0 hS1 hS3 hS4 hS6 hS7 hS8
 unfold cmW cmStep
 by_cases huw : d.2.2.1 = d.2.2.2
 ·rw [if_pos huw,if_pos huw]
  cases st with
  | none => simp [ocV,ocE,h7]
  | some st =>
   obtain ⟨acc,z⟩ := st
   simp [-Slot.refs,-Slot.ren,refs_cells,ren_cells,refs_lp,ren_lp,refs_absent,ren_absent,ocV,ocE,h7,hw,h9,hn9,q0,q1,q3,q4,q6,q7,q8,m0,m1,m3,m4,m6,m7,m8,dfC_refs,dfC_ren]
 ·rw [if_neg huw,if_neg huw]
  cases st with
  | none => simp [-Slot.refs,-Slot.ren,refs_cells,ren_cells,refs_lp,ren_lp,refs_absent,ren_absent,ocV,ocE,h7,hw,h9,hn9,q0,q1,q3,q4,q6,q7,q8,m0,m1,m3,m4,m6,m7,m8,dfC_refs,dfC_ren]
  | some st =>
   obtain ⟨acc,z⟩ := st
   by_cases hz : z.2.1 = d.1 ∧ z.2.2.1 = d.2.2.1 ∧ z.2.2.2 = d.2.2.2
   ·simp only
    rw [if_pos hz,if_pos hz]
    simp [-Slot.refs,-Slot.ren,refs_cells,ren_cells,refs_lp,ren_lp,refs_absent,ren_absent,ocV,ocE,h7,hw,h9,hn9,q0,q1,q3,q4,q6,q7,q8,m0,m1,m3,m4,m6,m7,m8,dfC_refs,dfC_ren]
   ·simp only
    rw [if_neg hz,if_neg hz]
    have e : dfC (acc ++ [z] ++ [d]) = dfC (acc ++ [z]) ++ [.str d.1,.str d.2.1,.str d.2.2.1,.str d.2.2.2] := by rw [dfC_append]; rfl
    have e1 : ∀ n,AV.refsL n (dfC (acc ++ [z]) ++ [.str d.1,.str d.2.1,.str d.2.2.1,.str d.2.2.2]) = [] := fun n => by rw [← e]; exact dfC_refs n _
    have e2 : ∀ f,AV.rens f (dfC (acc ++ [z]) ++ [.str d.1,.str d.2.1,.str d.2.2.1,.str d.2.2.2]) = dfC (acc ++ [z]) ++ [.str d.1,.str d.2.1,.str d.2.2.1,.str d.2.2.2] := fun f => by rw [← e]; exact dfC_ren f _
    simp only [ocV,ocE,e]
    obtain ⟨R,hR⟩ : ∃ R,R = dfC (acc ++ [z]) ++ [.str d.1,.str d.2.1,.str d.2.2.1,.str d.2.2.2] := ⟨_,rfl⟩
    rw [← hR] at e1 e2 ⊢
    simp [-Slot.refs,-Slot.ren,refs_cells,ren_cells,refs_lp,ren_lp,refs_absent,ren_absent,h7,hw,h9,hn9,q0,q1,q3,q4,q6,q7,q8,m0,m1,m3,m4,m6,m7,m8,e1,e2]
theorem Tryz.bo_b2 {b1 b2 : Code} (hbb : loopsF Tryz.f72 = [b1,b2]) : 7 ∈ writesC b2 ∧ ∀ env0 v,Eng.look (normE [7,7] (writesC b2) env0 ((7,v) :: env0)) 0 = Eng.look env0 0 ∧
  Eng.look (normE [7,7] (writesC b2) env0 ((7,v) :: env0)) 1 = Eng.look env0 1 ∧ Eng.look (normE [7,7] (writesC b2) env0 ((7,v) :: env0)) 2 = Eng.look env0 2 ∧
  Eng.look (normE [7,7] (writesC b2) env0 ((7,v) :: env0)) 4 = Eng.look env0 4 ∧ Eng.look (normE [7,7] (writesC b2) env0 ((7,v) :: env0)) 7 = v := by
 simp [loopsF,loopsC,Tryz.f72] at hbb
 obtain ⟨_,rfl⟩ := hbb
 simp
theorem Tryz.bo_exit {O : Oracle} {K : Nat} {b1 b2 : Code} (hbb : loopsF Tryz.f72 = [b1,b2]) (n j : Nat) (hj : ¬ j < n) (env : Env) (M : Mem) (d : Bool) (h4 : Eng.look env 4 = .slice 8 0 n none) (h7 : Eng.look env 7 = .int .i64 (j : Int)) :
  ∃ env',execC (tyOf Tryz.prog) Tryz.boLv O K 62 6 true b2 ⟨env,M,d⟩ = some (.exit 2,⟨env',M,d⟩) := by
 simp [loopsF,loopsC,Tryz.f72] at hbb
 obtain ⟨_,rfl⟩ := hbb
 have hjI : ¬ (j : Int) < (n : Int) := by omega
 simp [h4,h7,hj,hjI]
def cmMem (p q : Bool) (A B : List Iv) (lp : LoopA) (C6 C7 : List AV) (D : List (List UInt8)) (v : AV) : Mem :=
 [rowS p A,rowS q B,.cells true 0 [v],.cells true 0 [rowV p 0 A],.cells true 0 [rowV q 1 B],.loop lp,.cells true 1 C6,.cells true 3 C7,.cells true 1 (stC D)]
theorem rd_cmW (st : Option (List Df × Df)) (d : Df) : rdOk (ocV 9 st) (cmW st d).1 (ocE st) (cmW st d).2.1 (cmW st d).2.2 := by
 unfold cmW
 split
 ·cases st with
  | none => exact .inl ⟨rfl,rfl,rfl,fun _ => rfl,fun _ => rfl⟩
  | some st => exact .inr (.inr (.inl ⟨_,_,_,_,rfl,rfl,rfl,rfl,rfl,dfC_closed _,dfC_closed _⟩))
 ·cases st with
  | none => exact .inr (.inl ⟨_,_,rfl,rfl,rfl,fun _ => rfl,rfl,dfC_closed _⟩)
  | some st =>
   obtain ⟨acc,z⟩ := st
   simp only
   split
   ·exact .inr (.inr (.inl ⟨_,_,_,_,rfl,rfl,rfl,rfl,rfl,dfC_closed _,dfC_closed _⟩))
   ·refine .inr (.inr (.inr ⟨_,_,_,_,rfl,rfl,rfl,rfl,rfl,dfC_closed _,?_⟩))
    have e : dfC (acc ++ [z] ++ [d]) = dfC (acc ++ [z]) ++ [.str d.1,.str d.2.1,.str d.2.2.1,.str d.2.2.2] := by rw [dfC_append]; rfl
    rw [← e]; exact dfC_closed _
theorem still_cells {o : Bool} {e : Nat} {cs : List AV} (h : AV.refsL 6 cs = []) : stillS (.cells o e cs) := ⟨refsL_mono (by omega) h,refsL_mono (by omega) h⟩
theorem still_row (p : Bool) (A : List Iv) : stillS (rowS p A) := ⟨rowS_refs _ _ _,rowS_refs _ _ _⟩
theorem Tryz.cm_loop2 {O : Oracle} {K : Nat} (p q : Bool) (hpq : p = true ∨ q = true) (A B : List Iv) (E : List Rat) (Z : List (List UInt8)) (hE : ∀ x ∈ E,fine x) (hn : E.length ≤ 100000) (hne : 0 < E.length) (hK : E.length < K)
  (lp : LoopA) (hlp : lp.env.flatMap (fun e => e.2.refs 6) = []) (C6 : List AV) (c6 : AV.refsL 6 C6 = []) (C7 : List AV) (c7 : AV.closeds C7 = true)
  (hua : ∀ e,fine e → ∀ r,O (.fn 76) [rowV p 0 A,.str (ratS e)] (rowS p A :: rowS q B :: r) = some ⟨.str (un2 A B e).1,none,[]⟩)
  (hub : ∀ e,fine e → ∀ r,O (.fn 76) [rowV q 1 B,.str (ratS e)] (rowS p A :: rowS q B :: r) = some ⟨.str (un2 A B e).2,none,[]⟩)
  (hy : ∀ j,j + 1 < E.length → O (.yld 5) [dfA (dfJ (un2 A B) E j)] (cmMem p q A B lp C6 C7 (E.map ratS ++ Z) (ocV 9 (stJ (un2 A B) E j)) ++ ocE (stJ (un2 A B) E j)) =
   some ⟨.bool true,some (cmMem p q A B lp C6 C7 (E.map ratS ++ Z) (cmW (stJ (un2 A B) E j) (dfJ (un2 A B) E j)).1 ++ (cmW (stJ (un2 A B) E j) (dfJ (un2 A B) E j)).2.1),(cmW (stJ (un2 A B) E j) (dfJ (un2 A B) E j)).2.2⟩)
  {b1 b2 : Code} (hbb : loopsF Tryz.f72 = [b1,b2]) (hlv : Tryz.boLv b2 = [7,7]) :
  ∃ F : Env → Env,∀ env0,(Eng.look env0 0 = .yield 5 ∧ Eng.look env0 1 = .ptr 3 0 ∧ Eng.look env0 2 = .ptr 4 0 ∧ Eng.look env0 4 = .slice 8 0 E.length none ∧ Eng.look env0 7 = .int .i64 1) →
   execC (tyOf Tryz.prog) Tryz.boLv O K 62 6 true (.loop b2) ⟨env0,cmMem p q A B lp C6 C7 (E.map ratS ++ Z) .nilslice,true⟩ =
    some (.exit 2,⟨F env0,cmMem p q A B lp C6 C7 (E.map ratS ++ Z) (ocV 9 (stJ (un2 A B) E (E.length - 1))) ++ ocE (stJ (un2 A B) E (E.length - 1)),true⟩) ∧ True := by
 refine loop_rule_d hlv true true (fun env0 => Eng.look env0 0 = .yield 5 ∧ Eng.look env0 1 = .ptr 3 0 ∧ Eng.look env0 2 = .ptr 4 0 ∧ Eng.look env0 4 = .slice 8 0 E.length none ∧ Eng.look env0 7 = .int .i64 1) (fun _ _ => True) ?_
 rintro env0 ⟨h0,h1,h2,h4,h7⟩
 obtain ⟨hw,hlook⟩ := Tryz.bo_b2 hbb
 have hml : (cmMem p q A B lp C6 C7 (E.map ratS ++ Z) .nilslice).length = 9 := rfl
 rw [hml]
 have hn0 : normE [7,7] (writesC b2) env0 ((7,.int .i64 ((0 + 1 : Nat) : Int)) :: env0) = normE [7,7] (writesC b2) env0 env0 := by simp [normE,h7]
 rw [← hn0]
 have hm0 : cmMem p q A B lp C6 C7 (E.map ratS ++ Z) .nilslice = cmMem p q A B lp C6 C7 (E.map ratS ++ Z) (ocV 9 (stJ (un2 A B) E 0)) ++ ocE (stJ (un2 A B) E 0) := by simp [stJ,ocV,ocE]
 rw [hm0]
 refine iter_ind (α := Nat) (fun j => ⟨normE [7,7] (writesC b2) env0 ((7,.int .i64 ((j + 1 : Nat) : Int)) :: env0),cmMem p q A B lp C6 C7 (E.map ratS ++ Z) (ocV 9 (stJ (un2 A B) E j)) ++ ocE (stJ (un2 A B) E j),true⟩) (fun j => E.length - j) (fun j => j + 1 ≤ E.length) (.exit 2) _ _ _ (by simp) ?_ K 0 (by omega) (by omega)
 intro j hj
 clear hn0 hm0 hml
 obtain ⟨l0,l1,l2,l4,l7⟩ := hlook env0 (.int .i64 ((j + 1 : Nat) : Int))
 by_cases hlt : j + 1 < E.length
 ·left
  have hjl : j < E.length := by omega
  have hfe : fine (E.getD j 0) := by
   have : E.getD j 0 = E[j] := getD_get hjl
   rw [this]; exact hE _ (List.getElem_mem hjl)
  obtain ⟨env',g1,g2⟩ := Tryz.bo_step (O := O) (K := K) p q A B (ocV 9 (stJ (un2 A B) E j)) _ (ocE (stJ (un2 A B) E j)) _ _ hpq (rd_cmW _ (dfJ (un2 A B) E j)) lp C6 hlp c6 C7 c7 (E.map ratS ++ Z) E.length (by omega)
   (ratS (E.getD j 0)) (ratS (E.getD (j + 1) 0)) (un2 A B (E.getD j 0)).1 (un2 A B (E.getD j 0)).2 j hlt (getD_map hjl) (getD_map hlt) (hua _ hfe) (hub _ hfe) (hy j hlt) hbb _ true (l0.trans h0) (l1.trans h1) (l2.trans h2) (l4.trans h4) l7
  refine ⟨j + 1,_,g1,?_,by omega,by omega⟩
  exact cm_norm _ _ _ _ _ _ _ (still_row p A) (still_row q B) (still_cells (by simp [AV.refsL,rowV_refs])) (still_cells (by simp [AV.refsL,rowV_refs])) (still_cells c6) (still_cells (refsL_closeds c7)) (still_cells (stC_refs _ _)) lp (env_mono (by omega) hlp) (stJ (un2 A B) E j) (dfJ (un2 A B) E j) (writesC b2) hw env0 env' _ g2
 ·right
  have hje : j = E.length - 1 := by omega
  obtain ⟨env',g1⟩ := Tryz.bo_exit (O := O) (K := K) hbb E.length (j + 1) hlt _ (cmMem p q A B lp C6 C7 (E.map ratS ++ Z) (ocV 9 (stJ (un2 A B) E j)) ++ ocE (stJ (un2 A B) E j)) true (l4.trans h4) l7
  refine ⟨env',?_,trivial⟩
  rw [g1,hje]
theorem oneO_okP {P : Program} {f : FuncId} {args : List AV} {m m' : Mem} {v : AV} (h : ACallsTo P f args m v m') (hl : m'.length = m.length) : OracleOk P (oneO f args m ⟨v,some m',[]⟩) := by
 refine oracleOk_of fun c a M r hr => ?_
 unfold oneO at hr
 split at hr
 ·rename_i hc
  obtain ⟨rfl,rfl,rfl⟩ := hc
  cases hr
  refine ⟨by simpa [CallRes.mem] using h,fun q hq => ?_⟩
  cases hq
  exact hl
 ·cases hr
theorem oneO_yld (f : FuncId) (b : Nat) (args a : List AV) (m M : Mem) (r : CallRes) : oneO f args m r (.yld b) a M = none := by simp [oneO]
theorem Tryz.b_aIndexFNil (b : Nat) (M : Mem) : ACallsTo Tryz.prog 48 [.nilslice,.func 111 [.ptr b 0]] M (.int .i64 (-1)) M := by
 have hG : fnOf Tryz.prog 48 = some Tryz.f48 := by kernel_rfl
 have h : callFn (tyOf Tryz.prog) (fun _ => [8]) (fnOf Tryz.prog) noOracle 1 48 [.nilslice,.func 111 [.ptr b 0]] M = some ⟨.int .i64 (-1),none,[]⟩ := by
  simp [callFn,hG,Tryz.f48,execC_loop,iter]
 have := (callFn_sound Tryz.mixed (tyOf_ok _) (noOracle_ok _) (fnOf_ok _) h).1
 simpa [CallRes.mem] using this
theorem Tryz.aUnit2Nil (s : List UInt8) (M : Mem) : ACallsTo Tryz.prog 76 [.nilslice,.str s] M (.str [45]) M := by
 refine ACallsTo.lift rfl rfl ?_ M
 have hG : fnOf Tryz.prog 76 = some Tryz.f76 := by kernel_rfl
 have hix : ACallsTo Tryz.prog 48 [.nilslice,.func 111 [.ptr 0 0]] [.cells true 0 [.str s]] (.int .i64 (-1)) ([.cells true 0 [.str s]] ++ []) := Tryz.b_aIndexFNil 0 _
 have h : callFn (tyOf Tryz.prog) (fun _ => []) (fnOf Tryz.prog) (oneO 48 [.nilslice,.func 111 [.ptr 0 0]] [.cells true 0 [.str s]] ⟨.int .i64 (-1),none,[]⟩) 1 76 [.nilslice,.str s] [] = some ⟨.str [45],none,[]⟩ := by
  simp [callFn,hG,Tryz.f76,oneO_at]
 have := (callFn_sound Tryz.mixed (tyOf_ok _) (oneO_ok hix) (fnOf_ok _) h).1
 simpa [CallRes.mem] using this
theorem Tryz.aUnit2M {M : Mem} {x : AV} {L : List Iv} (hx : ivs M x = some L) (hL : ∀ y ∈ L,rightIv y) (hl : L.length ≤ 1000000000) (q : Rat) (hq : fineD q) :
  ACallsTo Tryz.prog 76 [x,.str (ratS q)] M (.str (unitL (L.find? (hasB q)))) M := by
 rcases ivs_some hx with h | ⟨rfl,rfl⟩
 ·exact ACallsTo.rows1R (rest := [.str (ratS q)]) (ivC_closed L) rfl rfl (Tryz.aUnit2P L hL hl q hq) h
 ·exact Tryz.aUnit2Nil _ M
theorem Tryz.aLUnitM {M : Mem} {x : AV} {L : List Iv} (hx : ivs M x = some L) (hL : ∀ y ∈ L,rightIv y) (hl : L.length ≤ 1000000000) (q : Rat) (hq : fineD q) :
  ACallsTo Tryz.prog 14 [x,.str (ratS q)] M (.str (unitL (L.find? (hasB q)))) M := by
 rcases ivs_some hx with h | ⟨rfl,rfl⟩
 ·exact ACallsTo.rows1R (rest := [.str (ratS q)]) (ivC_closed L) rfl rfl (Tryz.aLUnitP L hL q hq hl) h
 ·exact Tryz.aLUnitNil _ M
def rightB (L : List Iv) : Bool := L.all fun x => (ivN x).isSome
theorem rightB_iff {L : List Iv} : rightB L = true ↔ ∀ x ∈ L,rightIv x := by
 unfold rightB rightIv
 rw [List.all_eq_true]
 refine forall_congr' fun x => forall_congr' fun _ => ?_
 rw [Option.isSome_iff_exists]
 constructor
 ·rintro ⟨⟨a,b⟩,h⟩; exact ⟨a,b,h⟩
 ·rintro ⟨a,b,h⟩; exact ⟨(a,b),h⟩
noncomputable def Tryz.unO : Oracle := fun c args M => match c,args with
 | .fn 76,[x,.str s] => match ivs M x,ratP s with
  | some L,some q => if rightB L = true ∧ L.length ≤ 1000000000 ∧ (natD q.num.natAbs).length ≤ 40000 ∧ (natD q.den).length ≤ 40000 then some ⟨.str (unitL (L.find? (hasB q))),none,[]⟩ else none
  | _,_ => none
 | .fn 14,[x,.str s] => match ivs M x,ratP s with
  | some L,some q => if rightB L = true ∧ L.length ≤ 1000000000 ∧ (natD q.num.natAbs).length ≤ 40000 ∧ (natD q.den).length ≤ 40000 then some ⟨.str (unitL (L.find? (hasB q))),none,[]⟩ else none
  | _,_ => none
 | _,_ => none
theorem Tryz.unO_ok : OracleOk Tryz.prog Tryz.unO := by
 refine oracleOk_of fun c args M r h => ?_
 unfold Tryz.unO at h
 split at h
 ·split at h
  ·rename_i L q hL hq
   split at h
   ·rename_i hc
    cases h
    refine soundAt_call ?_
    rw [ratP_some hq,List.append_nil]
    exact Tryz.aUnit2M hL (rightB_iff.1 hc.1) hc.2.1 q hc.2.2
   ·cases h
  ·cases h
 ·split at h
  ·rename_i L q hL hq
   split at h
   ·rename_i hc
    cases h
    refine soundAt_call ?_
    rw [ratP_some hq,List.append_nil]
    exact Tryz.aLUnitM hL (rightB_iff.1 hc.1) hc.2.1 q hc.2.2
   ·cases h
  ·cases h
 ·cases h
theorem rowS_sub {ks : List Nat} {M : Mem} {k : Nat} {p : Bool} {A : List Iv} (h : M[k]? = some (rowS p A)) : SubSlot ks M k (rowS p A) := by
 cases p with
 | true => exact rowC_sub (ivC_closed A) h (List.take_length ..)
 | false => trivial
theorem Tryz.aConcat7 (p q : Bool) (A B : List Iv) (hp : rowOk p A) (hq : rowOk q B) (hne : A ++ B ≠ []) (hA : A.length ≤ 100000) (hB : B.length ≤ 100000) (s2 s3 s4 s5 : Slot) :
  ACallsTo Tryz.prog 73 [.slice 6 0 2 none] [rowS p A,rowS q B,s2,s3,s4,s5,.cells true 1 [rowV p 0 A,rowV q 1 B]] (.slice 7 0 (A ++ B).length none)
   ([rowS p A,rowS q B,s2,s3,s4,s5,.cells true 1 [rowV p 0 A,rowV q 1 B]] ++ [.cells true 3 (ivC (A ++ B))]) := by
 have key := ACallsTo.frame (M := [rowS p A,rowS q B,s2,s3,s4,s5,.cells true 1 [rowV p 0 A,rowV q 1 B]]) [0,1,6] (m := [rowS p A,rowS q B,.cells false 1 [rowV p 0 A,rowV q 1 B]]) (new := [.cells true 3 (ivC (A ++ B))]) rfl (by simp) (by simp [AV.unders,AV.under])
  (fun i s hs => by
   match i,hs with
   | 0,hs => cases hs; exact rowS_sub rfl
   | 1,hs => cases hs; exact rowS_sub rfl
   | 2,hs =>
    cases hs
    refine ⟨by cases p <;> cases q <;> simp [rowV,AV.unders,AV.under],true,[rowV p 0 A,rowV q 1 B],rfl,fun j v hv => ?_⟩
    match j,hv with
    | 0,hv => cases hv; cases p <;> simp [rowV,AV.ren,back]
    | 1,hv => cases hv; cases q <;> simp [rowV,AV.ren,back]
    | j + 2,hv => simp at hv
   | i + 3,hs => simp at hs) (by simp [Slot.own]) (Tryz.aConcatP p q A B hp hq false hne hA hB)
 simpa [AV.rens,AV.ren,back,Slot.ren,ivC_ren] using key
theorem eS_ends {C : List Iv} (h : ∀ x ∈ C,rightIv x) : eS C = (endsQ C).map ratS := by
 induction C with
 | nil => rfl
 | cons x C ih =>
  obtain ⟨a,b,hab⟩ := h x (by simp)
  obtain ⟨e1,e2,_,_⟩ := ivN_some hab
  have ih := ih fun y hy => h y (by simp [hy])
  simp only [eS,endsQ,List.flatMap_cons,List.map_append] at ih ⊢
  rw [ih,ivE2,hab,e1,e2]; rfl
theorem endsQ_fine {C : List Iv} : ∀ q ∈ endsQ C,(natD q.num.natAbs).length ≤ 200 ∧ (natD q.den).length ≤ 200 := by
 intro q hq
 unfold endsQ at hq
 rw [List.mem_flatMap] at hq
 obtain ⟨x,_,hx⟩ := hq
 unfold ivE2 at hx
 split at hx
 ·rename_i a b hab
  unfold ivN at hab
  split at hab
  ·split at hab
   ·rename_i hc
    cases hab
    simp only [List.mem_cons,List.not_mem_nil,or_false] at hx
    rcases hx with rfl | rfl
    ·exact ⟨hc.1,hc.2.1⟩
    ·exact ⟨hc.2.2.1,hc.2.2.2⟩
   ·cases hab
  ·cases hab
 ·cases hx
theorem cuts_fine {A B : List Iv} : ∀ q ∈ cutsQ A B,(natD q.num.natAbs).length ≤ 200 ∧ (natD q.den).length ≤ 200 := by
 intro q hq
 rcases (cutsQ_mem A B q).1 hq with h | h
 ·exact endsQ_fine q h
 ·exact endsQ_fine q h
theorem cuts_strings (A B : List Iv) : dedS ((sortQ (endsQ (A ++ B))).map ratS) = (cutsQ A B).map ratS := dedS_map ratS (fun _ _ h => ratS_inj h) _
theorem endsQ_len {C : List Iv} (h : ∀ x ∈ C,rightIv x) : (endsQ C).length = C.length * 2 := by
 have := congrArg List.length (eS_ends h)
 rw [eS_len,List.length_map] at this
 exact this.symm
theorem enM_all {C : List Iv} (h : C ≠ []) : enM C C.length = [.cells true 1 (stC (eS C))] := by
 cases C with
 | nil => exact absurd rfl h
 | cons x C => show [Slot.cells true 1 (stC (eS ((x :: C).take (x :: C).length)))] = _; rw [List.take_length]
theorem enV_all {C : List Iv} (h : C ≠ []) : enV 8 C.length = .slice 8 0 (C.length * 2) none := by
 cases C with
 | nil => exact absurd rfl h
 | cons x C => rfl
def tailZ (A B : List Iv) : List (List UInt8) := List.replicate ((A ++ B).length * 2 - (cutsQ A B).length) []
theorem Tryz.bo_oracle (p q : Bool) (A B : List Iv) (hp : rowOk p A) (hq : rowOk q B) (hne : A ++ B ≠ []) (hA : ∀ x ∈ A,rightIv x) (hB : ∀ x ∈ B,rightIv x) (lA : A.length ≤ 1000) (lB : B.length ≤ 1000) (s2 s3 s4 s5 : Slot)
  (r2 : s2.refs 9 = []) (r3 : s3.refs 9 = []) (r4 : s4.refs 9 = []) (r5 : s5.refs 9 = []) {Y : Oracle} (hY : OracleOk Tryz.prog Y) (hYf : ∀ f a M,Y (.fn f) a M = none) :
  ∃ O : Oracle,OracleOk Tryz.prog O ∧
   O (.fn 73) [.slice 6 0 2 none] [rowS p A,rowS q B,s2,s3,s4,s5,.cells true 1 [rowV p 0 A,rowV q 1 B]] = some ⟨.slice 7 0 (A ++ B).length none,none,[.cells true 3 (ivC (A ++ B))]⟩ ∧
   O (.fn 74) [.slice 8 0 ((A ++ B).length * 2) none,.func 24 []] [rowS p A,rowS q B,s2,s3,s4,s5,.cells true 1 [rowV p 0 A,rowV q 1 B],.cells true 3 (ivC (A ++ B)),.cells true 1 (stC (eS (A ++ B)))] =
    some ⟨.tuple [],some [rowS p A,rowS q B,s2,s3,s4,s5,.cells true 1 [rowV p 0 A,rowV q 1 B],.cells true 3 (ivC (A ++ B)),.cells true 1 (stC ((sortQ (endsQ (A ++ B))).map ratS))],[]⟩ ∧
   (O (.fn 75) [.slice 8 0 ((A ++ B).length * 2) none] [rowS p A,rowS q B,s2,s3,s4,s5,.cells true 1 [rowV p 0 A,rowV q 1 B],.cells true 3 (ivC (A ++ B)),.cells true 1 (stC ((sortQ (endsQ (A ++ B))).map ratS))] =
    some ⟨.slice 8 0 (cutsQ A B).length none,some [rowS p A,rowS q B,s2,s3,s4,s5,.cells true 1 [rowV p 0 A,rowV q 1 B],.cells true 3 (ivC (A ++ B)),.cells true 1 (stC ((cutsQ A B).map ratS ++ tailZ A B))],[]⟩) ∧
   (∀ e,fine e → ∀ r,O (.fn 76) [rowV p 0 A,.str (ratS e)] (rowS p A :: rowS q B :: r) = some ⟨.str (un2 A B e).1,none,[]⟩) ∧
   (∀ e,fine e → ∀ r,O (.fn 76) [rowV q 1 B,.str (ratS e)] (rowS p A :: rowS q B :: r) = some ⟨.str (un2 A B e).2,none,[]⟩) ∧
   (∀ b a M,O (.yld b) a M = Y (.yld b) a M) := by
 have hC : ∀ x ∈ A ++ B,rightIv x := fun x hx => by
  rcases List.mem_append.1 hx with h | h
  ·exact hA x h
  ·exact hB x h
 have hel := endsQ_len hC
 have hsl : (sortQ (endsQ (A ++ B))).length = (A ++ B).length * 2 := by rw [(sortQ_perm _).length_eq,hel]
 have hCl : (A ++ B).length ≤ 2000 := by rw [List.length_append]; omega
 have hes := eS_ends hC
 have k1 := Tryz.aConcat7 p q A B hp hq hne (by omega) (by omega) s2 s3 s4 s5
 have k2 := Tryz.aSortEnds (endsQ (A ++ B)) (fun x hx => ⟨by have := (endsQ_fine x hx).1; omega,by have := (endsQ_fine x hx).2; omega⟩) (by omega) [rowS p A,rowS q B,s2,s3,s4,s5,.cells true 1 [rowV p 0 A,rowV q 1 B],.cells true 3 (ivC (A ++ B)),.cells true 1 (stC ((endsQ (A ++ B)).map ratS))] 8 rfl
 rw [hel,← hes] at k2
 have k3 := Tryz.aCompact ((sortQ (endsQ (A ++ B))).map ratS) [rowS p A,rowS q B,s2,s3,s4,s5,.cells true 1 [rowV p 0 A,rowV q 1 B],.cells true 3 (ivC (A ++ B)),.cells true 1 (stC ((sortQ (endsQ (A ++ B))).map ratS))] 8 rfl (fun s hs => by
  simp only [List.mem_cons,List.not_mem_nil,or_false] at hs
  show s.refs 9 = []
  rcases hs with rfl | rfl | rfl | rfl | rfl | rfl | rfl | rfl | rfl
  ·exact rowS_refs _ _ _
  ·exact rowS_refs _ _ _
  ·exact r2
  ·exact r3
  ·exact r4
  ·exact r5
  ·simp [refs_cells,AV.refsL,rowV_refs]
  ·simp [refs_cells,ivC_refs]
  ·simp [refs_cells,stC_refs]) (by rw [List.length_map,hsl]; omega)
 rw [cuts_strings,List.length_map,List.length_map,hsl] at k3
 obtain ⟨Z,hZ⟩ : ∃ Z,Z = tailZ A B := ⟨_,rfl⟩
 have hZ' : List.replicate ((A ++ B).length * 2 - (cutsQ A B).length) ([] : List UInt8) = Z := hZ.symm
 rw [hZ'] at k3
 rw [← hZ]
 have sA := rightB_iff.2 hA
 have sB := rightB_iff.2 hB
 refine ⟨Oracle.or (oneO _ _ _ _) (Oracle.or (oneO _ _ _ _) (Oracle.or (oneO _ _ _ _) (Oracle.or Tryz.unO Y))),(oneO_ok k1).or ((oneO_okP k2 (by simp)).or ((oneO_okP k3 (by simp)).or (Tryz.unO_ok.or hY))),?_,?_,?_,?_,?_,?_⟩
 ·simp [Oracle.or,oneO_at]
 ·simp [Oracle.or,oneO_at,oneO_ne]
 ·simp [Oracle.or,oneO_at,oneO_ne]
 ·intro e he r
  have l1 : A.length ≤ 1000000000 := by omega
  simp [Oracle.or,oneO_ne,Tryz.unO,ivs_row0 hp,ratP_ratS,sA,l1,he.1,he.2,un2]
 ·intro e he r
  have l1 : B.length ≤ 1000000000 := by omega
  simp [Oracle.or,oneO_ne,Tryz.unO,ivs_row1 hq,ratP_ratS,sB,l1,he.1,he.2,un2]
 ·intro b a M
  simp [Oracle.or,oneO_yld,Tryz.unO]
set_option maxHeartbeats 6400000 in
theorem Tryz.bo_cm (p q : Bool) (hpq : p = true ∨ q = true) (A B : List Iv) (hp : rowOk p A) (hq : rowOk q B) (hne : A ++ B ≠ []) (hA : ∀ x ∈ A,rightIv x) (hB : ∀ x ∈ B,rightIv x) (lA : A.length ≤ 1000) (lB : B.length ≤ 1000)
  {ps : Array Tmp} {asg body : Code} (hb : rangesF Tryz.f11 = [(ps,asg,body)])
  (env0 : Env) (h7 : Eng.look env0 7 = .ptr 2 0) (he : env0.flatMap (fun e => e.2.refs 6) = []) :
  ACallsTo Tryz.prog 72 [.yield 5,.ptr 3 0,.ptr 4 0] [rowS p A,rowS q B,.cells true 0 [.nilslice],.cells true 0 [rowV p 0 A],.cells true 0 [rowV q 1 B],.loop ⟨.ready,none,env0,74,ps,asg,body⟩] (.tuple [])
   ([rowS p A,rowS q B,.cells true 0 [ocV 6 (stJ (un2 A B) (cutsQ A B) ((cutsQ A B).length - 1))],.cells true 0 [rowV p 0 A],.cells true 0 [rowV q 1 B],.loop ⟨.ready,none,env0,74,ps,asg,body⟩] ++ ocE (stJ (un2 A B) (cutsQ A B) ((cutsQ A B).length - 1))) := by
 have hG : fnOf Tryz.prog 72 = some Tryz.f72 := by kernel_rfl
 have hC : ∀ x ∈ A ++ B,rightIv x := fun x hx => by
  rcases List.mem_append.1 hx with h | h
  ·exact hA x h
  ·exact hB x h
 have hel := endsQ_len hC
 have hCl : (A ++ B).length ≤ 2000 := by rw [List.length_append]; omega
 obtain ⟨lp,hlp⟩ : ∃ lp : LoopA,lp = ⟨.ready,none,env0,74,ps,asg,body⟩ := ⟨_,rfl⟩
 have hle : lp.env.flatMap (fun e => e.2.refs 6) = [] := by rw [hlp]; exact he
 obtain ⟨E,hE⟩ : ∃ E,E = cutsQ A B := ⟨_,rfl⟩
 have hEf : ∀ x ∈ E,fine x := fun x hx => by
  rw [hE] at hx
  have := cuts_fine x hx
  exact ⟨by omega,by omega⟩
 have hEl : E.length ≤ 4000 := by
  rw [hE]; unfold cutsQ
  have h1 := dedS_len (sortQ (endsQ (A ++ B)))
  rw [(sortQ_perm _).length_eq,hel] at h1
  omega
 have hE0 : 0 < E.length := by
  have h0 : endsQ (A ++ B) ≠ [] := fun e => by
   rw [e] at hel
   have : (A ++ B).length = 0 := by simp only [List.length_nil] at hel; omega
   exact hne (List.eq_nil_of_length_eq_zero this)
  have h1 : sortQ (endsQ (A ++ B)) ≠ [] := fun e => by
   have := (sortQ_perm (endsQ (A ++ B))).length_eq
   rw [e] at this
   exact h0 (List.eq_nil_of_length_eq_zero this.symm)
  have h2 := dedS_ne h1
  rw [hE]
  exact List.length_pos_iff.2 h2
 have hEs := cutsQ_sorted A B
 rw [← hE] at hEs
 have c6 : AV.refsL 6 [rowV p 0 A,rowV q 1 B] = [] := by simp [AV.refsL,rowV_refs]
 have rounds : ∀ Z,∃ Y,OracleOk Tryz.prog Y ∧ (∀ f a M,Y (.fn f) a M = none) ∧ ∀ j,j + 1 < E.length → Y (.yld 5) [dfA (dfJ (un2 A B) E j)] (cmMem p q A B lp [rowV p 0 A,rowV q 1 B] (ivC (A ++ B)) (E.map ratS ++ Z) (ocV 9 (stJ (un2 A B) E j)) ++ ocE (stJ (un2 A B) E j)) =
   some ⟨.bool true,some (cmMem p q A B lp [rowV p 0 A,rowV q 1 B] (ivC (A ++ B)) (E.map ratS ++ Z) (cmW (stJ (un2 A B) E j) (dfJ (un2 A B) E j)).1 ++ (cmW (stJ (un2 A B) E j) (dfJ (un2 A B) E j)).2.1),(cmW (stJ (un2 A B) E j) (dfJ (un2 A B) E j)).2.2⟩ := by
  intro Z
  obtain ⟨Y0,hY0,hY1⟩ := oracle_family (P := Tryz.prog) (fun j : Nat => j + 1 < E.length) (fun _ => .yld 5) (fun j => [dfA (dfJ (un2 A B) E j)]) (fun j => cmMem p q A B lp [rowV p 0 A,rowV q 1 B] (ivC (A ++ B)) (E.map ratS ++ Z) (ocV 9 (stJ (un2 A B) E j)) ++ ocE (stJ (un2 A B) E j))
   (fun j => ⟨.bool true,some (cmMem p q A B lp [rowV p 0 A,rowV q 1 B] (ivC (A ++ B)) (E.map ratS ++ Z) (cmW (stJ (un2 A B) E j) (dfJ (un2 A B) E j)).1 ++ (cmW (stJ (un2 A B) E j) (dfJ (un2 A B) E j)).2.1),(cmW (stJ (un2 A B) E j) (dfJ (un2 A B) E j)).2.2⟩)
   (fun j hj => by
    have h := Tryz.cm_round (rowS p A) (rowS q B) (.cells true 0 [rowV p 0 A]) (.cells true 0 [rowV q 1 B]) (.cells true 1 [rowV p 0 A,rowV q 1 B]) (.cells true 3 (ivC (A ++ B))) (.cells true 1 (stC (E.map ratS ++ Z)))
     (still_row p A) (still_row q B) (still_cells (by simp [AV.refsL,rowV_refs])) (still_cells (by simp [AV.refsL,rowV_refs])) (still_cells c6) (still_cells (ivC_refs _ _)) (still_cells (stC_refs _ _))
     (stJ (un2 A B) E j) (fun acc z hst => by have := stJ_len _ _ _ _ _ hst; omega) (dfJ (un2 A B) E j) hb env0 h7 (env_mono (by omega) he) (env_mono (by omega) he)
    rw [hlp]
    exact callYld_sound Tryz.mixed (tyOf_ok _) (noOracle_ok _) h)
   (fun i j hi hj _ ha _ => by
    simp only [dfA,dfJ,List.cons.injEq,AV.agg.injEq,AV.str.injEq,and_true] at ha
    have h1 := ratS_inj ha.1
    have hil : i < E.length := by omega
    have hjl : j < E.length := by omega
    rw [getD_get hil,getD_get hjl] at h1
    have : i = j := by
     rcases Nat.lt_trichotomy i j with h | h | h
     ·have := List.pairwise_iff_getElem.1 hEs i j hil hjl h
      rw [h1] at this; exact absurd this Rat.lt_irrefl
     ·exact h
     ·have := List.pairwise_iff_getElem.1 hEs j i hjl hil h
      rw [h1] at this; exact absurd this Rat.lt_irrefl
    subst this; rfl)
  refine ⟨fun c a M => match c with | .yld b => Y0 (.yld b) a M | .fn _ => none,oracleOk_of fun c a M r h => ?_,fun _ _ _ => rfl,hY1⟩
  cases c with
  | fn f => cases h
  | yld b => exact soundAt_of hY0 h
 obtain ⟨Z,hZ⟩ : ∃ Z,Z = tailZ A B := ⟨_,rfl⟩
 obtain ⟨Y,hY,hYf,hYy⟩ := rounds Z
 obtain ⟨O,hO,o1,o2,o3,ou,ov,oy⟩ := Tryz.bo_oracle p q A B hp hq hne hA hB lA lB (.cells true 0 [.nilslice]) (.cells true 0 [rowV p 0 A]) (.cells true 0 [rowV q 1 B]) (.loop lp) (by simp [refs_cells,AV.refsL,AV.refs]) (by simp [refs_cells,AV.refsL,rowV_refs]) (by simp [refs_cells,AV.refsL,rowV_refs])
  (by rw [refs_lp]; exact env_mono (by omega) hle) hY hYf
 rw [← hE,← hZ] at o3
 have hy : ∀ j,j + 1 < E.length → O (.yld 5) [dfA (dfJ (un2 A B) E j)] (cmMem p q A B lp [rowV p 0 A,rowV q 1 B] (ivC (A ++ B)) (E.map ratS ++ Z) (ocV 9 (stJ (un2 A B) E j)) ++ ocE (stJ (un2 A B) E j)) =
   some ⟨.bool true,some (cmMem p q A B lp [rowV p 0 A,rowV q 1 B] (ivC (A ++ B)) (E.map ratS ++ Z) (cmW (stJ (un2 A B) E j) (dfJ (un2 A B) E j)).1 ++ (cmW (stJ (un2 A B) E j) (dfJ (un2 A B) E j)).2.1),(cmW (stJ (un2 A B) E j) (dfJ (un2 A B) E j)).2.2⟩ := fun j hj => by
  rw [oy]; exact hYy j hj
 obtain ⟨b1,b2,hbb,hlv1,hlv2⟩ : ∃ b1 b2,loopsF Tryz.f72 = [b1,b2] ∧ Tryz.boLv b1 = [4,13] ∧ Tryz.boLv b2 = [7,7] := ⟨_,_,rfl,by decide,by decide⟩
 obtain ⟨C,hCd⟩ : ∃ C,C = A ++ B := ⟨_,rfl⟩
 obtain ⟨F1,hF1⟩ := Tryz.bo_loop1 (O := O) (K := 5000) (rowS p A) (rowS q B) (.cells true 0 [.nilslice]) (.cells true 0 [rowV p 0 A]) (.cells true 0 [rowV q 1 B]) (.loop lp) (.cells true 1 [rowV p 0 A,rowV q 1 B]) (rowS_refs _ _ _) (rowS_refs _ _ _) (by simp [refs_cells,AV.refsL,AV.refs])
  (by simp [refs_cells,AV.refsL,rowV_refs]) (by simp [refs_cells,AV.refsL,rowV_refs]) (by rw [refs_lp]; exact env_mono (by omega) hle) (by simp [refs_cells,AV.refsL,rowV_refs]) C (by rw [hCd]; omega) (by rw [hCd]; omega) hbb hlv1
 obtain ⟨F2,hF2⟩ := Tryz.cm_loop2 (O := O) (K := 5000) p q hpq A B E Z hEf (by omega) hE0 (by omega) lp hle [rowV p 0 A,rowV q 1 B] c6 (ivC (A ++ B)) (ivC_closed _) ou ov hy hbb hlv2
 rw [enM_all (by rw [hCd]; exact hne),enV_all (by rw [hCd]; exact hne)] at hF1
 have g1 := fun env0 d h => (hF1 env0 d h).1
 have g2 := fun env0 d h => (hF1 env0 d h).2.1
 have g3 := fun env0 d h t ht => (hF1 env0 d h).2.2 t ht
 have g4 := fun env0 h => (hF2 env0 h).1
 clear hF1 hF2 hy rounds hYy
 rw [← hCd] at o1 o2 o3 g4
 obtain ⟨st,hst⟩ : ∃ st,st = stJ (un2 A B) E (E.length - 1) := ⟨_,rfl⟩
 rw [← hst] at g4
 rw [← hE,← hst,← hlp]
 simp only [cmMem] at g4
 have y0 : AV.nilslice.cells = [AV.nilslice] := rfl
 have y1 : AV.nilslice.known = true := rfl
 have y2 : AV.nilslice.cellOk = true := rfl
 have v0 : (rowV p 0 A).known = true := rowV_known _ _ _
 have v1 : (rowV q 1 B).known = true := rowV_known _ _ _
 have v2 : (rowV p 0 A).cellOk = true := rowV_cellOk _ _ _
 have v3 : (rowV q 1 B).cellOk = true := rowV_cellOk _ _ _
 have r0 : AV.refs 6 (rowV p 0 A) = [] := rowV_refs (by omega) p A
 have r1 : AV.refs 6 (rowV q 1 B) = [] := rowV_refs (by omega) q B
 have n0 : ∀ ks,AV.ren (rho 6 ks) (rowV p 0 A) = rowV p 0 A := fun ks => rowV_ren (by omega) ks p A
 have n1 : ∀ ks,AV.ren (rho 6 ks) (rowV q 1 B) = rowV q 1 B := fun ks => rowV_ren (by omega) ks q B
 have hn6 : ∀ ks,renEnv (rho 6 ks) lp.env = lp.env := fun ks => renEnv_refs hle
 simp [loopsF,loopsC,Tryz.f72] at hbb
 obtain ⟨hb1,hb2⟩ := hbb
 subst hb1 hb2
 have h : callFn (tyOf Tryz.prog) Tryz.boLv (fnOf Tryz.prog) O 5000 72 [.yield 5,.ptr 3 0,.ptr 4 0] [rowS p A,rowS q B,.cells true 0 [.nilslice],.cells true 0 [rowV p 0 A],.cells true 0 [rowV q 1 B],.loop lp] =
   some ⟨.tuple [],some [rowS p A,rowS q B,.cells true 0 [ocV 6 st],.cells true 0 [rowV p 0 A],.cells true 0 [rowV q 1 B],.loop lp],ocE st⟩ := by
  cases st with
  | none =>
   simp only [ocV,ocE,List.append_nil] at g4 ⊢
   simp [-Slot.refs,-Slot.ren,-AV.known,-AV.cells,-AV.cellOk,refs_cells,ren_cells,refs_lp,ren_lp,refs_absent,ren_absent,rowS_refs,rowS_ren,callFn,hG,Tryz.f72,o1,o2,o3,g1,g2,g3,g4,y0,y1,y2,rowV_cells,v0,v1,v2,v3,r0,r1,n0,n1,hle,hn6]
  | some st =>
   obtain ⟨acc,z⟩ := st
   simp only [ocV,ocE] at g4 ⊢
   simp [-Slot.refs,-Slot.ren,-AV.known,-AV.cells,-AV.cellOk,refs_cells,ren_cells,refs_lp,ren_lp,refs_absent,ren_absent,rowS_refs,rowS_ren,callFn,hG,Tryz.f72,o1,o2,o3,g1,g2,g3,g4,y0,y1,y2,rowV_cells,v0,v1,v2,v3,r0,r1,n0,n1,hle,hn6,dfC_refs,dfC_ren]
 have := (callFn_sound Tryz.mixed (tyOf_ok _) hO (fnOf_ok _) h).1
 simpa [CallRes.mem] using this
theorem bothR_zero {A B : List Iv} (h : bothR A B = 0) : logR A = 0 ∧ logR B = 0 := by
 unfold bothR at h
 split at h
 ·exact absurd h ‹_›
 ·rename_i h1
  exact ⟨by simpa using h1,h⟩
def cmSt (A B : List Iv) : Option (List Df × Df) := stJ (un2 A B) (cutsQ A B) ((cutsQ A B).length - 1)
set_option maxHeartbeats 6400000 in
theorem Tryz.aCompareP (p q : Bool) (hpq : p = true ∨ q = true) (A B : List Iv) (hp : rowOk p A) (hq : rowOk q B) (hne : A ++ B ≠ []) (h0 : bothR A B = 0) (sA : shortIv A) (sB : shortIv B) (lA : A.length ≤ 1000) (lB : B.length ≤ 1000) :
  ACallsTo Tryz.prog 11 [rowV p 0 A,rowV q 1 B] [rowS p A,rowS q B] (.tuple [ocV 2 (cmSt A B),.int .i64 0]) ([rowS p A,rowS q B] ++ ocE (cmSt A B)) := by
 have hG : fnOf Tryz.prog 11 = some Tryz.f11 := by kernel_rfl
 obtain ⟨hA0,hB0⟩ := bothR_zero h0
 obtain ⟨ps,asg,body,hb⟩ : ∃ ps asg body,rangesF Tryz.f11 = [(ps,asg,body)] := ⟨_,_,_,rfl⟩
 have kb := fun env0 h7 he => Tryz.bo_cm p q hpq A B hp hq hne (logR_right hA0) (logR_right hB0) lA lB hb env0 h7 he
 obtain ⟨st,hst⟩ : ∃ st,st = cmSt A B := ⟨_,rfl⟩
 have hst' : stJ (un2 A B) (cutsQ A B) ((cutsQ A B).length - 1) = st := hst.symm
 rw [hst'] at kb
 rw [← hst]
 obtain ⟨O3,hO3,h3⟩ := oracle_family (P := Tryz.prog) (ι := Env) (fun env0 => Eng.look env0 7 = .ptr 2 0 ∧ env0.flatMap (fun e => e.2.refs 6) = []) (fun _ => .fn 72) (fun _ => [.yield 5,.ptr 3 0,.ptr 4 0])
  (fun env0 => [rowS p A,rowS q B,.cells true 0 [.nilslice],.cells true 0 [rowV p 0 A],.cells true 0 [rowV q 1 B],.loop ⟨.ready,none,env0,74,ps,asg,body⟩])
  (fun env0 => ⟨.tuple [],some [rowS p A,rowS q B,.cells true 0 [ocV 6 st],.cells true 0 [rowV p 0 A],.cells true 0 [rowV q 1 B],.loop ⟨.ready,none,env0,74,ps,asg,body⟩],ocE st⟩)
  (fun env0 h => ⟨by simpa [CallRes.mem] using kb env0 h.1 h.2,fun q hq => by cases hq; rfl⟩)
  (fun i j _ _ _ _ h => by
   simp only [List.cons.injEq,Slot.loop.injEq,LoopA.mk.injEq,and_true,true_and] at h
   rw [h])
 clear kb
 have k1 : ACallsTo Tryz.prog 38 [rowV p 0 A,rowV q 1 B] [rowS p A,rowS q B] (.int .i64 0) ([rowS p A,rowS q B] ++ []) := by
  have := Tryz.aCheckBoth (ivs_row0 hp [rowS q B]) (ivs_row1 hq (rowS p A) []) sA sB (by omega) (by omega)
  rw [h0] at this
  rw [List.append_nil]; exact this
 have k2 := Tryz.aBoth p q A B (.cells true 0 [.nilslice])
 have hO := (oneO_ok k1).or ((oneO_ok k2).or hO3)
 obtain ⟨O,hOd⟩ : ∃ O,O = Oracle.or (oneO 38 [rowV p 0 A,rowV q 1 B] [rowS p A,rowS q B] ⟨.int .i64 0,none,[]⟩) (Oracle.or (oneO 39 [rowV p 0 A,rowV q 1 B] [rowS p A,rowS q B,.cells true 0 [.nilslice]] ⟨.func 72 [.ptr 3 0,.ptr 4 0],none,[.cells true 0 [rowV p 0 A],.cells true 0 [rowV q 1 B]]⟩) O3) := ⟨_,rfl⟩
 rw [← hOd] at hO
 have o1 : O (.fn 38) [rowV p 0 A,rowV q 1 B] [rowS p A,rowS q B] = some ⟨.int .i64 0,none,[]⟩ := by rw [hOd]; simp [Oracle.or,oneO_at]
 have o2 : O (.fn 39) [rowV p 0 A,rowV q 1 B] [rowS p A,rowS q B,.cells true 0 [.nilslice]] = some ⟨.func 72 [.ptr 3 0,.ptr 4 0],none,[.cells true 0 [rowV p 0 A],.cells true 0 [rowV q 1 B]]⟩ := by rw [hOd]; simp [Oracle.or,oneO_at,oneO_ne]
 have o3 : ∀ env0,Eng.look env0 7 = .ptr 2 0 → env0.flatMap (fun e => e.2.refs 6) = [] → O (.fn 72) [.yield 5,.ptr 3 0,.ptr 4 0] [rowS p A,rowS q B,.cells true 0 [.nilslice],.cells true 0 [rowV p 0 A],.cells true 0 [rowV q 1 B],.loop ⟨.ready,none,env0,74,ps,asg,body⟩] =
   some ⟨.tuple [],some [rowS p A,rowS q B,.cells true 0 [ocV 6 st],.cells true 0 [rowV p 0 A],.cells true 0 [rowV q 1 B],.loop ⟨.ready,none,env0,74,ps,asg,body⟩],ocE st⟩ := fun env0 ha hb' => by
  rw [hOd]; simp only [Oracle.or,oneO_ne (show 72 ≠ 38 by decide),oneO_ne (show 72 ≠ 39 by decide)]
  exact h3 env0 ⟨ha,hb'⟩
 clear hOd hO3 h3 k1 k2
 have y0 : AV.nilslice.cells = [AV.nilslice] := rfl
 have y1 : AV.nilslice.known = true := rfl
 have y2 : AV.nilslice.cellOk = true := rfl
 have r0 : AV.refs 6 (rowV p 0 A) = [] := rowV_refs (by omega) p A
 have r1 : AV.refs 6 (rowV q 1 B) = [] := rowV_refs (by omega) q B
 simp [rangesF,rangesC,Tryz.f11] at hb
 obtain ⟨rfl,rfl,rfl⟩ := hb
 have h : callFn (tyOf Tryz.prog) (fun _ => []) (fnOf Tryz.prog) O 1 11 [rowV p 0 A,rowV q 1 B] [rowS p A,rowS q B] = some ⟨.tuple [ocV 2 st,.int .i64 0],some [rowS p A,rowS q B],ocE st⟩ := by
  cases st with
  | none =>
   simp only [ocV,ocE] at o3 ⊢
   simp [-Slot.refs,-Slot.ren,refs_cells,ren_cells,refs_lp,ren_lp,refs_absent,ren_absent,rowS_refs,rowS_ren,callFn,hG,Tryz.f11,execC_range,o1,o2,o3,r0,r1,exitOf]
  | some st =>
   obtain ⟨acc,z⟩ := st
   simp only [ocV,ocE] at o3 ⊢
   simp [-Slot.refs,-Slot.ren,refs_cells,ren_cells,refs_lp,ren_lp,refs_absent,ren_absent,rowS_refs,rowS_ren,callFn,hG,Tryz.f11,execC_range,o1,o2,o3,r0,r1,exitOf,dfC_refs,dfC_ren]
 have := (callFn_sound Tryz.mixed (tyOf_ok _) hO (fnOf_ok _) h).1
 simpa [CallRes.mem] using this
end Go.Proofs
