/- See K54. -/
import Derived.Test.YtiopbpbcgccngaaGreatDoorK51
set_option linter.all false
namespace Go.Proofs
open Go.Eng
theorem Tryz.aLCheckP (L : List Iv) (hL : shortIv L) (hl : L.length ≤ 1000000000) :
  ACallsTo Tryz.prog 28 [.slice 0 0 L.length none] [.cells false 3 (ivC L)] (.int .i64 (logR L)) [.cells false 3 (ivC L)] := by
 have hG : fnOf Tryz.prog 28 = some Tryz.f28 := by kernel_rfl
 obtain ⟨b,hb⟩ : ∃ b,loopsF Tryz.f28 = [b] := ⟨_,rfl⟩
 obtain ⟨F,hF⟩ := Tryz.check_loop43 (K := L.length + 1) L hL hl (by omega) hb
 simp [loopsF,loopsC,Tryz.f28] at hb
 subst hb
 have h : callFn (tyOf Tryz.prog) (fun _ => [10]) (fnOf Tryz.prog) (pureO Tryz.knF2) (L.length + 1) 28 [.slice 0 0 L.length none] [.cells false 3 (ivC L)] = some ⟨.int .i64 (logR L),none,[]⟩ := by
  unfold logR
  by_cases h200 : 200 < L.length
  ·rw [if_pos h200]
   have h200I : (200 : Int) < L.length := by omega
   simp [callFn,hG,Tryz.f28,h200I,h200]
  ·rw [if_neg h200]
   have h200I : ¬ (200 : Int) < L.length := by omega
   by_cases hc : logE none L = 0
   ·rw [if_pos hc] at hF
    have hF1 := fun env0 d h => (hF env0 d h).1
    have hF2 := fun env0 d h => (hF env0 d h).2.1 hc
    clear hF
    simp [callFn,hG,Tryz.f28,h200I,h200,hF1,hF2,ivC_refs,hc]
   ·rw [if_neg hc] at hF
    have hF1 := fun env0 d h => (hF env0 d h).1
    have hF2 := fun env0 d h => ((hF env0 d h).2.2 hc).1
    have hF3 := fun env0 d h => ((hF env0 d h).2.2 hc).2
    clear hF
    simp [callFn,hG,Tryz.f28,h200I,h200,hF1,hF2,hF3,ivC_refs]
 have := (callFn_sound Tryz.mixed (tyOf_ok _) Tryz.knF2_ok (fnOf_ok _) h).1
 simpa [CallRes.mem] using this
theorem Tryz.aLCheckNil (M : Mem) : ACallsTo Tryz.prog 28 [.nilslice] M (.int .i64 0) M := by
 have hG : fnOf Tryz.prog 28 = some Tryz.f28 := by kernel_rfl
 refine Tryz.run (noOracle_ok _) (lv := fun _ => [10]) (K := 1) rfl rfl ?_ M
 simp [callFn,hG,Tryz.f28,execC_loop,iter]
theorem Tryz.aLCheckM {M : Mem} {x : AV} {L : List Iv} (hL : shortIv L) (hl : L.length ≤ 1000000000) (hx : ivs M x = some L) : ACallsTo Tryz.prog 28 [x] M (.int .i64 (logR L)) M := by
 rcases ivs_some hx with h | ⟨rfl,rfl⟩
 ·exact ACallsTo.rows1R (ivC_closed L) rfl rfl (Tryz.aLCheckP L hL hl) h
 ·exact Tryz.aLCheckNil M
def smallI (x : Iv) : Bool := decide (x.1.length ≤ 40) && (decide (x.2.1.length ≤ 24) && decide (x.2.2.length ≤ 24))
def fewB (L : List Iv) : Bool := L.all smallI && (decide (L.length ≤ 8) || decide (L.length = 201))
set_option maxHeartbeats 3200000 in
theorem Tryz.few_loop {O : Oracle} {K : Nat} (L : List Iv) (hl : L.length ≤ 9223372036854775807) (hK : L.length < K) {b : Code} (hb : loopsF Tryz.f27 = [b]) :
  ∃ F : Env → Bool → Env,∀ env0 d,(Eng.look env0 0 = .slice 0 0 L.length none ∧ Eng.look env0 3 = .int .i64 0) →
   execC (tyOf Tryz.prog) (fun _ => [3]) O K 43 1 true (.loop b) ⟨env0,[.cells false 3 (ivC L)],d⟩ = some (if L.all smallI = true then .exit 0 else .ret,⟨F env0 d,[.cells false 3 (ivC L)],d⟩) ∧
    (L.all smallI = false → Eng.look (F env0 d) 2 = .bool false) ∧ (L.all smallI = true → Eng.look (F env0 d) 0 = .slice 0 0 L.length none) := by
 refine loop_rule rfl (fun env0 => Eng.look env0 0 = .slice 0 0 L.length none ∧ Eng.look env0 3 = .int .i64 0) (fun _ env' => (L.all smallI = false → Eng.look env' 2 = .bool false) ∧ (L.all smallI = true → Eng.look env' 0 = .slice 0 0 L.length none)) ?_
 rintro env0 d ⟨h0,h3⟩
 simp [loopsF,loopsC,Tryz.f27] at hb
 have hn : normE [3] (writesC b) env0 ((3,.int .i64 ((0 : Nat) : Int)) :: env0) = normE [3] (writesC b) env0 env0 := by simp [normE,h3]
 rw [← hn]
 have kl : (ivC L).length = L.length * 3 := ivC_length L
 refine iter_ind (α := Nat) (fun s => ⟨normE [3] (writesC b) env0 ((3,.int .i64 (s : Int)) :: env0),[.cells false 3 (ivC L)],d⟩) (fun s => L.length - s) (fun s => s ≤ L.length ∧ L.all smallI = (L.drop s).all smallI) _ _ d _ (by split <;> simp) ?_ K 0 ⟨by omega,by rw [List.drop_zero]⟩ (by omega)
 rintro n ⟨hn1,he⟩
 clear hn
 subst hb
 by_cases hlt : n < L.length
 ·obtain ⟨k,hk⟩ : ∃ k,L[n]? = some k := ⟨L[n],List.getElem?_eq_getElem hlt⟩
  obtain ⟨_,k2,k3,k4⟩ := ivC_at hk
  have hdr : L.drop n = k :: L.drop (n + 1) := by
   rw [List.getElem?_eq_some_iff] at hk
   obtain ⟨h1,h2⟩ := hk
   rw [← h2]; exact List.drop_eq_getElem_cons h1
  rw [hdr,List.all_cons] at he
  have w1 : IntKind.i64.wrap ((n : Int) + 1) = ((n + 1 : Nat) : Int) := by rw [wrap_i64 (by omega) (by omega)]; omega
  have l2 : n * 3 < (ivC L).length := by omega
  have l3 : n * 3 + 1 < (ivC L).length := by omega
  have l4 : n * 3 + 2 < (ivC L).length := by omega
  have j2 : ∀ h,(ivC L)[n * 3]'h = .str k.1 := fun h => by rw [List.getElem?_eq_getElem h] at k2; exact Option.some.inj k2
  have j3 : ∀ h,(ivC L)[n * 3 + 1]'h = .str k.2.1 := fun h => by rw [List.getElem?_eq_getElem h] at k3; exact Option.some.inj k3
  have j4 : ∀ h,(ivC L)[n * 3 + 2]'h = .str k.2.2 := fun h => by rw [List.getElem?_eq_getElem h] at k4; exact Option.some.inj k4
  by_cases c1 : k.1.length ≤ 40
  ·have c1I : ¬ (40 : Int) < k.1.length := by omega
   have c1N : ¬ 40 < k.1.length := by omega
   by_cases c2 : k.2.1.length ≤ 24
   ·have c2I : ¬ (24 : Int) < k.2.1.length := by omega
    have c2N : ¬ 24 < k.2.1.length := by omega
    by_cases c3 : k.2.2.length ≤ 24
    ·left
     have c3I : ¬ (24 : Int) < k.2.2.length := by omega
     have c3N : ¬ 24 < k.2.2.length := by omega
     have hs : smallI k = true := by simp [smallI,c1,c2,c3]
     rw [hs,Bool.true_and] at he
     refine ⟨n + 1,?_⟩
     refine exists_and_fin (show (n + 1 ≤ L.length ∧ L.all smallI = (L.drop (n + 1)).all smallI) ∧ L.length - (n + 1) < L.length - n from ⟨⟨by omega,he⟩,by omega⟩) ?_
     simp [h0,hlt,j2,j3,j4,l2,l3,l4,c1I,c1N,c2I,c2N,c3I,c3N,w1]
    ·right
     have c3I : (24 : Int) < k.2.2.length := by omega
     have c3N : 24 < k.2.2.length := by omega
     have hs : smallI k = false := by simp [smallI,c3]
     rw [hs,Bool.false_and] at he
     rw [he]
     simp [h0,hlt,j2,j3,j4,l2,l3,l4,c1I,c1N,c2I,c2N,c3I,c3N]
   ·right
    have c2I : (24 : Int) < k.2.1.length := by omega
    have c2N : 24 < k.2.1.length := by omega
    have hs : smallI k = false := by simp [smallI,c2]
    rw [hs,Bool.false_and] at he
    rw [he]
    simp [h0,hlt,j2,j3,l2,l3,c1I,c1N,c2I,c2N]
  ·right
   have c1I : (40 : Int) < k.1.length := by omega
   have c1N : 40 < k.1.length := by omega
   have hs : smallI k = false := by simp [smallI,c1]
   rw [hs,Bool.false_and] at he
   rw [he]
   simp [h0,hlt,j2,l2,c1I,c1N]
 ·right
  have e : L.drop n = [] := List.drop_of_length_le (by omega)
  rw [e,List.all_nil] at he
  rw [he]
  simp [h0,hlt]
theorem Tryz.aFewP (L : List Iv) (hl : L.length ≤ 9223372036854775807) :
  ACallsTo Tryz.prog 27 [.slice 0 0 L.length none] [.cells false 3 (ivC L)] (.bool (fewB L)) [.cells false 3 (ivC L)] := by
 have hG : fnOf Tryz.prog 27 = some Tryz.f27 := by kernel_rfl
 obtain ⟨b,hb⟩ : ∃ b,loopsF Tryz.f27 = [b] := ⟨_,rfl⟩
 obtain ⟨K,hK⟩ : ∃ K,L.length < K := ⟨_,Nat.lt_succ_self _⟩
 obtain ⟨F,hF⟩ := Tryz.few_loop (O := noOracle) (K := K) L hl hK hb
 simp [loopsF,loopsC,Tryz.f27] at hb
 subst hb
 have h : callFn (tyOf Tryz.prog) (fun _ => [3]) (fnOf Tryz.prog) noOracle K 27 [.slice 0 0 L.length none] [.cells false 3 (ivC L)] = some ⟨.bool (fewB L),none,[]⟩ := by
  unfold fewB
  by_cases hc : L.all smallI = true
  ·rw [if_pos hc] at hF
   have hF1 := fun env0 d h => (hF env0 d h).1
   have hF2 := fun env0 d h => (hF env0 d h).2.2 hc
   clear hF
   rw [hc,Bool.true_and]
   by_cases h8 : L.length ≤ 8
   ·have h8I : (L.length : Int) ≤ 8 := by omega
    simp [callFn,hG,Tryz.f27,hF1,hF2,h8,h8I]
   ·have h8I : ¬ (L.length : Int) ≤ 8 := by omega
    by_cases h201 : L.length = 201
    ·have h201I : (L.length : Int) = 201 := by omega
     simp only [h201] at hF1 hF2 ⊢
     simp [callFn,hG,Tryz.f27,hF1,hF2]
    ·have h201I : ¬ (L.length : Int) = 201 := by omega
     simp [callFn,hG,Tryz.f27,hF1,hF2,h8,h8I,h201,h201I]
  ·have hc' : L.all smallI = false := by simpa using hc
   rw [if_neg hc] at hF
   have hF1 := fun env0 d h => (hF env0 d h).1
   have hF2 := fun env0 d h => (hF env0 d h).2.1 hc'
   clear hF
   rw [hc',Bool.false_and]
   simp [callFn,hG,Tryz.f27,hF1,hF2]
 have := (callFn_sound Tryz.mixed (tyOf_ok _) (noOracle_ok _) (fnOf_ok _) h).1
 simpa [CallRes.mem] using this
theorem Tryz.aFewNil (M : Mem) : ACallsTo Tryz.prog 27 [.nilslice] M (.bool true) M := by
 have hG : fnOf Tryz.prog 27 = some Tryz.f27 := by kernel_rfl
 refine Tryz.run (noOracle_ok _) (lv := fun _ => [3]) (K := 1) rfl rfl ?_ M
 simp [callFn,hG,Tryz.f27,execC_loop,iter]
theorem Tryz.aFewM {M : Mem} {x : AV} {L : List Iv} (hl : L.length ≤ 9223372036854775807) (hx : ivs M x = some L) : ACallsTo Tryz.prog 27 [x] M (.bool (fewB L)) M := by
 rcases ivs_some hx with h | ⟨rfl,rfl⟩
 ·exact ACallsTo.rows1R (ivC_closed L) rfl rfl (Tryz.aFewP L hl) h
 ·exact Tryz.aFewNil M
theorem ivs_append {M N : Mem} {x : AV} {L : List Iv} (h : ivs M x = some L) : ivs (M ++ N) x = some L := by
 rcases ivs_some h with ⟨b,o,cs,rfl,hb,ht⟩ | ⟨rfl,rfl⟩
 ·refine ivs_at (o := o) (cs := cs) ?_ rfl ?_
  ·rw [List.getElem?_append_left (List.getElem?_eq_some_iff.1 hb).1]; exact hb
  ·rw [ivC_length] at ht; exact ht
 ·rfl
theorem Tryz.aUnitE {M : Mem} {x : AV} {L : List Iv} (hx : ivs M x = some L) (hL : shortIv L) (hl : L.length ≤ 1000000000) (h0 : logR L ≠ 0) (s : List UInt8) :
  ACallsTo Tryz.prog 17 [x,.str s] M (.tuple [.str [],.bool false,.int .i64 (logR L)]) M := by
 have hG : fnOf Tryz.prog 17 = some Tryz.f17 := by kernel_rfl
 have sb := shortB_iff.2 hL
 have hN := fun N => ivs_append (N := N) hx
 have h : callFn (tyOf Tryz.prog) (fun _ => []) (fnOf Tryz.prog) Tryz.w6O 1 17 [x,.str s] M = some ⟨.tuple [.str [],.bool false,.int .i64 (logR L)],none,[]⟩ := by
  simp [callFn,hG,Tryz.f17,Tryz.w6O,hN,hx,sb,hl,h0]
 have := (callFn_sound Tryz.mixed (tyOf_ok _) Tryz.w6_ok (fnOf_ok _) h).1
 simpa [CallRes.mem] using this
theorem Tryz.aMergeE {M : Mem} {x : AV} {L : List Iv} (hx : ivs M x = some L) (hL : shortIv L) (hl : L.length ≤ 1000000000) (h0 : logR L ≠ 0) :
  ACallsTo Tryz.prog 20 [x] M (.tuple [.nilslice,.int .i64 (logR L)]) M := by
 have hG : fnOf Tryz.prog 20 = some Tryz.f20 := by kernel_rfl
 have sb := shortB_iff.2 hL
 have h : callFn (tyOf Tryz.prog) (fun _ => []) (fnOf Tryz.prog) Tryz.w6O 1 20 [x] M = some ⟨.tuple [.nilslice,.int .i64 (logR L)],none,[]⟩ := by
  simp [callFn,hG,Tryz.f20,Tryz.w6O,hx,sb,hl,h0]
 have := (callFn_sound Tryz.mixed (tyOf_ok _) Tryz.w6_ok (fnOf_ok _) h).1
 simpa [CallRes.mem] using this
theorem Tryz.aCutLE {M : Mem} {x : AV} {L : List Iv} (hx : ivs M x = some L) (hL : shortIv L) (hl : L.length ≤ 1000000000) (h0 : logR L ≠ 0) (s t : List UInt8) :
  ACallsTo Tryz.prog 21 [x,.str s,.str t] M (.tuple [.nilslice,.int .i64 (logR L)]) M := by
 have hG : fnOf Tryz.prog 21 = some Tryz.f21 := by kernel_rfl
 have sb := shortB_iff.2 hL
 have h : callFn (tyOf Tryz.prog) (fun _ => [9,33]) (fnOf Tryz.prog) Tryz.w6O 1 21 [x,.str s,.str t] M = some ⟨.tuple [.nilslice,.int .i64 (logR L)],none,[]⟩ := by
  simp [callFn,hG,Tryz.f21,Tryz.w6O,hx,sb,hl,h0]
 have := (callFn_sound Tryz.mixed (tyOf_ok _) Tryz.w6_ok (fnOf_ok _) h).1
 simpa [CallRes.mem] using this
theorem Tryz.aThickE {M : Mem} {x : AV} {L : List Iv} (hx : ivs M x = some L) (hL : shortIv L) (hl : L.length ≤ 1000000000) (h0 : logR L ≠ 0) (s : List UInt8) :
  ACallsTo Tryz.prog 18 [x,.str s] M (.tuple [.str [],.int .i64 (logR L)]) M := by
 have hG : fnOf Tryz.prog 18 = some Tryz.f18 := by kernel_rfl
 have sb := shortB_iff.2 hL
 have h : callFn (tyOf Tryz.prog) (fun _ => [7,17]) (fnOf Tryz.prog) Tryz.w6O 1 18 [x,.str s] M = some ⟨.tuple [.str [],.int .i64 (logR L)],none,[]⟩ := by
  simp [callFn,hG,Tryz.f18,Tryz.w6O,hx,sb,hl,h0]
 have := (callFn_sound Tryz.mixed (tyOf_ok _) Tryz.w6_ok (fnOf_ok _) h).1
 simpa [CallRes.mem] using this
theorem Tryz.aTopsE {M : Mem} {x : AV} {L : List Iv} (hx : ivs M x = some L) (hL : shortIv L) (hl : L.length ≤ 1000000000) (h0 : logR L ≠ 0) :
  ACallsTo Tryz.prog 10 [x] M (.tuple [.nilslice,.nilslice,.int .i64 (logR L)]) M := by
 have hG : fnOf Tryz.prog 10 = some Tryz.f10 := by kernel_rfl
 have sb := shortB_iff.2 hL
 have h : callFn (tyOf Tryz.prog) (fun _ => []) (fnOf Tryz.prog) Tryz.w6O 1 10 [x] M = some ⟨.tuple [.nilslice,.nilslice,.int .i64 (logR L)],none,[]⟩ := by
  simp [callFn,hG,Tryz.f10,Tryz.w6O,hx,sb,hl,h0]
 have := (callFn_sound Tryz.mixed (tyOf_ok _) Tryz.w6_ok (fnOf_ok _) h).1
 simpa [CallRes.mem] using this
noncomputable def Tryz.cbO : Oracle := fun c args M => match c,args with
 | .fn 38,[x,y] => match ivs M x,ivs M y with
  | some A,some B => if shortB A = true ∧ shortB B = true ∧ A.length ≤ 1000000000 ∧ B.length ≤ 1000000000 then some ⟨.int .i64 (bothR A B),none,[]⟩ else none
  | _,_ => none
 | _,_ => none
theorem Tryz.cbO_ok : OracleOk Tryz.prog Tryz.cbO := by
 refine oracleOk_of fun c args M r h => ?_
 unfold Tryz.cbO at h
 split at h
 ·split at h
  ·rename_i A B hA hB
   split at h
   ·rename_i hc
    cases h
    refine soundAt_call ?_
    rw [List.append_nil]
    exact Tryz.aCheckBoth hA hB (shortB_iff.1 hc.1) (shortB_iff.1 hc.2.1) hc.2.2.1 hc.2.2.2
   ·cases h
  ·cases h
 ·cases h
theorem Tryz.aCompareE {M : Mem} {x y : AV} {A B : List Iv} (hx : ivs M x = some A) (hy : ivs M y = some B) (sA : shortIv A) (sB : shortIv B) (lA : A.length ≤ 1000000000) (lB : B.length ≤ 1000000000) (h0 : bothR A B ≠ 0) :
  ACallsTo Tryz.prog 11 [x,y] M (.tuple [.nilslice,.int .i64 (bothR A B)]) M := by
 have hG : fnOf Tryz.prog 11 = some Tryz.f11 := by kernel_rfl
 have tA := shortB_iff.2 sA
 have tB := shortB_iff.2 sB
 have h : callFn (tyOf Tryz.prog) (fun _ => []) (fnOf Tryz.prog) Tryz.cbO 1 11 [x,y] M = some ⟨.tuple [.nilslice,.int .i64 (bothR A B)],none,[]⟩ := by
  simp [callFn,hG,Tryz.f11,Tryz.cbO,hx,hy,tA,tB,lA,lB,h0]
 have := (callFn_sound Tryz.mixed (tyOf_ok _) Tryz.cbO_ok (fnOf_ok _) h).1
 simpa [CallRes.mem] using this
theorem Tryz.aAgreeE {M : Mem} {x y : AV} {A B : List Iv} (hx : ivs M x = some A) (hy : ivs M y = some B) (sA : shortIv A) (sB : shortIv B) (lA : A.length ≤ 1000000000) (lB : B.length ≤ 1000000000) (h0 : bothR A B ≠ 0) :
  ACallsTo Tryz.prog 12 [x,y] M (.tuple [.str [],.int .i64 (bothR A B)]) M := by
 have hG : fnOf Tryz.prog 12 = some Tryz.f12 := by kernel_rfl
 have tA := shortB_iff.2 sA
 have tB := shortB_iff.2 sB
 have h : callFn (tyOf Tryz.prog) (fun _ => []) (fnOf Tryz.prog) Tryz.cbO 1 12 [x,y] M = some ⟨.tuple [.str [],.int .i64 (bothR A B)],none,[]⟩ := by
  simp [callFn,hG,Tryz.f12,Tryz.cbO,hx,hy,tA,tB,lA,lB,h0]
 have := (callFn_sound Tryz.mixed (tyOf_ok _) Tryz.cbO_ok (fnOf_ok _) h).1
 simpa [CallRes.mem] using this
noncomputable def Tryz.ckO : Oracle := fun c args M => match c,args with
 | .fn 8,[] => some ⟨.bool true,none,[]⟩
 | .fn 27,[x] => match ivs M x with
  | some L => if L.length ≤ 9223372036854775807 then some ⟨.bool (fewB L),none,[]⟩ else none
  | none => none
 | .fn 28,[x] => match ivs M x with
  | some L => if shortB L = true ∧ L.length ≤ 1000000000 then some ⟨.int .i64 (logR L),none,[]⟩ else none
  | none => none
 | .fn 29,[x] => match ivs M x with
  | some L => if shortB L = true ∧ L.length ≤ 1000000000 then some ⟨.int .i64 (logR L),none,[]⟩ else none
  | none => none
 | .fn 17,[x,.str _] => match ivs M x with
  | some L => if shortB L = true ∧ L.length ≤ 1000000000 ∧ logR L ≠ 0 then some ⟨.tuple [.str [],.bool false,.int .i64 (logR L)],none,[]⟩ else none
  | none => none
 | .fn 20,[x] => match ivs M x with
  | some L => if shortB L = true ∧ L.length ≤ 1000000000 ∧ logR L ≠ 0 then some ⟨.tuple [.nilslice,.int .i64 (logR L)],none,[]⟩ else none
  | none => none
 | .fn 21,[x,.str _,.str _] => match ivs M x with
  | some L => if shortB L = true ∧ L.length ≤ 1000000000 ∧ logR L ≠ 0 then some ⟨.tuple [.nilslice,.int .i64 (logR L)],none,[]⟩ else none
  | none => none
 | .fn 18,[x,.str _] => match ivs M x with
  | some L => if shortB L = true ∧ L.length ≤ 1000000000 ∧ logR L ≠ 0 then some ⟨.tuple [.str [],.int .i64 (logR L)],none,[]⟩ else none
  | none => none
 | .fn 10,[x] => match ivs M x with
  | some L => if shortB L = true ∧ L.length ≤ 1000000000 ∧ logR L ≠ 0 then some ⟨.tuple [.nilslice,.nilslice,.int .i64 (logR L)],none,[]⟩ else none
  | none => none
 | .fn 11,[x,y] => match ivs M x,ivs M y with
  | some A,some B => if shortB A = true ∧ shortB B = true ∧ A.length ≤ 1000000000 ∧ B.length ≤ 1000000000 ∧ bothR A B ≠ 0 then some ⟨.tuple [.nilslice,.int .i64 (bothR A B)],none,[]⟩ else none
  | _,_ => none
 | .fn 12,[x,y] => match ivs M x,ivs M y with
  | some A,some B => if shortB A = true ∧ shortB B = true ∧ A.length ≤ 1000000000 ∧ B.length ≤ 1000000000 ∧ bothR A B ≠ 0 then some ⟨.tuple [.str [],.int .i64 (bothR A B)],none,[]⟩ else none
  | _,_ => none
 | _,_ => none
theorem Tryz.ckO_ok : OracleOk Tryz.prog Tryz.ckO := by
 refine oracleOk_of fun c args M r h => ?_
 unfold Tryz.ckO at h
 split at h
 ·cases h; exact soundAt_call (by rw [List.append_nil]; exact Tryz.aKnown M)
 ·split at h
  ·rename_i L hx
   split at h
   ·rename_i hc; cases h; exact soundAt_call (by rw [List.append_nil]; exact Tryz.aFewM hc hx)
   ·cases h
  ·cases h
 ·split at h
  ·rename_i L hx
   split at h
   ·rename_i hc; cases h; exact soundAt_call (by rw [List.append_nil]; exact Tryz.aLCheckM (shortB_iff.1 hc.1) hc.2 hx)
   ·cases h
  ·cases h
 ·split at h
  ·rename_i L hx
   split at h
   ·rename_i hc; cases h; exact soundAt_call (by rw [List.append_nil]; exact Tryz.aLogM (shortB_iff.1 hc.1) hc.2 hx)
   ·cases h
  ·cases h
 ·split at h
  ·rename_i L hx
   split at h
   ·rename_i hc; cases h; exact soundAt_call (by rw [List.append_nil]; exact Tryz.aUnitE hx (shortB_iff.1 hc.1) hc.2.1 hc.2.2 _)
   ·cases h
  ·cases h
 ·split at h
  ·rename_i L hx
   split at h
   ·rename_i hc; cases h; exact soundAt_call (by rw [List.append_nil]; exact Tryz.aMergeE hx (shortB_iff.1 hc.1) hc.2.1 hc.2.2)
   ·cases h
  ·cases h
 ·split at h
  ·rename_i L hx
   split at h
   ·rename_i hc; cases h; exact soundAt_call (by rw [List.append_nil]; exact Tryz.aCutLE hx (shortB_iff.1 hc.1) hc.2.1 hc.2.2 _ _)
   ·cases h
  ·cases h
 ·split at h
  ·rename_i L hx
   split at h
   ·rename_i hc; cases h; exact soundAt_call (by rw [List.append_nil]; exact Tryz.aThickE hx (shortB_iff.1 hc.1) hc.2.1 hc.2.2 _)
   ·cases h
  ·cases h
 ·split at h
  ·rename_i L hx
   split at h
   ·rename_i hc; cases h; exact soundAt_call (by rw [List.append_nil]; exact Tryz.aTopsE hx (shortB_iff.1 hc.1) hc.2.1 hc.2.2)
   ·cases h
  ·cases h
 ·split at h
  ·rename_i A B hx hy
   split at h
   ·rename_i hc; cases h; exact soundAt_call (by rw [List.append_nil]; exact Tryz.aCompareE hx hy (shortB_iff.1 hc.1) (shortB_iff.1 hc.2.1) hc.2.2.1 hc.2.2.2.1 hc.2.2.2.2)
   ·cases h
  ·cases h
 ·split at h
  ·rename_i A B hx hy
   split at h
   ·rename_i hc; cases h; exact soundAt_call (by rw [List.append_nil]; exact Tryz.aAgreeE hx hy (shortB_iff.1 hc.1) (shortB_iff.1 hc.2.1) hc.2.2.1 hc.2.2.2.1 hc.2.2.2.2)
   ·cases h
  ·cases h
 ·cases h
theorem few_short {L : List Iv} (h : fewB L = true) : shortIv L ∧ (L.length ≤ 8 ∨ L.length = 201) := by
 unfold fewB at h
 rw [Bool.and_eq_true,List.all_eq_true] at h
 refine ⟨fun x hx => ?_,by simpa using h.2⟩
 have := h.1 x hx
 simp only [smallI,Bool.and_eq_true,decide_eq_true_eq] at this
 exact ⟨by omega,by omega,by omega⟩
theorem logR_len {L : List Iv} (h : logR L = 0) : L.length ≤ 200 := by
 unfold logR at h
 split at h
 ·cases h
 ·omega
theorem Tryz.aAgreeF (p q : Bool) (A B : List Iv) (hp : rowOk p A) (hq : rowOk q B) (h0 : bothR A B = 0) (sA : shortIv A) (sB : shortIv B) (lAB : (A ++ B).length ≤ 40) (r : Mem) :
  ACallsTo Tryz.prog 12 [rowV p 0 A,rowV q 1 B] (rowS p A :: rowS q B :: r) (agRes (agSt A B)) (rowS p A :: rowS q B :: r) := by
 have hv : (agRes (agSt A B)).closed = true := by unfold agRes; split <;> rfl
 have hu : AV.unders ([0,1] : List Nat).length [rowV p 0 A,rowV q 1 B] = true := by cases p <;> cases q <;> simp [rowV,AV.unders,AV.under]
 have key := ACallsTo.frame (M := rowS p A :: rowS q B :: r) (args := [rowV p 0 A,rowV q 1 B]) [0,1] (m := [rowS p A,rowS q B]) (new := []) rfl (by simp) hu
  (fun i s hs => by
   match i,hs with
   | 0,hs => cases hs; exact rowS_sub rfl
   | 1,hs => cases hs; exact rowS_sub rfl
   | i + 2,hs => simp at hs) (by simp) (by rw [List.append_nil]; exact Tryz.aAgreeR2 p q A B hp hq h0 sA sB lAB)
 rw [ren_closed_back _ _ hv] at key
 have e : AV.rens (back [0,1] (rowS p A :: rowS q B :: r).length) [rowV p 0 A,rowV q 1 B] = [rowV p 0 A,rowV q 1 B] := by cases p <;> cases q <;> simp [rowV,AV.rens,AV.ren,back]
 rw [e] at key
 simpa using key
set_option maxRecDepth 8192 in
set_option maxHeartbeats 6400000 in
theorem Tryz.aWelllogChecks (p q : Bool) (A B : List Iv) (hp : rowOk p A) (hq : rowOk q B) (lA : A.length ≤ 9223372036854775807) (lB : B.length ≤ 9223372036854775807) :
  ACallsTo Tryz.prog 7 [rowV p 0 A,rowV q 1 B] [rowS p A,rowS q B] (.bool true) [rowS p A,rowS q B] := by
 have hG : fnOf Tryz.prog 7 = some Tryz.f7 := by kernel_rfl
 have i0 := fun r => ivs_row0 hp r
 have i1 := fun s r => ivs_row1 hq s r
 obtain ⟨na,hna⟩ : ∃ n,n = A.length := ⟨_,rfl⟩
 obtain ⟨nb,hnb⟩ : ∃ n,n = B.length := ⟨_,rfl⟩
 cases hfa : fewB A with
 | false =>
  have h : callFn (tyOf Tryz.prog) (fun _ => []) (fnOf Tryz.prog) Tryz.ckO 1 7 [rowV p 0 A,rowV q 1 B] [rowS p A,rowS q B] = some ⟨.bool true,none,[]⟩ := by
   simp [callFn,hG,Tryz.f7,Tryz.ckO,i0,i1,lA,hfa]
  have := (callFn_sound Tryz.mixed (tyOf_ok _) Tryz.ckO_ok (fnOf_ok _) h).1
  simpa [CallRes.mem] using this
 | true =>
  cases hfb : fewB B with
  | false =>
   have h : callFn (tyOf Tryz.prog) (fun _ => []) (fnOf Tryz.prog) Tryz.ckO 1 7 [rowV p 0 A,rowV q 1 B] [rowS p A,rowS q B] = some ⟨.bool true,none,[]⟩ := by
    simp [callFn,hG,Tryz.f7,Tryz.ckO,i0,i1,lA,lB,hfa,hfb]
   have := (callFn_sound Tryz.mixed (tyOf_ok _) Tryz.ckO_ok (fnOf_ok _) h).1
   simpa [CallRes.mem] using this
  | true =>
   obtain ⟨sA,nA⟩ := few_short hfa
   obtain ⟨sB,nB⟩ := few_short hfb
   have tA := shortB_iff.2 sA
   have tB := shortB_iff.2 sB
   have mA : A.length ≤ 1000000000 := by omega
   have mB : B.length ≤ 1000000000 := by omega
   by_cases hb : bothR A B = 0
   ·obtain ⟨a0,b0⟩ := bothR_zero hb
    have gA := logR_len a0
    have gB := logR_len b0
    have k1 := Tryz.aCompareR2 p q A B hp hq hb sA sB (by omega) (by omega)
    have k2 := Tryz.aAgreeF p q A B hp hq hb sA sB (by rw [List.length_append]; omega) (ocE (cmSt A B))
    obtain ⟨st,hst⟩ : ∃ st,st = cmSt A B := ⟨_,rfl⟩
    rw [← hst] at k1 k2
    obtain ⟨v,w,hvw⟩ : ∃ v w,agRes (agSt A B) = .tuple [.str v,.int .i64 w] := by
     unfold agRes; split
     ·exact ⟨_,_,rfl⟩
     ·exact ⟨_,_,rfl⟩
    rw [hvw] at k2
    have k2' : ACallsTo Tryz.prog 12 [rowV p 0 A,rowV q 1 B] (rowS p A :: rowS q B :: ocE st) (.tuple [.str v,.int .i64 w]) ((rowS p A :: rowS q B :: ocE st) ++ []) := by rw [List.append_nil]; exact k2
    have hO := (oneO_ok k1).or ((oneO_ok k2').or Tryz.ckO_ok)
    obtain ⟨O,hOd⟩ : ∃ O,O = Oracle.or (oneO 11 [rowV p 0 A,rowV q 1 B] [rowS p A,rowS q B] ⟨.tuple [ocV 2 st,.int .i64 0],none,ocE st⟩) (Oracle.or (oneO 12 [rowV p 0 A,rowV q 1 B] (rowS p A :: rowS q B :: ocE st) ⟨.tuple [.str v,.int .i64 w],none,[]⟩) Tryz.ckO) := ⟨_,rfl⟩
    rw [← hOd] at hO
    have o1 : O (.fn 11) [rowV p 0 A,rowV q 1 B] [rowS p A,rowS q B] = some ⟨.tuple [ocV 2 st,.int .i64 0],none,ocE st⟩ := by rw [hOd]; simp [Oracle.or,oneO_at]
    have o2 : O (.fn 12) [rowV p 0 A,rowV q 1 B] (rowS p A :: rowS q B :: ocE st) = some ⟨.tuple [.str v,.int .i64 w],none,[]⟩ := by rw [hOd]; simp [Oracle.or,oneO_at,oneO_ne]
    have o3 : ∀ M,O (.fn 8) [] M = some ⟨.bool true,none,[]⟩ := fun M => by rw [hOd]; simp [Oracle.or,oneO_ne,Tryz.ckO]
    have o4 : ∀ r,O (.fn 27) [rowV p 0 A] (rowS p A :: r) = some ⟨.bool true,none,[]⟩ := fun r => by rw [hOd]; simp [Oracle.or,oneO_ne,Tryz.ckO,i0,lA,hfa]
    have o5 : ∀ s r,O (.fn 27) [rowV q 1 B] (s :: rowS q B :: r) = some ⟨.bool true,none,[]⟩ := fun s r => by rw [hOd]; simp [Oracle.or,oneO_ne,Tryz.ckO,i1,lB,hfb]
    have o6 : ∀ r,O (.fn 28) [rowV p 0 A] (rowS p A :: r) = some ⟨.int .i64 0,none,[]⟩ := fun r => by rw [hOd]; simp [Oracle.or,oneO_ne,Tryz.ckO,i0,tA,mA,a0]
    have o7 : ∀ s r,O (.fn 28) [rowV q 1 B] (s :: rowS q B :: r) = some ⟨.int .i64 0,none,[]⟩ := fun s r => by rw [hOd]; simp [Oracle.or,oneO_ne,Tryz.ckO,i1,tB,mB,b0]
    have o8 : ∀ r,O (.fn 29) [rowV p 0 A] (rowS p A :: r) = some ⟨.int .i64 0,none,[]⟩ := fun r => by rw [hOd]; simp [Oracle.or,oneO_ne,Tryz.ckO,i0,tA,mA,a0]
    clear hOd k1 k2 k2'
    have h : callFn (tyOf Tryz.prog) (fun _ => []) (fnOf Tryz.prog) O 1 7 [rowV p 0 A,rowV q 1 B] [rowS p A,rowS q B] = some ⟨.bool true,none,[]⟩ := by
     simp [callFn,hG,Tryz.f7,o1,o2,o3,o4,o5,o6,o7,o8]
    have := (callFn_sound Tryz.mixed (tyOf_ok _) hO (fnOf_ok _) h).1
    simpa [CallRes.mem] using this
   ·by_cases ha : logR A = 0
    ·have hbe : bothR A B = logR B := by unfold bothR; rw [if_neg (by simpa using ha)]
     have hb' : logR B ≠ 0 := by rw [← hbe]; exact hb
     have h : callFn (tyOf Tryz.prog) (fun _ => []) (fnOf Tryz.prog) Tryz.ckO 1 7 [rowV p 0 A,rowV q 1 B] [rowS p A,rowS q B] = some ⟨.bool true,none,[]⟩ := by
      simp [callFn,hG,Tryz.f7,Tryz.ckO,i0,i1,lA,lB,hfa,hfb,tA,tB,mA,mB,ha,hb',hbe]
     have := (callFn_sound Tryz.mixed (tyOf_ok _) Tryz.ckO_ok (fnOf_ok _) h).1
     simpa [CallRes.mem] using this
    ·have hbe : bothR A B = logR A := by unfold bothR; rw [if_pos ha]
     have w0 : IntKind.i64.wrap 0 = 0 := rfl
     have h : callFn (tyOf Tryz.prog) (fun _ => []) (fnOf Tryz.prog) Tryz.ckO 1 7 [rowV p 0 A,rowV q 1 B] [rowS p A,rowS q B] = some ⟨.bool true,none,[]⟩ := by
      simp [callFn,hG,Tryz.f7,Tryz.ckO,i0,i1,lA,lB,hfa,hfb,tA,tB,mA,mB,ha,hbe,w0]
     have := (callFn_sound Tryz.mixed (tyOf_ok _) Tryz.ckO_ok (fnOf_ok _) h).1
     simpa [CallRes.mem] using this
end Go.Proofs
