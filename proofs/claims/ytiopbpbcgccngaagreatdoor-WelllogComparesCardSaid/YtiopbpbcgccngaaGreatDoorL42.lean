/- See L55. -/
import Derived.Test.YtiopbpbcgccngaaGreatDoorL36
import Derived.Test.YtiopbpbcgccngaaGreatDoorL35
import Derived.Test.YtiopbpbcgccngaaGreatDoorL38
import Derived.Test.YtiopbpbcgccngaaGreatDoorL10
set_option linter.all false
namespace Go.Proofs
open Go.Eng
theorem Tryz.aMakeP (B : List Bit) (hB : ∀ b ∈ B,okBit b) (hl : B.length ≤ 8) :
  ACallsTo Tryz.prog 9 [.slice 0 0 B.length none] [.cells false 3 (btC B)] (mkO (mkL 0 B)) (mkM B (mkL 0 B)) := by
 have hG : fnOf Tryz.prog 9 = some Tryz.f9 := by kernel_rfl
 obtain ⟨b,hb⟩ : ∃ b,loopsF Tryz.f9 = [b] := ⟨_,rfl⟩
 obtain ⟨F,hF⟩ := Tryz.make_loop (K := B.length + 1) B hB hl (by omega) hb
 simp [loopsF,loopsC,Tryz.f9] at hb
 subst hb
 have hF1 := fun env0 d h => (hF env0 d h).1
 have hF2 := fun env0 d h => (hF env0 d h).2
 clear hF
 obtain ⟨L,hL⟩ : ∃ L,L = mkL 0 B := ⟨_,rfl⟩
 rw [← hL] at hF1 hF2 ⊢
 cases L with
 | nil =>
  have h : callFn (tyOf Tryz.prog) (fun _ => [3,4,5]) (fnOf Tryz.prog) (pureO Tryz.w9F) (B.length + 1) 9 [.slice 0 0 B.length none] [.cells false 3 (btC B)] = some ⟨.nilslice,none,[]⟩ := by
   simp [callFn,hG,Tryz.f9,hF1,hF2,mkM,mkO]
  have := (callFn_sound Tryz.mixed (tyOf_ok _) Tryz.w9_ok (fnOf_ok _) h).1
  simpa [CallRes.mem,mkM,mkO] using this
 | cons a L =>
  have h : callFn (tyOf Tryz.prog) (fun _ => [3,4,5]) (fnOf Tryz.prog) (pureO Tryz.w9F) (B.length + 1) 9 [.slice 0 0 B.length none] [.cells false 3 (btC B)] = some ⟨.slice 1 0 (L.length + 1) none,none,[.cells true 3 (ivC (a :: L))]⟩ := by
   obtain ⟨C,hC⟩ : ∃ C,C = ivC (a :: L) := ⟨_,rfl⟩
   have hC1 : ∀ f,AV.rens f C = C := fun f => by rw [hC]; exact ivC_ren f _
   have hC2 : ∀ n,AV.refsL n C = [] := fun n => by rw [hC]; exact ivC_refs n _
   simp only [mkM,mkO,← hC] at hF1 hF2 ⊢
   simp [callFn,hG,Tryz.f9,hF1,hF2,hC1,hC2]
  have := (callFn_sound Tryz.mixed (tyOf_ok _) Tryz.w9_ok (fnOf_ok _) h).1
  simpa [CallRes.mem,mkM,mkO] using this
theorem Tryz.aMakeNil (M : Mem) : ACallsTo Tryz.prog 9 [.nilslice] M .nilslice M := by
 have hG : fnOf Tryz.prog 9 = some Tryz.f9 := by kernel_rfl
 refine Tryz.run (noOracle_ok _) (lv := fun _ => [3,4,5]) (K := 1) rfl rfl ?_ M
 simp [callFn,hG,Tryz.f9,execC_loop,iter]
end Go.Proofs
namespace Go.Eng
open Classical in
noncomputable def oneO (f : FuncId) (args : List AV) (m : Mem) (r : CallRes) : Oracle := fun c a M => if c = .fn f ∧ a = args ∧ M = m then some r else none
theorem oneO_at (f : FuncId) (args : List AV) (m : Mem) (r : CallRes) : oneO f args m r (.fn f) args m = some r := by simp [oneO]
theorem oneO_ne {f g : FuncId} (h : g ≠ f) (args a : List AV) (m M : Mem) (r : CallRes) : oneO f args m r (.fn g) a M = none := by simp [oneO,h]
theorem oneO_ok {P : Program} {f : FuncId} {args : List AV} {m new : Mem} {v : AV} (h : ACallsTo P f args m v (m ++ new)) : OracleOk P (oneO f args m ⟨v,none,new⟩) := by
 refine oracleOk_of fun c a M r hr => ?_
 unfold oneO at hr
 split at hr
 ·rename_i hc
  obtain ⟨rfl,rfl,rfl⟩ := hc
  cases hr
  exact soundAt_call h
 ·cases hr
end Go.Eng
