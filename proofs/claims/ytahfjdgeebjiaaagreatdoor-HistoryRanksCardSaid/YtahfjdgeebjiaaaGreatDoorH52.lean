/- See H55. -/
import Derived.Test.YtahfjdgeebjiaaaGreatDoorH50
import Derived.Test.YtahfjdgeebjiaaaGreatDoorH49
import Derived.Test.YtahfjdgeebjiaaaGreatDoorH51
set_option linter.all false
namespace Go.Proofs
open Go.Eng
def planV (s : Sheet) (a : AV) : AV := .agg [.int .u8 s.kind,.int .i8 s.sx,.int .i8 s.sy,.bool s.half,a]
theorem Tryz.aFits (s : Sheet) (a : AV) (n : Nat) (ha : a = .nilslice ∧ n = 0 ∨ a = .slice 0 0 n none) (M : Mem) : ACallsTo Tryz.prog 7 [planV s a] M (.bool (decide (n ≤ 3))) M := by
 have hG : fnOf Tryz.prog 7 = some Tryz.f7 := by kernel_rfl
 have h : callFn (tyOf Tryz.prog) (fun _ => []) (fnOf Tryz.prog) noOracle 1 7 [planV s a] M = some ⟨.bool (decide (n ≤ 3)),none,[]⟩ := by
  rcases ha with ⟨rfl,rfl⟩ | rfl
  ·simp [callFn,hG,Tryz.f7,planV]
  ·have e : decide ((n : Int) ≤ 3) = decide (n ≤ 3) := by rw [decide_eq_decide]; omega
   simp [callFn,hG,Tryz.f7,planV]
   omega
 have := (callFn_sound Tryz.mixed (tyOf_ok _) (noOracle_ok _) (fnOf_ok _) h).1
 simpa [CallRes.mem] using this
section
variable {s : Sheet} {p t q : Nat} {evs : List (List AV)} {us : List (List (List UInt8))} {M : Mem}
set_option maxRecDepth 8192 in
set_option maxHeartbeats 4000000 in
theorem Tryz.hr_loop {O : Oracle} (H : Tryz.HstAt s p t q evs us M) {K m0 : Nat} (hK : 5 < K) (hm : m0 ≤ M.length) (u : List UInt8)
  (hOU : ∀ (i : Nat) ev U,evs[i]? = some ev → us[i]? = some U → ∀ X,∃ v nw,O (.fn 15) [.agg ev] (M ++ X) = some ⟨v,none,nw⟩ ∧ ∀ ext,sts (M ++ (X ++ (nw ++ ext))) v = some U)
  (hOI : ∀ N w L,sts N w = some L → L.length ≤ 1000000000 → O (.fn 13) [w,.str u] N = some ⟨.int .i64 (idxS u 0 L),none,[]⟩)
  {b : Code} (hb : loopsF Tryz.f3 = [b]) (X0 : Mem) :
  ∃ F : Env → Bool → Env × Mem × Nat,∀ env0 d,(Eng.look env0 1 = .str u ∧ Eng.look env0 88 = evV q evs.length ∧ Eng.look env0 89 = .int .i64 evs.length ∧ Eng.look env0 90 = .int .i64 0 ∧ Eng.look env0 15 = .int .i64 (-1) ∧ Eng.look env0 16 = .int .i64 0) →
   execC (tyOf Tryz.prog) (fun _ => [90,90,90,15,16]) O K 125 m0 true (.loop b) ⟨env0,M ++ X0,d⟩ = some (.exit 0,⟨(F env0 d).1,(F env0 d).2.1,d⟩) ∧
    (Eng.look (F env0 d).1 15 = .int .i64 (lawV u 0 (-1,0) us).1 ∧ Eng.look (F env0 d).1 16 = .int .i64 (lawV u 0 (-1,0) us).2 ∧ Eng.look (F env0 d).1 8 = Eng.look env0 8 ∧ Eng.look (F env0 d).1 9 = Eng.look env0 9 ∧ Eng.look (F env0 d).1 10 = Eng.look env0 10 ∧ Eng.look (F env0 d).1 11 = Eng.look env0 11 ∧ Eng.look (F env0 d).1 12 = Eng.look env0 12 ∧ Eng.look (F env0 d).1 14 = Eng.look env0 14) := by
 refine loop_rule_m rfl (fun env0 => Eng.look env0 1 = .str u ∧ Eng.look env0 88 = evV q evs.length ∧ Eng.look env0 89 = .int .i64 evs.length ∧ Eng.look env0 90 = .int .i64 0 ∧ Eng.look env0 15 = .int .i64 (-1) ∧ Eng.look env0 16 = .int .i64 0)
  (fun env0 env' _ _ => Eng.look env' 15 = .int .i64 (lawV u 0 (-1,0) us).1 ∧ Eng.look env' 16 = .int .i64 (lawV u 0 (-1,0) us).2 ∧ Eng.look env' 8 = Eng.look env0 8 ∧ Eng.look env' 9 = Eng.look env0 9 ∧ Eng.look env' 10 = Eng.look env0 10 ∧ Eng.look env' 11 = Eng.look env0 11 ∧ Eng.look env' 12 = Eng.look env0 12 ∧ Eng.look env' 14 = Eng.look env0 14) ?_
 rintro env0 d ⟨h1,h88,h89,h90,h15,h16⟩
 simp [loopsF,loopsC,Tryz.f3] at hb
 have hn : normE [90,90,90,15,16] (writesC b) env0 ((15,.int .i64 (-1)) :: (16,.int .i64 0) :: (90,.int .i64 ((0 : Nat) : Int)) :: env0) = normE [90,90,90,15,16] (writesC b) env0 env0 := by simp [normE,h90,h15,h16]
 rw [← hn]
 have := H.small
 refine iter_ind_m (α := Mem × Nat × Int × Int) (fun a => ⟨normE [90,90,90,15,16] (writesC b) env0 ((15,.int .i64 a.2.2.1) :: (16,.int .i64 a.2.2.2) :: (90,.int .i64 (a.2.1 : Int)) :: env0),M ++ a.1,d⟩) (fun a => evs.length - a.2.1)
  (fun a => a.2.1 ≤ evs.length ∧ lawV u a.2.1 a.2.2 (us.drop a.2.1) = lawV u 0 (-1,0) us) (.exit 0) d (fun env' _ => ∃ _ : Nat,Eng.look env' 15 = .int .i64 (lawV u 0 (-1,0) us).1 ∧ Eng.look env' 16 = .int .i64 (lawV u 0 (-1,0) us).2 ∧ Eng.look env' 8 = Eng.look env0 8 ∧ Eng.look env' 9 = Eng.look env0 9 ∧ Eng.look env' 10 = Eng.look env0 10 ∧ Eng.look env' 11 = Eng.look env0 11 ∧ Eng.look env' 12 = Eng.look env0 12 ∧ Eng.look env' 14 = Eng.look env0 14) (by simp) ?_ K (X0,0,-1,0) ⟨by simp,by simp⟩ (by simp only; omega)
 rintro ⟨X,i,r1,r2⟩ ⟨hi,hS⟩
 simp only at hi hS
 clear hn
 by_cases hlt : i < evs.length
 ·obtain ⟨ev,hev⟩ : ∃ ev,evs[i]? = some ev := ⟨_,List.getElem?_eq_getElem hlt⟩
  have hlt' : i < us.length := by rw [H.len]; exact hlt
  obtain ⟨U,hU⟩ : ∃ U,us[i]? = some U := ⟨_,List.getElem?_eq_getElem hlt'⟩
  have hdr : us.drop i = U :: us.drop (i + 1) := by
   rw [List.drop_eq_getElem_cons hlt']
   rw [List.getElem?_eq_getElem hlt'] at hU
   rw [Option.some.inj hU]
  rw [hdr,lawV] at hS
  have hmem := List.mem_of_getElem? hev
  have hne : evs ≠ [] := by rintro rfl; simp at hlt
  obtain ⟨o,hq⟩ := H.hq hne
  have lq := (List.getElem?_eq_some_iff.1 hq).1
  have hq' : ∀ X,(M ++ X)[q]? = some (.cells o 32 evs.flatten) := fun X => by rw [List.getElem?_append_left lq]; exact hq
  obtain ⟨hr1,hr2⟩ := H.row hev
  obtain ⟨R,hR⟩ : ∃ R,R = evs.flatten := ⟨_,rfl⟩
  rw [← hR] at hr1 hr2
  simp only [← hR] at hq'
  have l32 := H.l32 _ hmem
  have gck : (∀ x : AV,x ∈ ev → x.cellOk = true) = True := eq_true (H.cok _ hmem)
  have t32 : List.take 32 ev = ev := List.take_of_length_le (by omega)
  obtain ⟨v,nw,hO,hs⟩ := hOU i ev U hev hU (X ++ [.cells true 0 ev])
  have hI := hOI (M ++ (X ++ (.cells true 0 ev :: nw))) v U (by simpa using hs []) (by have := H.ulen U (List.mem_of_getElem? hU); omega)
  have evv : evV q evs.length = .slice q 0 evs.length none := by unfold evV; rw [if_neg (by omega)]
  rw [evv] at h88
  have w1 : IntKind.i64.wrap ((i : Int) + 1) = ((i + 1 : Nat) : Int) := by rw [wrap_i64 (by omega) (by omega)]; omega
  have hjl : ∀ j,(M.length + j < m0) = False := fun j => by rw [eq_iff_iff,iff_false]; omega
  clear hs hR hq hOU hOI
  left
  by_cases hc : 0 ≤ idxS u 0 U
  ·rw [if_pos hc] at hS
   refine ⟨(X ++ (.cells true 0 ev :: nw),i + 1,i,idxS u 0 U),?_⟩
   refine exists_and_fin (show (i + 1 ≤ evs.length ∧ lawV u (i + 1) ((i : Int),idxS u 0 U) (us.drop (i + 1)) = lawV u 0 (-1,0) us) ∧ evs.length - (i + 1) < evs.length - i from ⟨⟨by omega,hS⟩,by omega⟩) ?_
   subst hb
   simp [-AV.cellOk,h1,h88,h89,hlt,hq',hr1,hr2,l32,gck,t32,hO,hI,w1,hjl,hc]
   done
  ·rw [if_neg hc] at hS
   refine ⟨(X ++ (.cells true 0 ev :: nw),i + 1,r1,r2),?_⟩
   refine exists_and_fin (show (i + 1 ≤ evs.length ∧ lawV u (i + 1) (r1,r2) (us.drop (i + 1)) = lawV u 0 (-1,0) us) ∧ evs.length - (i + 1) < evs.length - i from ⟨⟨by omega,hS⟩,by omega⟩) ?_
   subst hb
   simp [-AV.cellOk,h1,h88,h89,hlt,hq',hr1,hr2,l32,gck,t32,hO,hI,w1,hjl,hc]
   done
 ·right
  have e : us.drop i = [] := List.drop_of_length_le (by rw [H.len]; omega)
  rw [e,lawV] at hS
  have : ∃ env',execC (tyOf Tryz.prog) (fun _ => [90,90,90,15,16]) O K 125 m0 true b ⟨normE [90,90,90,15,16] (writesC b) env0 ((15,.int .i64 r1) :: (16,.int .i64 r2) :: (90,.int .i64 (i : Int)) :: env0),M ++ X,d⟩ = some (.exit 0,⟨env',M ++ X,d⟩) ∧ (Eng.look env' 15 = .int .i64 r1 ∧ Eng.look env' 16 = .int .i64 r2 ∧ Eng.look env' 8 = Eng.look env0 8 ∧ Eng.look env' 9 = Eng.look env0 9 ∧ Eng.look env' 10 = Eng.look env0 10 ∧ Eng.look env' 11 = Eng.look env0 11 ∧ Eng.look env' 12 = Eng.look env0 12 ∧ Eng.look env' 14 = Eng.look env0 14) := by
   subst hb
   simp [h89,hlt]
  obtain ⟨env',k1,k2⟩ := this
  rw [← hS]
  exact ⟨env',_,k1,0,k2⟩
end
end Go.Proofs
namespace Go.Proofs
open Go.Eng
def Tryz.HS4 (pl : AV) (N0 new : Mem) (s : Sheet) (p t q : Nat) (evs : List (List AV)) (us : List (List (List UInt8))) (M : Mem) (c : Go.Eng.Callee) (a : List AV) (N : Mem) (r : CallRes) : Prop := match c,a with
 | .fn 6,[] => r = ⟨.bool true,none,[]⟩
 | .fn 7,[x] => x = pl ∧ r = ⟨.bool true,none,[]⟩
 | .fn 8,[x] => x = pl ∧ N = N0 ∧ r = ⟨.agg (hist4 s p t q evs.length),none,new⟩
 | .fn 9,[x] => ∃ (v : AV) (nw : Mem),ACallsTo Tryz.prog 9 [x] N (.tuple [v,.int .i64 0]) (N ++ nw) ∧ (∀ ext,sts (N ++ (nw ++ ext)) v = some (baseN :: us.flatten)) ∧ r = ⟨.tuple [v,.int .i64 0],none,nw⟩
 | .fn 10,[x,.str u] => x = .agg (hist4 s p t q evs.length) ∧ (∃ X,N = M ++ X) ∧ r = ⟨rankV u (baseN :: us.flatten),none,[]⟩
 | .fn 11,[x,.str u] => x = .agg (hist4 s p t q evs.length) ∧ (∃ X,N = M ++ X) ∧ r = ⟨sourceV u us,none,[]⟩
 | .fn 14,[x,y] => (∃ L,sts N x = some L ∧ sts N y = some L ∧ L ≠ [] ∧ L.length ≤ 1000) ∧ r = ⟨.bool true,none,[]⟩
 | c,a => Tryz.HS2 s p t q evs us M c a N r
section
variable {pl : AV} {N0 new : Mem} {s : Sheet} {p t q : Nat} {evs : List (List AV)} {us : List (List (List UInt8))} {M : Mem}
theorem Tryz.HS2_ok (H : Tryz.HstAt s p t q evs us M) (c : Go.Eng.Callee) (a : List AV) (N : Mem) (r : CallRes) (h : Tryz.HS2 s p t q evs us M c a N r) : SoundAt Tryz.prog c a N r := by
 unfold Tryz.HS2 at h
 split at h
 ·obtain ⟨rfl,⟨X,rfl⟩,rfl⟩ := h
  exact soundAt_call (by simpa using Tryz.aHCheck (H.more X))
 ·obtain ⟨v,nw,h1,_,rfl⟩ := h
  exact soundAt_call h1
 ·obtain ⟨v,nw,h1,_,rfl⟩ := h
  exact soundAt_call h1
 ·exact Tryz.HS_ok H _ _ _ _ h
theorem Tryz.hs4_ok (H : Tryz.HstAt s p t q evs us M) (hF : ∀ N,ACallsTo Tryz.prog 7 [pl] N (.bool true) N) (hK : ACallsTo Tryz.prog 8 [pl] N0 (.agg (hist4 s p t q evs.length)) (N0 ++ new)) : OracleOk Tryz.prog (specO (Tryz.HS4 pl N0 new s p t q evs us M)) := specO_ok fun c a N r h => by
 unfold Tryz.HS4 at h
 split at h
 ·subst h
  exact soundAt_call (by simpa using Tryz.aKnown30 N)
 ·obtain ⟨rfl,rfl⟩ := h
  exact soundAt_call (by simpa using hF N)
 ·obtain ⟨rfl,rfl,rfl⟩ := h
  exact soundAt_call hK
 ·obtain ⟨v,nw,h1,_,rfl⟩ := h
  exact soundAt_call h1
 ·obtain ⟨rfl,⟨X,rfl⟩,rfl⟩ := h
  exact soundAt_call (by simpa using Tryz.aHRank (H.more X) _)
 ·obtain ⟨rfl,⟨X,rfl⟩,rfl⟩ := h
  exact soundAt_call (by simpa using Tryz.aHSource (H.more X) _)
 ·obtain ⟨⟨L,h1,h2,h3,h4⟩,rfl⟩ := h
  exact soundAt_call (by simpa using Tryz.aEqT h4 h3 h1 h2)
 ·exact Tryz.HS2_ok H _ _ _ _ h
theorem Tryz.hs4_known (N : Mem) : specO (Tryz.HS4 pl N0 new s p t q evs us M) (.fn 6) [] N = some ⟨.bool true,none,[]⟩ :=
 specO_det (S := Tryz.HS4 pl N0 new s p t q evs us M) (show Tryz.HS4 pl N0 new s p t q evs us M _ _ _ _ from rfl) fun r' h => h
theorem Tryz.hs4_fits (N : Mem) : specO (Tryz.HS4 pl N0 new s p t q evs us M) (.fn 7) [pl] N = some ⟨.bool true,none,[]⟩ :=
 specO_det (S := Tryz.HS4 pl N0 new s p t q evs us M) (show Tryz.HS4 pl N0 new s p t q evs us M _ _ _ _ from ⟨rfl,rfl⟩) fun r' h => h.2
theorem Tryz.hs4_make : specO (Tryz.HS4 pl N0 new s p t q evs us M) (.fn 8) [pl] N0 = some ⟨.agg (hist4 s p t q evs.length),none,new⟩ :=
 specO_det (S := Tryz.HS4 pl N0 new s p t q evs us M) (show Tryz.HS4 pl N0 new s p t q evs us M _ _ _ _ from ⟨rfl,rfl,rfl⟩) fun r' h => h.2.2
theorem Tryz.hs4_rank (u : List UInt8) (X : Mem) : specO (Tryz.HS4 pl N0 new s p t q evs us M) (.fn 10) [.agg (hist4 s p t q evs.length),.str u] (M ++ X) = some ⟨rankV u (baseN :: us.flatten),none,[]⟩ :=
 specO_det (S := Tryz.HS4 pl N0 new s p t q evs us M) (show Tryz.HS4 pl N0 new s p t q evs us M _ _ _ _ from ⟨rfl,⟨X,rfl⟩,rfl⟩) fun r' h => h.2.2
theorem Tryz.hs4_source (u : List UInt8) (X : Mem) : specO (Tryz.HS4 pl N0 new s p t q evs us M) (.fn 11) [.agg (hist4 s p t q evs.length),.str u] (M ++ X) = some ⟨sourceV u us,none,[]⟩ :=
 specO_det (S := Tryz.HS4 pl N0 new s p t q evs us M) (show Tryz.HS4 pl N0 new s p t q evs us M _ _ _ _ from ⟨rfl,⟨X,rfl⟩,rfl⟩) fun r' h => h.2.2
theorem Tryz.hs4_equal {N : Mem} {x y : AV} {L : List (List UInt8)} (h1 : sts N x = some L) (h2 : sts N y = some L) (h3 : L ≠ []) (h4 : L.length ≤ 1000) : specO (Tryz.HS4 pl N0 new s p t q evs us M) (.fn 14) [x,y] N = some ⟨.bool true,none,[]⟩ :=
 specO_det (S := Tryz.HS4 pl N0 new s p t q evs us M) (show Tryz.HS4 pl N0 new s p t q evs us M _ _ _ _ from ⟨⟨L,h1,h2,h3,h4⟩,rfl⟩) fun r' h => h.2
theorem Tryz.hs4_index {N : Mem} {w : AV} {L : List (List UInt8)} (u : List UInt8) (h : sts N w = some L) (hl : L.length ≤ 1000000000) : specO (Tryz.HS4 pl N0 new s p t q evs us M) (.fn 13) [w,.str u] N = some ⟨.int .i64 (idxS u 0 L),none,[]⟩ :=
 specO_det (S := Tryz.HS4 pl N0 new s p t q evs us M) (show Tryz.HS4 pl N0 new s p t q evs us M _ _ _ _ from ⟨L,h,hl,rfl⟩) fun r' h' => by
  obtain ⟨L',h1,_,h2⟩ := h'
  rw [h] at h1; cases h1; exact h2
theorem Tryz.hs4_Units (H : Tryz.HstAt s p t q evs us M) (X : Mem) :
  ∃ v nw,specO (Tryz.HS4 pl N0 new s p t q evs us M) (.fn 9) [.agg (hist4 s p t q evs.length)] (M ++ X) = some ⟨.tuple [v,.int .i64 0],none,nw⟩ ∧ ∀ ext,sts (M ++ (X ++ (nw ++ ext))) v = some (baseN :: us.flatten) := by
 obtain ⟨v,nw,a,b⟩ := Tryz.aHUnits (H.more X)
 obtain ⟨r,g1,v',nw',_,k4,rfl⟩ := specO_some (S := Tryz.HS4 pl N0 new s p t q evs us M) (c := .fn 9) (a := [.agg (hist4 s p t q evs.length)]) (M := M ++ X) ⟨⟨.tuple [v,.int .i64 0],none,nw⟩,show Tryz.HS4 pl N0 new s p t q evs us M _ _ _ _ from ⟨v,nw,a,b,rfl⟩⟩
 exact ⟨v',nw',g1,fun ext => by have := k4 ext; rwa [List.append_assoc] at this⟩
theorem Tryz.hs4_lunits (H : Tryz.HstAt s p t q evs us M) (X : Mem) :
  ∃ v nw,specO (Tryz.HS4 pl N0 new s p t q evs us M) (.fn 12) [.agg (hist4 s p t q evs.length)] (M ++ X) = some ⟨v,none,nw⟩ ∧ ∀ ext,sts (M ++ (X ++ (nw ++ ext))) v = some (baseN :: us.flatten) := by
 obtain ⟨v,nw,a,b⟩ := Tryz.lunits_run (H.more X)
 obtain ⟨r,g1,v',nw',_,k4,rfl⟩ := specO_some (S := Tryz.HS4 pl N0 new s p t q evs us M) (c := .fn 12) (a := [.agg (hist4 s p t q evs.length)]) (M := M ++ X) ⟨⟨v,none,nw⟩,show Tryz.HS4 pl N0 new s p t q evs us M _ _ _ _ from ⟨v,nw,a,b,rfl⟩⟩
 exact ⟨v',nw',g1,fun ext => by have := k4 ext; rwa [List.append_assoc] at this⟩
theorem Tryz.hs4_unitsE (H : Tryz.HstAt s p t q evs us M) {i : Nat} {ev : List AV} {U : List (List UInt8)} (h1 : evs[i]? = some ev) (h2 : us[i]? = some U) (X : Mem) :
  ∃ v nw,specO (Tryz.HS4 pl N0 new s p t q evs us M) (.fn 15) [.agg ev] (M ++ X) = some ⟨v,none,nw⟩ ∧ ∀ ext,sts (M ++ (X ++ (nw ++ ext))) v = some U := by
 obtain ⟨v,nw,a,b⟩ := H.un i ev U h1 h2 X
 obtain ⟨r,g1,g2⟩ := specO_some (S := Tryz.HS4 pl N0 new s p t q evs us M) (c := .fn 15) (a := [.agg ev]) (M := M ++ X) ⟨⟨v,none,nw⟩,show Tryz.HS4 pl N0 new s p t q evs us M _ _ _ _ from ⟨i,U,v,nw,h1,h2,a,b,rfl⟩⟩
 obtain ⟨i',U',v',nw',k1,k2,k3,k4,rfl⟩ := (show ∃ (i : Nat) (U : List (List UInt8)) (v : AV) (nw : Mem),evs[i]? = some ev ∧ us[i]? = some U ∧ ACallsTo Tryz.prog 15 [.agg ev] (M ++ X) v ((M ++ X) ++ nw) ∧ (∀ ext,sts ((M ++ X) ++ nw ++ ext) v = some U) ∧ r = ⟨v,none,nw⟩ from g2)
 have := H.nd i i' ev h1 k1
 subst this
 rw [h2] at k2; cases k2
 exact ⟨v',nw',g1,fun ext => by have := k4 ext; rwa [List.append_assoc,List.append_assoc] at this⟩
end
theorem ranks_end (u : List UInt8) (us : List (List (List UInt8))) (hnd : (baseN :: us.flatten).Nodup) :
  (idxS u 0 (baseN :: us.flatten) < 0 → rankV u (baseN :: us.flatten) = .tuple [.int .i64 0,.int .i64 10] ∧ sourceV u us = .tuple [.int .i64 0,.int .i64 0,.int .i64 10]) ∧
  (¬ idxS u 0 (baseN :: us.flatten) < 0 → rankV u (baseN :: us.flatten) = .tuple [.int .i64 (idxS u 0 (baseN :: us.flatten)),.int .i64 0] ∧ sourceV u us = .tuple [.int .i64 (lawV u 0 (-1,0) us).1,.int .i64 (lawV u 0 (-1,0) us).2,.int .i64 0]) := by
 rw [List.nodup_cons] at hnd
 obtain ⟨hb,hn⟩ := hnd
 constructor
 ·intro h
  refine ⟨by rw [rankV,if_pos h],?_⟩
  rw [idxS_neg,List.mem_cons,not_or] at h
  rw [sourceV,if_neg h.1,srcV_none 0 h.2]
 ·intro h
  refine ⟨by rw [rankV,if_neg h],?_⟩
  rw [idxS_neg,Classical.not_not,List.mem_cons] at h
  unfold sourceV
  by_cases hu : u = baseN
  ·rw [if_pos hu,lawV_none 0 (-1,0) (by rw [hu]; exact hb)]
  ·rw [if_neg hu]
   obtain ⟨k,m,h1,h2⟩ := srcV_some 0 (h.resolve_left hu) hn
   rw [h1,h2]
set_option maxRecDepth 16384 in
set_option maxHeartbeats 8000000 in
theorem Tryz.aHistoryRanks (s : Sheet) (hs : s.Ok) (ds : List Deed) (hd : ∀ d ∈ ds,d.Ok) (x : Slot) (a : AV) (hx : PlanAt ds x a) (u : List UInt8) :
  ACallsTo Tryz.prog 3 [planV s a,.str u] [x] (.bool true) [x] := by
 have hG : fnOf Tryz.prog 3 = some Tryz.f3 := by kernel_rfl
 have hfit := fun N => Tryz.aFits s a ds.length (by rcases hx with ⟨rfl,rfl⟩ | ⟨_,rfl⟩; exact .inl ⟨rfl,rfl⟩; exact .inr rfl) N
 have hack : a.cellOk = true := by rcases hx with ⟨_,rfl⟩ | ⟨_,rfl⟩ <;> rfl
 have hakn : a.known = true := by rcases hx with ⟨_,rfl⟩ | ⟨_,rfl⟩ <;> rfl
 by_cases h3 : ds.length ≤ 3
 rotate_left
 ·have hO : OracleOk Tryz.prog (pureO (factF [(6,[],.bool true),(7,[planV s a],.bool false)])) := factF_ok fun y hy M => by
   simp only [List.mem_cons,List.not_mem_nil,or_false] at hy
   rcases hy with rfl | rfl
   ·exact Tryz.aKnown30 M
   ·have := hfit M; rwa [decide_eq_false h3] at this
  have h : callFn (tyOf Tryz.prog) (fun _ => []) (fnOf Tryz.prog) (pureO (factF [(6,[],.bool true),(7,[planV s a],.bool false)])) 1 3 [planV s a,.str u] [x] = some ⟨.bool true,none,[]⟩ := by
   clear hO hfit
   simp [callFn,hG,Tryz.f3,pureO,factF,planV]
   done
  have := (callFn_sound Tryz.mixed (tyOf_ok _) hO (fnOf_ok _) h).1
  simpa [CallRes.mem] using this
 have hfit' : ∀ N,ACallsTo Tryz.prog 7 [planV s a] N (.bool true) N := fun N => by have := hfit N; rwa [decide_eq_true h3] at this
 by_cases h40 : 40 < u.length
 ·have h40' : (40 : Int) < u.length := by omega
  have hO : OracleOk Tryz.prog (pureO (factF [(6,[],.bool true),(7,[planV s a],.bool true)])) := factF_ok fun y hy M => by
   simp only [List.mem_cons,List.not_mem_nil,or_false] at hy
   rcases hy with rfl | rfl
   ·exact Tryz.aKnown30 M
   ·exact hfit' M
  have h : callFn (tyOf Tryz.prog) (fun _ => []) (fnOf Tryz.prog) (pureO (factF [(6,[],.bool true),(7,[planV s a],.bool true)])) 1 3 [planV s a,.str u] [x] = some ⟨.bool true,none,[]⟩ := by
   clear hO hfit
   simp [callFn,hG,Tryz.f3,pureO,factF,planV,h40,h40']
   done
  have := (callFn_sound Tryz.mixed (tyOf_ok _) hO (fnOf_ok _) h).1
  simpa [CallRes.mem] using this
 have h40' : ¬ (40 : Int) < u.length := by omega
 obtain ⟨p,t,q,evs,us,new,hK,H⟩ := Tryz.aMake_1 s hs ds hd h3 x a (.cells true 0 [.int .u8 s.kind,.int .i8 s.sx,.int .i8 s.sy,.bool s.half,a]) hx
 obtain ⟨W,hW⟩ : ∃ W : Slot,W = .cells true 0 [.int .u8 s.kind,.int .i8 s.sx,.int .i8 s.sy,.bool s.half,a] := ⟨_,rfl⟩
 rw [← hW] at hK H
 obtain ⟨M,hM⟩ : ∃ M,M = [x,W] ++ new := ⟨_,rfl⟩
 rw [← hM] at H
 have hO := Tryz.hs4_ok H hfit' hK
 obtain ⟨O,hOe⟩ : ∃ O,O = specO (Tryz.HS4 (planV s a) [x,W] new s p t q evs us M) := ⟨_,rfl⟩
 have hl := H.ulen_all
 have e1 := fun N => Tryz.hs4_known (pl := planV s a) (N0 := [x,W]) (new := new) (s := s) (p := p) (t := t) (q := q) (evs := evs) (us := us) (M := M) N
 have e2 := fun N => Tryz.hs4_fits (pl := planV s a) (N0 := [x,W]) (new := new) (s := s) (p := p) (t := t) (q := q) (evs := evs) (us := us) (M := M) N
 have e3 := Tryz.hs4_make (pl := planV s a) (N0 := [x,W]) (new := new) (s := s) (p := p) (t := t) (q := q) (evs := evs) (us := us) (M := M)
 obtain ⟨v1,n1,e4,s1⟩ := Tryz.hs4_Units (pl := planV s a) (N0 := [x,W]) (new := new) H [.cells true 0 (hist4 s p t q evs.length)]
 have e5 := Tryz.hs4_rank (pl := planV s a) (N0 := [x,W]) (new := new) (s := s) (p := p) (t := t) (q := q) (evs := evs) (us := us) (M := M) u (.cells true 0 (hist4 s p t q evs.length) :: n1)
 have e6 := Tryz.hs4_source (pl := planV s a) (N0 := [x,W]) (new := new) (s := s) (p := p) (t := t) (q := q) (evs := evs) (us := us) (M := M) u (.cells true 0 (hist4 s p t q evs.length) :: n1)
 obtain ⟨v2,n2,e7,s2⟩ := Tryz.hs4_lunits (pl := planV s a) (N0 := [x,W]) (new := new) H (.cells true 0 (hist4 s p t q evs.length) :: n1)
 have e8 := Tryz.hs4_index (pl := planV s a) (N0 := [x,W]) (new := new) (s := s) (p := p) (t := t) (q := q) (evs := evs) (us := us) (M := M) (N := M ++ (.cells true 0 (hist4 s p t q evs.length) :: (n1 ++ n2))) (w := v2) (L := baseN :: us.flatten) u (by simpa using s2 []) (by omega)
 have e9 := Tryz.hs4_equal (pl := planV s a) (N0 := [x,W]) (new := new) (s := s) (p := p) (t := t) (q := q) (evs := evs) (us := us) (M := M) (N := M ++ (.cells true 0 (hist4 s p t q evs.length) :: (n1 ++ n2))) (x := v1) (y := v2) (L := baseN :: us.flatten) (by simpa using s1 n2) (by simpa using s2 []) (by simp) (by omega)
 obtain ⟨b,hb⟩ : ∃ b,loopsF Tryz.f3 = [b] := ⟨_,rfl⟩
 obtain ⟨F,hF⟩ := Tryz.hr_loop (O := specO (Tryz.HS4 (planV s a) [x,W] new s p t q evs us M)) H (K := 10) (m0 := 1) (by decide) (by rw [hM]; simp) u (fun i ev U h1 h2 X => Tryz.hs4_unitsE H h1 h2 X) (fun N w L h hl => Tryz.hs4_index u h hl) hb (.cells true 0 (hist4 s p t q evs.length) :: (n1 ++ n2))
 have hF1 := fun env0 d h => (hF env0 d h).1
 have hF2 := fun env0 d h => (hF env0 d h).2
 clear hF
 simp [loopsF,loopsC,Tryz.f3] at hb
 subst hb
 obtain ⟨r1,r2⟩ := ranks_end u us H.ndU
 rw [← hOe] at hO e3 e4 e5 e6 e7 e8 e9
 simp only [← hOe] at e1 e2 hF1
 obtain ⟨L,hL⟩ : ∃ L,L = baseN :: us.flatten := ⟨_,rfl⟩
 rw [← hL] at r1 r2 e5 e8
 have hlen := Tryz.evV_len q evs.length
 have hls : ∀ N,aLen (tyOf Tryz.prog) 9 N (.str u) = some (.int .i64 u.length) := fun N => by simp
 have h : callFn (tyOf Tryz.prog) (fun _ => [90,90,90,15,16]) (fnOf Tryz.prog) O 10 3 [planV s a,.str u] [x] = some ⟨.bool true,none,[]⟩ := by
  clear hO hK H hfit hfit' s1 s2 hOe hL
  subst hM
  simp only [hist4,planV,hW,List.cons_append,List.nil_append] at e1 e2 e3 e4 e5 e6 e7 e8 e9 hF1
  by_cases hi : idxS u 0 L < 0
  ·obtain ⟨k1,k2⟩ := r1 hi
   rw [k1] at e5
   rw [k2] at e6
   simp [-AV.cellOk,ck_slice,ck_str,ck_int,ck_bool,ck_nil,ck_ptr,evV_ok,hi,callFn,hG,Tryz.f3,planV,e1,e2,e3,e4,e5,e6,e7,e8,e9,h40']
  ·obtain ⟨k1,k2⟩ := r2 hi
   rw [k1] at e5
   rw [k2] at e6
   simp [-AV.cellOk,ck_slice,ck_str,ck_int,ck_bool,ck_nil,ck_ptr,evV_ok,hi,callFn,hG,Tryz.f3,planV,e1,e2,e3,e4,e5,e6,e7,e8,e9,h40',-aLen,hlen,hls,hF1,hF2]
   done
 have := (callFn_sound Tryz.mixed (tyOf_ok _) hO (fnOf_ok _) h).1
 simpa [CallRes.mem] using this
end Go.Proofs
