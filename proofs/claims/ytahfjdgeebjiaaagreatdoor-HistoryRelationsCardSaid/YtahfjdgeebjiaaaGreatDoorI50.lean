/- See I57. -/
import Derived.Test.YtahfjdgeebjiaaaGreatDoorI48
import Derived.Test.YtahfjdgeebjiaaaGreatDoorI08
set_option linter.all false
namespace Go.Proofs
open Go.Eng
theorem Tryz.evV_len (q n : Nat) (N : Mem) : aLen (tyOf Tryz.prog) 35 N (evV q n) = some (.int .i64 n) := by
 unfold evV; split
 ·rename_i h; subst h; simp
 ·simp
theorem evV_ok (q n : Nat) : (evV q n).cellOk = true := by unfold evV; split <;> rfl
theorem Tryz.len_sts {N : Mem} {v : AV} {U : List (List UInt8)} (h : sts N v = some U) (N' : Mem) : aLen (tyOf Tryz.prog) 39 N' v = some (.int .i64 U.length) := by
 rcases sts_some h with ⟨b',o,cs,rfl,h,ht⟩ | ⟨rfl,rfl⟩ <;> simp
theorem Tryz.append_sts {N : Mem} {b : Nat} {v : AV} {L U : List (List UInt8)} (hb : N[b]? = some (.cells true 1 (stC L))) (hv : sts N v = some U) (hl : L.length + U.length ≤ 1000000) :
  aAppend (tyOf Tryz.prog) N 39 39 (.slice b 0 L.length none) v = some (.slice N.length 0 (L.length + U.length) none,N.set b .absent ++ [.cells true 1 (stC (L ++ U))]) := by
 have hall : (stC U).all AV.cellOk = true := by
  rw [List.all_eq_true]; intro x hx
  simp only [stC,List.mem_map] at hx
  obtain ⟨y,_,rfl⟩ := hx; rfl
 have hs : srcCells (tyOf Tryz.prog) N 1 39 v = some (U.length,stC U) := by
  rcases sts_some hv with ⟨b',o,cs,rfl,h,ht⟩ | ⟨rfl,rfl⟩
  ·have h2 : U.length ≤ cs.length := by
    have := congrArg List.length ht
    rw [List.length_take,stC_length] at this; omega
   rw [stC_length] at ht
   simp [srcCells,h,h2,ht]
  ·rfl
 have h1 : (L.length + U.length) * 16 ≤ 140737488355328 := by omega
 have h2 : L.length + U.length ≤ 140737488355328 := by omega
 have e : (stC L).take L.length ++ stC U = stC (L ++ U) := by rw [stC_take,stC_append]
 simp [-srcCells,-List.all_eq_true,-AV.cellOk,aAppend,hs,hall,hb,stC_length,h1,h2,e,srcOk,rowEs]
set_option maxHeartbeats 4000000 in
theorem Tryz.units_loop {s : Sheet} {p t q : Nat} {evs : List (List AV)} {us : List (List (List UInt8))} {M : Mem} (H : Tryz.HstAt s p t q evs us M) {K : Nat} (hK : 5 < K) {b : Code} (hb : loopsF Tryz.f31 = [b]) (x0 : Slot) :
  ∃ F : Env → Bool → Env × Mem × Nat,∀ env0 d,(Eng.look env0 3 = .slice (M.length + 1) 0 1 none ∧ Eng.look env0 10 = evV q evs.length ∧ Eng.look env0 11 = .int .i64 evs.length ∧ Eng.look env0 12 = .int .i64 0) →
   execC (tyOf Tryz.prog) (fun _ => [12,12,12,3]) (specO (Tryz.HS s p t evs us M)) K 22 M.length true (.loop b) ⟨env0,M ++ [x0,.cells true 1 [.str baseN]],d⟩ = some (.exit 0,⟨(F env0 d).1,(F env0 d).2.1,d⟩) ∧
    ∃ X',(F env0 d).2.1 = M ++ X' ∧ Eng.look (F env0 d).1 3 = .slice (M.length + (F env0 d).2.2) 0 (baseN :: us.flatten).length none ∧ X'[(F env0 d).2.2]? = some (.cells true 1 (stC (baseN :: us.flatten))) := by
 refine loop_rule_m rfl (fun env0 => Eng.look env0 3 = .slice (M.length + 1) 0 1 none ∧ Eng.look env0 10 = evV q evs.length ∧ Eng.look env0 11 = .int .i64 evs.length ∧ Eng.look env0 12 = .int .i64 0)
  (fun _ env' mem' j => ∃ X',mem' = M ++ X' ∧ Eng.look env' 3 = .slice (M.length + j) 0 (baseN :: us.flatten).length none ∧ X'[j]? = some (.cells true 1 (stC (baseN :: us.flatten)))) ?_
 rintro env0 d ⟨h3,h10,h11,h12⟩
 simp [loopsF,loopsC,Tryz.f31] at hb
 have hn : normE [12,12,12,3] (writesC b) env0 ((3,.slice (M.length + 1) 0 (baseN :: (us.take 0).flatten).length none) :: (12,.int .i64 ((0 : Nat) : Int)) :: env0) = normE [12,12,12,3] (writesC b) env0 env0 := by simp [normE,h3,h12]
 rw [← hn]
 have := H.small
 refine iter_ind_m (α := Mem × Nat × Nat) (fun a => ⟨normE [12,12,12,3] (writesC b) env0 ((3,.slice (M.length + a.2.2) 0 (baseN :: (us.take a.2.1).flatten).length none) :: (12,.int .i64 (a.2.1 : Int)) :: env0),M ++ a.1,d⟩) (fun a => evs.length - a.2.1)
  (fun a => a.2.1 ≤ evs.length ∧ a.1[a.2.2]? = some (.cells true 1 (stC (baseN :: (us.take a.2.1).flatten)))) (.exit 0) d (fun env' mem' => ∃ j X',mem' = M ++ X' ∧ Eng.look env' 3 = .slice (M.length + j) 0 (baseN :: us.flatten).length none ∧ X'[j]? = some (.cells true 1 (stC (baseN :: us.flatten)))) (by simp) ?_ K ([x0,.cells true 1 [.str baseN]],0,1) ⟨by simp,by simp [stC]⟩ (by simp only; omega)
 rintro ⟨X,i,j⟩ ⟨hi,hX⟩
 simp only at hi hX
 clear hn
 by_cases hlt : i < evs.length
 ·obtain ⟨ev,hev⟩ : ∃ ev,evs[i]? = some ev := ⟨_,List.getElem?_eq_getElem hlt⟩
  obtain ⟨U,hU⟩ : ∃ U,us[i]? = some U := ⟨_,List.getElem?_eq_getElem (by rw [H.len]; exact hlt)⟩
  have hmem := List.mem_of_getElem? hev
  have hne : evs ≠ [] := by rintro rfl; simp at hlt
  obtain ⟨o,hq⟩ := H.hq hne
  have lq := (List.getElem?_eq_some_iff.1 hq).1
  have hq' : ∀ X,(M ++ X)[q]? = some (.cells o 32 evs.flatten) := fun X => by rw [List.getElem?_append_left lq]; exact hq
  obtain ⟨hr1,hr2⟩ := H.row hev
  obtain ⟨R,hR⟩ : ∃ R,R = evs.flatten := ⟨_,rfl⟩
  rw [← hR] at hr1 hr2
  simp only [← hR] at hq'
  have l32 := H.l32 _ hmem
  have hck := H.cok _ hmem
  obtain ⟨v,nw,hO,hs⟩ := Tryz.hs_units H hev hU (X ++ [.cells true 0 ev])
  have hX1 : j < X.length := (List.getElem?_eq_some_iff.1 hX).1
  have hX2 : (M ++ (X ++ (Slot.cells true 0 ev :: nw)))[M.length + j]? = some (.cells true 1 (stC (baseN :: (us.take i).flatten))) := by
   rw [mem_at,List.getElem?_append_left hX1]; exact hX
  have hs' : sts (M ++ (X ++ (Slot.cells true 0 ev :: nw))) v = some U := by have := hs []; simpa using this
  have hsm : (baseN :: (us.take i).flatten).length + U.length ≤ 1000000 := by
   have key : ∀ (l : List (List (List UInt8))),(∀ U ∈ l,U.length ≤ 3) → l.flatten.length ≤ 3 * l.length := by
    intro l
    induction l with
    | nil => intro _; simp
    | cons x l ih =>
     intro h
     have a := h x (by simp)
     have b := ih fun U hU => h U (by simp [hU])
     rw [List.flatten_cons,List.length_append,List.length_cons]; omega
   have a := key (us.take i) fun U hU => H.ulen U (List.mem_of_mem_take hU)
   have b := H.ulen U (List.mem_of_getElem? hU)
   rw [List.length_take] at a
   rw [List.length_cons]; omega
  have hap := Tryz.append_sts hX2 hs' hsm
  have hfl : (us.take (i + 1)).flatten = (us.take i).flatten ++ U := by
   rw [List.take_add_one,hU]; simp
  have evv : evV q evs.length = .slice q 0 evs.length none := by unfold evV; rw [if_neg (by omega)]
  rw [evv] at h10
  have w1 : IntKind.i64.wrap ((i : Int) + 1) = ((i + 1 : Nat) : Int) := by rw [wrap_i64 (by omega) (by omega)]; omega
  obtain ⟨L,hL⟩ : ∃ L,L = baseN :: (us.take i).flatten := ⟨_,rfl⟩
  have hfl' : baseN :: (us.take (i + 1)).flatten = L ++ U := by rw [hfl,hL]; rfl
  rw [← hL] at hX hX2 hsm hap
  have gck : (∀ x : AV,x ∈ ev → x.cellOk = true) = True := eq_true hck
  have t32 : List.take 32 ev = ev := List.take_of_length_le (by omega)
  have hjl : ∀ j,(M.length + j < M.length) = False := fun j => add_lt_self _ _
  left
  refine ⟨((X ++ (Slot.cells true 0 ev :: nw)).set j .absent ++ [.cells true 1 (stC (L ++ U))],i + 1,X.length + (nw.length + 1)),?_⟩
  refine exists_and_fin (show (i + 1 ≤ evs.length ∧ ((X ++ (Slot.cells true 0 ev :: nw)).set j .absent ++ [Slot.cells true 1 (stC (L ++ U))])[X.length + (nw.length + 1)]? = some (.cells true 1 (stC (baseN :: (us.take (i + 1)).flatten)))) ∧ evs.length - (i + 1) < evs.length - i from ⟨⟨by omega,by rw [hfl',List.getElem?_append_right (by simp)]; simp⟩,by omega⟩) ?_
  simp only [hfl',← hL]
  clear hs hX2 hs' hfl hfl' hL hR H hq
  subst hb
  simp [-aAppend,-AV.cellOk,h10,h11,hlt,hq',hr1,hr2,l32,gck,t32,hO,hap,w1,hjl]
  done
 ·right
  have e : i = evs.length := by omega
  have ht : us.take i = us := List.take_of_length_le (by rw [H.len]; omega)
  rw [ht] at hX ⊢
  have : ∃ env',execC (tyOf Tryz.prog) (fun _ => [12,12,12,3]) (specO (Tryz.HS s p t evs us M)) K 22 M.length true b ⟨normE [12,12,12,3] (writesC b) env0 ((3,.slice (M.length + j) 0 (baseN :: us.flatten).length none) :: (12,.int .i64 (i : Int)) :: env0),M ++ X,d⟩ = some (.exit 0,⟨env',M ++ X,d⟩) ∧ Eng.look env' 3 = .slice (M.length + j) 0 (baseN :: us.flatten).length none := by
   subst hb
   simp [h11,hlt]
  obtain ⟨env',k1,k2⟩ := this
  exact ⟨env',M ++ X,k1,j,X,rfl,k2,hX⟩
theorem Tryz.units_run {s : Sheet} {p t q : Nat} {evs : List (List AV)} {us : List (List (List UInt8))} {M : Mem} (H : Tryz.HstAt s p t q evs us M) :
  ∃ v X,ACallsTo Tryz.prog 31 [.agg (hist4 s p t q evs.length)] M v (M ++ X) ∧ ∀ ext,sts (M ++ (X ++ ext)) v = some (baseN :: us.flatten) := by
 have hG : fnOf Tryz.prog 31 = some Tryz.f31 := by kernel_rfl
 obtain ⟨b,hb⟩ : ∃ b,loopsF Tryz.f31 = [b] := ⟨_,rfl⟩
 obtain ⟨F,hF⟩ := Tryz.units_loop H (K := 10) (by decide) hb (.cells true 0 (hist4 s p t q evs.length))
 have hF1 := fun env0 d h => (hF env0 d h).1
 have hF2 : ∀ env0 d,(Eng.look env0 3 = .slice (M.length + 1) 0 1 none ∧ Eng.look env0 10 = evV q evs.length ∧ Eng.look env0 11 = .int .i64 evs.length ∧ Eng.look env0 12 = .int .i64 0) →
   ∃ j X',(F env0 d).2.1 = M ++ X' ∧ Eng.look (F env0 d).1 3 = .slice (M.length + j) 0 (baseN :: us.flatten).length none ∧ X'[j]? = some (.cells true 1 (stC (baseN :: us.flatten))) := fun env0 d h => ⟨_,(hF env0 d h).2⟩
 clear hF
 simp [loopsF,loopsC,Tryz.f31] at hb
 subst hb
 have hlen := Tryz.evV_len q evs.length
 obtain ⟨UU,hUU⟩ : ∃ UU,UU = baseN :: us.flatten := ⟨_,rfl⟩
 rw [← hUU] at hF2 ⊢
 simp only [hist4] at hF1
 have h : ∃ v m',callRaw (tyOf Tryz.prog) (fun _ => [12,12,12,3]) (fnOf Tryz.prog) (specO (Tryz.HS s p t evs us M)) 10 31 [.agg (hist4 s p t q evs.length)] M = some (v,m') ∧
   ∃ j X',m' = M ++ X' ∧ v = .slice (M.length + j) 0 UU.length none ∧ X'[j]? = some (.cells true 1 (stC UU)) := by
  simp [-aLen,hlen,callRaw,hG,Tryz.f31,hist4,hF1]
  refine ⟨_,_,⟨rfl,rfl⟩,hF2 _ _ ?_⟩
  exact ⟨rfl,rfl,rfl,rfl⟩
 obtain ⟨v,m',h1,j,X',rfl,rfl,h2⟩ := h
 refine ⟨_,X',callRaw_sound Tryz.mixed (tyOf_ok _) (Tryz.hs_ok H) (fnOf_ok _) h1,fun ext => sts_row (o := true) ?_⟩
 rw [mem_at,List.getElem?_append_left (List.getElem?_eq_some_iff.1 h2).1]
 exact h2
set_option maxHeartbeats 4000000 in
theorem Tryz.lunits_loop {s : Sheet} {p t q : Nat} {evs : List (List AV)} {us : List (List (List UInt8))} {M : Mem} (H : Tryz.HstAt s p t q evs us M) {K : Nat} (hK : 5 < K) {b : Code} (hb : loopsF Tryz.f12 = [b]) (x0 : Slot) :
  ∃ F : Env → Bool → Env × Mem × Nat,∀ env0 d,(Eng.look env0 3 = .slice (M.length + 1) 0 1 none ∧ Eng.look env0 10 = evV q evs.length ∧ Eng.look env0 11 = .int .i64 evs.length ∧ Eng.look env0 12 = .int .i64 0) →
   execC (tyOf Tryz.prog) (fun _ => [12,12,12,3]) (specO (Tryz.HS s p t evs us M)) K 22 M.length true (.loop b) ⟨env0,M ++ [x0,.cells true 1 [.str baseN]],d⟩ = some (.exit 0,⟨(F env0 d).1,(F env0 d).2.1,d⟩) ∧
    ∃ X',(F env0 d).2.1 = M ++ X' ∧ Eng.look (F env0 d).1 3 = .slice (M.length + (F env0 d).2.2) 0 (baseN :: us.flatten).length none ∧ X'[(F env0 d).2.2]? = some (.cells true 1 (stC (baseN :: us.flatten))) := by
 refine loop_rule_m rfl (fun env0 => Eng.look env0 3 = .slice (M.length + 1) 0 1 none ∧ Eng.look env0 10 = evV q evs.length ∧ Eng.look env0 11 = .int .i64 evs.length ∧ Eng.look env0 12 = .int .i64 0)
  (fun _ env' mem' j => ∃ X',mem' = M ++ X' ∧ Eng.look env' 3 = .slice (M.length + j) 0 (baseN :: us.flatten).length none ∧ X'[j]? = some (.cells true 1 (stC (baseN :: us.flatten)))) ?_
 rintro env0 d ⟨h3,h10,h11,h12⟩
 simp [loopsF,loopsC,Tryz.f12] at hb
 have hn : normE [12,12,12,3] (writesC b) env0 ((3,.slice (M.length + 1) 0 (baseN :: (us.take 0).flatten).length none) :: (12,.int .i64 ((0 : Nat) : Int)) :: env0) = normE [12,12,12,3] (writesC b) env0 env0 := by simp [normE,h3,h12]
 rw [← hn]
 have := H.small
 refine iter_ind_m (α := Mem × Nat × Nat) (fun a => ⟨normE [12,12,12,3] (writesC b) env0 ((3,.slice (M.length + a.2.2) 0 (baseN :: (us.take a.2.1).flatten).length none) :: (12,.int .i64 (a.2.1 : Int)) :: env0),M ++ a.1,d⟩) (fun a => evs.length - a.2.1)
  (fun a => a.2.1 ≤ evs.length ∧ a.1[a.2.2]? = some (.cells true 1 (stC (baseN :: (us.take a.2.1).flatten)))) (.exit 0) d (fun env' mem' => ∃ j X',mem' = M ++ X' ∧ Eng.look env' 3 = .slice (M.length + j) 0 (baseN :: us.flatten).length none ∧ X'[j]? = some (.cells true 1 (stC (baseN :: us.flatten)))) (by simp) ?_ K ([x0,.cells true 1 [.str baseN]],0,1) ⟨by simp,by simp [stC]⟩ (by simp only; omega)
 rintro ⟨X,i,j⟩ ⟨hi,hX⟩
 simp only at hi hX
 clear hn
 by_cases hlt : i < evs.length
 ·obtain ⟨ev,hev⟩ : ∃ ev,evs[i]? = some ev := ⟨_,List.getElem?_eq_getElem hlt⟩
  obtain ⟨U,hU⟩ : ∃ U,us[i]? = some U := ⟨_,List.getElem?_eq_getElem (by rw [H.len]; exact hlt)⟩
  have hmem := List.mem_of_getElem? hev
  have hne : evs ≠ [] := by rintro rfl; simp at hlt
  obtain ⟨o,hq⟩ := H.hq hne
  have lq := (List.getElem?_eq_some_iff.1 hq).1
  have hq' : ∀ X,(M ++ X)[q]? = some (.cells o 32 evs.flatten) := fun X => by rw [List.getElem?_append_left lq]; exact hq
  obtain ⟨hr1,hr2⟩ := H.row hev
  obtain ⟨R,hR⟩ : ∃ R,R = evs.flatten := ⟨_,rfl⟩
  rw [← hR] at hr1 hr2
  simp only [← hR] at hq'
  have l32 := H.l32 _ hmem
  have hck := H.cok _ hmem
  obtain ⟨v,nw,hO,hs⟩ := Tryz.hs_units H hev hU (X ++ [.cells true 0 ev])
  have hX1 : j < X.length := (List.getElem?_eq_some_iff.1 hX).1
  have hX2 : (M ++ (X ++ (Slot.cells true 0 ev :: nw)))[M.length + j]? = some (.cells true 1 (stC (baseN :: (us.take i).flatten))) := by
   rw [mem_at,List.getElem?_append_left hX1]; exact hX
  have hs' : sts (M ++ (X ++ (Slot.cells true 0 ev :: nw))) v = some U := by have := hs []; simpa using this
  have hsm : (baseN :: (us.take i).flatten).length + U.length ≤ 1000000 := by
   have key : ∀ (l : List (List (List UInt8))),(∀ U ∈ l,U.length ≤ 3) → l.flatten.length ≤ 3 * l.length := by
    intro l
    induction l with
    | nil => intro _; simp
    | cons x l ih =>
     intro h
     have a := h x (by simp)
     have b := ih fun U hU => h U (by simp [hU])
     rw [List.flatten_cons,List.length_append,List.length_cons]; omega
   have a := key (us.take i) fun U hU => H.ulen U (List.mem_of_mem_take hU)
   have b := H.ulen U (List.mem_of_getElem? hU)
   rw [List.length_take] at a
   rw [List.length_cons]; omega
  have hap := Tryz.append_sts hX2 hs' hsm
  have hfl : (us.take (i + 1)).flatten = (us.take i).flatten ++ U := by
   rw [List.take_add_one,hU]; simp
  have evv : evV q evs.length = .slice q 0 evs.length none := by unfold evV; rw [if_neg (by omega)]
  rw [evv] at h10
  have w1 : IntKind.i64.wrap ((i : Int) + 1) = ((i + 1 : Nat) : Int) := by rw [wrap_i64 (by omega) (by omega)]; omega
  obtain ⟨L,hL⟩ : ∃ L,L = baseN :: (us.take i).flatten := ⟨_,rfl⟩
  have hfl' : baseN :: (us.take (i + 1)).flatten = L ++ U := by rw [hfl,hL]; rfl
  rw [← hL] at hX hX2 hsm hap
  have gck : (∀ x : AV,x ∈ ev → x.cellOk = true) = True := eq_true hck
  have t32 : List.take 32 ev = ev := List.take_of_length_le (by omega)
  have hjl : ∀ j,(M.length + j < M.length) = False := fun j => add_lt_self _ _
  left
  refine ⟨((X ++ (Slot.cells true 0 ev :: nw)).set j .absent ++ [.cells true 1 (stC (L ++ U))],i + 1,X.length + (nw.length + 1)),?_⟩
  refine exists_and_fin (show (i + 1 ≤ evs.length ∧ ((X ++ (Slot.cells true 0 ev :: nw)).set j .absent ++ [Slot.cells true 1 (stC (L ++ U))])[X.length + (nw.length + 1)]? = some (.cells true 1 (stC (baseN :: (us.take (i + 1)).flatten)))) ∧ evs.length - (i + 1) < evs.length - i from ⟨⟨by omega,by rw [hfl',List.getElem?_append_right (by simp)]; simp⟩,by omega⟩) ?_
  simp only [hfl',← hL]
  clear hs hX2 hs' hfl hfl' hL hR H hq
  subst hb
  simp [-aAppend,-AV.cellOk,h10,h11,hlt,hq',hr1,hr2,l32,gck,t32,hO,hap,w1,hjl]
  done
 ·right
  have e : i = evs.length := by omega
  have ht : us.take i = us := List.take_of_length_le (by rw [H.len]; omega)
  rw [ht] at hX ⊢
  have : ∃ env',execC (tyOf Tryz.prog) (fun _ => [12,12,12,3]) (specO (Tryz.HS s p t evs us M)) K 22 M.length true b ⟨normE [12,12,12,3] (writesC b) env0 ((3,.slice (M.length + j) 0 (baseN :: us.flatten).length none) :: (12,.int .i64 (i : Int)) :: env0),M ++ X,d⟩ = some (.exit 0,⟨env',M ++ X,d⟩) ∧ Eng.look env' 3 = .slice (M.length + j) 0 (baseN :: us.flatten).length none := by
   subst hb
   simp [h11,hlt]
  obtain ⟨env',k1,k2⟩ := this
  exact ⟨env',M ++ X,k1,j,X,rfl,k2,hX⟩
theorem Tryz.lunits_run {s : Sheet} {p t q : Nat} {evs : List (List AV)} {us : List (List (List UInt8))} {M : Mem} (H : Tryz.HstAt s p t q evs us M) :
  ∃ v X,ACallsTo Tryz.prog 12 [.agg (hist4 s p t q evs.length)] M v (M ++ X) ∧ ∀ ext,sts (M ++ (X ++ ext)) v = some (baseN :: us.flatten) := by
 have hG : fnOf Tryz.prog 12 = some Tryz.f12 := by kernel_rfl
 obtain ⟨b,hb⟩ : ∃ b,loopsF Tryz.f12 = [b] := ⟨_,rfl⟩
 obtain ⟨F,hF⟩ := Tryz.lunits_loop H (K := 10) (by decide) hb (.cells true 0 (hist4 s p t q evs.length))
 have hF1 := fun env0 d h => (hF env0 d h).1
 have hF2 : ∀ env0 d,(Eng.look env0 3 = .slice (M.length + 1) 0 1 none ∧ Eng.look env0 10 = evV q evs.length ∧ Eng.look env0 11 = .int .i64 evs.length ∧ Eng.look env0 12 = .int .i64 0) →
   ∃ j X',(F env0 d).2.1 = M ++ X' ∧ Eng.look (F env0 d).1 3 = .slice (M.length + j) 0 (baseN :: us.flatten).length none ∧ X'[j]? = some (.cells true 1 (stC (baseN :: us.flatten))) := fun env0 d h => ⟨_,(hF env0 d h).2⟩
 clear hF
 simp [loopsF,loopsC,Tryz.f12] at hb
 subst hb
 have hlen := Tryz.evV_len q evs.length
 obtain ⟨UU,hUU⟩ : ∃ UU,UU = baseN :: us.flatten := ⟨_,rfl⟩
 rw [← hUU] at hF2 ⊢
 simp only [hist4] at hF1
 have h : ∃ v m',callRaw (tyOf Tryz.prog) (fun _ => [12,12,12,3]) (fnOf Tryz.prog) (specO (Tryz.HS s p t evs us M)) 10 12 [.agg (hist4 s p t q evs.length)] M = some (v,m') ∧
   ∃ j X',m' = M ++ X' ∧ v = .slice (M.length + j) 0 UU.length none ∧ X'[j]? = some (.cells true 1 (stC UU)) := by
  simp [-aLen,hlen,callRaw,hG,Tryz.f12,hist4,hF1]
  refine ⟨_,_,⟨rfl,rfl⟩,hF2 _ _ ?_⟩
  exact ⟨rfl,rfl,rfl,rfl⟩
 obtain ⟨v,m',h1,j,X',rfl,rfl,h2⟩ := h
 refine ⟨_,X',callRaw_sound Tryz.mixed (tyOf_ok _) (Tryz.hs_ok H) (fnOf_ok _) h1,fun ext => sts_row (o := true) ?_⟩
 rw [mem_at,List.getElem?_append_left (List.getElem?_eq_some_iff.1 h2).1]
 exact h2
def Tryz.hcLv (c : Code) : List Nat := if (writesC c).contains 32 then [32,32,32,4] else [46,46,46]
set_option maxHeartbeats 4000000 in
theorem Tryz.hc_inner {O : Oracle} {K m0 : Nat} (hK : 5 < K) (N : Mem) (w v : AV) (U : List (List UInt8)) (hv : sts N v = some U) (hU : U.length ≤ 3) (hO : ∀ u ∈ U,O (.fn 56) [w,.str u] N = some ⟨.bool false,none,[]⟩) {b1 b : Code} (hb : loopsF Tryz.f30 = [b1,b]) :
  ∃ F : Env → Bool → Env,∀ env0 d,(Eng.look env0 4 = w ∧ Eng.look env0 44 = v ∧ Eng.look env0 45 = .int .i64 U.length ∧ Eng.look env0 46 = .int .i64 0) →
   execC (tyOf Tryz.prog) Tryz.hcLv O K 59 m0 true (.loop b) ⟨env0,N,d⟩ = some (.exit 3,⟨F env0 d,N,d⟩) ∧
    (Eng.look (F env0 d) 1 = Eng.look env0 1 ∧ Eng.look (F env0 d) 4 = w ∧ Eng.look (F env0 d) 6 = Eng.look env0 6 ∧ Eng.look (F env0 d) 30 = Eng.look env0 30 ∧ Eng.look (F env0 d) 31 = Eng.look env0 31 ∧ Eng.look (F env0 d) 32 = Eng.look env0 32) := by
 simp [loopsF,loopsC,Tryz.f30] at hb
 obtain ⟨_,hb⟩ := hb
 refine loop_rule (L := [46,46,46]) (by subst hb; rfl) (fun env0 => Eng.look env0 4 = w ∧ Eng.look env0 44 = v ∧ Eng.look env0 45 = .int .i64 U.length ∧ Eng.look env0 46 = .int .i64 0) (fun env0 env' => Eng.look env' 1 = Eng.look env0 1 ∧ Eng.look env' 4 = w ∧ Eng.look env' 6 = Eng.look env0 6 ∧ Eng.look env' 30 = Eng.look env0 30 ∧ Eng.look env' 31 = Eng.look env0 31 ∧ Eng.look env' 32 = Eng.look env0 32) ?_
 rintro env0 d ⟨h4,h44,h45,h46⟩
 have hn : normE [46,46,46] (writesC b) env0 ((46,.int .i64 ((0 : Nat) : Int)) :: env0) = normE [46,46,46] (writesC b) env0 env0 := by simp [normE,h46]
 rw [← hn]
 refine iter_ind (α := Nat) (fun n => ⟨normE [46,46,46] (writesC b) env0 ((46,.int .i64 (n : Int)) :: env0),N,d⟩) (fun n => U.length - n) (fun n => n ≤ U.length) _ _ d _ (by simp) ?_ K 0 (by omega) (by omega)
 rintro n hn1
 clear hn
 subst hb
 by_cases hlt : n < U.length
 ·left
  obtain ⟨x,hx⟩ : ∃ x,U[n]? = some x := ⟨U[n],List.getElem?_eq_getElem hlt⟩
  have hox := hO x (List.mem_of_getElem? hx)
  have w1 : IntKind.i64.wrap ((n : Int) + 1) = ((n + 1 : Nat) : Int) := by rw [wrap_i64 (by omega) (by omega)]; omega
  rcases sts_some hv with ⟨b',o,cs,rfl,hb',ht⟩ | ⟨rfl,rfl⟩
  ·rw [stC_length] at ht
   have hcs : cs[n]? = some (.str x) := by
    have := stC_at hx
    rw [← ht,List.getElem?_take_of_lt (by omega)] at this
    exact this
   have hcl := (List.getElem?_eq_some_iff.1 hcs).1
   have hcs' : ∀ h,cs[n]'h = .str x := fun h => by
    rw [List.getElem?_eq_getElem h] at hcs; exact Option.some.inj hcs
   refine ⟨n + 1,?_⟩
   refine exists_and_fin (show n + 1 ≤ U.length ∧ U.length - (n + 1) < U.length - n from ⟨by omega,by omega⟩) ?_
   simp [h4,h44,h45,hlt,hb',hcs',hcl,hox,w1]
  ·simp at hlt
 ·right
  simp [h4,h45,hlt]
theorem eng_le3 {l : List (List (List UInt8))} (h : ∀ U ∈ l,U.length ≤ 3) : l.flatten.length ≤ 3 * l.length := by
 induction l with
 | nil => simp
 | cons x l ih =>
  have a := h x (by simp)
  have b := ih fun U hU => h U (by simp [hU])
  rw [List.flatten_cons,List.length_append,List.length_cons]; omega
set_option maxRecDepth 8192 in
set_option maxHeartbeats 8000000 in
theorem Tryz.hc_loop {s : Sheet} {p t q : Nat} {evs : List (List AV)} {us : List (List (List UInt8))} {M : Mem} (H : Tryz.HstAt s p t q evs us M) {K : Nat} (hK : 5 < K) {b bi : Code} (hb : loopsF Tryz.f30 = [b,bi]) :
  ∃ F : Env → Bool → Env × Mem × Nat,∀ env0 d,(Eng.look env0 1 = .ptr M.length 0 ∧ Eng.look env0 4 = .slice (M.length + 1) 0 1 none ∧ Eng.look env0 30 = evV q evs.length ∧ Eng.look env0 31 = .int .i64 evs.length ∧ Eng.look env0 32 = .int .i64 0) →
   execC (tyOf Tryz.prog) Tryz.hcLv (specO (Tryz.HS s p t evs us M)) K 59 M.length true (.loop b) ⟨env0,M ++ [.cells true 0 (hist4 s p t q evs.length),.cells true 1 [.str baseN]],d⟩ = some (.exit 1,⟨(F env0 d).1,(F env0 d).2.1,d⟩) ∧ True := by
 refine loop_rule_m (L := [32,32,32,4]) (by simp [loopsF,loopsC,Tryz.f30] at hb; rw [← hb.1]; rfl) (fun env0 => Eng.look env0 1 = .ptr M.length 0 ∧ Eng.look env0 4 = .slice (M.length + 1) 0 1 none ∧ Eng.look env0 30 = evV q evs.length ∧ Eng.look env0 31 = .int .i64 evs.length ∧ Eng.look env0 32 = .int .i64 0) (fun _ _ _ _ => True) ?_
 rintro env0 d ⟨h1,h4,h30,h31,h32⟩
 have hb' := hb
 simp [loopsF,loopsC,Tryz.f30] at hb'
 obtain ⟨hb1,hb2⟩ := hb'
 have hn : normE [32,32,32,4] (writesC b) env0 ((4,.slice (M.length + (0 + 1)) 0 (baseN :: (us.take 0).flatten).length none) :: (32,.int .i64 ((0 : Nat) : Int)) :: env0) = normE [32,32,32,4] (writesC b) env0 env0 := by simp [normE,h4,h32]
 rw [← hn]
 have := H.small
 refine iter_ind_m (α := Mem × Nat × Nat) (fun a => ⟨normE [32,32,32,4] (writesC b) env0 ((4,.slice (M.length + (a.2.2 + 1)) 0 (baseN :: (us.take a.2.1).flatten).length none) :: (32,.int .i64 (a.2.1 : Int)) :: env0),M ++ (Slot.cells true 0 (hist4 s p t q evs.length) :: a.1),d⟩) (fun a => evs.length - a.2.1)
  (fun a => a.2.1 ≤ evs.length ∧ a.1[a.2.2]? = some (.cells true 1 (stC (baseN :: (us.take a.2.1).flatten)))) (.exit 1) d (fun _ _ => ∃ _ : Nat,True) (by simp) ?_ K ([.cells true 1 [.str baseN]],0,0) ⟨by simp,by simp [stC]⟩ (by simp only; omega)
 rintro ⟨X,i,j⟩ ⟨hi,hX⟩
 simp only at hi hX
 clear hn
 by_cases hlt : i < evs.length
 ·obtain ⟨ev,hev⟩ : ∃ ev,evs[i]? = some ev := ⟨_,List.getElem?_eq_getElem hlt⟩
  obtain ⟨U,hU⟩ : ∃ U,us[i]? = some U := ⟨_,List.getElem?_eq_getElem (by rw [H.len]; exact hlt)⟩
  have hmem := List.mem_of_getElem? hev
  have hne : evs ≠ [] := by rintro rfl; simp at hlt
  obtain ⟨o,hq⟩ := H.hq hne
  have lq := (List.getElem?_eq_some_iff.1 hq).1
  have hq' : ∀ X,(M ++ X)[q]? = some (.cells o 32 evs.flatten) := fun X => by rw [List.getElem?_append_left lq]; exact hq
  obtain ⟨hr1,hr2⟩ := H.row hev
  obtain ⟨R,hR⟩ : ∃ R,R = evs.flatten := ⟨_,rfl⟩
  rw [← hR] at hr1 hr2
  simp only [← hR] at hq'
  have l32 := H.l32 _ hmem
  have hck := H.cok _ hmem
  have hC := Tryz.hs_check (s := s) (p := p) (t := t) (us := us) (M := M) hmem (Slot.cells true 0 (hist4 s p t q evs.length) :: (X ++ [.cells true 0 ev]))
  obtain ⟨v,nw,hO,hs⟩ := Tryz.hs_units H hev hU (Slot.cells true 0 (hist4 s p t q evs.length) :: (X ++ [.cells true 0 ev]))
  obtain ⟨v2,nw2,hO2,hs2⟩ := Tryz.hs_units H hev hU (Slot.cells true 0 (hist4 s p t q evs.length) :: (X ++ (.cells true 0 ev :: nw)))
  have hX1 : j < X.length := (List.getElem?_eq_some_iff.1 hX).1
  have hX2 : (M ++ (Slot.cells true 0 (hist4 s p t q evs.length) :: (X ++ (Slot.cells true 0 ev :: (nw ++ nw2)))))[M.length + (j + 1)]? = some (.cells true 1 (stC (baseN :: (us.take i).flatten))) := by
   rw [mem_at,List.getElem?_cons_succ,List.getElem?_append_left hX1]; exact hX
  have hs' : sts (M ++ (Slot.cells true 0 (hist4 s p t q evs.length) :: (X ++ (Slot.cells true 0 ev :: nw)))) v = some U := by have := hs []; simpa using this
  have hs2' : sts (M ++ (Slot.cells true 0 (hist4 s p t q evs.length) :: (X ++ (Slot.cells true 0 ev :: (nw ++ nw2))))) v2 = some U := by have := hs2 []; simpa using this
  have hsm : (baseN :: (us.take i).flatten).length + U.length ≤ 1000000 := by
   have a := eng_le3 (l := us.take i) fun U hU => H.ulen U (List.mem_of_mem_take hU)
   have b := H.ulen U (List.mem_of_getElem? hU)
   rw [List.length_take] at a
   rw [List.length_cons]; omega
  have hap := Tryz.append_sts hX2 hs2' hsm
  have hfl : (us.take (i + 1)).flatten = (us.take i).flatten ++ U := by
   rw [List.take_add_one,hU]; simp
  have hdis : ∀ u ∈ U,u ∉ (baseN :: (us.take i).flatten) := by
   intro u hu hin
   have hnd := H.ndU
   have e : us.flatten = (us.take i).flatten ++ (U ++ (us.drop (i + 1)).flatten) := by
    have hlt' : i < us.length := by rw [H.len]; exact hlt
    conv => lhs; rw [← List.take_append_drop i us,List.flatten_append,List.drop_eq_getElem_cons hlt',List.flatten_cons]
    rw [List.getElem?_eq_getElem hlt'] at hU
    rw [Option.some.inj hU]
   rw [e,← List.cons_append] at hnd
   exact (List.nodup_append.1 hnd).2.2 u hin u (by simp [hu]) rfl
  have hst : sts (M ++ (Slot.cells true 0 (hist4 s p t q evs.length) :: (X ++ (Slot.cells true 0 ev :: nw)))) (.slice (M.length + (j + 1)) 0 (baseN :: (us.take i).flatten).length none) = some (baseN :: (us.take i).flatten) :=
   sts_row (o := true) (by rw [mem_at,List.getElem?_cons_succ,List.getElem?_append_left hX1]; exact hX)
  have hCo : ∀ u ∈ U,specO (Tryz.HS s p t evs us M) (.fn 56) [.slice (M.length + (j + 1)) 0 (baseN :: (us.take i).flatten).length none,.str u] (M ++ (Slot.cells true 0 (hist4 s p t q evs.length) :: (X ++ (Slot.cells true 0 ev :: nw)))) = some ⟨.bool false,none,[]⟩ := fun u hu => by
   rw [Tryz.hs_contains u hst (by omega),decide_eq_false (hdis u hu)]
  obtain ⟨F,hF⟩ := Tryz.hc_inner (m0 := M.length) hK (M ++ (Slot.cells true 0 (hist4 s p t q evs.length) :: (X ++ (Slot.cells true 0 ev :: nw)))) (.slice (M.length + (j + 1)) 0 (baseN :: (us.take i).flatten).length none) v U hs' (H.ulen U (List.mem_of_getElem? hU)) hCo hb
  have hF1 := fun env0 d h => (hF env0 d h).1
  have hF2 := fun env0 d h => (hF env0 d h).2
  clear hF hCo
  have evv : evV q evs.length = .slice q 0 evs.length none := by unfold evV; rw [if_neg (by omega)]
  have h30' := h30
  rw [evv] at h30'
  have w1 : IntKind.i64.wrap ((i : Int) + 1) = ((i + 1 : Nat) : Int) := by rw [wrap_i64 (by omega) (by omega)]; omega
  obtain ⟨L,hL⟩ : ∃ L,L = baseN :: (us.take i).flatten := ⟨_,rfl⟩
  have hfl' : baseN :: (us.take (i + 1)).flatten = L ++ U := by rw [hfl,hL]; rfl
  rw [← hL] at hX hX2 hsm hap
  simp only [← hL] at hF1 hF2
  have gck : (∀ x : AV,x ∈ ev → x.cellOk = true) = True := eq_true hck
  have t32 : List.take 32 ev = ev := List.take_of_length_le (by omega)
  have hjl : ∀ j,(M.length + j < M.length) = False := fun j => add_lt_self _ _
  simp only [hist4] at hC hO hO2 hF1 hF2 hap
  left
  refine ⟨((X ++ (Slot.cells true 0 ev :: (nw ++ nw2))).set j .absent ++ [.cells true 1 (stC (L ++ U))],i + 1,X.length + (nw.length + nw2.length + 1)),?_⟩
  refine exists_and_fin (show (i + 1 ≤ evs.length ∧ ((X ++ (Slot.cells true 0 ev :: (nw ++ nw2))).set j .absent ++ [Slot.cells true 1 (stC (L ++ U))])[X.length + (nw.length + nw2.length + 1)]? = some (.cells true 1 (stC (baseN :: (us.take (i + 1)).flatten)))) ∧ evs.length - (i + 1) < evs.length - i from
    ⟨⟨by omega,by rw [hfl',List.getElem?_append_right (by simp)]; simp⟩,by omega⟩) ?_
  simp only [hfl',← hL]
  have hlen := Tryz.len_sts hs'
  clear hs hs2 hX2 hs' hs2' hfl hfl' hL hR H hq hst hdis
  subst hb1
  simp only [← hb2] at hF1 hF2
  simp [-aAppend,-AV.cellOk,-aLen,hlen,hist4,h1,h30',h31,hlt,hq',hr1,hr2,l32,gck,t32,hC,hO,hO2,hap,w1,hjl,hF1,hF2]
  done
 ·right
  subst hb1
  simp [h31,hlt]
theorem Tryz.aHCheck {s : Sheet} {p t q : Nat} {evs : List (List AV)} {us : List (List (List UInt8))} {M : Mem} (H : Tryz.HstAt s p t q evs us M) :
  ACallsTo Tryz.prog 30 [.agg (hist4 s p t q evs.length)] M (.int .i64 0) M := by
 have hG : fnOf Tryz.prog 30 = some Tryz.f30 := by kernel_rfl
 obtain ⟨b,bi,hb⟩ : ∃ b bi,loopsF Tryz.f30 = [b,bi] := ⟨_,_,rfl⟩
 obtain ⟨F,hF⟩ := Tryz.hc_loop H (K := 10) (by decide) hb
 have hF1 := fun env0 d h => (hF env0 d h).1
 clear hF
 simp [loopsF,loopsC,Tryz.f30] at hb
 obtain ⟨hb,_⟩ := hb
 subst hb
 have hlen := Tryz.evV_len q evs.length
 have hM := Tryz.hs_mesh (s := s) (p := p) (t := t) (evs := evs) (us := us) (M := M) [.cells true 0 (hist4 s p t q evs.length)]
 have hN := Tryz.hs_name (s := s) (p := p) (t := t) (evs := evs) (us := us) (M := M) baseN (by decide) (M ++ [.cells true 0 (hist4 s p t q evs.length)])
 have hB : isNameB baseN = true := by decide
 have h12 : ¬ (12 : Int) < evs.length := by have := H.small; omega
 simp only [hist4] at hF1 hM hN
 have h : callFn (tyOf Tryz.prog) Tryz.hcLv (fnOf Tryz.prog) (specO (Tryz.HS s p t evs us M)) 10 30 [.agg (hist4 s p t q evs.length)] M = some ⟨.int .i64 0,none,[]⟩ := by
  simp [-aLen,hlen,callFn,hG,Tryz.f30,hist4,hM,hN,hB,h12,hF1]
  done
 have := (callFn_sound Tryz.mixed (tyOf_ok _) (Tryz.hs_ok H) (fnOf_ok _) h).1
 simpa [CallRes.mem] using this
end Go.Proofs
namespace Go.Proofs
open Go.Eng
end Go.Proofs
namespace Go.Proofs
open Go.Eng
def Tryz.HS2 (s : Sheet) (p t q : Nat) (evs : List (List AV)) (us : List (List (List UInt8))) (M : Mem) (c : Go.Eng.Callee) (a : List AV) (N : Mem) (r : CallRes) : Prop := match c,a with
 | .fn 30,[x] => x = .agg (hist4 s p t q evs.length) ∧ (∃ X,N = M ++ X) ∧ r = ⟨.int .i64 0,none,[]⟩
 | .fn 31,[x] => ∃ (v : AV) (nw : Mem),ACallsTo Tryz.prog 31 [x] N v (N ++ nw) ∧ (∀ ext,sts (N ++ (nw ++ ext)) v = some (baseN :: us.flatten)) ∧ r = ⟨v,none,nw⟩
 | .fn 12,[x] => ∃ (v : AV) (nw : Mem),ACallsTo Tryz.prog 12 [x] N v (N ++ nw) ∧ (∀ ext,sts (N ++ (nw ++ ext)) v = some (baseN :: us.flatten)) ∧ r = ⟨v,none,nw⟩
 | c,a => Tryz.HS s p t evs us M c a N r
section
variable {s : Sheet} {p t q : Nat} {evs : List (List AV)} {us : List (List (List UInt8))} {M : Mem}
theorem Tryz.HstAt.ulen_all (H : Tryz.HstAt s p t q evs us M) : (baseN :: us.flatten).length ≤ 10 := by
 have := eng_le3 H.ulen
 have h1 := H.len
 have h2 := H.small
 rw [List.length_cons]; omega
end
end Go.Proofs
namespace Go.Proofs
open Go.Eng
section
variable {s : Sheet} {p t q : Nat} {evs : List (List AV)} {us : List (List (List UInt8))} {M : Mem}
end
end Go.Proofs
