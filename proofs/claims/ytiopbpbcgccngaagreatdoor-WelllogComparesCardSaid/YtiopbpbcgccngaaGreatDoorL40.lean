/- See L55. -/
import Derived.Test.YtiopbpbcgccngaaGreatDoorL34
import Derived.Test.YtiopbpbcgccngaaGreatDoorL39
import Derived.Test.YtiopbpbcgccngaaGreatDoorL10
set_option linter.all false
namespace Go.Proofs
open Go.Eng Go.Shelf
def edOf (s : Int × Int) : Int × Int := (if s.2 < s.1 then s.2 else s.1,if s.1 < s.2 then s.2 else s.1)
def edAt (ks : List Sd) (j : Nat) : Option (Int × Int) := match ks[j]? with
 | some s => if s.1.1 < s.1.2 ∨ lookS ks (s.1.2,s.1.1) = none then some (edOf s.1) else none
 | none => none
def eds (ks : List Sd) (seen : List Nat) : List (Int × Int) := seen.filterMap (edAt ks)
theorem eds_append (ks : List Sd) (seen : List Nat) (j : Nat) : eds ks (seen ++ [j]) = eds ks seen ++ (match edAt ks j with | some p => [p] | none => []) := by
 unfold eds
 rw [List.filterMap_append]
 congr 1
 simp only [List.filterMap_cons,List.filterMap_nil]
 cases edAt ks j <;> rfl
theorem eds_perm {ks : List Sd} {seen : List Nat} (hn : seen.Nodup) (hlt : ∀ j ∈ seen,j < ks.length) (hall : ∀ j,j < ks.length → j ∈ seen) : (eds ks seen).Perm (eds ks (List.range ks.length)) := by
 refine List.Perm.filterMap _ ?_
 refine (List.perm_ext_iff_of_nodup hn List.nodup_range).2 fun j => ?_
 simp only [List.mem_range]
 exact ⟨hlt j,hall j⟩
theorem nodup_bound : ∀ (n : Nat) (l : List Nat),l.Nodup → (∀ x ∈ l,x < n) → l.length ≤ n
 | 0,l,_,h => by
  cases l with
  | nil => simp
  | cons a l => exact absurd (h a (by simp)) (by omega)
 | n + 1,l,hn,h => by
  have h1 := nodup_bound n (l.erase n) (hn.erase n) (fun x hx => by
   have := h x (List.mem_of_mem_erase hx)
   have hne : x ≠ n := fun e => by
    subst e
    exact (List.Nodup.not_mem_erase hn) hx
   omega)
  by_cases hm : n ∈ l
  ·have := List.length_erase_of_mem hm
   omega
  ·rw [List.erase_of_not_mem hm] at h1; omega
theorem eds_length {ks : List Sd} {seen : List Nat} (hn : seen.Nodup) (hlt : ∀ j ∈ seen,j < ks.length) : (eds ks seen).length ≤ ks.length :=
 Nat.le_trans (List.length_filterMap_le _ _) (nodup_bound _ _ hn hlt)
def prC (l : List (Int × Int)) : List AV := l.flatMap prA
theorem prC_length : ∀ l : List (Int × Int),(prC l).length = l.length * 2
 | [] => rfl
 | x :: l => by
  have := prC_length l
  simp only [prC] at this
  simp only [prC,List.flatMap_cons,List.length_append,this,List.length_cons,prA,List.length_nil]; omega
theorem prC_snoc (l : List (Int × Int)) (x : Int × Int) : prC (l ++ [x]) = prC l ++ [.int .i64 x.1,.int .i64 x.2] := by simp [prC,prA]
theorem prC_closed : ∀ l : List (Int × Int),AV.closeds (prC l) = true
 | [] => rfl
 | x :: l => by
  have := prC_closed l
  simp only [prC] at this
  simp [prC,prA,AV.closeds,AV.closed,this]
theorem prC_refs (n : Nat) : ∀ l : List (Int × Int),AV.refsL n (prC l) = []
 | [] => rfl
 | x :: l => by
  have := prC_refs n l
  simp only [prC] at this
  simp [prC,prA,AV.refsL,AV.refs,this]
theorem prC_ren (f : Nat → Option Nat) (l : List (Int × Int)) : AV.rens f (prC l) = prC l := rens_closeds (prC_closed l)
def edV : List (Int × Int) → AV
 | [] => .nilslice
 | _ :: l => .slice 5 0 (l.length + 1) none
def edR : List (Int × Int) → Mem
 | [] => []
 | a :: l => [.cells true 2 (prC (a :: l))]
def edM (s0 s1 : Slot) (n1 n2 : Nat) (ks : List Sd) (E : List (Int × Int)) : Mem := [s0,s1,.cells true 0 [.slice 0 0 n1 none,.slice 1 0 n2 none],.fmap (ks.map sdE),.absent] ++ edR E
theorem Tryz.aSortPairs (ks : List Sd) (s0 s1 : Slot) (n1 n2 : Nat) (D E : List (Int × Int)) (hD : D ≠ []) (hp : E.Perm D) (hs : E.Pairwise fun x y => ltOf cmp2 y x = false) (hl : D.length ≤ 1000000) :
  ACallsTo Tryz.prog 287 [edV D,.func 288 []] (edM s0 s1 n1 n2 ks D) (.tuple []) (edM s0 s1 n1 n2 ks E) := by
 cases D with
 | nil => exact absurd rfl hD
 | cons a D =>
  have hb : (edM s0 s1 n1 n2 ks (a :: D))[5]? = some (.cells true 2 (prC (a :: D))) := rfl
  have key := aSortK Tryz.laysSortP 2 (fun w => isAgg_run (tyOf_ok Tryz.prog) (Tryz.y307) w) (fun w => sizeOf_run (tyOf_ok Tryz.prog) (Tryz.y307) w) (f := 287) rfl (Tryz.funOk _ Tryz.func287 (by kernel_rfl) (by kernel_rfl))
   prA prV (fun μ n x Us => by simp [prA,prV,VRels,VRel]) (fun x => rfl) (fun x => rfl) (fun x v hv => by simp [prV] at hv; rcases hv with rfl | rfl <;> rfl) cmp2 cmp2_swo (g := 288) (enters_of Tryz.func288 (by kernel_rfl) rfl) Tryz.aEdgesCmp hb (a :: D)
   (List.take_of_length_le (by rw [prC_length]; exact Nat.le_refl _)) (by rw [prC_length]; exact Nat.le_refl _) (by omega)
  have hv : edV (a :: D) = .slice 5 0 (a :: D).length none := rfl
  rw [hv]
  refine key.mono ?_
  rintro v m ⟨rfl,d',p1,p2,rfl⟩
  have : d' = E := sorted_unique (lt := ltOf cmp2) cmp2_anti (p1.trans hp.symm) p2 hs
  subst this
  refine ⟨rfl,?_⟩
  have hdr : (prC (a :: D)).drop ((a :: D).length * 2) = [] := List.drop_of_length_le (by rw [prC_length]; exact Nat.le_refl _)
  rw [hdr,List.append_nil]
  cases d' with
  | nil => exact absurd p1.length_eq (by simp)
  | cons b d' => rfl
end Go.Proofs
namespace Go.Proofs
open Go.Eng
set_option maxHeartbeats 6400000 in
set_option maxRecDepth 100000 in
theorem Tryz.aEdgesP (ks : List Sd) (E : List (Int × Int)) (s0 s1 : Slot) (n1 n2 : Nat) (O : Oracle) (hO : OracleOk Tryz.prog O) (hr0 : s0.refs 5 = []) (hr1 : s1.refs 5 = []) (hr0' : s0.refs 2 = []) (hr1' : s1.refs 2 = [])
  (hC : ∀ M,O (.fn 102) [.agg [.slice 0 0 n1 none,.slice 1 0 n2 none]] (s0 :: s1 :: M) = some ⟨.int .i64 0,none,[]⟩)
  (hW : ∀ M,O (.fn 183) [.agg [.slice 0 0 n1 none,.slice 1 0 n2 none]] (s0 :: s1 :: M) = some ⟨.tuple [.map (M.length + 2),.bool true],none,[.map (ks.map sdE)]⟩)
  (hp : E.Perm (eds ks (List.range ks.length))) (hs : E.Pairwise fun x y => ltOf cmp2 y x = false) (hE : E ≠ []) (hl : ks.length ≤ 1000000) :
  ACallsTo Tryz.prog 260 [.agg [.slice 0 0 n1 none,.slice 1 0 n2 none]] [s0,s1] (.tuple [.slice 2 0 E.length none,.int .i64 0]) [s0,s1,.cells true 2 (prC E)] := by
 have hT := tyOf_ok Tryz.prog
 refine ACalls.intro hT (fn := Tryz.f260) (by kernel_rfl) rfl rfl (Nat.le_of_ble_eq_true rfl) ?_
 obtain ⟨A,hA⟩ : ∃ A,A = AV.agg [.slice 0 0 n1 none,.slice 1 0 n2 none] := ⟨_,rfl⟩
 rw [← hA] at hC hW ⊢
 refine awp_seq ?_
 refine awp_exec Tryz.mixed hT hO (lv := fun _ => []) (K := 1) (s := ⟨entryEnv 0 [A],[s0,s1],false⟩) rfl (s' := ⟨[(3,.int .i64 0),(2,.nilslice),(1,.ptr 2 0),(0,A)],[s0,s1,.cells true 0 [.slice 0 0 n1 none,.slice 1 0 n2 none]],false⟩) (e := .normal) (by simp [hA]) ?_
 refine awp_seq ?_
 refine awp_exec Tryz.mixed hT hO (lv := fun _ => []) (K := 1) (s := ⟨_,_,false⟩) rfl (s' := ⟨[(14,.bool false),(13,.int .i64 0),(4,.int .i64 0),(12,.int .i64 0),(11,A),(3,.int .i64 0),(2,.nilslice),(1,.ptr 2 0),(0,A)],[s0,s1,.cells true 0 [.slice 0 0 n1 none,.slice 1 0 n2 none]],false⟩) (e := .normal) (by simp [hC,← hA]) ?_
 refine awp_seq ?_
 refine awp_exec Tryz.mixed hT hO (lv := fun _ => []) (K := 1) (s := ⟨_,_,false⟩) rfl (s' := ⟨[(6,.bool true),(5,.map 3),(20,.bool true),(19,.map 3),(16,.tuple [.map 3,.bool true]),(18,.tuple [.map 3,.bool true]),(17,A),(14,.bool false),(13,.int .i64 0),(4,.int .i64 0),(12,.int .i64 0),(11,A),(3,.int .i64 0),(2,.nilslice),(1,.ptr 2 0),(0,A)],[s0,s1,.cells true 0 [.slice 0 0 n1 none,.slice 1 0 n2 none],.map (ks.map sdE)],false⟩) (e := .normal) (by simp [hW,← hA]) ?_
 refine awp_seq ?_
 refine awp_exec Tryz.mixed hT hO (lv := fun _ => []) (K := 1) (s := ⟨_,_,false⟩) rfl (s' := ⟨[(7,.nilslice),(6,.bool true),(5,.map 3),(20,.bool true),(19,.map 3),(16,.tuple [.map 3,.bool true]),(18,.tuple [.map 3,.bool true]),(17,A),(14,.bool false),(13,.int .i64 0),(4,.int .i64 0),(12,.int .i64 0),(11,A),(3,.int .i64 0),(2,.nilslice),(1,.ptr 2 0),(0,A)],[s0,s1,.cells true 0 [.slice 0 0 n1 none,.slice 1 0 n2 none],.map (ks.map sdE)],false⟩) (e := .normal) (by simp) ?_
 refine awp_seq ?_
 refine awp_weak (Weak.fmap (b := 3) (es := ks.map sdE) rfl) ?_
 have hAr : A.refs 5 = [] := by rw [hA]; rfl
 show AWP _ _ _ _ _ ⟨[(7,.nilslice),(6,.bool true),(5,.map 3),(20,.bool true),(19,.map 3),(16,.tuple [.map 3,.bool true]),(18,.tuple [.map 3,.bool true]),(17,A),(14,.bool false),(13,.int .i64 0),(4,.int .i64 0),(12,.int .i64 0),(11,A),(3,.int .i64 0),(2,.nilslice),(1,.ptr 2 0),(0,A)],[s0,s1,.cells true 0 [.slice 0 0 n1 none,.slice 1 0 n2 none],.fmap (ks.map sdE)]⟩ _
 refine awp_mapLoopK Tryz.mixed hT hO (lv := fun _ => []) (K := 1) (b := 3) (es := ks.map sdE) (s := ⟨[(7,.nilslice),(6,.bool true),(5,.map 3),(20,.bool true),(19,.map 3),(16,.tuple [.map 3,.bool true]),(18,.tuple [.map 3,.bool true]),(17,A),(14,.bool false),(13,.int .i64 0),(4,.int .i64 0),(12,.int .i64 0),(11,A),(3,.int .i64 0),(2,.nilslice),(1,.ptr 2 0),(0,A)],[s0,s1,.cells true 0 [.slice 0 0 n1 none,.slice 1 0 n2 none],.fmap (ks.map sdE)],false⟩)
  (s1 := ⟨[(21,.map 3),(7,.nilslice),(6,.bool true),(5,.map 3),(20,.bool true),(19,.map 3),(16,.tuple [.map 3,.bool true]),(18,.tuple [.map 3,.bool true]),(17,A),(14,.bool false),(13,.int .i64 0),(4,.int .i64 0),(12,.int .i64 0),(11,A),(3,.int .i64 0),(2,.nilslice),(1,.ptr 2 0),(0,A)],[s0,s1,.cells true 0 [.slice 0 0 n1 none,.slice 1 0 n2 none],.fmap (ks.map sdE)],false⟩)
  rfl rfl rfl rfl (Tryz.y257) rfl rfl rfl rfl rfl rfl rfl rfl rfl rfl rfl rfl ?_ ?_ ?_ ?_ rfl rfl [7] _ (fun seen t => if t = 7 then edV (eds ks seen) else .undef) (fun seen => edM s0 s1 n1 n2 ks (eds ks seen)) (fun seen => seen.Nodup ∧ ∀ j ∈ seen,j < ks.length) rfl ?_ ?_ ?_ ?_ ?_ ?_
 ·decide
 ·decide
 ·rfl
 ·simp
 ·decide
 ·simp [hAr]
 ·rintro seen ⟨_,_⟩
  exact ⟨rfl,rfl⟩
 ·refine ⟨⟨List.nodup_nil,fun j hj => (by cases hj)⟩,rfl,fun t ht => ?_⟩
  simp only [List.mem_singleton] at ht
  subst ht; rfl
 ·rintro seen env ⟨i1,i2⟩ hsm hv hall
  have h7 := hv 7 (by simp)
  simp only [if_true] at h7
  have hpm := eds_perm i1 i2 (fun j hj => hall j (by simpa using hj))
  have hpE : E.Perm (eds ks seen) := hp.trans hpm.symm
  have hne : eds ks seen ≠ [] := fun e => by
   rw [e] at hpE
   exact hE (List.Perm.eq_nil hpE)
  have hlen : (eds ks seen).length ≤ 1000000 := Nat.le_trans (eds_length i1 i2) hl
  have hsort := Tryz.aSortPairs ks s0 s1 n1 n2 (eds ks seen) E hne hpE hs hlen
  obtain ⟨D,hD⟩ : ∃ D,D = eds ks seen := ⟨_,rfl⟩
  rw [← hD] at hpE hne hsort h7 hlen
  clear hsm hv hall hC hW
  obtain ⟨O2,hO2,hO2r⟩ := oracle_family (P := Tryz.prog) (fun _ : Unit => True) (fun _ => .fn 287) (fun _ => [edV D,.func 288 []]) (fun _ => edM s0 s1 n1 n2 ks D) (fun _ => ⟨.tuple [],some (edM s0 s1 n1 n2 ks E),[]⟩)
   (fun _ _ => ⟨by simpa [CallRes.mem] using hsort,fun q hq => by
    cases hq
    cases D with
    | nil => exact absurd rfl hne
    | cons a D =>
     cases E with
     | nil => exact absurd rfl hE
     | cons b E => rfl⟩) (fun _ _ _ _ _ _ _ => rfl)
  have hO2s := hO2r () trivial
  rw [← hD]
  cases D with
  | nil => exact absurd rfl hne
  | cons a D =>
   cases E with
   | nil => exact absurd rfl hE
   | cons b E =>
    have hll : E.length = D.length := by simpa using hpE.length_eq
    show AWP _ _ _ _ _ _ _
    refine awp_exec2 Tryz.mixed hT hO2 (lv := fun _ => []) (K := 1) (s := ⟨_,_,false⟩) rfl ?_
    have hO2s' : O2 (.fn 287) [edV (a :: D),.func 288 []] (s0 :: s1 :: .cells true 0 [.slice 0 0 n1 none,.slice 1 0 n2 none] :: .fmap (ks.map sdE) :: .absent :: edR (a :: D)) = some ⟨.tuple [],some (edM s0 s1 n1 n2 ks (b :: E)),[]⟩ := hO2s
    simp [-Slot.refs,-Slot.ren,h7,hO2s']
    refine ⟨_,_,⟨rfl,rfl⟩,.inr rfl,[5],rfl,.inl ⟨rfl,?_⟩⟩
    simp [-Slot.refs,-Slot.ren,keep,edV,AV.rens,AV.ren,rho,List.idxOf?,List.findIdx?,List.findIdx?.go,hll]
    show Slot.ren (rho 2 [5]) (.cells true 2 (prC (b :: E))) = _
    rw [ren_cells,prC_ren]
 ·rintro seen env j k v ⟨i1,i2⟩ hsm hv hj hns
  have h7 := hv 7 (by simp)
  have h5 := hsm 5 (by decide)
  simp [look] at h5
  simp only [if_true] at h7
  rw [List.getElem?_map] at hj
  simp only [Option.map_eq_some_iff] at hj
  obtain ⟨s,hs1,hs2⟩ := hj
  obtain ⟨hk,hvv⟩ := Prod.mk.inj hs2
  subst hk hvv
  have hjl := (List.getElem?_eq_some_iff.1 hs1).1
  have hinv : (seen ++ [j]).Nodup ∧ ∀ i ∈ seen ++ [j],i < ks.length := by
   constructor
   ·rw [List.nodup_append]; exact ⟨i1,by simp,fun a ha b hb => by simp at hb; subst hb; rintro rfl; exact hns ha⟩
   ·intro i hi
    rcases List.mem_append.1 hi with h | h
    ·exact i2 i h
    ·simp at h; subst h; exact hjl
  have hlen := eds_length i1 i2
  have hE1 := eds_append ks seen j
  obtain ⟨D,hD⟩ : ∃ D,D = eds ks seen := ⟨_,rfl⟩
  rw [← hD] at hE1 h7 hlen ⊢
  show ∃ sA e s' ks_1,runOps _ _ _ 5 _ _ _ = some sA ∧ execC _ _ _ _ _ 5 _ _ sA = some (e,s') ∧ _
  clear hC hW hsm hv
  have hN1 : Tryz.f260.ntmps = 63 := rfl
  rw [hN1]
  have comp : ∀ ks1 rest,compact 5 ks1 (s0 :: s1 :: .cells true 0 [.slice 0 0 n1 none,.slice 1 0 n2 none] :: .fmap (ks.map sdE) :: .absent :: rest) = s0 :: s1 :: .cells true 0 [.slice 0 0 n1 none,.slice 1 0 n2 none] :: .fmap (ks.map sdE) :: .absent :: keep 5 ks1 (s0 :: s1 :: .cells true 0 [.slice 0 0 n1 none,.slice 1 0 n2 none] :: .fmap (ks.map sdE) :: .absent :: rest) := by
   intro ks1 rest
   unfold compact
   simp only [List.take_succ_cons,List.take_zero,List.map_cons,List.map_nil,Slot.ren_refs hr0,Slot.ren_refs hr1,Slot.ren_refs (slot_refs_sd 5 ks)]
   rfl
  have hinv' : (seen ++ [j]).Nodup ∧ ∀ i,i ∈ seen ∨ i = j → i < ks.length := ⟨hinv.1,fun i hi => hinv.2 i (by simpa using hi)⟩
  have hcase : ((∃ q t,findA (tyOf Tryz.prog) 307 (.agg [.int .i64 s.1.2,.int .i64 s.1.1]) (ks.map sdE) 0 = some (some (q,t))) ∧ ¬ s.1.1 < s.1.2 ∧ edAt ks j = none) ∨
    (edAt ks j = some (edOf s.1) ∧ ((∃ q t,findA (tyOf Tryz.prog) 307 (.agg [.int .i64 s.1.2,.int .i64 s.1.1]) (ks.map sdE) 0 = some (some (q,t)) ∧ s.1.1 < s.1.2) ∨ (findA (tyOf Tryz.prog) 307 (.agg [.int .i64 s.1.2,.int .i64 s.1.1]) (ks.map sdE) 0 = some none))) := by
   cases hlk : lookS ks (s.1.2,s.1.1) with
   | some t =>
    obtain ⟨q,hq⟩ := (Tryz.findS (s.1.2,s.1.1) ks 0).2 t hlk
    by_cases hlt : s.1.1 < s.1.2
    ·exact .inr ⟨by simp [edAt,hs1,hlt],.inl ⟨q,_,hq,hlt⟩⟩
    ·exact .inl ⟨⟨q,_,hq⟩,hlt,by simp [edAt,hs1,hlt,hlk]⟩
   | none => exact .inr ⟨by simp [edAt,hs1,hlk],.inr ((Tryz.findS (s.1.2,s.1.1) ks 0).1 hlk)⟩
  rcases hcase with ⟨⟨q,t,hq⟩,hlt,he⟩ | ⟨he,hc2⟩
  ·rw [he] at hE1
   simp only [List.append_nil] at hE1
   rw [hE1]
   cases D with
   | nil =>
    simp [-Slot.refs,-Slot.ren,edM,edV,edR,sdE,h5,h7,hq,hlt,aLookup,entriesA,keyOk,keyEs,partA,aAlloc,aStore,aBuild,fillA,List.range']
    exact ⟨_,_,⟨rfl,rfl⟩,.inl rfl,[],by simp,hinv',by simp [h7,edV,AV.ren],by rw [comp]; rfl⟩
   | cons a D =>
    simp [-Slot.refs,-Slot.ren,edM,edV,edR,sdE,h5,h7,hq,hlt,aLookup,entriesA,keyOk,keyEs,partA,aAlloc,aStore,aBuild,fillA,List.range']
    exact ⟨_,_,⟨rfl,rfl⟩,.inl rfl,[5],by simp,hinv',by simp [h7,edV,AV.ren,rho,List.idxOf?,List.findIdx?,List.findIdx?.go],by rw [comp]; simp [-Slot.refs,-Slot.ren,keep,ren_cells,prC_ren]⟩
  ·rw [he] at hE1
   simp only at hE1
   rw [hE1]
   have hif : ∀ c : Prop,[Decidable c] → ∀ x y : Int,(if c then AV.int .i64 x else .int .i64 y) = .int .i64 (if c then x else y) := fun c _ x y => by split <;> rfl
   obtain ⟨p,hp1⟩ : ∃ p,p = edOf s.1 := ⟨_,rfl⟩
   have hp2 : (if s.1.2 < s.1.1 then s.1.2 else s.1.1) = p.1 := by rw [hp1]; rfl
   have hp3 : (if s.1.1 < s.1.2 then s.1.2 else s.1.1) = p.2 := by rw [hp1]; rfl
   rw [← hp1]
   clear hE1 he hp1
   have hc3 : (∃ q t,findA (tyOf Tryz.prog) 307 (.agg [.int .i64 s.1.2,.int .i64 s.1.1]) (ks.map sdE) 0 = some (some (q,t)) ∧ s.1.1 < s.1.2) ∨ (findA (tyOf Tryz.prog) 307 (.agg [.int .i64 s.1.2,.int .i64 s.1.1]) (ks.map sdE) 0 = some none ∧ s.1.1 < s.1.2) ∨ (findA (tyOf Tryz.prog) 307 (.agg [.int .i64 s.1.2,.int .i64 s.1.1]) (ks.map sdE) 0 = some none ∧ ¬ s.1.1 < s.1.2) := by
    rcases hc2 with h | h
    ·exact .inl h
    ·by_cases hlt : s.1.1 < s.1.2
     ·exact .inr (.inl ⟨h,hlt⟩)
     ·exact .inr (.inr ⟨h,hlt⟩)
   clear hc2
   cases D with
   | nil =>
    have hpr : ∀ x y : Int,x = p.1 → y = p.2 → prC [p] = [.int .i64 x,.int .i64 y] := by rintro x y rfl rfl; rfl
    rcases hc3 with ⟨q,t,hq,hlt⟩ | ⟨hq,hlt⟩ | ⟨hq,hlt⟩
    all_goals
     simp only [hlt,if_true,if_false] at hp3
     have hpr1 := hpr _ _ rfl hp3
     simp [-Slot.refs,-Slot.ren,edM,edV,edR,sdE,h5,h7,hq,hlt,hp2,aLookup,entriesA,keyOk,keyEs,partA,aAlloc,aStore,aBuild,aBuildSlice,aAppend,srcCells,srcOk,rowEs,zcells,fillA,List.range']
     exact ⟨_,_,⟨rfl,rfl⟩,.inl rfl,[7],by simp,hinv',by simp [edV,AV.ren,rho,List.idxOf?,List.findIdx?,List.findIdx?.go],by rw [comp]; simp [-Slot.refs,-Slot.ren,keep,ren_cells,hpr1]⟩
   | cons a D =>
    have hl1 : (prC (a :: D)).length = (D.length + 1) * 2 := by rw [prC_length]; rfl
    have hl2 : (prC (a :: D)).take ((D.length + 1) * 2) = prC (a :: D) := List.take_of_length_le (by omega)
    simp only [List.length_cons] at hlen
    have b1 : (D.length + 1 + 1) * 16 ≤ 140737488355328 := by omega
    have b2 : D.length + 1 + 1 ≤ 140737488355328 := by omega
    have b3 : D.length ≤ 140737488355326 := by omega
    have hpr : ∀ x y : Int,x = p.1 → y = p.2 → prC (a :: (D ++ [p])) = prC (a :: D) ++ [.int .i64 x,.int .i64 y] := by rintro x y rfl rfl; rw [← List.cons_append]; exact prC_snoc _ _
    obtain ⟨C,hC⟩ : ∃ C,C = prC (a :: D) := ⟨_,rfl⟩
    have hC1 : ∀ f,AV.rens f C = C := fun f => by rw [hC]; exact prC_ren f _
    have hC2 : ∀ n,AV.refsL n C = [] := fun n => by rw [hC]; exact prC_refs n _
    rcases hc3 with ⟨q,t,hq,hlt⟩ | ⟨hq,hlt⟩ | ⟨hq,hlt⟩
    all_goals
     simp only [hlt,if_true,if_false] at hp3
     have hpr1 := hpr _ _ rfl hp3
     rw [← hC] at hl1 hl2 hpr1
     simp only [edM,edV,edR,← hC]
     simp [-Slot.refs,-Slot.ren,edM,edV,edR,sdE,h5,h7,hq,hlt,hp2,aLookup,entriesA,keyOk,keyEs,partA,aAlloc,aStore,aBuild,aBuildSlice,aAppend,srcCells,srcOk,rowEs,zcells,fillA,List.range',hl1,hl2,b1,b2,b3]
     exact ⟨_,_,⟨rfl,rfl⟩,.inl rfl,[8],by simp,hinv',by simp [edV,AV.ren,rho,List.idxOf?,List.findIdx?,List.findIdx?.go],by rw [comp]; simp [-Slot.refs,-Slot.ren,keep,ren_cells,hpr1,hC1]⟩
def sqK : List Sd := [((0,1),0),((1,2),0),((2,0),0),((0,2),1),((2,3),1),((3,0),1)]
def sqE : List (Int × Int) := [(0,1),(0,2),(0,3),(1,2),(2,3)]
theorem Tryz.owners_square : callF (tyOf Tryz.prog) writesC (fnOf Tryz.prog) (pureO Tryz.ratF4) 60 10 (.fn 183) [.agg [.slice 0 0 4 none,.slice 1 0 2 none]] [.cells false 2 sqP,.cells false 3 sqT] = some ⟨.tuple [.map 2,.bool true],some [.cells false 2 sqP,.cells false 3 sqT],[.map (sqK.map sdE)]⟩ := by
 kernel_rfl
theorem Tryz.aOwnersSqP : ACallsTo Tryz.prog 183 [.agg [.slice 0 0 4 none,.slice 1 0 2 none]] [.cells false 2 sqP,.cells false 3 sqT] (.tuple [.map 2,.bool true]) ([.cells false 2 sqP,.cells false 3 sqT] ++ [.map (sqK.map sdE)]) := by
 have := (callF_sound Tryz.mixed (tyOf_ok _) (fnOf_ok _) Tryz.rat4_ok 10).fn _ _ _ _ Tryz.owners_square
 simpa [CallRes.mem] using this
theorem sq_frame {P : Program} {f : FuncId} {v : AV} {new M : Mem} {b c : Nat} (h1 : rowIs M b 2 sqP = true) (h2 : rowIs M c 3 sqT = true) (hn : new.all (fun s => s.own || match s with | .absent => true | _ => false) = true)
  (h : ACallsTo P f [.agg [.slice 0 0 4 none,.slice 1 0 2 none]] [.cells false 2 sqP,.cells false 3 sqT] v ([.cells false 2 sqP,.cells false 3 sqT] ++ new)) :
  ACallsTo P f [.agg [.slice b 0 4 none,.slice c 0 2 none]] M (v.ren (back [b,c] M.length)) (M ++ new.map (Slot.ren (back [b,c] M.length))) := by
 have k1 := rowIs_sub (ks := [b,c]) h1 (by rfl)
 have k2 := rowIs_sub (ks := [b,c]) h2 (by rfl)
 have := ACallsTo.frame (M := M) (new := new) [b,c] (m := [.cells false 2 sqP,.cells false 3 sqT]) rfl (by
  intro k hk
  simp only [List.mem_cons,List.not_mem_nil,or_false] at hk
  rcases hk with h | h
  ·rw [h]; exact k1.1
  ·rw [h]; exact k2.1) (by rfl) (fun i s hs => by
  match i with
  | 0 => simp at hs; subst hs; exact k1.2
  | 1 => simp at hs; subst hs; exact k2.2
  | i + 2 => simp at hs) hn h
 simpa [AV.rens,AV.ren,back] using this
def Tryz.owO (c : Go.Eng.Callee) (args : List AV) (M : Mem) : Option CallRes := match c,args with
 | .fn 183,[.agg [.slice b 0 4 none,.slice c 0 2 none]] => if rowIs M b 2 sqP && rowIs M c 3 sqT then some ⟨.tuple [.map M.length,.bool true],none,[.map (sqK.map sdE)]⟩ else none
 | c,args => Tryz.sqO c args M
theorem Tryz.owO_ok : OracleOk Tryz.prog Tryz.owO := by
 refine oracleOk_of fun c args M r h => ?_
 unfold Tryz.owO at h
 split at h
 ·split at h
  ·rename_i hc
   simp only [Bool.and_eq_true] at hc
   cases h
   refine soundAt_call ?_
   have := sq_frame hc.1 hc.2 rfl Tryz.aOwnersSqP
   simpa [AV.ren,AV.rens,back,sqK,sdE] using this
  ·cases h
 ·exact soundAt_of Tryz.sqO_ok h
theorem Tryz.aEdgesSqP : ACallsTo Tryz.prog 260 [.agg [.slice 0 0 4 none,.slice 1 0 2 none]] [.cells false 2 sqP,.cells false 3 sqT] (.tuple [.slice 2 0 5 none,.int .i64 0]) ([.cells false 2 sqP,.cells false 3 sqT] ++ [.cells true 2 (prC sqE)]) := by
 refine Tryz.aEdgesP sqK sqE _ _ 4 2 Tryz.owO Tryz.owO_ok rfl rfl rfl rfl (fun M => ?_) (fun M => ?_) (by decide) (by decide) (by decide) (by decide)
 ·rfl
 ·rfl
def Tryz.edO (c : Go.Eng.Callee) (args : List AV) (M : Mem) : Option CallRes := match c,args with
 | .fn 260,[.agg [.slice b 0 4 none,.slice c 0 2 none]] => if rowIs M b 2 sqP && rowIs M c 3 sqT then some ⟨.tuple [.slice M.length 0 5 none,.int .i64 0],none,[.cells true 2 (prC sqE)]⟩ else none
 | c,args => Tryz.sqO c args M
theorem Tryz.edO_ok : OracleOk Tryz.prog Tryz.edO := by
 refine oracleOk_of fun c args M r h => ?_
 unfold Tryz.edO at h
 split at h
 ·split at h
  ·rename_i hc
   simp only [Bool.and_eq_true] at hc
   cases h
   refine soundAt_call ?_
   have := sq_frame hc.1 hc.2 rfl Tryz.aEdgesSqP
   simpa [AV.ren,AV.rens,back,ren_cells,prC_ren] using this
  ·cases h
 ·exact soundAt_of Tryz.sqO_ok h
end Go.Proofs
