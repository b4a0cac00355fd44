/- See I57. -/
import Derived.Test.YtahfjdgeebjiaaaGreatDoorI46
import Derived.Test.YtahfjdgeebjiaaaGreatDoorI47
import Derived.Test.YtahfjdgeebjiaaaGreatDoorI08
set_option linter.all false
namespace Go.Proofs
open Go.Eng
def baseN : List UInt8 := [98,97,115,101]
def unAll (i : Nat) : List (List (List UInt8)) := [[],[dikeName i],unitsL i 0,unitsL i 1,unitsL i 2]
theorem unitsD_mem (d : Deed) (i : Nat) : unitsD d i ∈ unAll i := by
 have h3 := Nat.mod_lt d.K.1 (show 0 < 3 by decide)
 unfold unitsD unAll
 split
 ·have : d.K.1 % 3 = 0 ∨ d.K.1 % 3 = 1 ∨ d.K.1 % 3 = 2 := by omega
  rcases this with h | h | h <;> rw [h] <;> simp
 ·split <;> simp
theorem unAll_nodup : ∀ a ∈ unAll 0,∀ b ∈ unAll 1,∀ c ∈ unAll 2,(baseN :: (a ++ (b ++ c))).Nodup := by decide
theorem unAll_le : ∀ i < 3,∀ a ∈ unAll i,a.length ≤ 3 := by decide
theorem units_nodup3 (d e f : Deed) : (baseN :: (unitsD d 0 ++ (unitsD e 1 ++ unitsD f 2))).Nodup := unAll_nodup _ (unitsD_mem d 0) _ (unitsD_mem e 1) _ (unitsD_mem f 2)
theorem units_nodup2 (d e : Deed) : (baseN :: (unitsD d 0 ++ unitsD e 1)).Nodup := by
 have := unAll_nodup _ (unitsD_mem d 0) _ (unitsD_mem e 1) [] (by simp [unAll])
 simpa using this
theorem units_nodup1 (d : Deed) : (baseN :: unitsD d 0).Nodup := by
 have := unAll_nodup _ (unitsD_mem d 0) [] (by simp [unAll]) [] (by simp [unAll])
 simpa using this
theorem unitsD_le (d : Deed) {i : Nat} (hi : i < 3) : (unitsD d i).length ≤ 3 := unAll_le i hi _ (unitsD_mem d i)
def evV (q n : Nat) : AV := if n = 0 then .nilslice else .slice q 0 n none
def hist4 (s : Sheet) (p t q n : Nat) : List AV := [.slice p 0 s.P.length none,.slice t 0 s.T.length none,.str baseN,evV q n]
structure Tryz.HstAt (s : Sheet) (p t q : Nat) (evs : List (List AV)) (us : List (List (List UInt8))) (M : Mem) : Prop where
 hp : ∃ o,M[p]? = some (.cells o 2 (pC s.P))
 ht : ∃ o,M[t]? = some (.cells o 3 (tC s.T))
 hq : evs ≠ [] → ∃ o,M[q]? = some (.cells o 32 evs.flatten)
 len : us.length = evs.length
 small : evs.length ≤ 3
 l32 : ∀ e ∈ evs,e.length = 32
 cok : ∀ e ∈ evs,∀ x ∈ e,x.cellOk = true
 ulen : ∀ U ∈ us,U.length ≤ 3
 ndU : (baseN :: us.flatten).Nodup
 nd : ∀ (i j : Nat) ev,evs[i]? = some ev → evs[j]? = some ev → i = j
 chk : ∀ ev ∈ evs,∀ X,ACallsTo Tryz.prog 55 [shB s p t,.agg ev] (M ++ X) (.int .i64 0) (M ++ X)
 un : ∀ (i : Nat) ev U,evs[i]? = some ev → us[i]? = some U → ∀ X,∃ v nw,ACallsTo Tryz.prog 15 [.agg ev] (M ++ X) v (M ++ X ++ nw) ∧ ∀ ext,sts (M ++ X ++ nw ++ ext) v = some U
theorem Tryz.HstAt.more {s : Sheet} {p t q : Nat} {evs : List (List AV)} {us : List (List (List UInt8))} {M : Mem} (H : Tryz.HstAt s p t q evs us M) (Z : Mem) : Tryz.HstAt s p t q evs us (M ++ Z) where
 hp := by obtain ⟨o,h⟩ := H.hp; exact ⟨o,by rw [List.getElem?_append_left (List.getElem?_eq_some_iff.1 h).1]; exact h⟩
 ht := by obtain ⟨o,h⟩ := H.ht; exact ⟨o,by rw [List.getElem?_append_left (List.getElem?_eq_some_iff.1 h).1]; exact h⟩
 hq := fun he => by obtain ⟨o,h⟩ := H.hq he; exact ⟨o,by rw [List.getElem?_append_left (List.getElem?_eq_some_iff.1 h).1]; exact h⟩
 len := H.len
 small := H.small
 l32 := H.l32
 cok := H.cok
 ulen := H.ulen
 ndU := H.ndU
 nd := H.nd
 chk := fun ev h X => by rw [List.append_assoc]; exact H.chk ev h _
 un := fun i ev U h1 h2 X => by rw [List.append_assoc]; exact H.un i ev U h1 h2 _
def Tryz.HS (s : Sheet) (p t : Nat) (evs : List (List AV)) (us : List (List (List UInt8))) (M : Mem) (c : Go.Eng.Callee) (a : List AV) (N : Mem) (r : CallRes) : Prop := match c,a with
 | .fn 55,[x,.agg ev] => x = shB s p t ∧ ev ∈ evs ∧ (∃ X,N = M ++ X) ∧ r = ⟨.int .i64 0,none,[]⟩
 | .fn 15,[.agg ev] => ∃ (i : Nat) (U : List (List UInt8)) (v : AV) (nw : Mem),evs[i]? = some ev ∧ us[i]? = some U ∧ ACallsTo Tryz.prog 15 [.agg ev] N v (N ++ nw) ∧ (∀ ext,sts (N ++ nw ++ ext) v = some U) ∧ r = ⟨v,none,nw⟩
 | .fn 56,[w,.str u] => ∃ L,sts N w = some L ∧ L.length ≤ 1000000000 ∧ r = ⟨.bool (decide (u ∈ L)),none,[]⟩
 | .fn 13,[w,.str u] => ∃ L,sts N w = some L ∧ L.length ≤ 1000000000 ∧ r = ⟨.int .i64 (idxS u 0 L),none,[]⟩
 | .fn 54,[x] => x = shB s p t ∧ (∃ X,N = M ++ X) ∧ r = ⟨.int .i64 0,none,[]⟩
 | .fn 34,[.str u] => u.length ≤ 1000000000 ∧ r = ⟨.bool (isNameB u),none,[]⟩
 | _,_ => False
section
variable {s : Sheet} {p t q : Nat} {evs : List (List AV)} {us : List (List (List UInt8))} {M : Mem}
theorem Tryz.HS_ok (H : Tryz.HstAt s p t q evs us M) (c : Go.Eng.Callee) (a : List AV) (N : Mem) (r : CallRes) (h : Tryz.HS s p t evs us M c a N r) : SoundAt Tryz.prog c a N r := by
 unfold Tryz.HS at h
 split at h
 ·obtain ⟨rfl,h1,⟨X,rfl⟩,rfl⟩ := h
  exact soundAt_call (by simpa using H.chk _ h1 X)
 ·obtain ⟨i,U,v,nw,_,_,h1,_,rfl⟩ := h
  exact soundAt_call h1
 ·obtain ⟨L,h1,h2,rfl⟩ := h
  exact soundAt_call (by simpa using Tryz.aContainsM _ h2 h1)
 ·obtain ⟨L,h1,h2,rfl⟩ := h
  exact soundAt_call (by simpa using Tryz.aIndexM _ h2 h1)
 ·obtain ⟨rfl,⟨X,rfl⟩,rfl⟩ := h
  obtain ⟨o,hp⟩ := H.hp
  obtain ⟨o',ht⟩ := H.ht
  refine soundAt_call ?_
  have := Tryz.aMCheckX s (M ++ X) p t o o' (by rw [List.getElem?_append_left (List.getElem?_eq_some_iff.1 hp).1]; exact hp) (by rw [List.getElem?_append_left (List.getElem?_eq_some_iff.1 ht).1]; exact ht)
  simpa [shB] using this
 ·obtain ⟨h1,rfl⟩ := h
  exact soundAt_call (by simpa using Tryz.aIsName _ h1 N)
 ·exact h.elim
theorem Tryz.hs_ok (H : Tryz.HstAt s p t q evs us M) : OracleOk Tryz.prog (specO (Tryz.HS s p t evs us M)) := specO_ok (Tryz.HS_ok H)
theorem Tryz.hs_check {ev : List AV} (h : ev ∈ evs) (X : Mem) : specO (Tryz.HS s p t evs us M) (.fn 55) [.agg [.slice p 0 s.P.length none,.slice t 0 s.T.length none],.agg ev] (M ++ X) = some ⟨.int .i64 0,none,[]⟩ :=
 specO_det (S := Tryz.HS s p t evs us M) (show Tryz.HS s p t evs us M _ _ _ _ from ⟨rfl,h,⟨X,rfl⟩,rfl⟩) fun r' h => h.2.2.2
theorem Tryz.hs_mesh (X : Mem) : specO (Tryz.HS s p t evs us M) (.fn 54) [.agg [.slice p 0 s.P.length none,.slice t 0 s.T.length none]] (M ++ X) = some ⟨.int .i64 0,none,[]⟩ :=
 specO_det (S := Tryz.HS s p t evs us M) (show Tryz.HS s p t evs us M _ _ _ _ from ⟨rfl,⟨X,rfl⟩,rfl⟩) fun r' h => h.2.2
theorem Tryz.hs_name (u : List UInt8) (h : u.length ≤ 1000000000) (N : Mem) : specO (Tryz.HS s p t evs us M) (.fn 34) [.str u] N = some ⟨.bool (isNameB u),none,[]⟩ :=
 specO_det (S := Tryz.HS s p t evs us M) (show Tryz.HS s p t evs us M _ _ _ _ from ⟨h,rfl⟩) fun r' h => h.2
theorem Tryz.hs_contains {N : Mem} {w : AV} {L : List (List UInt8)} (u : List UInt8) (h : sts N w = some L) (hl : L.length ≤ 1000000000) : specO (Tryz.HS s p t evs us M) (.fn 56) [w,.str u] N = some ⟨.bool (decide (u ∈ L)),none,[]⟩ :=
 specO_det (S := Tryz.HS s p t evs us M) (show Tryz.HS s p t evs us M _ _ _ _ from ⟨L,h,hl,rfl⟩) fun r' h' => by
  obtain ⟨L',h1,_,h2⟩ := h'
  rw [h] at h1; cases h1; exact h2
theorem Tryz.hs_units (H : Tryz.HstAt s p t q evs us M) {i : Nat} {ev : List AV} {U : List (List UInt8)} (h1 : evs[i]? = some ev) (h2 : us[i]? = some U) (X : Mem) :
  ∃ v nw,specO (Tryz.HS s p t evs us M) (.fn 15) [.agg ev] (M ++ X) = some ⟨v,none,nw⟩ ∧ ∀ ext,sts (M ++ (X ++ (nw ++ ext))) v = some U := by
 obtain ⟨v,nw,a,b⟩ := H.un i ev U h1 h2 X
 obtain ⟨r,g1,g2⟩ := specO_some (S := Tryz.HS s p t evs us M) (c := .fn 15) (a := [.agg ev]) (M := M ++ X) ⟨⟨v,none,nw⟩,show Tryz.HS s p t evs us M _ _ _ _ from ⟨i,U,v,nw,h1,h2,a,b,rfl⟩⟩
 obtain ⟨i',U',v',nw',k1,k2,k3,k4,rfl⟩ := (show ∃ (i : Nat) (U : List (List UInt8)) (v : AV) (nw : Mem),evs[i]? = some ev ∧ us[i]? = some U ∧ ACallsTo Tryz.prog 15 [.agg ev] (M ++ X) v ((M ++ X) ++ nw) ∧ (∀ ext,sts ((M ++ X) ++ nw ++ ext) v = some U) ∧ r = ⟨v,none,nw⟩ from g2)
 have := H.nd i i' ev h1 k1
 subst this
 rw [h2] at k2; cases k2
 exact ⟨v',nw',g1,fun ext => by have := k4 ext; rwa [List.append_assoc,List.append_assoc] at this⟩
theorem Tryz.HstAt.row (H : Tryz.HstAt s p t q evs us M) {i : Nat} {ev : List AV} (h : evs[i]? = some ev) : (evs.flatten.drop (i * 32)).take 32 = ev ∧ i * 32 + 32 ≤ evs.flatten.length := by
 have key : ∀ (l : List (List AV)) (i : Nat),(∀ e ∈ l,e.length = 32) → l[i]? = some ev → (l.flatten.drop (i * 32)).take 32 = ev ∧ i * 32 + 32 ≤ l.flatten.length := by
  intro l
  induction l with
  | nil => intro i _ h; simp at h
  | cons x l ih =>
   intro i hl h
   have hx := hl x (by simp)
   cases i with
   | zero =>
    simp at h; subst h
    simp [hx]
   | succ i =>
    obtain ⟨a,b⟩ := ih i (fun e he => hl e (by simp [he])) (by simpa using h)
    refine ⟨?_,by rw [List.flatten_cons,List.length_append]; omega⟩
    rw [List.flatten_cons,List.drop_append,List.drop_of_length_le (by omega),List.nil_append,show (i + 1) * 32 - x.length = i * 32 by omega]
    exact a
 exact key evs i H.l32 h
end
end Go.Proofs
namespace Go.Proofs
open Go.Eng
noncomputable def Tryz.mkO (s : Sheet) : Oracle := specO fun c a N r => match c,a with
 | .fn 28,[x] => x = s.av ∧ r = ⟨shB s N.length (N.length + 1),none,[.cells true 2 (pC s.P),.cells true 3 (tC s.T)]⟩
 | _,_ => False
theorem Tryz.mkO_ok (s : Sheet) (hs : s.Ok) : OracleOk Tryz.prog (Tryz.mkO s) := specO_ok fun c a N r h => by
 split at h
 ·obtain ⟨rfl,rfl⟩ := h
  exact soundAt_call (Tryz.aLMake s hs N)
 ·exact h.elim
theorem Tryz.mkO_at (s : Sheet) (N : Mem) : Tryz.mkO s (.fn 28) [.agg [.int .u8 s.kind,.int .i8 s.sx,.int .i8 s.sy,.bool s.half]] N = some ⟨shB s N.length (N.length + 1),none,[.cells true 2 (pC s.P),.cells true 3 (tC s.T)]⟩ :=
 specO_det ⟨rfl,rfl⟩ fun r' h => h.2
theorem or_some {O O' : Oracle} {c : Go.Eng.Callee} {a : List AV} {M : Mem} {r : CallRes} (h : O c a M = some r) : Oracle.or O O' c a M = some r := by
 unfold Oracle.or; rw [h]
theorem or_none {O O' : Oracle} {c : Go.Eng.Callee} {a : List AV} {M : Mem} (h : O c a M = none) : Oracle.or O O' c a M = O' c a M := by
 unfold Oracle.or; rw [h]
theorem factC_hd {f : FuncId} {a : List AV} {m : Mem} {r : CallRes} {L : List (FuncId × List AV × Mem × CallRes)} : factC ((f,a,m,r) :: L) (.fn f) a m = some r := by
 rw [factC,if_pos ⟨rfl,rfl,rfl⟩]
theorem factC_tl {f g : FuncId} {a b : List AV} {m m' : Mem} {r : CallRes} {L : List (FuncId × List AV × Mem × CallRes)} (h : b ≠ a) : factC ((f,a,m,r) :: L) (.fn g) b m' = factC L (.fn g) b m' := by
 rw [factC,if_neg (fun e => h e.2.1)]
theorem keeps5 {b : Nat} {M : Mem} {x1 x2 x3 x4 x5 : Slot} (h1 : M[b]? = some x1) (h2 : M[b + 1]? = some x2) (h3 : M[b + 2]? = some x3) (h4 : M[b + 3]? = some x4) (h5 : M[b + 4]? = some x5) : Keeps b [x1,x2,x3,x4,x5] M := fun k x hk => by
 match k,hk with
 | 0,hk => simp at hk; subst hk; exact h1
 | 1,hk => simp at hk; subst hk; exact h2
 | 2,hk => simp at hk; subst hk; exact h3
 | 3,hk => simp at hk; subst hk; exact h4
 | 4,hk => simp at hk; subst hk; exact h5
 | k + 5,hk => simp at hk
theorem evName_inj {i j : Nat} (hi : i < 6) (hj : j < 6) (h : evName i = evName j) : i = j := by
 have : ∀ i < 6,∀ j < 6,evName i = evName j → i = j := by decide
 exact this i hi j hj h
def deedsC (ds : List Deed) : List AV := ds.flatMap Deed.cells
def PlanAt (ds : List Deed) (x : Slot) (a : AV) : Prop := (ds = [] ∧ a = .nilslice) ∨ (x = .cells false 12 (deedsC ds) ∧ a = .slice 0 0 ds.length none)
end Go.Proofs
