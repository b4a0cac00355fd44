/- See I57. -/
import Derived.Test.YtahfjdgeebjiaaaGreatDoorI20
import Derived.Test.YtahfjdgeebjiaaaGreatDoorI11
import Derived.Test.YtahfjdgeebjiaaaGreatDoorI22
import Derived.Test.YtahfjdgeebjiaaaGreatDoorI10
set_option linter.all false
namespace Go.Proofs
open Go.Eng
theorem subC {ks : List Nat} {M : Mem} {b es : Nat} {o : Bool} {l cs : List AV} (hc : AV.closeds cs = true) (h : M[b]? = some (.cells o es l)) (ht : l.take cs.length = cs) : SubSlot ks M b (.cells false es cs) := by
 refine ⟨closeds_unders hc,o,l,h,fun j v hv => ?_⟩
 have hj := (List.getElem?_eq_some_iff.1 hv).1
 have e : l[j]? = cs[j]? := by rw [← List.getElem?_take_of_lt hj,ht]
 have hr := rens_closeds (ρ := back ks M.length) hc
 rw [rens_eq_map] at hr
 have hr2 : (cs.map (AV.ren (back ks M.length)))[j]? = cs[j]? := by rw [hr]
 rw [List.getElem?_map,hv] at hr2
 rw [e,hv]; exact hr2.symm
theorem ren_closed1 {v : AV} {f : Nat → Option Nat} (h : v.closed = true) : v.ren f = v := by
 have := rens_closeds (vs := [v]) (ρ := f) (by simp [AV.closeds,h])
 simpa [AV.rens] using this
theorem rows1C {P : Program} {f : FuncId} {M : Mem} {b es n : Nat} {o : Bool} {l cs rest : List AV} {v : AV} (hc : AV.closeds cs = true) (hr : AV.closeds rest = true) (hv : v.closed = true) (hb : M[b]? = some (.cells o es l)) (ht : l.take cs.length = cs)
  (h : ACallsTo P f (.slice 0 0 n none :: rest) [.cells false es cs] v [.cells false es cs]) : ACallsTo P f (.slice b 0 n none :: rest) M v M := by
 have hlt := (List.getElem?_eq_some_iff.1 hb).1
 have hu : AV.unders [b].length (.slice 0 0 n none :: rest) = true := by
  show (decide (0 < 1) && AV.unders 1 rest) = true
  rw [closeds_unders hr]; rfl
 have := ACallsTo.frame (M := M) (new := []) [b] (m := [.cells false es cs]) rfl (by simpa using hlt) hu (fun i s hs => by
  cases i with
  | zero => simp at hs; subst hs; exact subC hc hb ht
  | succ i => simp at hs) rfl (by simpa using h)
 simpa [AV.rens,AV.ren,back,rens_closeds hr,ren_closed1 hv] using this
def sC (L : List (List UInt8)) : List AV := L.map .str
theorem sC_length (L : List (List UInt8)) : (sC L).length = L.length := by simp [sC]
theorem sC_closed : ∀ L : List (List UInt8),AV.closeds (sC L) = true
 | [] => rfl
 | s :: L => by simp [sC,AV.closeds,AV.closed]; exact sC_closed L
theorem sC_refs (n : Nat) : ∀ L : List (List UInt8),AV.refsL n (sC L) = []
 | [] => rfl
 | s :: L => by simp [sC,AV.refsL,AV.refs]; exact sC_refs n L
def strsOf : List AV → Option (List (List UInt8))
 | [] => some []
 | .str a :: l => match strsOf l with
  | some r => some (a :: r)
  | none => none
 | _ => none
theorem strsOf_some : ∀ {cs : List AV} {L : List (List UInt8)},strsOf cs = some L → cs = sC L
 | [],L,h => by cases h; rfl
 | v :: l,L,h => by
  unfold strsOf at h
  split at h
  ·rename_i h1; cases h1
  ·rename_i h1
   cases h1
   split at h
   ·rename_i r hr
    cases h
    rw [strsOf_some hr]; rfl
   ·cases h
  ·cases h
def sliceS (M : Mem) : AV → Option (List (List UInt8))
 | .slice b 0 n none => match M[b]? with
  | some (.cells _ 1 cs) => if n ≤ cs.length then strsOf (cs.take n) else none
  | _ => none
 | .nilslice => some []
 | _ => none
theorem sliceS_some {M : Mem} {x : AV} {L : List (List UInt8)} (h : sliceS M x = some L) : (∃ b o l,x = .slice b 0 L.length none ∧ M[b]? = some (.cells o 1 l) ∧ l.take L.length = sC L) ∨ (x = .nilslice ∧ L = []) := by
 unfold sliceS at h
 split at h
 ·rename_i b n
  split at h
  ·rename_i o cs hb
   split at h
   ·rename_i hn
    have hA := strsOf_some h
    have hl : n = L.length := by
     have := congrArg List.length hA
     rw [sC_length,List.length_take] at this
     omega
    subst hl
    exact .inl ⟨b,o,cs,rfl,hb,hA⟩
   ·cases h
  ·cases h
 ·cases h; exact .inr ⟨rfl,rfl⟩
 ·cases h
theorem rows1S {P : Program} {f : FuncId} {M : Mem} {x : AV} {L : List (List UInt8)} {rest : List AV} {v : AV} (hr : AV.closeds rest = true) (hv : v.closed = true) (hx : sliceS M x = some L)
  (h : ACallsTo P f (.slice 0 0 L.length none :: rest) [.cells false 1 (sC L)] v [.cells false 1 (sC L)]) (h0 : L = [] → ACallsTo P f (.nilslice :: rest) M v M) : ACallsTo P f (x :: rest) M v M := by
 rcases sliceS_some hx with ⟨b,o,l,rfl,hb,ht⟩ | ⟨rfl,hL⟩
 ·exact rows1C (sC_closed L) hr hv hb (by rw [sC_length]; exact ht) h
 ·exact h0 hL
theorem sC_at {L : List (List UInt8)} {i : Nat} {s : List UInt8} (h : L[i]? = some s) : (sC L)[i]? = some (.str s) := by simp [sC,h]
def numE : List (List UInt8) → Int
 | [] => 0
 | s :: l => if chkR s = 0 then numE l else chkR s
set_option maxHeartbeats 1600000 in
theorem Tryz.numbers_loop {K : Nat} (L : List (List UInt8)) (hL : ∀ s ∈ L,s.length ≤ 18) (hl : L.length ≤ 1000000000) (hK : L.length < K) {b : Code} (hb : loopsF Tryz.f109 = [b]) :
  ∃ F : Env → Bool → Env,∀ env0 d,(Eng.look env0 6 = .slice 0 0 L.length none ∧ Eng.look env0 7 = .int .i64 L.length ∧ Eng.look env0 8 = .int .i64 0 ∧ Eng.look env0 2 = .int .i64 0) →
   execC (tyOf Tryz.prog) (fun _ => [8]) (pureO Tryz.ratF4) K 18 1 true (.loop b) ⟨env0,[.cells false 1 (sC L)],d⟩ = some (if numE L = 0 then .exit 0 else .ret,⟨F env0 d,[.cells false 1 (sC L)],d⟩) ∧ (numE L ≠ 0 → Eng.look (F env0 d) 2 = .int .i64 (numE L)) := by
 refine loop_rule rfl (fun env0 => Eng.look env0 6 = .slice 0 0 L.length none ∧ Eng.look env0 7 = .int .i64 L.length ∧ Eng.look env0 8 = .int .i64 0 ∧ Eng.look env0 2 = .int .i64 0) (fun _ env' => numE L ≠ 0 → Eng.look env' 2 = .int .i64 (numE L)) ?_
 rintro env0 d ⟨h6,h7,h8,h2⟩
 simp [loopsF,loopsC,Tryz.f109] at hb
 have hn : normE [8] (writesC b) env0 ((8,.int .i64 ((0 : Nat) : Int)) :: env0) = normE [8] (writesC b) env0 env0 := by simp [normE,h8]
 rw [← hn]
 refine iter_ind (α := Nat) (fun n => ⟨normE [8] (writesC b) env0 ((8,.int .i64 (n : Int)) :: env0),[.cells false 1 (sC L)],d⟩) (fun n => L.length - n) (fun n => n ≤ L.length ∧ numE L = numE (L.drop n)) (if numE L = 0 then .exit 0 else .ret) _ d _ (by split <;> simp) ?_ K 0 ⟨by omega,by rw [List.drop_zero]⟩ (by omega)
 rintro n ⟨hn1,he⟩
 clear hn
 subst hb
 by_cases hlt : n < L.length
 ·obtain ⟨s,hs⟩ : ∃ s,L[n]? = some s := ⟨L[n],List.getElem?_eq_getElem hlt⟩
  have k1 := sC_at hs
  have l1 := hL s (List.mem_of_getElem? hs)
  have hd : L.drop n = s :: L.drop (n + 1) := by
   rw [List.getElem?_eq_some_iff] at hs
   obtain ⟨h1,h2⟩ := hs
   rw [← h2]; exact List.drop_eq_getElem_cons h1
  rw [hd,numE] at he
  have w1 : IntKind.i64.wrap ((n : Int) + 1) = ((n + 1 : Nat) : Int) := by rw [wrap_i64 (by omega) (by omega)]; omega
  by_cases c1 : chkR s = 0
  ·rw [if_pos c1] at he
   left
   obtain ⟨v,hv⟩ : ∃ v,v = n + 1 := ⟨_,rfl⟩
   rw [← hv] at w1 he
   refine ⟨v,?_⟩
   simp [h6,h7,hlt,pureO,Tryz.ratF4,l1,c1,k1,w1,sC_refs]
   exact ⟨⟨by omega,he⟩,by omega⟩
  ·rw [if_neg c1] at he
   right
   rw [he]
   simp [h6,h7,hlt,pureO,Tryz.ratF4,l1,c1,k1]
 ·right
  have e : L.drop n = [] := List.drop_of_length_le (by omega)
  rw [e,numE] at he
  rw [he]
  simp [h7,hlt]
theorem Tryz.aNumbers (L : List (List UInt8)) (hL : ∀ s ∈ L,s.length ≤ 18) (hl : L.length ≤ 1000000000) :
  ACallsTo Tryz.prog 109 [.slice 0 0 L.length none] [.cells false 1 (sC L)] (.int .i64 (numE L)) [.cells false 1 (sC L)] := by
 have hG : fnOf Tryz.prog 109 = some Tryz.f109 := by kernel_rfl
 obtain ⟨b,hb⟩ : ∃ b,loopsF Tryz.f109 = [b] := ⟨_,rfl⟩
 obtain ⟨F,hF⟩ := Tryz.numbers_loop (K := L.length + 1) L hL hl (by omega) hb
 simp [loopsF,loopsC,Tryz.f109] at hb
 subst hb
 have h : callFn (tyOf Tryz.prog) (fun _ => [8]) (fnOf Tryz.prog) (pureO Tryz.ratF4) (L.length + 1) 109 [.slice 0 0 L.length none] [.cells false 1 (sC L)] = some ⟨.int .i64 (numE L),none,[]⟩ := by
  by_cases hc : numE L = 0
  ·rw [if_pos hc] at hF
   have hF1 := fun env0 d h => (hF env0 d h).1
   clear hF
   simp [callFn,hG,Tryz.f109,hF1,sC_refs,hc]
  ·rw [if_neg hc] at hF
   have hF1 := fun env0 d h => (hF env0 d h).1
   have hF3 := fun env0 d h => (hF env0 d h).2 hc
   clear hF
   simp [callFn,hG,Tryz.f109,hF1,hF3,sC_refs]
 have := (callFn_sound Tryz.mixed (tyOf_ok _) Tryz.rat4_ok (fnOf_ok _) h).1
 simpa [CallRes.mem] using this
theorem Tryz.aNumbersNil (M : Mem) : ACallsTo Tryz.prog 109 [.nilslice] M (.int .i64 0) M := by
 have hG : fnOf Tryz.prog 109 = some Tryz.f109 := by kernel_rfl
 refine Tryz.run (noOracle_ok _) (lv := fun _ => [8]) (K := 1) rfl rfl ?_ M
 simp [callFn,hG,Tryz.f109,execC_loop,iter]
def rT (Q : List Rat) : List (List UInt8) := Q.map ratS
def sumL (Q : List Rat) (s : Rat) : Rat := Q.foldl (· + ·) s
def sumOk : List Rat → Rat → Prop
 | [],_ => True
 | q :: l,s => fine s ∧ fine q ∧ sumOk l (s + q)
set_option maxHeartbeats 1600000 in
theorem Tryz.sum_loop {K : Nat} (Q : List Rat) (hQ : sumOk Q 0) (hl : Q.length ≤ 1000000000) (hK : Q.length < K) {b : Code} (hb : loopsF Tryz.f175 = [b]) :
  ∃ F : Env → Bool → Env,∀ env0 d,(Eng.look env0 6 = .slice 0 0 Q.length none ∧ Eng.look env0 7 = .int .i64 Q.length ∧ Eng.look env0 8 = .int .i64 0 ∧ Eng.look env0 3 = .str [48]) →
   execC (tyOf Tryz.prog) (fun _ => [3,8]) (pureO Tryz.ratF4) K 17 1 true (.loop b) ⟨env0,[.cells false 1 (sC (rT Q))],d⟩ = some (.exit 0,⟨F env0 d,[.cells false 1 (sC (rT Q))],d⟩) ∧ Eng.look (F env0 d) 3 = .str (ratS (sumL Q 0)) := by
 refine loop_rule rfl (fun env0 => Eng.look env0 6 = .slice 0 0 Q.length none ∧ Eng.look env0 7 = .int .i64 Q.length ∧ Eng.look env0 8 = .int .i64 0 ∧ Eng.look env0 3 = .str [48]) (fun _ env' => Eng.look env' 3 = .str (ratS (sumL Q 0))) ?_
 rintro env0 d ⟨h6,h7,h8,h3⟩
 simp [loopsF,loopsC,Tryz.f175] at hb
 have z : ratS 0 = [48] := rfl
 have hn : normE [3,8] (writesC b) env0 ((3,.str (ratS (sumL (Q.take 0) 0))) :: (8,.int .i64 ((0 : Nat) : Int)) :: env0) = normE [3,8] (writesC b) env0 env0 := by simp [normE,h8,h3,sumL,z]
 rw [← hn]
 refine iter_ind (α := Nat) (fun n => ⟨normE [3,8] (writesC b) env0 ((3,.str (ratS (sumL (Q.take n) 0))) :: (8,.int .i64 (n : Int)) :: env0),[.cells false 1 (sC (rT Q))],d⟩) (fun n => Q.length - n) (fun n => n ≤ Q.length ∧ sumOk (Q.drop n) (sumL (Q.take n) 0)) (.exit 0) _ d _ (by simp) ?_ K 0 ⟨by omega,by simpa [sumL] using hQ⟩ (by omega)
 rintro n ⟨hn1,he⟩
 clear hn
 subst hb
 by_cases hlt : n < Q.length
 ·obtain ⟨q,hq⟩ : ∃ s,Q[n]? = some s := ⟨Q[n],List.getElem?_eq_getElem hlt⟩
  have k1 : (sC (rT Q))[n]? = some (.str (ratS q)) := by simp [sC,rT,hq]
  have hd : Q.drop n = q :: Q.drop (n + 1) := by
   rw [List.getElem?_eq_some_iff] at hq
   obtain ⟨h1,h2⟩ := hq
   rw [← h2]; exact List.drop_eq_getElem_cons h1
  have ht : sumL (Q.take (n + 1)) 0 = sumL (Q.take n) 0 + q := by
   rw [List.take_add_one,hq]; simp [sumL]
  rw [hd,sumOk,← ht] at he
  obtain ⟨⟨f1,f2⟩,⟨f3,f4⟩,he⟩ := he
  have w1 : IntKind.i64.wrap ((n : Int) + 1) = ((n + 1 : Nat) : Int) := by rw [wrap_i64 (by omega) (by omega)]; omega
  left
  obtain ⟨v,hv⟩ : ∃ v,v = n + 1 := ⟨_,rfl⟩
  rw [← hv] at w1 he ht
  obtain ⟨s,hs⟩ : ∃ s,s = sumL (Q.take n) 0 := ⟨_,rfl⟩
  rw [← hs] at f1 f2 ht ⊢
  refine ⟨v,?_⟩
  simp [h6,h7,hlt,pureO,Tryz.ratF4,Tryz.ratF3,ratP_ratS,f1,f2,f3,f4,k1,w1,ht,sC_refs]
  exact ⟨⟨by omega,by rw [← ht]; exact he⟩,by omega⟩
 ·right
  have e : Q.take n = Q := List.take_of_length_le (by omega)
  rw [e]
  simp [h7,hlt]
theorem Tryz.aSumQ (Q : List Rat) (hQ : sumOk Q 0) (hl : Q.length ≤ 1000000000) :
  ACallsTo Tryz.prog 175 [.slice 0 0 Q.length none] [.cells false 1 (sC (rT Q))] (.str (ratS (sumL Q 0))) [.cells false 1 (sC (rT Q))] := by
 have hG : fnOf Tryz.prog 175 = some Tryz.f175 := by kernel_rfl
 obtain ⟨b,hb⟩ : ∃ b,loopsF Tryz.f175 = [b] := ⟨_,rfl⟩
 obtain ⟨F,hF⟩ := Tryz.sum_loop (K := Q.length + 1) Q hQ hl (by omega) hb
 simp [loopsF,loopsC,Tryz.f175] at hb
 subst hb
 have h : callFn (tyOf Tryz.prog) (fun _ => [3,8]) (fnOf Tryz.prog) (pureO Tryz.ratF4) (Q.length + 1) 175 [.slice 0 0 Q.length none] [.cells false 1 (sC (rT Q))] = some ⟨.str (ratS (sumL Q 0)),none,[]⟩ := by
  simp [callFn,hG,Tryz.f175,hF,sC_refs]
 have := (callFn_sound Tryz.mixed (tyOf_ok _) Tryz.rat4_ok (fnOf_ok _) h).1
 simpa [CallRes.mem] using this
end Go.Proofs
