/- See K54. -/
import Derived.Test.YtiopbpbcgccngaaGreatDoorK43
import Derived.Test.YtiopbpbcgccngaaGreatDoorK33
import Derived.Test.YtiopbpbcgccngaaGreatDoorK30
import Derived.Test.YtiopbpbcgccngaaGreatDoorK11
set_option linter.all false
namespace Go.Proofs
open Go.Eng
theorem natD_pos_closeS {v : Nat} (hv : 0 < v) (mn : Bool) : closeS mn v = if mn then 45 :: natD v else natD v := by unfold closeS; rw [if_neg (by omega)]
theorem Tryz.give_run (v : Nat) (hv : 0 < v) (hl : (dig 10000 v).length ≤ 100000) : callFn (tyOf Tryz.prog) (fun _ => [3,4]) (fnOf Tryz.prog) (pureO Tryz.strF) ((dig 10000 v).length + 1) 224 [.slice 0 0 (dig 10000 v).length none] [.cells false 1 (iN .i64 (dig 10000 v))] =
  some ⟨.str (natD v),none,[]⟩ := by
 have hG : fnOf Tryz.prog 224 = some Tryz.f224 := by kernel_rfl
 obtain ⟨b,hbd⟩ : ∃ b,loopsF Tryz.f224 = [b] := ⟨_,rfl⟩
 obtain ⟨F,hF⟩ := Tryz.give_loop (K := (dig 10000 v).length + 1) v hv hl (by omega) hbd
 have hA : lok 10000 (dig 10000 v) = true := lok_dig (by omega) _
 have hlen : 0 < (dig 10000 v).length := by
  rcases Nat.eq_zero_or_pos (dig 10000 v).length with h | h
  ·have := (dig_eq_nil (B := 10000) (n := v) (by omega)).1 (List.eq_nil_of_length_eq_zero h)
   omega
  ·exact h
 obtain ⟨A,hAe⟩ : ∃ A,A = dig 10000 v := ⟨_,rfl⟩
 rw [← hAe] at hl hA hlen hF ⊢
 obtain ⟨n,hn⟩ : ∃ n,A.length = n + 1 := ⟨A.length - 1,by omega⟩
 obtain ⟨x,hx,hx'⟩ := get_both (l := A) (i := n) (by omega)
 have hxb := lok_get hA hx
 have htop : natD (lval 10000 (A.drop (A.length - 1))) = natD x := by
  rw [hn,show n + 1 - 1 = n by omega,lval_drop hx,List.drop_of_length_le (by omega)]
  simp [lval]
 have w1 : IntKind.i64.wrap (n : Int) = (n : Int) := wrap_i64 (by omega) (by omega)
 have w2 : IntKind.i64.wrap ((n : Int) + 1 - 1) = (n : Int) := by rw [wrap_i64 (by omega) (by omega)]; omega
 have w3 : IntKind.i64.wrap ((n : Int) + 1 - 2) = (n : Int) - 1 := by rw [wrap_i64 (by omega) (by omega)]; omega
 have hf : fitsI (x : Int) = true := by unfold fitsI; simp; omega
 have hxs : intS (x : Int) = natD x := rfl
 rw [htop,hn,show n + 1 - 1 = n by omega] at hF
 rw [hn]
 have hl1 : n < A.length := by omega
 have hl1I : (n : Int) < (n : Int) + 1 := by omega
 obtain ⟨K,hK⟩ : ∃ K,K = n + 1 + 1 := ⟨_,rfl⟩
 rw [← hK] at hF ⊢
 have hA0 : ¬ ((n : Int) + 1 = 0) := by omega
 clear hAe
 simp [loopsF,loopsC,Tryz.f224] at hbd
 subst hbd
 simp [callFn,hG,Tryz.f224,hA0,w1,w2,w3,hl1I,hx,hx',pureO,Tryz.strF,hf,hxs,hF]
theorem Tryz.give_zero : callFn (tyOf Tryz.prog) (fun _ => []) (fnOf Tryz.prog) noOracle 1 224 [.slice 0 0 0 none] [.cells false 1 []] = some ⟨.str [48],none,[]⟩ := by
 have hG : fnOf Tryz.prog 224 = some Tryz.f224 := by kernel_rfl
 simp [callFn,hG,Tryz.f224]
theorem Tryz.aGiveNil (M : Mem) : ACallsTo Tryz.prog 224 [.nilslice] M (.str [48]) M := by
 have hG : fnOf Tryz.prog 224 = some Tryz.f224 := by kernel_rfl
 refine Tryz.run (noOracle_ok _) (lv := fun _ => []) (K := 1) rfl rfl ?_ M
 simp [callFn,hG,Tryz.f224]
theorem Tryz.aGiveM {M : Mem} {x : AV} {A : List Nat} (hA : lok 10000 A = true) (tA : ltrim A = A) (hl : A.length ≤ 100000) (hx : RowAt .i64 M x A) : ACallsTo Tryz.prog 224 [x] M (.str (natD (lval 10000 A))) M := by
 have e := dig_self (by omega) hA tA
 have small : ACallsTo Tryz.prog 224 [.slice 0 0 A.length none] [.cells false 1 (iN .i64 A)] (.str (natD (lval 10000 A))) ([.cells false 1 (iN .i64 A)] ++ []) := by
  by_cases hv : lval 10000 A = 0
  ·have e0 : A = [] := by rw [hv,dig_zero] at e; exact e.symm
   subst e0
   have := (callFn_sound Tryz.mixed (tyOf_ok _) (noOracle_ok _) (fnOf_ok _) Tryz.give_zero).1
   simpa [CallRes.mem,lval,natD_zero] using this
  ·have h := Tryz.give_run (lval 10000 A) (by omega) (by rw [e]; exact hl)
   rw [e] at h
   have := (callFn_sound Tryz.mixed (tyOf_ok _) Tryz.str_ok (fnOf_ok _) h).1
   simpa [CallRes.mem] using this
 rw [List.append_nil] at small
 obtain ⟨b,rfl,h⟩ := ACallsTo.rows1 (new := []) (rest := []) rfl rfl small hx
 simpa [AV.ren,back] using h
noncomputable def Tryz.rfO4 : Oracle := fun c args M => match c,args with
 | .fn 176,[.str s] => match natP s with
  | some v => if (natD v).length ≤ 1000000 then some ⟨.slice M.length 0 (dig 10000 v).length none,none,[.cells true 1 (iN .i64 (dig 10000 v))]⟩ else none
  | none => none
 | .fn 224,[.nilslice] => some ⟨.str [48],none,[]⟩
 | .fn 224,[x] => match sliceN .i64 M x with
  | some A => if lok 10000 A = true ∧ ltrim A = A ∧ A.length ≤ 100000 then some ⟨.str (natD (lval 10000 A)),none,[]⟩ else none
  | none => none
 | c,args => Tryz.rfO3 c args M
theorem Tryz.rfO4_ok : OracleOk Tryz.prog Tryz.rfO4 := by
 refine oracleOk_of fun c args M r h => ?_
 unfold Tryz.rfO4 at h
 split at h
 ·split at h
  ·rename_i v hv
   split at h
   ·rename_i hl
    cases h
    rw [natP_some hv]
    exact soundAt_call (Tryz.aTakeM v hl M)
   ·cases h
  ·cases h
 ·cases h
  refine soundAt_call ?_
  rw [List.append_nil]
  exact Tryz.aGiveNil M
 ·split at h
  ·rename_i hA
   split at h
   ·rename_i hc
    cases h
    refine soundAt_call ?_
    rw [List.append_nil]
    exact Tryz.aGiveM hc.1 hc.2.1 hc.2.2 (sliceN_some hA)
   ·cases h
  ·cases h
 ·exact soundAt_of Tryz.rfO3_ok h
theorem Tryz.aMadeNil (mn : Bool) (M : Mem) : ACallsTo Tryz.prog 178 [.bool mn,.nilslice] M (.str [48]) M := by
 have hG : fnOf Tryz.prog 178 = some Tryz.f178 := by kernel_rfl
 refine Tryz.run Tryz.rfO4_ok (lv := fun _ => []) (K := 1) rfl rfl ?_ M
 cases mn <;> simp [callFn,hG,Tryz.f178,Tryz.rfO4,Tryz.rfO3,Tryz.rfO2,Tryz.rfO1]
theorem Tryz.aMadeM {M : Mem} {x : AV} {A : List Nat} (mn : Bool) (hA : lok 10000 A = true) (tA : ltrim A = A) (hl : A.length ≤ 100000) (hx : RowAt .i64 M x A) : ACallsTo Tryz.prog 178 [.bool mn,x] M (.str (closeS mn (lval 10000 A))) M := by
 have hG : fnOf Tryz.prog 178 = some Tryz.f178 := by kernel_rfl
 obtain ⟨b,o,cs,rfl,hb,ht⟩ := hx
 have hlt := (List.getElem?_eq_some_iff.1 hb).1
 have hs : ∀ l,sliceN .i64 (.cells false 1 (iN .i64 A) :: l) (.slice 0 0 A.length none) = some A := fun l => sliceN_at rfl (by simp) (List.take_of_length_le (by simp))
 have hl1 : A.length ≤ 4000000000000 := by omega
 have small : callFn (tyOf Tryz.prog) (fun _ => []) (fnOf Tryz.prog) Tryz.rfO4 1 178 [.bool mn,.slice 0 0 A.length none] [.cells false 1 (iN .i64 A)] = some ⟨.str (closeS mn (lval 10000 A)),none,[]⟩ := by
  by_cases hv : lval 10000 A = 0
  ·have e0 : A = [] := by
    have e := dig_self (by omega) hA tA
    rw [hv,dig_zero] at e; exact e.symm
   subst e0
   have h0 : natD 0 = [48] := natD_zero
   have k1 : lok 10000 [] = true := rfl
   have k2 : ltrim [] = [] := rfl
   have k3 : lval 10000 [] = 0 := rfl
   have hs' : ∀ l,sliceN .i64 (.cells false 1 [] :: l) (.slice 0 0 0 none) = some [] := hs
   cases mn <;> simp [callFn,hG,Tryz.f178,Tryz.rfO4,Tryz.rfO3,Tryz.rfO2,Tryz.rfO1,hs',k1,k2,k3,h0,closeS]
  ·have hp : 0 < A.length := by
    rcases Nat.eq_zero_or_pos A.length with h | h
    ·rw [List.eq_nil_of_length_eq_zero h] at hv; exact absurd rfl hv
    ·exact h
   rw [natD_pos_closeS (by omega)]
   have hsz : 1 + (natD (lval 10000 A)).length ≤ maxInt := by
    have h1 := lval_lt hA
    have h2 : (10000 : Nat) ^ A.length = 10 ^ (4 * A.length) := by rw [Nat.pow_mul]
    rw [h2] at h1
    have h4 := natD_length_le (by omega) h1
    unfold maxInt; omega
   cases mn with
   | false => simp [callFn,hG,Tryz.f178,Tryz.rfO4,Tryz.rfO3,Tryz.rfO2,Tryz.rfO1,hs,hA,tA,hl,hl1]
   | true => simp [callFn,hG,Tryz.f178,Tryz.rfO4,Tryz.rfO3,Tryz.rfO2,Tryz.rfO1,hs,hA,tA,hl,hl1,hp,hsz]
 have h := (callFn_sound Tryz.mixed (tyOf_ok _) Tryz.rfO4_ok (fnOf_ok _) small).1
 have := ACallsTo.frame (M := M) (args := [.bool mn,.slice 0 0 A.length none]) [b] (m := [.cells false 1 (iN .i64 A)]) (new := []) rfl (by simpa using hlt) (by simp) (fun i s hs => by
  cases i with
  | zero => simp at hs; subst hs; exact .row hb ht
  | succ i => simp at hs) rfl (by simpa [CallRes.mem] using h)
 simpa [AV.rens,AV.ren,back] using this
def Tryz.partsLv (c : Code) : List Nat := if (writesC c).contains 8 then [7,8] else [9,10]
theorem sliceN_push {k : IntKind} {M : Mem} {s : Slot} {b n : Nat} {A : List Nat} (h : sliceN k M (.slice b 0 n none) = some A) : sliceN k (M ++ [s]) (.slice b 0 n none) = some A := by
 obtain ⟨b',o,cs,e,hb,ht⟩ := sliceN_some h
 cases e
 refine sliceN_at (by rw [List.getElem?_append_left (List.getElem?_eq_some_iff.1 hb).1]; exact hb) ?_ ht
 have := congrArg List.length ht
 simp at this; omega
theorem sliceN_last {k : IntKind} {M : Mem} {A : List Nat} : sliceN k (M ++ [.cells true 1 (iN k A)]) (.slice M.length 0 A.length none) = some A :=
 sliceN_at (ow := true) (by simp) (by simp) (List.take_of_length_le (by simp))
theorem Tryz.parts_inner {K : Nat} (mem : Mem) (B : List Nat) (R p : Nat) (b : Nat) (hb0 : 0 < b) (hB : B = dig 10000 b) (hR : R < 10000 * b) (hl : (dig 10000 R).length ≤ 100000) (hl2 : B.length ≤ 100000)
  (hsR : sliceN .i64 mem (.slice p 0 (dig 10000 R).length none) = some (dig 10000 R)) (hsB : sliceN .i64 mem (.slice 1 0 B.length none) = some B) (hrefs : (mem.all fun s => (s.refs mem.length).isEmpty) = true) (hK : 10000 < K) {c c2 : Code} (hbd : loopsF Tryz.f175 = [c,c2]) :
  ∃ F : Env → Bool → Env,∀ env0 d,(Eng.look env0 1 = .slice 1 0 B.length none ∧ Eng.look env0 7 = .slice p 0 (dig 10000 R).length none ∧ Eng.look env0 9 = .int .i64 0 ∧ Eng.look env0 10 = .int .i64 9999) →
   execC (tyOf Tryz.prog) Tryz.partsLv Tryz.rfO4 K 58 2 true (.loop c2) ⟨env0,mem,d⟩ = some (.exit 2,⟨F env0 d,mem,d⟩) ∧
   (Eng.look (F env0 d) 9 = .int .i64 ((R / b : Nat) : Int) ∧ ∀ t,t ∈ [0,1,6,7,8] → Eng.look (F env0 d) t = Eng.look env0 t) := by
 have hlv : Tryz.partsLv c2 = [9,10] := by
  simp [loopsF,loopsC,Tryz.f175] at hbd
  obtain ⟨rfl,rfl⟩ := hbd
  decide
 have ht : R / b ≤ 9999 := by
  have := (Nat.div_lt_iff_lt_mul hb0).2 (show R < 10000 * b from hR)
  omega
 have hcmp' : ∀ m,R < m * b ↔ R / b < m := fun m => by rw [Nat.div_lt_iff_lt_mul hb0]
 generalize R / b = t at ht hcmp' ⊢
 refine loop_rule hlv (fun env0 => Eng.look env0 1 = .slice 1 0 B.length none ∧ Eng.look env0 7 = .slice p 0 (dig 10000 R).length none ∧ Eng.look env0 9 = .int .i64 0 ∧ Eng.look env0 10 = .int .i64 9999)
  (fun env0 env' => Eng.look env' 9 = .int .i64 (t : Int) ∧ ∀ t,t ∈ [0,1,6,7,8] → Eng.look env' t = Eng.look env0 t) ?_
 rintro env0 d ⟨h1,h7,h9,h10⟩
 have hn : normE [9,10] (writesC c2) env0 ((9,.int .i64 ((0 : Nat) : Int)) :: (10,.int .i64 ((9999 : Nat) : Int)) :: env0) = normE [9,10] (writesC c2) env0 env0 := by simp [normE,h9,h10]
 rw [← hn]
 refine iter_ind (α := Nat × Nat) (fun a => ⟨normE [9,10] (writesC c2) env0 ((9,.int .i64 (a.1 : Int)) :: (10,.int .i64 (a.2 : Int)) :: env0),mem,d⟩)
  (fun a => a.2 - a.1) (fun a => a.1 ≤ t ∧ t ≤ a.2 ∧ a.2 ≤ 9999) (.exit 2) _ d _ (by simp) ?_ K (0,9999) ⟨Nat.zero_le _,ht,Nat.le_refl _⟩ (by show 9999 - 0 < K; omega)
 rintro ⟨lo,hi⟩ ⟨i1,i2,i3⟩
 simp only at i1 i2 i3 ⊢
 clear hn
 by_cases hlh : lo < hi
 ·left
  obtain ⟨m,hm⟩ : ∃ m,m = (lo + hi + 1) / 2 := ⟨_,rfl⟩
  have hlhI : (lo : Int) < (hi : Int) := by omega
  have w1 : IntKind.i64.wrap ((lo : Int) + (hi : Int)) = (lo : Int) + (hi : Int) := wrap_i64 (by omega) (by omega)
  have w2 : IntKind.i64.wrap ((lo : Int) + (hi : Int) + 1) = ((lo + hi + 1 : Nat) : Int) := by rw [wrap_i64 (by omega) (by omega)]; omega
  have w3 : IntKind.i64.wrap ((((lo + hi + 1 : Nat) : Int)).tdiv 2) = (m : Int) := by rw [tdiv_lit,← hm]; exact wrap_i64 (by omega) (by omega)
  obtain ⟨s1,hs1⟩ : ∃ s1,s1 = lo + hi + 1 := ⟨_,rfl⟩
  rw [← hs1] at w2 w3 hm
  have w3' : IntKind.i64.wrap ((s1 : Int) / 2) = (m : Int) := by rw [wrap_i64 (by omega) (by omega)]; omega
  have oB : lok 10000 B = true := by rw [hB]; exact lok_dig (by omega) _
  have vB : lval 10000 B = b := by rw [hB]; exact lval_dig (by omega) _
  have tB : ltrim B = B := by rw [hB]; exact ltrim_dig (by omega) _
  have nB : B ≠ [] := by rw [hB,ne_eq,dig_eq_nil (by omega)]; omega
  have oR : lok 10000 (dig 10000 R) = true := lok_dig (by omega) _
  have vR : lval 10000 (dig 10000 R) = R := lval_dig (by omega) _
  have tR : ltrim (dig 10000 R) = dig 10000 R := ltrim_dig (by omega) _
  obtain ⟨D,hD⟩ : ∃ D,D = dig 10000 (m * b) := ⟨_,rfl⟩
  have oD : lok 10000 D = true := by rw [hD]; exact lok_dig (by omega) _
  have vD : lval 10000 D = m * b := by rw [hD]; exact lval_dig (by omega) _
  have tD : ltrim D = D := by rw [hD]; exact ltrim_dig (by omega) _
  have hmt : ((m : Int) * (b : Int)).toNat = m * b := by rw [← Int.natCast_mul,Int.toNat_natCast]
  have hm0 : 0 ≤ (m : Int) * (b : Int) := by rw [← Int.natCast_mul]; exact Int.natCast_nonneg _
  have mB : m ≤ 10000 := by omega
  have lB : B.length ≤ 1000000 := by omega
  have lR : (dig 10000 R).length ≤ 1000000000 := by omega
  obtain ⟨X,hX⟩ : ∃ X,X = dig 10000 R := ⟨_,rfl⟩
  rw [← hX] at hsR oR vR tR lR h7
  have p1 : ∀ s,sliceN .i64 (mem ++ [s]) (.slice p 0 X.length none) = some X := fun s => sliceN_push hsR
  have p2 : sliceN .i64 (mem ++ [.cells true 1 (iN .i64 D)]) (.slice mem.length 0 D.length none) = some D := sliceN_last
  have hcmp := hcmp' m
  have hnl : ¬ mem.length + 1 ≤ mem.length := by omega
  simp [loopsF,loopsC,Tryz.f175] at hbd
  obtain ⟨rfl,rfl⟩ := hbd
  by_cases hlt : R < m * b
  ·have w4 : IntKind.i64.wrap ((m : Int) - 1) = ((m - 1 : Nat) : Int) := by rw [wrap_i64 (by omega) (by omega)]; omega
   refine ⟨(lo,m - 1),?_⟩
   refine exists_and_fin2 (show (lo ≤ t ∧ t ≤ m - 1 ∧ m - 1 ≤ 9999) ∧ m - 1 - lo < hi - lo from ⟨⟨i1,by have := hcmp.1 hlt; omega,by omega⟩,by omega⟩) ?_
   simp [h1,h7,hlhI,hlh,w1,w2,w3,w3',Tryz.rfO4,Tryz.rfO3,Tryz.rfO2,Tryz.rfO1,hsB,nB,oB,vB,mB,lB,hm0,hmt,← hD,p1,p2,oR,oD,lR,tR,tD,vR,vD,hlt,w4,-List.all_eq_true,-Slot.refs,hrefs,hnl]
  ·skip
   refine ⟨(m,hi),?_⟩
   refine exists_and_fin2 (show (m ≤ t ∧ t ≤ hi ∧ hi ≤ 9999) ∧ hi - m < hi - lo from ⟨⟨by have : ¬ t < m := fun e => hlt (hcmp.2 e); omega,i2,i3⟩,by omega⟩) ?_
   simp [h1,h7,hlhI,hlh,w1,w2,w3,w3',Tryz.rfO4,Tryz.rfO3,Tryz.rfO2,Tryz.rfO1,hsB,nB,oB,vB,mB,lB,hm0,hmt,← hD,p1,p2,oR,oD,lR,tR,tD,vR,vD,hlt,-List.all_eq_true,-Slot.refs,hrefs,hnl]
 ·right
  have e : lo = t := by omega
  have hlhI : ¬ (lo : Int) < (hi : Int) := by omega
  simp [loopsF,loopsC,Tryz.f175] at hbd
  obtain ⟨rfl,rfl⟩ := hbd
  subst e
  simp [hlh]
def paM (A B : List Nat) (b j : Nat) : Mem :=
 if j = A.length then [.cells false 1 (iN .i64 A),.cells false 1 (iN .i64 B),.cells true 1 (iN .i64 (List.replicate A.length 0))]
 else [.cells false 1 (iN .i64 A),.cells false 1 (iN .i64 B),.cells true 1 (iN .i64 (List.replicate j 0 ++ (divL 10000 b (A.drop j)).1)),.cells true 1 (iN .i64 (dig 10000 (divL 10000 b (A.drop j)).2))]
def paR (A : List Nat) (b j : Nat) : AV := if j = A.length then .nilslice else .slice 3 0 (dig 10000 (divL 10000 b (A.drop j)).2).length none
set_option maxHeartbeats 3200000 in
theorem Tryz.parts_outer {K : Nat} (A B : List Nat) (b : Nat) (hb0 : 0 < b) (hB : B = dig 10000 b) (hA : lok 10000 A = true) (hl : A.length ≤ 50000) (hl2 : B.length ≤ 50000) (hK : 100000 < K) {c c2 : Code} (hbd : loopsF Tryz.f175 = [c,c2]) :
  ∃ F : Env → Bool → Env,∀ env0 d,(Eng.look env0 0 = .slice 0 0 A.length none ∧ Eng.look env0 1 = .slice 1 0 B.length none ∧ Eng.look env0 6 = .slice 2 0 A.length none ∧ Eng.look env0 7 = .nilslice ∧ Eng.look env0 8 = .int .i64 ((A.length : Int) - 1)) →
   execC (tyOf Tryz.prog) Tryz.partsLv Tryz.rfO4 K 58 2 true (.loop c) ⟨env0,paM A B b A.length,d⟩ = some (.exit 0,⟨F env0 d,paM A B b 0,d⟩) ∧
   (Eng.look (F env0 d) 7 = paR A b 0 ∧ Eng.look (F env0 d) 6 = .slice 2 0 A.length none) := by
 have hlv : Tryz.partsLv c = [7,8] := by
  simp [loopsF,loopsC,Tryz.f175] at hbd
  obtain ⟨rfl,rfl⟩ := hbd
  decide
 refine loop_rule hlv (fun env0 => Eng.look env0 0 = .slice 0 0 A.length none ∧ Eng.look env0 1 = .slice 1 0 B.length none ∧ Eng.look env0 6 = .slice 2 0 A.length none ∧ Eng.look env0 7 = .nilslice ∧ Eng.look env0 8 = .int .i64 ((A.length : Int) - 1))
  (fun _ env' => Eng.look env' 7 = paR A b 0 ∧ Eng.look env' 6 = .slice 2 0 A.length none) ?_
 rintro env0 d ⟨h0,h1,h6,h7,h8⟩
 have hn : normE [7,8] (writesC c) env0 ((7,paR A b A.length) :: (8,.int .i64 ((A.length : Int) - 1)) :: env0) = normE [7,8] (writesC c) env0 env0 := by simp [normE,h7,h8,paR]
 have hlenM : (paM A B b A.length).length = 3 := by unfold paM; rw [if_pos rfl]; rfl
 rw [← hn,hlenM]
 refine iter_ind (α := Nat) (fun j => ⟨normE [7,8] (writesC c) env0 ((7,paR A b j) :: (8,.int .i64 ((j : Int) - 1)) :: env0),paM A B b j,d⟩)
  (fun j => j) (fun j => j ≤ A.length) (.exit 0) _ d _ (by simp) ?_ K A.length (Nat.le_refl _) (by show A.length < K; omega)
 intro j hj
 clear hn hlenM
 cases j with
 | zero =>
  right
  simp [loopsF,loopsC,Tryz.f175] at hbd
  obtain ⟨rfl,rfl⟩ := hbd
  simp [h6]
 | succ j =>
  left
  have hjl : j < A.length := by omega
  obtain ⟨x,hx,hx'⟩ := get_both hjl
  have hxb := lok_get hA hx
  have eA : A.drop j = x :: A.drop (j + 1) := by rw [List.drop_eq_getElem_cons hjl,hx']
  obtain ⟨i1,i2,i3,i4⟩ := divL_spec' hb0 (A.drop (j + 1)) (lok_drop hA (j + 1))
  obtain ⟨r,hr⟩ : ∃ r,r = (divL 10000 b (A.drop (j + 1))).2 := ⟨_,rfl⟩
  obtain ⟨Q,hQ⟩ : ∃ Q,Q = (divL 10000 b (A.drop (j + 1))).1 := ⟨_,rfl⟩
  rw [← hr] at i1
  rw [← hQ] at i4
  obtain ⟨R,hR⟩ : ∃ R,R = r * 10000 + x := ⟨_,rfl⟩
  have hdl : divL 10000 b (A.drop j) = (R / b :: Q,R % b) := by rw [eA,hR,hr,hQ]; rfl
  have hRb : R < 10000 * b := by
   have : (r + 1) * 10000 ≤ b * 10000 := Nat.mul_le_mul_right _ i1
   omega
  have hcons : ltrim (x :: dig 10000 r) = dig 10000 R := by rw [cons_dig (by omega) hxb,hR]; congr 1; omega
  have hlR : (dig 10000 R).length ≤ 100000 := by
   have h2 : (dig 10000 b).length ≤ 50000 := by rw [← hB]; exact hl2
   have h3 := dig_lt_pow (B := 10000) (by omega) b
   have h4 : R < 10000 ^ ((dig 10000 b).length + 1) := by rw [Nat.pow_succ]; omega
   have h5 := dig_length_le_of_lt (B := 10000) (by omega) h4
   omega
  have hlr : (dig 10000 r).length ≤ 100000 := by
   have := dig_length_mono (B := 10000) (a := r) (b := b) (by omega) (by omega)
   rw [← hB] at this; omega
  have hqb : R / b ≤ 9999 := by
   have := (Nat.div_lt_iff_lt_mul hb0).2 (show R < 10000 * b from hRb)
   omega
  have hmd := Nat.div_add_mod R b
  obtain ⟨q,hq⟩ : ∃ q,q = R / b := ⟨_,rfl⟩
  obtain ⟨r2,hr2⟩ : ∃ r2,r2 = R % b := ⟨_,rfl⟩
  rw [← hq,← hr2] at hdl hmd
  rw [← hq] at hqb
  have hQl : Q.length = A.length - (j + 1) := by rw [i4,List.length_drop]
  have e1 : (((j + 1 : Nat) : Int) - 1) = (j : Int) := by omega
  have w1 : IntKind.i64.wrap ((j : Int) - 1) = (j : Int) - 1 := wrap_i64 (by omega) (by omega)
  have w2 : IntKind.i64.wrap (-(q : Int)) = -(q : Int) := wrap_i64 (by omega) (by omega)
  have hjI : (j : Int) < (A.length : Int) := by omega
  have hj1 : j + 1 ≤ A.length := by omega
  have hM2 : paM A B b j = [.cells false 1 (iN .i64 A),.cells false 1 (iN .i64 B),.cells true 1 (iN .i64 (List.replicate j 0 ++ q :: Q)),.cells true 1 (iN .i64 (dig 10000 r2))] := by
   unfold paM; rw [if_neg (by omega),hdl]
  have hR2 : paR A b j = .slice 3 0 (dig 10000 r2).length none := by unfold paR; rw [if_neg (by omega),hdl]
  have oB : lok 10000 B = true := by rw [hB]; exact lok_dig (by omega) _
  have vB : lval 10000 B = b := by rw [hB]; exact lval_dig (by omega) _
  have nB : B ≠ [] := by rw [hB,ne_eq,dig_eq_nil (by omega)]; omega
  have oR : lok 10000 (dig 10000 R) = true := lok_dig (by omega) _
  have vR : lval 10000 (dig 10000 R) = R := lval_dig (by omega) _
  obtain ⟨X,hX⟩ : ∃ X,X = dig 10000 R := ⟨_,rfl⟩
  obtain ⟨Y,hY⟩ : ∃ Y,Y = dig 10000 r := ⟨_,rfl⟩
  obtain ⟨Z,hZ⟩ : ∃ Z,Z = dig 10000 r2 := ⟨_,rfl⟩
  have hpre : X.length ≤ Y.length + 1 ∧ (x :: Y).take X.length = X := by
   rw [hX,hY,← hcons]
   exact ⟨by have := ltrim_length_le (x :: dig 10000 r); simpa using this,ltrim_take _⟩
  have htkX : (AV.int .i64 (x : Int) :: iN .i64 Y).take X.length = iN .i64 X := by
   have := iN_take .i64 (x :: Y) X.length
   rw [hpre.2] at this
   exact this
  have hsub0 : (0 : Int) ≤ (R : Int) + -(q : Int) * (b : Int) := by
   rw [Int.neg_mul]
   have : ((b * q : Nat) : Int) = (q : Int) * (b : Int) := by rw [Int.natCast_mul,Int.mul_comm]
   rw [← this]; omega
  have hsub : ((R : Int) + -(q : Int) * (b : Int)).toNat = r2 := by
   rw [Int.neg_mul]
   have : ((b * q : Nat) : Int) = (q : Int) * (b : Int) := by rw [Int.natCast_mul,Int.mul_comm]
   rw [← this]; omega
  have q1 : q ≤ 10000 := by omega
  have lX : X.length ≤ 1000000 := by rw [hX]; omega
  have lB : B.length ≤ 1000000 := by omega
  rw [← hX] at hlR oR vR
  rw [← hY,← hX] at hcons
  refine ⟨j,?_⟩
  refine exists_and_fin (show j ≤ A.length ∧ _ from ⟨by omega,Nat.lt_succ_self j⟩) ?_
  rw [hM2,hR2,← hZ,e1]
  have hl3 : B.length ≤ 100000 := by omega
  have hdrop : ((List.replicate (j + 1) 0 ++ Q).take j ++ q :: (List.replicate (j + 1) 0 ++ Q).drop (j + 1)) = List.replicate j 0 ++ q :: Q := by
   rw [List.take_append_of_le_length (by simp),List.take_replicate,Nat.min_eq_left (by omega),List.drop_append,List.drop_of_length_le (by simp)]
   simp
  obtain ⟨L1,hL1⟩ : ∃ L1,L1 = List.replicate (j + 1) 0 ++ Q := ⟨_,rfl⟩
  obtain ⟨L2,hL2⟩ : ∃ L2,L2 = List.replicate j 0 ++ q :: Q := ⟨_,rfl⟩
  have hL1l : L1.length = A.length := by rw [hL1]; simp [hQl]; omega
  have hjL : j + 1 ≤ L1.length := by omega
  rw [← hL1,← hL2] at hdrop
  have hup : (iN .i64 L1).take j ++ .int .i64 (q : Int) :: (iN .i64 L1).drop (j + 1) = iN .i64 L2 := by rw [iN_upd _ _ _ _ (by omega),hdrop]
  rw [← hL2]
  have hsB : ∀ (a0 : Slot) l,sliceN .i64 (a0 :: .cells false 1 (iN .i64 B) :: l) (.slice 1 0 B.length none) = some B := fun a0 l => sliceN_at rfl (by simp) (List.take_of_length_le (by simp))
  have hYl : Y.length ≤ 100000 := by rw [hY]; exact hlr
  have hcl : Y.length + 1 ≤ 4000000000000 := by omega
  have htY : (iN .i64 Y).take Y.length = iN .i64 Y := List.take_of_length_le (by simp)
  by_cases hjn : j + 1 = A.length
  ·have hr0 : r = 0 := by rw [hr,hjn,List.drop_length]; rfl
   have hQ0 : Q = [] := by rw [hQ,hjn,List.drop_length]; rfl
   have hY0 : Y = [] := by rw [hY,hr0,dig_zero]
   have hM1 : paM A B b (j + 1) = [.cells false 1 (iN .i64 A),.cells false 1 (iN .i64 B),.cells true 1 (iN .i64 L1)] := by unfold paM; rw [if_pos hjn,hL1,hQ0,List.append_nil,hjn]
   have hR1 : paR A b (j + 1) = .nilslice := by unfold paR; rw [if_pos hjn]
   rw [hM1,hR1]
   subst hY0
   have p4 : ∀ (a0 a1 a2 a3 : Slot) l,sliceN .i64 (a0 :: a1 :: a2 :: a3 :: .cells true 1 [.int .i64 (x : Int)] :: l) (.slice 4 0 X.length none) = some X := fun a0 a1 a2 a3 l => sliceN_at rfl (by simpa using hpre.1) htkX
   have p4c : ∀ (a0 a1 a2 a3 : Slot) l,sliceN .i64 (a0 :: a1 :: a2 :: a3 :: .cells true 1 [.int .i64 (x : Int)] :: l) (.slice 4 0 1 none) = some [x] := fun a0 a1 a2 a3 l => sliceN_at (A := [x]) rfl (by simp) rfl
   obtain ⟨F,hF⟩ := Tryz.parts_inner (K := K) [.cells false 1 (iN .i64 A),.cells false 1 (iN .i64 B),.cells true 1 (iN .i64 L1),.absent,.cells true 1 [.int .i64 (x : Int)]] B R 4 b hb0 hB hRb (by rw [← hX]; exact hlR) hl3 (by rw [← hX]; exact p4 _ _ _ _ _) (hsB _ _) (by simp) (by omega) hbd
   rw [← hX,← hq] at hF
   simp [loopsF,loopsC,Tryz.f175] at hbd
   obtain ⟨rfl,rfl⟩ := hbd
   simp [h0,h1,h6,hjI,hjl,hx,hx',Tryz.rfO4,Tryz.rfO3,Tryz.rfO2,Tryz.rfO1,p4c,hcons,hF,hL1l,hj1,hjL,hup,p4,hsB,nB,oR,oB,vR,vB,q1,lX,lB,w2,hsub0,hsub,← hZ,w1]
  ·have hM1 : paM A B b (j + 1) = [.cells false 1 (iN .i64 A),.cells false 1 (iN .i64 B),.cells true 1 (iN .i64 L1),.cells true 1 (iN .i64 Y)] := by unfold paM; rw [if_neg hjn,← hr,← hQ,← hY,← hL1]
   have hR1 : paR A b (j + 1) = .slice 3 0 Y.length none := by unfold paR; rw [if_neg hjn,← hr,← hY]
   rw [hM1,hR1]
   have p5 : ∀ (a0 a1 a2 a3 a4 : Slot) l,sliceN .i64 (a0 :: a1 :: a2 :: a3 :: a4 :: .cells true 1 (.int .i64 (x : Int) :: iN .i64 Y) :: l) (.slice 5 0 X.length none) = some X := fun a0 a1 a2 a3 a4 l => sliceN_at rfl (by simpa using hpre.1) htkX
   have p5c : ∀ (a0 a1 a2 a3 a4 : Slot) l,sliceN .i64 (a0 :: a1 :: a2 :: a3 :: a4 :: .cells true 1 (.int .i64 (x : Int) :: iN .i64 Y) :: l) (.slice 5 0 (Y.length + 1) none) = some (x :: Y) := fun a0 a1 a2 a3 a4 l => sliceN_at (A := x :: Y) rfl (by simp) (by rw [iN_cons]; exact List.take_of_length_le (by simp))
   have p5d : ∀ (a0 a1 a2 a3 a4 : Slot) l,sliceN .i64 (a0 :: a1 :: a2 :: a3 :: a4 :: .cells true 1 (.int .i64 (x : Int) :: iN .i64 Y) :: l) (.slice 5 0 (1 + Y.length) none) = some (x :: Y) := fun a0 a1 a2 a3 a4 l => by rw [Nat.add_comm]; exact p5c a0 a1 a2 a3 a4 l
   obtain ⟨F,hF⟩ := Tryz.parts_inner (K := K) [.cells false 1 (iN .i64 A),.cells false 1 (iN .i64 B),.cells true 1 (iN .i64 L1),.cells true 1 (iN .i64 Y),.absent,.cells true 1 (.int .i64 (x : Int) :: iN .i64 Y)] B R 5 b hb0 hB hRb (by rw [← hX]; exact hlR) hl3 (by rw [← hX]; exact p5 _ _ _ _ _ _) (hsB _ _) (by simp [AV.refsL]) (by omega) hbd
   rw [← hX,← hq] at hF
   have hm1 : (1 + Y.length) * 8 ≤ 140737488355328 := by omega
   have hm2 : 1 + Y.length ≤ 140737488355328 := by omega
   simp [loopsF,loopsC,Tryz.f175] at hbd
   obtain ⟨rfl,rfl⟩ := hbd
   simp [h0,h1,h6,hjI,hjl,hx,hx',Tryz.rfO4,Tryz.rfO3,Tryz.rfO2,Tryz.rfO1,htY,hm1,hm2,p5c,p5d,hcl,hcons,hF,hL1l,hj1,hjL,hup,p5,hsB,nB,oR,oB,vR,vB,q1,lX,lB,w2,hsub0,hsub,← hZ,w1]
theorem divL_quot {b : Nat} (hb : 0 < b) {A : List Nat} (hA : lok 10000 A = true) : lval 10000 (divL 10000 b A).1 = lval 10000 A / b ∧ (divL 10000 b A).2 = lval 10000 A % b := by
 obtain ⟨i1,i2,i3,i4⟩ := divL_spec' hb A hA
 have h := Nat.div_mod_unique hb (a := lval 10000 A) (c := (divL 10000 b A).2) (d := lval 10000 (divL 10000 b A).1)
 have := h.2 ⟨by rw [Nat.mul_comm,Nat.add_comm]; exact i2,i1⟩
 exact ⟨this.1.symm,this.2.symm⟩
theorem idx5 : List.idxOf? 2 [2,3] = some 0 := rfl
theorem idx6 : List.idxOf? 3 [2,3] = some 1 := rfl
theorem Tryz.parts_run (A B : List Nat) (b : Nat) (hb0 : 0 < b) (hB : B = dig 10000 b) (hA : lok 10000 A = true) (hl : A.length ≤ 50000) (hl2 : B.length ≤ 50000) (hne : A ≠ []) :
  callFn (tyOf Tryz.prog) Tryz.partsLv (fnOf Tryz.prog) Tryz.rfO4 100001 175 [.slice 0 0 A.length none,.slice 1 0 B.length none] [.cells false 1 (iN .i64 A),.cells false 1 (iN .i64 B)] =
   some ⟨.tuple [.slice 2 0 (dig 10000 (lval 10000 A / b)).length none,.slice 3 0 (dig 10000 (lval 10000 A % b)).length none],none,[.cells true 1 (iN .i64 (divL 10000 b A).1),.cells true 1 (iN .i64 (dig 10000 (lval 10000 A % b)))]⟩ := by
 have hG : fnOf Tryz.prog 175 = some Tryz.f175 := by kernel_rfl
 obtain ⟨c,c2,hbd⟩ : ∃ c c2,loopsF Tryz.f175 = [c,c2] := ⟨_,_,rfl⟩
 obtain ⟨F,hF⟩ := Tryz.parts_outer (K := 100001) A B b hb0 hB hA hl hl2 (by omega) hbd
 obtain ⟨i1,i2,i3,i4⟩ := divL_spec' hb0 A hA
 obtain ⟨v1,v2⟩ := divL_quot hb0 hA
 have hp : 0 < A.length := List.length_pos_iff.2 hne
 have hM0 : paM A B b 0 = [.cells false 1 (iN .i64 A),.cells false 1 (iN .i64 B),.cells true 1 (iN .i64 (divL 10000 b A).1),.cells true 1 (iN .i64 (dig 10000 (lval 10000 A % b)))] := by
  unfold paM; rw [if_neg (by omega),List.drop_zero,v2]; rfl
 have hMn : paM A B b A.length = [.cells false 1 (iN .i64 A),.cells false 1 (iN .i64 B),.cells true 1 (iN .i64 (List.replicate A.length 0))] := by unfold paM; rw [if_pos rfl]
 have hR0 : paR A b 0 = .slice 3 0 (dig 10000 (lval 10000 A % b)).length none := by unfold paR; rw [if_neg (by omega),List.drop_zero,v2]
 rw [hM0,hMn,hR0] at hF
 have htq : ltrim (divL 10000 b A).1 = dig 10000 (lval 10000 A / b) := by rw [← v1,dig_lval (by omega) i3]
 obtain ⟨Q,hQ⟩ : ∃ Q,Q = (divL 10000 b A).1 := ⟨_,rfl⟩
 obtain ⟨R,hR⟩ : ∃ R,R = dig 10000 (lval 10000 A % b) := ⟨_,rfl⟩
 rw [← hQ,← hR] at hF
 rw [← hQ] at htq i4
 rw [← hQ,← hR]
 have hql : Q.length ≤ 4000000000000 := by omega
 have hs : ∀ (a0 a1 : Slot) l,sliceN .i64 (a0 :: a1 :: .cells true 1 (iN .i64 Q) :: l) (.slice 2 0 A.length none) = some Q := fun a0 a1 l => by rw [← i4]; exact sliceN_at rfl (by simp) (List.take_of_length_le (by simp))
 obtain ⟨n,hn⟩ : ∃ n,n = A.length := ⟨_,rfl⟩
 have w1 : IntKind.i64.wrap ((A.length : Int) - 1) = (A.length : Int) - 1 := wrap_i64 (by omega) (by omega)
 have h8 : 8 * (A.length : Int) ≤ 281474976710656 := by omega
 have h9 : (A.length : Int) ≤ 281474976710656 := by omega
 simp [loopsF,loopsC,Tryz.f175] at hbd
 obtain ⟨rfl,rfl⟩ := hbd
 simp [callFn,hG,Tryz.f175,w1,h8,h9,iN_zcells,hF,Tryz.rfO4,Tryz.rfO3,Tryz.rfO2,Tryz.rfO1,hs,hql,htq,idx5,idx6]
theorem Tryz.parts_run0 (B : List Nat) (b : Nat) (hb0 : 0 < b) (hB : B = dig 10000 b) (hl2 : B.length ≤ 50000) :
  callFn (tyOf Tryz.prog) Tryz.partsLv (fnOf Tryz.prog) Tryz.rfO4 100001 175 [.slice 0 0 0 none,.slice 1 0 B.length none] [.cells false 1 [],.cells false 1 (iN .i64 B)] =
   some ⟨.tuple [.slice 2 0 0 none,.nilslice],none,[.cells true 1 []]⟩ := by
 have hG : fnOf Tryz.prog 175 = some Tryz.f175 := by kernel_rfl
 obtain ⟨c,c2,hbd⟩ : ∃ c c2,loopsF Tryz.f175 = [c,c2] := ⟨_,_,rfl⟩
 obtain ⟨F,hF⟩ := Tryz.parts_outer (K := 100001) [] B b hb0 hB rfl (by simp) hl2 (by omega) hbd
 have hM0 : ∀ j,j = 0 → paM [] B b j = [.cells false 1 [],.cells false 1 (iN .i64 B),.cells true 1 []] := fun j hj => by subst hj; rfl
 have hR0 : paR [] b 0 = .nilslice := rfl
 rw [List.length_nil,hM0 0 rfl,hR0] at hF
 have w1 : IntKind.i64.wrap (-1) = -1 := rfl
 have hs : ∀ (a0 a1 : Slot) l,sliceN .i64 (a0 :: a1 :: .cells true 1 [] :: l) (.slice 2 0 0 none) = some [] := fun a0 a1 l => sliceN_at (A := []) rfl (by simp) rfl
 have k2 : ltrim [] = [] := rfl
 simp [loopsF,loopsC,Tryz.f175] at hbd
 obtain ⟨rfl,rfl⟩ := hbd
 simp at hF
 simp [callFn,hG,Tryz.f175,w1,hF,Tryz.rfO4,Tryz.rfO3,Tryz.rfO2,Tryz.rfO1,hs,k2]
theorem Tryz.aPartsM {M : Mem} {x y : AV} {A B : List Nat} (hx : RowAt .i64 M x A) (hy : RowAt .i64 M y B) (hb0 : 0 < lval 10000 B) (hA : lok 10000 A = true) (hB : lok 10000 B = true) (tB : ltrim B = B) (hl : A.length ≤ 50000) (hl2 : B.length ≤ 50000) (hne : A ≠ []) :
  ACallsTo Tryz.prog 175 [x,y] M (.tuple [.slice M.length 0 (dig 10000 (lval 10000 A / lval 10000 B)).length none,.slice (M.length + 1) 0 (dig 10000 (lval 10000 A % lval 10000 B)).length none])
   (M ++ [.cells true 1 (iN .i64 (dig 10000 (lval 10000 A / lval 10000 B))),.cells true 1 (iN .i64 (dig 10000 (lval 10000 A % lval 10000 B)))]) := by
 have eB := (dig_self (by omega) hB tB).symm
 have h := (callFn_sound Tryz.mixed (tyOf_ok _) Tryz.rfO4_ok (fnOf_ok _) (Tryz.parts_run A B (lval 10000 B) hb0 eB hA hl hl2 hne)).1
 simp only [CallRes.mem,Option.getD_none,List.cons_append,List.nil_append] at h
 obtain ⟨i1,i2,i3,i4⟩ := divL_spec' hb0 A hA
 have htq : ltrim (divL 10000 (lval 10000 B) A).1 = dig 10000 (lval 10000 A / lval 10000 B) := by rw [← (divL_quot hb0 hA).1,dig_lval (by omega) i3]
 have h2 := ACallsTo.truncs (m2 := [.cells false 1 (iN .i64 A),.cells false 1 (iN .i64 B),.cells true 1 (iN .i64 (dig 10000 (lval 10000 A / lval 10000 B))),.cells true 1 (iN .i64 (dig 10000 (lval 10000 A % lval 10000 B)))]) h rfl (fun b s hb => by
  match b with
  | 0 => simp at hb; subst hb; exact ⟨_,rfl,.inl rfl⟩
  | 1 => simp at hb; subst hb; exact ⟨_,rfl,.inl rfl⟩
  | 2 => simp at hb; subst hb; exact ⟨_,rfl,.row (by rw [← htq]; exact ltrim_isPrefix _)⟩
  | 3 => simp at hb; subst hb; exact ⟨_,rfl,.inl rfl⟩
  | b + 4 => simp at hb)
 obtain ⟨b,c,rfl,rfl,h3⟩ := ACallsTo.rows2 (new := [.cells true 1 (iN .i64 (dig 10000 (lval 10000 A / lval 10000 B))),.cells true 1 (iN .i64 (dig 10000 (lval 10000 A % lval 10000 B)))]) rfl h2 hx hy
 simpa [AV.ren,AV.rens,back] using h3
theorem Tryz.aPartsM0 {M : Mem} {x y : AV} {B : List Nat} (hx : RowAt .i64 M x []) (hy : RowAt .i64 M y B) (hb0 : 0 < lval 10000 B) (hB : lok 10000 B = true) (tB : ltrim B = B) (hl2 : B.length ≤ 50000) :
  ACallsTo Tryz.prog 175 [x,y] M (.tuple [.slice M.length 0 0 none,.nilslice]) (M ++ [.cells true 1 []]) := by
 have eB := (dig_self (by omega) hB tB).symm
 have h := (callFn_sound Tryz.mixed (tyOf_ok _) Tryz.rfO4_ok (fnOf_ok _) (Tryz.parts_run0 B (lval 10000 B) hb0 eB hl2)).1
 simp only [CallRes.mem,Option.getD_none,List.cons_append,List.nil_append] at h
 obtain ⟨b,c,rfl,rfl,h3⟩ := ACallsTo.rows2 (k := .i64) (A := []) (new := [.cells true 1 []]) rfl h hx hy
 simpa [AV.ren,AV.rens,back] using h3
noncomputable def Tryz.rfO5 : Oracle := fun c args M => match c,args with
 | .fn 175,[x,y] => match sliceN .i64 M x,sliceN .i64 M y with
  | some A,some B => if lok 10000 A = true ∧ lok 10000 B = true ∧ ltrim B = B ∧ A.length ≤ 50000 ∧ B.length ≤ 50000 ∧ 0 < lval 10000 B then
    (if A = [] then some ⟨.tuple [.slice M.length 0 0 none,.nilslice],none,[.cells true 1 []]⟩
    else some ⟨.tuple [.slice M.length 0 (dig 10000 (lval 10000 A / lval 10000 B)).length none,.slice (M.length + 1) 0 (dig 10000 (lval 10000 A % lval 10000 B)).length none],none,[.cells true 1 (iN .i64 (dig 10000 (lval 10000 A / lval 10000 B))),.cells true 1 (iN .i64 (dig 10000 (lval 10000 A % lval 10000 B)))]⟩) else none
  | _,_ => none
 | .fn 178,[.bool _,.nilslice] => some ⟨.str [48],none,[]⟩
 | .fn 178,[.bool mn,x] => match sliceN .i64 M x with
  | some A => if lok 10000 A = true ∧ ltrim A = A ∧ A.length ≤ 100000 then some ⟨.str (closeS mn (lval 10000 A)),none,[]⟩ else none
  | none => none
 | c,args => Tryz.rfO4 c args M
theorem Tryz.rfO5_ok : OracleOk Tryz.prog Tryz.rfO5 := by
 refine oracleOk_of fun c args M r h => ?_
 unfold Tryz.rfO5 at h
 split at h
 ·split at h
  ·rename_i hA hB
   split at h
   ·rename_i hc
    obtain ⟨c1,c2,c3,c4,c5,c6⟩ := hc
    split at h
    ·rename_i hn
     subst hn
     cases h
     exact soundAt_call (Tryz.aPartsM0 (sliceN_some hA) (sliceN_some hB) c6 c2 c3 c5)
    ·rename_i hn
     cases h
     exact soundAt_call (Tryz.aPartsM (sliceN_some hA) (sliceN_some hB) c6 c1 c2 c3 c4 c5 hn)
   ·cases h
  ·cases h
 ·cases h
  refine soundAt_call ?_
  rw [List.append_nil]
  exact Tryz.aMadeNil _ M
 ·split at h
  ·rename_i hA
   split at h
   ·rename_i hc
    cases h
    refine soundAt_call ?_
    rw [List.append_nil]
    exact Tryz.aMadeM _ hc.1 hc.2.1 hc.2.2 (sliceN_some hA)
   ·cases h
  ·cases h
 ·exact soundAt_of Tryz.rfO4_ok h
theorem Tryz.aSplit (s : List UInt8) (mem : Mem) : ACallsTo Tryz.prog 125 [.str s] mem (.tuple [.bool (Lib.hasPrefix s [45]),.str (Lib.trimPrefix s [45])]) mem := by
 have hG : fnOf Tryz.prog 125 = some Tryz.f125 := by kernel_rfl
 refine Tryz.run (noOracle_ok _) (lv := fun _ => []) (K := 1) rfl rfl ?_ mem
 cases s with
 | nil => simp [callFn,hG,Tryz.f125,Lib.hasPrefix,Lib.trimPrefix]
 | cons c r =>
  have hp : 0 < (r.length : Int) + 1 := by omega
  have h1 : (1 : Int) ≤ (r.length : Int) + 1 := by omega
  by_cases h : c = 45
  ·subst h
   have e1 : Lib.hasPrefix (45 :: r) [45] = true := by simp [Lib.hasPrefix,List.isPrefixOf]
   have e2 : Lib.trimPrefix (45 :: r) [45] = r := by unfold Lib.trimPrefix; rw [e1]; rfl
   rw [e1,e2]
   simp [callFn,hG,Tryz.f125,hp,h1,Nat.testBit]
  ·have h' : ¬ (45 : UInt8) = c := fun e => h e.symm
   have e1 : Lib.hasPrefix (c :: r) [45] = false := by simp [Lib.hasPrefix,List.isPrefixOf,h']
   have e2 : Lib.trimPrefix (c :: r) [45] = c :: r := by unfold Lib.trimPrefix; rw [e1]; rfl
   have h3 : ¬ ((c.toNat : Int) = 45) := by
    intro e
    apply h
    apply UInt8.toNat_inj.1
    have : c.toNat = 45 := by omega
    rw [this]; rfl
   rw [e1,e2]
   simp [callFn,hG,Tryz.f125,hp,h3]
noncomputable def Tryz.rgF1 (f : FuncId) (args : List AV) : Option AV :=
 match f,args with
 | 125,[.str s] => some (.tuple [.bool (Lib.hasPrefix s [45]),.str (Lib.trimPrefix s [45])])
 | f,args => Tryz.strF f args
theorem Tryz.rg1_ok : OracleOk Tryz.prog (pureO Tryz.rgF1) := pureO_ok fun f args v h mem => by
 unfold Tryz.rgF1 at h
 split at h
 ·cases h; exact Tryz.aSplit _ mem
 ·have := Tryz.str_ok.fn _ _ mem ⟨v,none,[]⟩ (by unfold pureO; simp only; rw [h])
  simpa [CallRes.mem] using this
theorem Tryz.aRSign (n : Int) (mem : Mem) : ACallsTo Tryz.prog 128 [.str (intS n)] mem (.int .i64 (sgnI n)) mem := by
 have hG : fnOf Tryz.prog 128 = some Tryz.f128 := by kernel_rfl
 refine Tryz.run Tryz.rg1_ok (lv := fun _ => []) (K := 1) rfl rfl ?_ mem
 by_cases h1 : n < 0
 ·simp [callFn,hG,Tryz.f128,pureO,Tryz.rgF1,hasPrefix_intS,trimPrefix_intS,h1,sgnI]
 ·by_cases h0 : n = 0
  ·subst h0
   have : intS 0 = [48] := rfl
   simp [callFn,hG,Tryz.f128,pureO,Tryz.rgF1,hasPrefix_intS,trimPrefix_intS,sgnI,intS_beq_zero]
  ·simp [callFn,hG,Tryz.f128,pureO,Tryz.rgF1,hasPrefix_intS,trimPrefix_intS,h1,h0,sgnI,intS_beq_zero]
theorem Tryz.aRAbs (n : Int) (mem : Mem) : ACallsTo Tryz.prog 130 [.str (intS n)] mem (.str (natD n.natAbs)) mem := by
 have hG : fnOf Tryz.prog 130 = some Tryz.f130 := by kernel_rfl
 refine Tryz.run Tryz.rg1_ok (lv := fun _ => []) (K := 1) rfl rfl ?_ mem
 simp [callFn,hG,Tryz.f130,pureO,Tryz.rgF1,trimPrefix_intS]
theorem Tryz.aROf (n : Int) (hn : fitsI n = true) (mem : Mem) : ACallsTo Tryz.prog 174 [.int .i64 n] mem (.str (intS n)) mem := by
 have hG : fnOf Tryz.prog 174 = some Tryz.f174 := by kernel_rfl
 refine Tryz.run Tryz.rg1_ok (lv := fun _ => []) (K := 1) rfl rfl ?_ mem
 simp [callFn,hG,Tryz.f174,pureO,Tryz.rgF1,Tryz.strF,hn]
theorem Tryz.aRNeg (n : Int) (hl : (natD n.natAbs).length ≤ 1000000000) (mem : Mem) : ACallsTo Tryz.prog 172 [.str (intS n)] mem (.str (intS (-n))) mem := by
 have hG : fnOf Tryz.prog 172 = some Tryz.f172 := by kernel_rfl
 refine Tryz.run Tryz.rg1_ok (lv := fun _ => []) (K := 1) rfl rfl ?_ mem
 by_cases h1 : n < 0
 ·have e : intS (-n) = natD n.natAbs := by rw [intS_natAbs (by omega),Int.natAbs_neg]
  simp [callFn,hG,Tryz.f172,pureO,Tryz.rgF1,hasPrefix_intS,trimPrefix_intS,h1,e]
 ·by_cases h0 : n = 0
  ·subst h0
   have e : natD 0 = [48] := natD_zero
   have e2 : intS 0 = [48] := rfl
   have e3 : Lib.hasPrefix [48] [45] = false := rfl
   have e4 : Lib.trimPrefix [48] [45] = [48] := rfl
   simp [callFn,hG,Tryz.f172,pureO,Tryz.rgF1,e2,e3,e4]
  ·have e : intS (-n) = 45 :: natD n.natAbs := by rw [intS_neg_pos (by omega),intS_natAbs (by omega)]
   have hm : 1 + (natD n.natAbs).length ≤ maxInt := by unfold maxInt; omega
   simp [callFn,hG,Tryz.f172,pureO,Tryz.rgF1,hasPrefix_intS,trimPrefix_intS,h1,h0,intS_beq_zero,e,hm]
theorem Tryz.canon_loop {O : Oracle} {K : Nat} (s : List UInt8) (hs : s.length ≤ 1000000000) (hK : s.length < K) {b : Code} (hb : loopsF Tryz.f126 = [b]) :
  ∃ F : Env → Bool → Env,∀ env0 d,(Eng.look env0 4 = .str s ∧ Eng.look env0 5 = .int .i64 0) →
   execC (tyOf Tryz.prog) (fun _ => [5]) O K 43 0 true (.loop b) ⟨env0,[],d⟩ = some (if s.all isD then .exit 0 else .ret,⟨F env0 d,[],d⟩) ∧
   ((s.all isD = false → Eng.look (F env0 d) 2 = .bool false) ∧ (s.all isD = true → Eng.look (F env0 d) 3 = Eng.look env0 3 ∧ Eng.look (F env0 d) 4 = Eng.look env0 4)) := by
 refine loop_rule rfl (fun env0 => Eng.look env0 4 = .str s ∧ Eng.look env0 5 = .int .i64 0) (fun env0 env' => (s.all isD = false → Eng.look env' 2 = .bool false) ∧ (s.all isD = true → Eng.look env' 3 = Eng.look env0 3 ∧ Eng.look env' 4 = Eng.look env0 4)) ?_
 rintro env0 d ⟨h4,h5⟩
 have hn : normE [5] (writesC b) env0 ((5,.int .i64 ((0 : Nat) : Int)) :: env0) = normE [5] (writesC b) env0 env0 := by simp [normE,h5]
 rw [← hn]
 refine iter_ind (α := Nat) (fun i => ⟨normE [5] (writesC b) env0 ((5,.int .i64 (i : Int)) :: env0),[],d⟩)
  (fun i => s.length - i) (fun i => i ≤ s.length ∧ s.all isD = (s.drop i).all isD) (if s.all isD then .exit 0 else .ret) _ d _ (by split <;> simp) ?_ K 0 ⟨Nat.zero_le _,rfl⟩ (by simp only [Nat.sub_zero]; exact hK)
 rintro i ⟨hi,hall⟩
 clear hn
 simp [loopsF,loopsC,Tryz.f126] at hb
 by_cases hil : i = s.length
 ·right
  have hd : s.drop i = [] := List.drop_of_length_le (by omega)
  have : s.all isD = true := by rw [hall,hd]; rfl
  subst hil
  subst hb
  rw [this]
  simp [h4]
 ·have hlt : i < s.length := by omega
  have hltI : (i : Int) < (s.length : Int) := by omega
  obtain ⟨c,hc⟩ : ∃ c,s[i]? = some c := ⟨s[i],by simp [hlt]⟩
  have hc' : s[i] = c := (List.getElem?_eq_some_iff.1 hc).2
  have hd : s.drop i = c :: s.drop (i + 1) := by
   rw [List.drop_eq_getElem_cons hlt,hc']
  have hw : IntKind.i64.wrap ((i : Int) + 1) = ((i + 1 : Nat) : Int) := by rw [wrap_i64 (by omega) (by omega)]; omega
  rw [hd,List.all_cons] at hall
  by_cases h1 : c.toNat < 48
  ·right
   have hnD : isD c = false := by unfold isD; simp; omega
   have h1' : ((c.toNat : Int) < 48) := by omega
   have : s.all isD = false := by rw [hall,hnD]; rfl
   subst hb
   rw [this]
   simp [h4,hlt,hltI,hc,hc',h1']
  ·have h1' : ¬ ((c.toNat : Int) < 48) := by omega
   by_cases h2 : 57 < c.toNat
   ·right
    have hnD : isD c = false := by unfold isD; simp; omega
    have h2' : (57 < (c.toNat : Int)) := by omega
    have : s.all isD = false := by rw [hall,hnD]; rfl
    subst hb
    rw [this]
    simp [h4,hlt,hltI,hc,hc',h1',h2']
   ·left
    have hnD : isD c = true := by unfold isD; simp; omega
    have h2' : ¬ (57 < (c.toNat : Int)) := by omega
    rw [hnD,Bool.true_and] at hall
    refine ⟨i + 1,?_⟩
    refine exists_and_fin2 (show (i + 1 ≤ s.length ∧ s.all isD = (s.drop (i + 1)).all isD) ∧ _ from ⟨⟨hlt,hall⟩,by omega⟩) ?_
    subst hb
    simp [h4,hlt,hltI,hc,hc',h1',h2',hw]
def canI (s : List UInt8) : Bool := (intP s).isSome
def canT (mn : Bool) (t : List UInt8) : Bool := match t with
 | [] => false
 | c :: r => (c :: r).all isD && !(c == 48 && (mn || decide (0 < r.length)))
theorem canT_canI (s : List UInt8) : canT (Lib.hasPrefix s [45]) (Lib.trimPrefix s [45]) = canI s := by
 have h0 : ∀ t,canT false t = canonN t := by
  intro t
  cases t with
  | nil => rfl
  | cons c r =>
   simp only [canT,canonN,List.all_cons,Bool.false_or]
   rw [Bool.eq_iff_iff]
   cases r with
   | nil => simp
   | cons x r => simp
 have h1 : ∀ t,canT true t = (canonN t && !(t.head? == some 48)) := by
  intro t
  cases t with
  | nil => rfl
  | cons c r =>
   simp only [canT,canonN,List.all_cons,Bool.true_or,Bool.and_true,List.head?_cons]
   rw [Bool.eq_iff_iff]
   simp
   grind
 have plain : ∀ t : List UInt8,(∀ r,t ≠ 45 :: r) → canT false t = canI t := by
  intro t ht
  rw [h0]
  unfold canI
  rw [intP_plain ht]
  cases hc : canonN t with
  | true => rw [natP_yes hc]; rfl
  | false => rw [natP_no hc]; rfl
 unfold Lib.trimPrefix
 cases s with
 | nil => rw [show Lib.hasPrefix [] [45] = false from rfl]; exact plain [] (by simp)
 | cons c r =>
  by_cases h : c = 45
  ·subst h
   rw [show Lib.hasPrefix (45 :: r) [45] = true by simp [Lib.hasPrefix,List.isPrefixOf]]
   simp only [if_true,List.length_singleton,List.drop_succ_cons,List.drop_zero]
   rw [h1]
   unfold canI
   rw [intP_minus]
   cases hc : canonN r with
   | true =>
    rw [natP_yes hc,Bool.true_and]
    have hv := natD_valD hc
    cases hvd : valD r with
    | zero =>
     rw [hvd,natD_zero] at hv
     rw [← hv]; rfl
    | succ u =>
     rw [hvd] at hv
     have hh := natD_head (u + 1) (by omega)
     rw [hv] at hh
     have : (r.head? == some 48) = false := by simpa using hh
     rw [this]; rfl
   | false =>
    rw [natP_no hc]; simp
  ·have h1 : Lib.hasPrefix (c :: r) [45] = false := by
    have h' : ¬ (45 : UInt8) = c := fun e => h e.symm
    simp [Lib.hasPrefix,List.isPrefixOf,h']
   rw [h1]
   exact plain (c :: r) (by intro r' e; exact h (List.cons.inj e).1)
theorem Tryz.aCanonical (s : List UInt8) (hs : s.length ≤ 1000000000) (mem : Mem) : ACallsTo Tryz.prog 126 [.str s] mem (.bool (canI s)) mem := by
 have hG : fnOf Tryz.prog 126 = some Tryz.f126 := by kernel_rfl
 refine Tryz.run Tryz.rg1_ok (lv := fun _ => [5]) (K := s.length + 1) rfl rfl ?_ mem
 rw [← canT_canI]
 obtain ⟨b,hb⟩ : ∃ b,loopsF Tryz.f126 = [b] := ⟨_,rfl⟩
 have ht : (Lib.trimPrefix s [45]).length ≤ s.length := by unfold Lib.trimPrefix; split <;> simp
 obtain ⟨mn,hmn⟩ : ∃ mn,mn = Lib.hasPrefix s [45] := ⟨_,rfl⟩
 obtain ⟨t,htp⟩ : ∃ t,t = Lib.trimPrefix s [45] := ⟨_,rfl⟩
 rw [← htp] at ht
 rw [← hmn,← htp]
 obtain ⟨F,hF⟩ := Tryz.canon_loop (O := pureO Tryz.rgF1) (K := s.length + 1) t (by omega) (by omega) hb
 simp [loopsF,loopsC,Tryz.f126] at hb
 subst hb
 cases hall : t.all isD with
 | false =>
  have hc : canT mn t = false := by
   cases t with
   | nil => rfl
   | cons c r => simp only [canT]; rw [hall]; rfl
  simp only [hall] at hF
  rw [hc]
  simp [callFn,hG,Tryz.f126,pureO,Tryz.rgF1,← hmn,← htp,hF]
 | true =>
  simp only [hall] at hF
  cases t with
  | nil =>
   rw [show canT mn [] = false from rfl]
   simp [callFn,hG,Tryz.f126,pureO,Tryz.rgF1,← hmn,← htp,hF]
  | cons c r =>
   have hc : canT mn (c :: r) = !(c == 48 && (mn || decide (0 < r.length))) := by simp only [canT]; rw [hall]; rfl
   rw [hc]
   have hr0 : ¬ ((r.length : Int) + 1 = 0) := by omega
   by_cases h48 : c = 48
   ·subst h48
    cases mn with
    | true => simp [callFn,hG,Tryz.f126,pureO,Tryz.rgF1,← hmn,← htp,hF,hr0]
    | false =>
     by_cases hr : 0 < r.length
     ·have hr' : 1 < (r.length : Int) + 1 := by omega
      simp [callFn,hG,Tryz.f126,pureO,Tryz.rgF1,← hmn,← htp,hF,hr0,hr,hr']
     ·have hr' : ¬ 1 < (r.length : Int) + 1 := by omega
      simp [callFn,hG,Tryz.f126,pureO,Tryz.rgF1,← hmn,← htp,hF,hr0,hr,hr']
   ·have h48' : ¬ ((c.toNat : Int) = 48) := fun e => h48 (u8_48.1 e)
    simp [callFn,hG,Tryz.f126,pureO,Tryz.rgF1,← hmn,← htp,hF,hr0,h48,h48']
noncomputable def Tryz.rgF2 (f : FuncId) (args : List AV) : Option AV :=
 match f,args with
 | 126,[.str s] => if s.length ≤ 1000000000 then some (.bool (canI s)) else none
 | f,args => Tryz.rgF1 f args
theorem Tryz.rg2_ok : OracleOk Tryz.prog (pureO Tryz.rgF2) := pureO_ok fun f args v h mem => by
 unfold Tryz.rgF2 at h
 split at h
 ·split at h
  ·rename_i hl; cases h; exact Tryz.aCanonical _ hl mem
  ·cases h
 ·have := Tryz.rg1_ok.fn _ _ mem ⟨v,none,[]⟩ (by unfold pureO; simp only; rw [h])
  simpa [CallRes.mem] using this
theorem Tryz.aRRight (s : List UInt8) (hs : s.length ≤ 1000000000) (mem : Mem) : ACallsTo Tryz.prog 93 [.str s] mem (.bool (okI s)) mem := by
 have hG : fnOf Tryz.prog 93 = some Tryz.f93 := by kernel_rfl
 refine Tryz.run Tryz.rg2_ok (lv := fun _ => []) (K := 1) rfl rfl ?_ mem
 cases hn : intP s with
 | none =>
  have h1 : canI s = false := by unfold canI; rw [hn]; rfl
  have h2 : okI s = false := by unfold okI; rw [hn]
  rw [h2]
  simp [callFn,hG,Tryz.f93,pureO,Tryz.rgF2,Tryz.rgF1,hs,h1]
 | some n =>
  have h1 : canI s = true := by unfold canI; rw [hn]; rfl
  have h2 : okI s = decide ((natD n.natAbs).length ≤ 200) := by unfold okI; rw [hn]
  have h3 : Lib.trimPrefix s [45] = natD n.natAbs := by rw [intP_some hn,trimPrefix_intS]
  rw [h2]
  by_cases hl : (natD n.natAbs).length ≤ 200
  ·have hl' : ((natD n.natAbs).length : Int) ≤ 200 := by omega
   simp [callFn,hG,Tryz.f93,pureO,Tryz.rgF2,Tryz.rgF1,hs,h1,h3,hl,hl']
  ·have hl' : ¬ ((natD n.natAbs).length : Int) ≤ 200 := by omega
   simp [callFn,hG,Tryz.f93,pureO,Tryz.rgF2,Tryz.rgF1,hs,h1,h3,hl,hl']
theorem Tryz.rsmall_loop {O : Oracle} {K : Nat} (u : Nat) (hl : (natD u).length ≤ 18) (hK : 20 < K) {b : Code} (hb : loopsF Tryz.f221 = [b]) :
  ∃ F : Env → Bool → Env,∀ env0 d,(Eng.look env0 5 = .str (natD u) ∧ Eng.look env0 6 = .int .i64 0 ∧ Eng.look env0 7 = .int .i64 0) →
   execC (tyOf Tryz.prog) (fun _ => [6,7]) O K 45 0 true (.loop b) ⟨env0,[],d⟩ = some (.exit 0,⟨F env0 d,[],d⟩) ∧
   (Eng.look (F env0 d) 6 = .int .i64 (-(u : Int)) ∧ Eng.look (F env0 d) 4 = Eng.look env0 4) := by
 obtain ⟨s,hs⟩ : ∃ s,s = natD u := ⟨_,rfl⟩
 have hd : s.all isD = true := by rw [hs]; exact natD_all u
 have hv : valD s = u := by rw [hs]; exact valD_natD u
 rw [← hs] at hl ⊢
 refine loop_rule rfl (fun env0 => Eng.look env0 5 = .str s ∧ Eng.look env0 6 = .int .i64 0 ∧ Eng.look env0 7 = .int .i64 0) (fun env0 env' => Eng.look env' 6 = .int .i64 (-(u : Int)) ∧ Eng.look env' 4 = Eng.look env0 4) ?_
 rintro env0 d ⟨h5,h6,h7⟩
 have hv0 : valD (s.take 0) = 0 := by rw [List.take_zero]; unfold valD; rw [valF_nil]
 have hn : normE [6,7] (writesC b) env0 ((6,.int .i64 (-((valD (s.take 0) : Nat) : Int))) :: (7,.int .i64 ((0 : Nat) : Int)) :: env0) = normE [6,7] (writesC b) env0 env0 := by rw [hv0]; simp [normE,h6,h7]
 rw [← hn]
 refine iter_ind (α := Nat) (fun j => ⟨normE [6,7] (writesC b) env0 ((6,.int .i64 (-((valD (s.take j) : Nat) : Int))) :: (7,.int .i64 (j : Int)) :: env0),[],d⟩)
  (fun j => s.length - j) (fun j => j ≤ s.length) (.exit 0) _ d _ (by simp) ?_ K 0 (Nat.zero_le _) (by simp only [Nat.sub_zero]; omega)
 intro j hj
 clear hn hv0
 simp [loopsF,loopsC,Tryz.f221] at hb
 by_cases hje : j = s.length
 ·right
  subst hje
  rw [List.take_length,hv]
  subst hb
  simp [h5]
 ·left
  have hlt : j < s.length := by omega
  have hltI : (j : Int) < (s.length : Int) := by omega
  obtain ⟨c,hc⟩ : ∃ c,s[j]? = some c := ⟨s[j],by simp [hlt]⟩
  have hc' : s[j] = c := (List.getElem?_eq_some_iff.1 hc).2
  have hcD := List.all_eq_true.1 hd c (List.mem_of_getElem? hc)
  have hcd := isD_lt hcD
  have hc48 : 48 ≤ c.toNat := by unfold isD at hcD; simp only [Bool.and_eq_true,decide_eq_true_eq] at hcD; exact hcD.1
  have hst : s.take (j + 1) = s.take j ++ [c] := by rw [List.take_add_one,hc]; rfl
  have hvn : valD (s.take (j + 1)) = 10 * valD (s.take j) + (c.toNat - 48) := by rw [hst,valD_snoc]
  have hvb : valD (s.take j) < 10 ^ 17 := by
   have h1 := valD_lt (all_take hd j)
   have h2 : (s.take j).length ≤ 17 := by rw [List.length_take]; omega
   have h3 : 10 ^ (s.take j).length ≤ 10 ^ 17 := Nat.pow_le_pow_right (by omega) h2
   omega
  obtain ⟨v,hvv⟩ : ∃ v,v = valD (s.take j) := ⟨_,rfl⟩
  obtain ⟨v2,hvv2⟩ : ∃ v,v = valD (s.take (j + 1)) := ⟨_,rfl⟩
  rw [← hvv] at hvb hvn
  rw [← hvv2] at hvn
  obtain ⟨k,hk⟩ : ∃ k : Nat,k = c.toNat - 48 := ⟨_,rfl⟩
  have w0 : IntKind.i64.wrap (c.toNat : Int) = (c.toNat : Int) := wrap_i64 (by omega) (by have := c.toNat_lt; omega)
  have w1 : IntKind.i64.wrap ((c.toNat : Int) - 48) = (k : Int) := by rw [wrap_i64 (by omega) (by have := c.toNat_lt; omega)]; omega
  have w2 : IntKind.i64.wrap (-9223372036854775808 + (k : Int)) = -9223372036854775808 + (k : Int) := wrap_i64 (by omega) (by omega)
  obtain ⟨z,hz⟩ : ∃ z,z = (-9223372036854775808 + (k : Int)).tdiv 10 := ⟨_,rfl⟩
  have hzb : z ≤ -900000000000000000 ∧ -922337203685477581 ≤ z := by
   have e : -9223372036854775808 + (k : Int) = -((9223372036854775808 - k : Nat) : Int) := by omega
   obtain ⟨w,hw⟩ : ∃ w,w = (9223372036854775808 - k) / 10 := ⟨_,rfl⟩
   have hz3 : z = -(w : Int) := by rw [hz,e,Int.neg_tdiv,tdiv_lit _ 10,← hw]
   omega
  have w3 : IntKind.i64.wrap z = z := wrap_i64 (by omega) (by omega)
  have hzl : ¬ (-(v : Int) < z) := by omega
  have w4 : IntKind.i64.wrap (10 * -(v : Int)) = 10 * -(v : Int) := wrap_i64 (by omega) (by omega)
  have w4' : IntKind.i64.wrap (-(10 * (v : Int))) = -(10 * (v : Int)) := wrap_i64 (by omega) (by omega)
  have w5 : IntKind.i64.wrap (10 * -(v : Int) - (k : Int)) = -(v2 : Int) := by rw [wrap_i64 (by omega) (by omega)]; omega
  have w5' : IntKind.i64.wrap (-(10 * (v : Int)) - (k : Int)) = -(v2 : Int) := by rw [wrap_i64 (by omega) (by omega)]; omega
  have w6 : IntKind.i64.wrap ((j : Int) + 1) = ((j + 1 : Nat) : Int) := by rw [wrap_i64 (by omega) (by omega)]; omega
  refine ⟨j + 1,?_⟩
  refine exists_and_fin (show j + 1 ≤ s.length ∧ _ from ⟨hlt,by omega⟩) ?_
  subst hb
  simp [h5,hlt,hltI,hc,hc',← hvv,← hvv2,w0,w1,w2,← hz,w3,hzl,w4,w4',w5,w5',w6]
theorem Tryz.aRSmall (n : Int) (hl : (natD n.natAbs).length ≤ 18) (mem : Mem) : ACallsTo Tryz.prog 221 [.str (intS n)] mem (.tuple [.int .i64 n,.bool true]) mem := by
 have hG : fnOf Tryz.prog 221 = some Tryz.f221 := by kernel_rfl
 refine Tryz.run Tryz.rg1_ok (lv := fun _ => [6,7]) (K := 21) rfl rfl ?_ mem
 obtain ⟨b,hb⟩ : ∃ b,loopsF Tryz.f221 = [b] := ⟨_,rfl⟩
 obtain ⟨F,hF⟩ := Tryz.rsmall_loop (O := pureO Tryz.rgF1) (K := 21) n.natAbs hl (by omega) hb
 have hlt : n.natAbs < 10 ^ 18 := by
  have h1 := natD_lt_pow n.natAbs
  have h2 : 10 ^ (natD n.natAbs).length ≤ 10 ^ 18 := Nat.pow_le_pow_right (by omega) hl
  omega
 obtain ⟨u,hu⟩ : ∃ u,u = n.natAbs := ⟨_,rfl⟩
 rw [← hu] at hF hl hlt
 have hl' : ¬ (19 < ((natD u).length : Int)) := by omega
 simp [loopsF,loopsC,Tryz.f221] at hb
 subst hb
 by_cases h0 : n < 0
 ·have e : -(u : Int) = n := by omega
  rw [e] at hF
  simp [callFn,hG,Tryz.f221,pureO,Tryz.rgF1,hasPrefix_intS,trimPrefix_intS,← hu,hl',hF,h0]
 ·have e : (u : Int) = n := by omega
  have h1 : ¬ (-(u : Int) = -9223372036854775808) := by omega
  have h1' : ¬ ((u : Int) = 9223372036854775808) := by omega
  have h2 : IntKind.i64.wrap (u : Int) = n := by rw [wrap_i64 (by omega) (by omega)]; exact e
  have h3 : ¬ u = 9223372036854775808 := by omega
  simp [callFn,hG,Tryz.f221,pureO,Tryz.rgF1,hasPrefix_intS,trimPrefix_intS,← hu,hl',hF,h0,h1,h1',h2,h3]
noncomputable def Tryz.rgF3 (f : FuncId) (args : List AV) : Option AV :=
 match f,args with
 | 221,[.str s] => match intP s with
  | some n => if (natD n.natAbs).length ≤ 18 then some (.tuple [.int .i64 n,.bool true]) else none
  | none => none
 | 174,[.int .i64 n] => if fitsI n then some (.str (intS n)) else none
 | 128,[.str s] => match intP s with
  | some n => some (.int .i64 (sgnI n))
  | none => none
 | 130,[.str s] => match intP s with
  | some n => some (.str (natD n.natAbs))
  | none => none
 | 172,[.str s] => match intP s with
  | some n => if (natD n.natAbs).length ≤ 1000000000 then some (.str (intS (-n))) else none
  | none => none
 | f,args => Tryz.rgF2 f args
theorem Tryz.rg3_ok : OracleOk Tryz.prog (pureO Tryz.rgF3) := pureO_ok fun f args v h mem => by
 unfold Tryz.rgF3 at h
 split at h
 ·split at h
  ·rename_i n hn
   split at h
   ·rename_i hl; cases h; rw [intP_some hn]; exact Tryz.aRSmall n hl mem
   ·cases h
  ·cases h
 ·split at h
  ·rename_i hc; cases h; exact Tryz.aROf _ hc mem
  ·cases h
 ·split at h
  ·rename_i n hn; cases h; rw [intP_some hn]; exact Tryz.aRSign n mem
  ·cases h
 ·split at h
  ·rename_i n hn; cases h; rw [intP_some hn]; exact Tryz.aRAbs n mem
  ·cases h
 ·split at h
  ·rename_i n hn
   split at h
   ·rename_i hl; cases h; rw [intP_some hn]; exact Tryz.aRNeg n hl mem
   ·cases h
  ·cases h
 ·have := Tryz.rg2_ok.fn _ _ mem ⟨v,none,[]⟩ (by unfold pureO; simp only; rw [h])
  simpa [CallRes.mem] using this
theorem Tryz.aRBrief (n : Int) (hl : (natD n.natAbs).length ≤ 1000000000) (mem : Mem) : ACallsTo Tryz.prog 173 [.str (intS n)] mem (if (natD n.natAbs).length ≤ 17 then .tuple [.int .i64 n,.bool true] else .tuple [.int .i64 0,.bool false]) mem := by
 have hG : fnOf Tryz.prog 173 = some Tryz.f173 := by kernel_rfl
 refine Tryz.run Tryz.rg3_ok (lv := fun _ => []) (K := 1) rfl (by split <;> rfl) ?_ mem
 by_cases h : (natD n.natAbs).length ≤ 17
 ·have h1 : ¬ (17 < ((natD n.natAbs).length : Int)) := by omega
  have h2 : (natD n.natAbs).length ≤ 18 := by omega
  simp [callFn,hG,Tryz.f173,pureO,Tryz.rgF3,Tryz.rgF2,Tryz.rgF1,trimPrefix_intS,intP_intS,h,h1,h2]
 ·have h1 : (17 < ((natD n.natAbs).length : Int)) := by omega
  simp [callFn,hG,Tryz.f173,pureO,Tryz.rgF3,Tryz.rgF2,Tryz.rgF1,trimPrefix_intS,h,h1]
theorem closeS_add_same {a b : Int} (hs : decide (a < 0) = decide (b < 0)) : closeS (decide (a < 0)) (a.natAbs + b.natAbs) = intS (a + b) := by
 rw [← closeS_intS (a + b)]
 have : (a + b).natAbs = a.natAbs + b.natAbs := by
  by_cases h1 : a < 0 <;> by_cases h2 : b < 0 <;> simp [h1,h2] at hs <;> omega
 rw [this]
 by_cases h1 : a < 0 <;> by_cases h2 : b < 0 <;> simp [h1,h2] at hs
 ·rw [decide_eq_true h1,decide_eq_true (by omega)]
 ·rw [decide_eq_false h1,decide_eq_false (by omega)]
theorem closeS_add_lt {a b : Int} (hs : ¬ decide (a < 0) = decide (b < 0)) (hlt : a.natAbs < b.natAbs) : closeS (decide (b < 0)) (b.natAbs - a.natAbs) = intS (a + b) := by
 rw [← closeS_intS (a + b)]
 have h0 : (a + b).natAbs = b.natAbs - a.natAbs := by
  by_cases h1 : a < 0 <;> by_cases h2 : b < 0 <;> simp [h1,h2] at hs <;> omega
 rw [h0]
 by_cases h1 : a < 0 <;> by_cases h2 : b < 0 <;> simp [h1,h2] at hs
 ·rw [decide_eq_false h2,decide_eq_false (by omega)]
 ·rw [decide_eq_true h2,decide_eq_true (by omega)]
theorem closeS_add_ge {a b : Int} (hs : ¬ decide (a < 0) = decide (b < 0)) (hge : b.natAbs ≤ a.natAbs) : closeS (decide (a < 0)) (a.natAbs - b.natAbs) = intS (a + b) := by
 rw [← closeS_intS (a + b)]
 have h0 : (a + b).natAbs = a.natAbs - b.natAbs := by
  by_cases h1 : a < 0 <;> by_cases h2 : b < 0 <;> simp [h1,h2] at hs <;> omega
 rw [h0]
 by_cases hz : a.natAbs - b.natAbs = 0
 ·unfold closeS; rw [if_pos hz,if_pos hz]
 by_cases h1 : a < 0 <;> by_cases h2 : b < 0 <;> simp [h1,h2] at hs
 ·rw [decide_eq_true h1,decide_eq_true (by omega)]
 ·rw [decide_eq_false h1,decide_eq_false (by omega)]
theorem dig4_length (n : Nat) : (dig 10000 n).length ≤ (natD n).length := by
 obtain ⟨c1,c2,c3⟩ := chunks4_spec _ (natD n) (Nat.le_refl _) (natD_all _)
 rw [valD_natD] at c2
 have hd : ltrim (chunks4 (natD n)) = dig 10000 n := by rw [← dig_lval (by omega) c1,c2]
 have := ltrim_length_le (chunks4 (natD n))
 rw [hd] at this
 omega
noncomputable def Tryz.rgF4 (f : FuncId) (args : List AV) : Option AV :=
 match f,args with
 | 173,[.str s] => match intP s with
  | some n => if (natD n.natAbs).length ≤ 1000000000 then some (if (natD n.natAbs).length ≤ 17 then .tuple [.int .i64 n,.bool true] else .tuple [.int .i64 0,.bool false]) else none
  | none => none
 | f,args => Tryz.rgF3 f args
theorem Tryz.rg4_ok : OracleOk Tryz.prog (pureO Tryz.rgF4) := pureO_ok fun f args v h mem => by
 unfold Tryz.rgF4 at h
 split at h
 ·split at h
  ·rename_i n hn
   split at h
   ·rename_i hl; cases h; rw [intP_some hn]; exact Tryz.aRBrief n hl mem
   ·cases h
  ·cases h
 ·have := Tryz.rg3_ok.fn _ _ mem ⟨v,none,[]⟩ (by unfold pureO; simp only; rw [h])
  simpa [CallRes.mem] using this
noncomputable def Tryz.roO : Oracle := fun c args M => ((pureO Tryz.rgF4).or Tryz.rfO5) c args M
theorem Tryz.roO_ok : OracleOk Tryz.prog Tryz.roO := Tryz.rg4_ok.or Tryz.rfO5_ok
theorem rs0 {A : List Nat} (ow : Bool) (l : Mem) : sliceN .i64 (.cells ow 1 (iN .i64 A) :: l) (.slice 0 0 A.length none) = some A := sliceN_at rfl (by simp) (List.take_of_length_le (by simp))
theorem rs1 {A : List Nat} (ow : Bool) (a0 : Slot) (l : Mem) : sliceN .i64 (a0 :: .cells ow 1 (iN .i64 A) :: l) (.slice 1 0 A.length none) = some A := sliceN_at rfl (by simp) (List.take_of_length_le (by simp))
theorem rs2 {A : List Nat} (ow : Bool) (a0 a1 : Slot) (l : Mem) : sliceN .i64 (a0 :: a1 :: .cells ow 1 (iN .i64 A) :: l) (.slice 2 0 A.length none) = some A := sliceN_at rfl (by simp) (List.take_of_length_le (by simp))
theorem rs3 {A : List Nat} (ow : Bool) (a0 a1 a2 : Slot) (l : Mem) : sliceN .i64 (a0 :: a1 :: a2 :: .cells ow 1 (iN .i64 A) :: l) (.slice 3 0 A.length none) = some A := sliceN_at rfl (by simp) (List.take_of_length_le (by simp))
set_option maxHeartbeats 3200000 in
theorem Tryz.aRAdd (a b : Int) (ha : (natD a.natAbs).length ≤ 10000) (hb : (natD b.natAbs).length ≤ 10000) (mem : Mem) : ACallsTo Tryz.prog 171 [.str (intS a),.str (intS b)] mem (.str (intS (a + b))) mem := by
 have hG : fnOf Tryz.prog 171 = some Tryz.f171 := by kernel_rfl
 refine Tryz.run Tryz.roO_ok (lv := fun _ => []) (K := 1) rfl rfl ?_ mem
 have c1 : decide (a < 0) = decide (b < 0) → closeS (decide (a < 0)) (a.natAbs + b.natAbs) = intS (a + b) := closeS_add_same
 have c2 : ¬ decide (a < 0) = decide (b < 0) → a.natAbs < b.natAbs → closeS (decide (b < 0)) (b.natAbs - a.natAbs) = intS (a + b) := closeS_add_lt
 have c3 : ¬ decide (a < 0) = decide (b < 0) → b.natAbs ≤ a.natAbs → closeS (decide (a < 0)) (a.natAbs - b.natAbs) = intS (a + b) := closeS_add_ge
 obtain ⟨n,hn⟩ : ∃ n,a.natAbs = n := ⟨_,rfl⟩
 obtain ⟨m,hm⟩ : ∃ m,b.natAbs = m := ⟨_,rfl⟩
 rw [hn,hm] at c1 c2 c3
 rw [hn] at ha
 rw [hm] at hb
 have la1 : (natD n).length ≤ 1000000000 := by omega
 have lb1 : (natD m).length ≤ 1000000000 := by omega
 by_cases hq : (natD n).length ≤ 17 ∧ (natD m).length ≤ 17
 ·obtain ⟨q1,q2⟩ := hq
  have s1 : n < 10 ^ 17 := by
   have h1 := natD_lt_pow n
   have h2 : 10 ^ (natD n).length ≤ 10 ^ 17 := Nat.pow_le_pow_right (by omega) q1
   omega
  have s2 : m < 10 ^ 17 := by
   have h1 := natD_lt_pow m
   have h2 : 10 ^ (natD m).length ≤ 10 ^ 17 := Nat.pow_le_pow_right (by omega) q2
   omega
  have w1 : IntKind.i64.wrap (a + b) = a + b := wrap_i64 (by omega) (by omega)
  have hf : fitsI (a + b) = true := by unfold fitsI; simp; omega
  simp [callFn,hG,Tryz.f171,Tryz.roO,Oracle.or,pureO,Tryz.rgF4,Tryz.rgF3,intP_intS,hn,hm,la1,lb1,q1,q2,w1,hf]
 ·have da := dig4_length n
  have db := dig4_length m
  have la2 : (natD n).length ≤ 1000000 := by omega
  have lb2 : (natD m).length ≤ 1000000 := by omega
  have hne : dig 10000 n ≠ [] ∨ dig 10000 m ≠ [] := by
   by_cases h : (natD n).length ≤ 17
   ·right
    rw [ne_eq,dig_eq_nil (by omega)]
    intro e
    apply hq
    rw [e]; exact ⟨h,by decide⟩
   ·left
    rw [ne_eq,dig_eq_nil (by omega)]
    intro e
    apply h
    rw [e]; decide
  have va : lval 10000 (dig 10000 n) = n := lval_dig (by omega) _
  have vb : lval 10000 (dig 10000 m) = m := lval_dig (by omega) _
  have oa : lok 10000 (dig 10000 n) = true := lok_dig (by omega) _
  have ob : lok 10000 (dig 10000 m) = true := lok_dig (by omega) _
  have ta : ltrim (dig 10000 n) = dig 10000 n := ltrim_dig (by omega) _
  have tb : ltrim (dig 10000 m) = dig 10000 m := ltrim_dig (by omega) _
  obtain ⟨A,hA⟩ : ∃ A,A = dig 10000 n := ⟨_,rfl⟩
  obtain ⟨B,hB⟩ : ∃ B,B = dig 10000 m := ⟨_,rfl⟩
  rw [← hA] at da va oa ta hne
  rw [← hB] at db vb ob tb hne
  have hne2 := hne.symm
  have g1 : A.length ≤ 1000000 := by omega
  have g2 : B.length ≤ 1000000 := by omega
  have g3 : A.length ≤ 1000000000 := by omega
  have g4 : B.length ≤ 1000000000 := by omega
  by_cases hs : (decide (a < 0)) = (decide (b < 0))
  ·obtain ⟨S,hS⟩ : ∃ S,S = dig 10000 (n + m) := ⟨_,rfl⟩
   have vs : lval 10000 S = n + m := by rw [hS]; exact lval_dig (by omega) _
   have os : lok 10000 S = true := by rw [hS]; exact lok_dig (by omega) _
   have ts : ltrim S = S := by rw [hS]; exact ltrim_dig (by omega) _
   have g5 : S.length ≤ 100000 := by
    have h1 := natD_length_add ha hb
    have h2 := dig4_length (n + m)
    rw [hS]; omega
   have hres := c1 hs
   have hs' : (decide (a < 0) == decide (b < 0)) = true := by rw [hs]; simp
   have p0 : 0 ≤ (n : Int) + (m : Int) := by omega
   have p1 : ((n : Int) + (m : Int)).toNat = n + m := by omega
   by_cases q1 : (natD n).length ≤ 17
   ·have q2 : ¬ (natD m).length ≤ 17 := fun e => hq ⟨q1,e⟩
    simp [callFn,hG,Tryz.f171,Tryz.roO,Oracle.or,pureO,Tryz.rgF4,Tryz.rgF3,Tryz.rgF2,Tryz.rgF1,Tryz.strF,intP_intS,natP_natD,hn,hm,la1,lb1,q1,q2,Tryz.rfO5,Tryz.rfO4,Tryz.rfO3,Tryz.rfO2,Tryz.rfO1,hasPrefix_intS,trimPrefix_intS,la2,lb2,← hA,← hB,rs0,rs1,rs2,hne,hne2,oa,ob,ta,tb,g1,g2,g3,g4,va,vb,p0,p1,← hS,os,ts,g5,vs,hs',hres]
   ·by_cases q2 : (natD m).length ≤ 17
    ·simp [callFn,hG,Tryz.f171,Tryz.roO,Oracle.or,pureO,Tryz.rgF4,Tryz.rgF3,Tryz.rgF2,Tryz.rgF1,Tryz.strF,intP_intS,natP_natD,hn,hm,la1,lb1,q1,q2,Tryz.rfO5,Tryz.rfO4,Tryz.rfO3,Tryz.rfO2,Tryz.rfO1,hasPrefix_intS,trimPrefix_intS,la2,lb2,← hA,← hB,rs0,rs1,rs2,hne,hne2,oa,ob,ta,tb,g1,g2,g3,g4,va,vb,p0,p1,← hS,os,ts,g5,vs,hs',hres]
    ·simp [callFn,hG,Tryz.f171,Tryz.roO,Oracle.or,pureO,Tryz.rgF4,Tryz.rgF3,Tryz.rgF2,Tryz.rgF1,Tryz.strF,intP_intS,natP_natD,hn,hm,la1,lb1,q1,q2,Tryz.rfO5,Tryz.rfO4,Tryz.rfO3,Tryz.rfO2,Tryz.rfO1,hasPrefix_intS,trimPrefix_intS,la2,lb2,← hA,← hB,rs0,rs1,rs2,hne,hne2,oa,ob,ta,tb,g1,g2,g3,g4,va,vb,p0,p1,← hS,os,ts,g5,vs,hs',hres]
  ·have hs' : (decide (a < 0) == decide (b < 0)) = false := by
    cases h1 : decide (a < 0) <;> cases h2 : decide (b < 0) <;> simp [h1,h2] at hs ⊢
   by_cases hlt : n < m
   ·obtain ⟨S,hS⟩ : ∃ S,S = dig 10000 (m - n) := ⟨_,rfl⟩
    have vs : lval 10000 S = m - n := by rw [hS]; exact lval_dig (by omega) _
    have os : lok 10000 S = true := by rw [hS]; exact lok_dig (by omega) _
    have ts : ltrim S = S := by rw [hS]; exact ltrim_dig (by omega) _
    have g5 : S.length ≤ 100000 := by
     have h1 := natD_length_mono (show m - n ≤ m by omega)
     have h2 := dig4_length (m - n)
     rw [hS]; omega
    have hres := c2 hs hlt
    have p0 : 0 ≤ (m : Int) + -(n : Int) := by omega
    have p1 : ((m : Int) + -(n : Int)).toNat = m - n := by omega
    by_cases q1 : (natD n).length ≤ 17
    ·have q2 : ¬ (natD m).length ≤ 17 := fun e => hq ⟨q1,e⟩
     simp [callFn,hG,Tryz.f171,Tryz.roO,Oracle.or,pureO,Tryz.rgF4,Tryz.rgF3,Tryz.rgF2,Tryz.rgF1,Tryz.strF,intP_intS,natP_natD,hn,hm,la1,lb1,q1,q2,Tryz.rfO5,Tryz.rfO4,Tryz.rfO3,Tryz.rfO2,Tryz.rfO1,hasPrefix_intS,trimPrefix_intS,la2,lb2,← hA,← hB,rs0,rs1,rs2,hne,hne2,oa,ob,ta,tb,g1,g2,g3,g4,va,vb,p0,p1,hlt,← hS,os,ts,g5,vs,hs',hres]
    ·by_cases q2 : (natD m).length ≤ 17
     ·simp [callFn,hG,Tryz.f171,Tryz.roO,Oracle.or,pureO,Tryz.rgF4,Tryz.rgF3,Tryz.rgF2,Tryz.rgF1,Tryz.strF,intP_intS,natP_natD,hn,hm,la1,lb1,q1,q2,Tryz.rfO5,Tryz.rfO4,Tryz.rfO3,Tryz.rfO2,Tryz.rfO1,hasPrefix_intS,trimPrefix_intS,la2,lb2,← hA,← hB,rs0,rs1,rs2,hne,hne2,oa,ob,ta,tb,g1,g2,g3,g4,va,vb,p0,p1,hlt,← hS,os,ts,g5,vs,hs',hres]
     ·simp [callFn,hG,Tryz.f171,Tryz.roO,Oracle.or,pureO,Tryz.rgF4,Tryz.rgF3,Tryz.rgF2,Tryz.rgF1,Tryz.strF,intP_intS,natP_natD,hn,hm,la1,lb1,q1,q2,Tryz.rfO5,Tryz.rfO4,Tryz.rfO3,Tryz.rfO2,Tryz.rfO1,hasPrefix_intS,trimPrefix_intS,la2,lb2,← hA,← hB,rs0,rs1,rs2,hne,hne2,oa,ob,ta,tb,g1,g2,g3,g4,va,vb,p0,p1,hlt,← hS,os,ts,g5,vs,hs',hres]
   ·obtain ⟨S,hS⟩ : ∃ S,S = dig 10000 (n - m) := ⟨_,rfl⟩
    have vs : lval 10000 S = n - m := by rw [hS]; exact lval_dig (by omega) _
    have os : lok 10000 S = true := by rw [hS]; exact lok_dig (by omega) _
    have ts : ltrim S = S := by rw [hS]; exact ltrim_dig (by omega) _
    have g5 : S.length ≤ 100000 := by
     have h1 := natD_length_mono (show n - m ≤ n by omega)
     have h2 := dig4_length (n - m)
     rw [hS]; omega
    have hres := c3 hs (by omega)
    have p0 : 0 ≤ (n : Int) + -(m : Int) := by omega
    have p1 : ((n : Int) + -(m : Int)).toNat = n - m := by omega
    by_cases q1 : (natD n).length ≤ 17
    ·have q2 : ¬ (natD m).length ≤ 17 := fun e => hq ⟨q1,e⟩
     simp [callFn,hG,Tryz.f171,Tryz.roO,Oracle.or,pureO,Tryz.rgF4,Tryz.rgF3,Tryz.rgF2,Tryz.rgF1,Tryz.strF,intP_intS,natP_natD,hn,hm,la1,lb1,q1,q2,Tryz.rfO5,Tryz.rfO4,Tryz.rfO3,Tryz.rfO2,Tryz.rfO1,hasPrefix_intS,trimPrefix_intS,la2,lb2,← hA,← hB,rs0,rs1,rs2,hne,hne2,oa,ob,ta,tb,g1,g2,g3,g4,va,vb,p0,p1,hlt,← hS,os,ts,g5,vs,hs',hres]
    ·by_cases q2 : (natD m).length ≤ 17
     ·simp [callFn,hG,Tryz.f171,Tryz.roO,Oracle.or,pureO,Tryz.rgF4,Tryz.rgF3,Tryz.rgF2,Tryz.rgF1,Tryz.strF,intP_intS,natP_natD,hn,hm,la1,lb1,q1,q2,Tryz.rfO5,Tryz.rfO4,Tryz.rfO3,Tryz.rfO2,Tryz.rfO1,hasPrefix_intS,trimPrefix_intS,la2,lb2,← hA,← hB,rs0,rs1,rs2,hne,hne2,oa,ob,ta,tb,g1,g2,g3,g4,va,vb,p0,p1,hlt,← hS,os,ts,g5,vs,hs',hres]
     ·simp [callFn,hG,Tryz.f171,Tryz.roO,Oracle.or,pureO,Tryz.rgF4,Tryz.rgF3,Tryz.rgF2,Tryz.rgF1,Tryz.strF,intP_intS,natP_natD,hn,hm,la1,lb1,q1,q2,Tryz.rfO5,Tryz.rfO4,Tryz.rfO3,Tryz.rfO2,Tryz.rfO1,hasPrefix_intS,trimPrefix_intS,la2,lb2,← hA,← hB,rs0,rs1,rs2,hne,hne2,oa,ob,ta,tb,g1,g2,g3,g4,va,vb,p0,p1,hlt,← hS,os,ts,g5,vs,hs',hres]
end Go.Proofs
