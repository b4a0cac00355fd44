/- See K54. -/
import Derived.Test.YtiopbpbcgccngaaGreatDoorK33
import Derived.Test.YtiopbpbcgccngaaGreatDoorK11
import Derived.Test.YtiopbpbcgccngaaGreatDoorK10
set_option linter.all false
namespace Go.Proofs
open Go.Eng
theorem Tryz.rcut_loop {O : Oracle} {K : Nat} {lv : Code → List Nat} (A : List Nat) (hl : A.length ≤ 4000000000000) (hK : A.length < K) {b : Code} (hb : loopsF Tryz.f222 = [b]) (hlv : lv b = [0]) :
  ∃ F : Env → Bool → Env,∀ env0 d,Eng.look env0 0 = .slice 0 0 A.length none →
   execC (tyOf Tryz.prog) lv O K 21 1 true (.loop b) ⟨env0,[.cells false 1 (iN .i64 A)],d⟩ = some (.exit 0,⟨F env0 d,[.cells false 1 (iN .i64 A)],d⟩) ∧ Eng.look (F env0 d) 0 = .slice 0 0 (ltrim A).length none := by
 refine loop_rule hlv (fun env0 => Eng.look env0 0 = .slice 0 0 A.length none) (fun _ env' => Eng.look env' 0 = .slice 0 0 (ltrim A).length none) ?_
 clear hlv
 intro env0 d h0
 simp [loopsF,loopsC,Tryz.f222] at hb
 have hn : normE [0] (writesC b) env0 ((0,.slice 0 0 A.length none) :: env0) = normE [0] (writesC b) env0 env0 := by simp [normE,h0]
 rw [← hn]
 refine iter_ind (α := Nat) (fun n => ⟨normE [0] (writesC b) env0 ((0,.slice 0 0 n none) :: env0),[.cells false 1 (iN .i64 A)],d⟩) id (fun n => n ≤ A.length ∧ ltrim (A.take n) = ltrim A) (.exit 0) _ d _ (by simp) ?_ K A.length ⟨Nat.le_refl _,by rw [List.take_length]⟩ hK
 rintro n ⟨hn1,hn2⟩
 clear hn
 subst hb
 cases n with
 | zero =>
  right
  rw [← hn2]
  simp [ltrim]
 | succ n =>
  have hlt : n < A.length := by omega
  obtain ⟨x,hx⟩ : ∃ x,A[n]? = some x := ⟨A[n],by simp [hlt]⟩
  have hw : IntKind.i64.wrap (n : Int) = (n : Int) := wrap_i64 (by omega) (by omega)
  have h1 : (n : Int) < (n : Int) + 1 := by omega
  have h2 : 0 < (n : Int) + 1 := by omega
  by_cases hx0 : x = 0
  ·subst hx0
   left
   refine ⟨n,?_⟩
   have h3 : (n : Int) ≤ (n : Int) + 1 := by omega
   have h4 : n + 1 ≤ A.length := by omega
   simp [hw,h1,h2,h3,h4,hx]
   exact ⟨by omega,by rw [← ltrim_take_pred hx]; exact hn2⟩
  ·right
   rw [← hn2,ltrim_take_last hx hx0]
   have h4 : min (n + 1) A.length = n + 1 := by omega
   simp [hw,h1,h2,h4,hx,hx0]
theorem Tryz.aRcut (A : List Nat) (hl : A.length ≤ 4000000000000) : ACallsTo Tryz.prog 222 [.slice 0 0 A.length none] [.cells false 1 (iN .i64 A)] (.slice 0 0 (ltrim A).length none) [.cells false 1 (iN .i64 A)] := by
 have hG : fnOf Tryz.prog 222 = some Tryz.f222 := by kernel_rfl
 obtain ⟨b,hb⟩ : ∃ b,loopsF Tryz.f222 = [b] := ⟨_,rfl⟩
 obtain ⟨F,hF⟩ := Tryz.rcut_loop (O := noOracle) (K := A.length + 1) (lv := fun _ => [0]) A hl (by omega) hb rfl
 simp [loopsF,loopsC,Tryz.f222] at hb
 subst hb
 have h : callFn (tyOf Tryz.prog) (fun _ => [0]) (fnOf Tryz.prog) noOracle (A.length + 1) 222 [.slice 0 0 A.length none] [.cells false 1 (iN .i64 A)] = some ⟨.slice 0 0 (ltrim A).length none,none,[]⟩ := by
  simp [callFn,hG,Tryz.f222,hF]
 have := (callFn_sound Tryz.mixed (tyOf_ok _) (noOracle_ok _) (fnOf_ok _) h).1
 simpa [CallRes.mem] using this
theorem Tryz.rless_loop {O : Oracle} {K : Nat} {lv : Code → List Nat} (A B : List Nat) (hA : lok 10000 A = true) (hB : lok 10000 B = true) (hl : A.length ≤ 1000000000) (hlen : A.length = B.length) (hK : A.length < K) {b : Code} (hb : loopsF Tryz.f220 = [b]) (hlv : lv b = [5]) :
  ∃ F : Env → Bool → Env,∀ env0 d,(Eng.look env0 0 = .slice 0 0 A.length none ∧ Eng.look env0 1 = .slice 1 0 A.length none ∧ Eng.look env0 5 = .int .i64 ((A.length : Int) - 1)) →
   execC (tyOf Tryz.prog) lv O K 41 2 true (.loop b) ⟨env0,[.cells false 1 (iN .i64 A),.cells false 1 (iN .i64 B)],d⟩ = some (if A = B then .exit 0 else .ret,⟨F env0 d,[.cells false 1 (iN .i64 A),.cells false 1 (iN .i64 B)],d⟩) ∧
    (A ≠ B → Eng.look (F env0 d) 4 = .bool (decide (lval 10000 A < lval 10000 B))) := by
 refine loop_rule hlv (fun env0 => Eng.look env0 0 = .slice 0 0 A.length none ∧ Eng.look env0 1 = .slice 1 0 A.length none ∧ Eng.look env0 5 = .int .i64 ((A.length : Int) - 1)) (fun _ env' => A ≠ B → Eng.look env' 4 = .bool (decide (lval 10000 A < lval 10000 B))) ?_
 clear hlv
 rintro env0 d ⟨h0,h1,h5⟩
 simp [loopsF,loopsC,Tryz.f220] at hb
 have hn : normE [5] (writesC b) env0 ((5,.int .i64 ((A.length : Int) - 1)) :: env0) = normE [5] (writesC b) env0 env0 := by simp [normE,h5]
 rw [← hn]
 refine iter_ind (α := Nat) (fun n => ⟨normE [5] (writesC b) env0 ((5,.int .i64 ((n : Int) - 1)) :: env0),[.cells false 1 (iN .i64 A),.cells false 1 (iN .i64 B)],d⟩) id (fun n => n ≤ A.length ∧ A.drop n = B.drop n) (if A = B then .exit 0 else .ret) _ d _ (by split <;> simp) ?_ K A.length ⟨Nat.le_refl _,by rw [List.drop_length,hlen,List.drop_length]⟩ hK
 rintro n ⟨hn1,hn2⟩
 clear hn
 subst hb
 cases n with
 | zero =>
  right
  rw [List.drop_zero,List.drop_zero] at hn2
  simp [hn2]
 | succ n =>
  have hlt : n < A.length := by omega
  have hltB : n < B.length := by omega
  obtain ⟨x,hx,hx'⟩ := get_both hlt
  obtain ⟨y,hy,hy'⟩ := get_both hltB
  have e1 : (((n + 1 : Nat) : Int) - 1) = (n : Int) := by omega
  have e2 : IntKind.i64.wrap ((n : Int) - 1) = (n : Int) - 1 := wrap_i64 (by omega) (by omega)
  rw [e1]
  by_cases hxy : x = y
  ·left
   subst hxy
   refine ⟨n,?_⟩
   simp [h0,h1,hx,hy,hx',hy',hlt,hltB,e2]
   exact ⟨by omega,drop_pred hn2 hx hy⟩
  ·right
   have hne : A ≠ B := by rintro rfl; rw [hx] at hy; cases hy; exact hxy rfl
   have hc := cmpN_at hA hB hlen hn2 hx hy hxy
   have hd : decide (lval 10000 A < lval 10000 B) = decide (x < y) := by
    unfold cmpN at hc
    by_cases hlt2 : x < y
    ·rw [if_pos hlt2] at hc
     have : lval 10000 A < lval 10000 B := by
      rcases Nat.lt_or_ge (lval 10000 A) (lval 10000 B) with h | h
      ·exact h
      ·rw [if_neg (by omega)] at hc; split at hc <;> omega
     simp [hlt2,this]
    ·rw [if_neg hlt2] at hc
     have : ¬ lval 10000 A < lval 10000 B := by
      intro h
      rw [if_pos h] at hc; omega
     simp [hlt2,this]
   have hxy' : ¬ ((x : Int) = (y : Int)) := by omega
   simp [h0,h1,hx,hy,hx',hy',hlt,hltB,hxy',hne,hd]
theorem Tryz.aRless (A B : List Nat) (hA : lok 10000 A = true) (hB : lok 10000 B = true) (hl : A.length ≤ 1000000000) (tA : ltrim A = A) (tB : ltrim B = B) :
  ACallsTo Tryz.prog 220 [.slice 0 0 A.length none,.slice 1 0 B.length none] [.cells false 1 (iN .i64 A),.cells false 1 (iN .i64 B)] (.bool (decide (lval 10000 A < lval 10000 B))) [.cells false 1 (iN .i64 A),.cells false 1 (iN .i64 B)] := by
 have hG : fnOf Tryz.prog 220 = some Tryz.f220 := by kernel_rfl
 obtain ⟨b,hb⟩ : ∃ b,loopsF Tryz.f220 = [b] := ⟨_,rfl⟩
 have h : callFn (tyOf Tryz.prog) (fun _ => [5]) (fnOf Tryz.prog) noOracle (A.length + 1) 220 [.slice 0 0 A.length none,.slice 1 0 B.length none] [.cells false 1 (iN .i64 A),.cells false 1 (iN .i64 B)] = some ⟨.bool (decide (lval 10000 A < lval 10000 B)),none,[]⟩ := by
  have dA : dig 10000 (lval 10000 A) = A := by rw [dig_lval (by omega) hA,tA]
  have dB : dig 10000 (lval 10000 B) = B := by rw [dig_lval (by omega) hB,tB]
  by_cases hlen : A.length = B.length
  ·have hF := Tryz.rless_loop (O := noOracle) (K := A.length + 1) (lv := fun _ => [5]) A B hA hB hl hlen (by omega) hb rfl
   simp [loopsF,loopsC,Tryz.f220] at hb
   subst hb
   obtain ⟨F,hF⟩ := hF
   have e1 : IntKind.i64.wrap ((B.length : Int) - 1) = (B.length : Int) - 1 := wrap_i64 (by omega) (by omega)
   by_cases hAB : A = B
   ·subst hAB
    have hc : ¬ lval 10000 A < lval 10000 A := by omega
    rw [if_pos rfl] at hF
    simp [callFn,hG,Tryz.f220,hF,e1,hc]
   ·rw [if_neg hAB] at hF
    simp only [hlen] at hF
    simp [callFn,hG,Tryz.f220,hF,hlen,e1,hAB]
  ·have hlen' : ¬ ((A.length : Int) = B.length) := by omega
   by_cases hlt : A.length < B.length
   ·have hv : lval 10000 A < lval 10000 B := dig_length_lt (B := 10000) (by omega) (by rw [dA,dB]; exact hlt)
    have hc := hv
    simp [callFn,hG,Tryz.f220,hlen,hlen',hlt,hc]
   ·have hv : lval 10000 B < lval 10000 A := dig_length_lt (B := 10000) (by omega) (by rw [dA,dB]; omega)
    have hc : ¬ lval 10000 A < lval 10000 B := by omega
    simp [callFn,hG,Tryz.f220,hlen,hlen',hlt,hc]
 have := (callFn_sound Tryz.mixed (tyOf_ok _) (noOracle_ok _) (fnOf_ok _) h).1
 simpa [CallRes.mem] using this
def caM (A : List Int) : List Nat → Mem
 | [] => [.cells false 1 (iZ A)]
 | x :: l => [.cells false 1 (iZ A),.cells true 1 (iN .i64 (x :: l))]
def caO : List Nat → AV
 | [] => .nilslice
 | _ :: l => .slice 1 0 (l.length + 1) none
def caC : Nat := 1000000000001
theorem caC_lt : 1000000000000 < caC := by decide
set_option maxHeartbeats 1600000 in
theorem Tryz.carry_loop {O : Oracle} {K : Nat} (A : List Int) (hA : 0 ≤ zval 10000 A) (hb : ∀ d ∈ A,d.natAbs ≤ 1000000000000) (hl : A.length ≤ 10000000) (hK : A.length * caC + caC < K) {b : Code} (hbd : loopsF Tryz.f223 = [b]) :
  ∃ F : Env → Bool → Env × Mem × List Nat,∀ env0 d,(Eng.look env0 0 = .slice 0 0 A.length none ∧ Eng.look env0 3 = .nilslice ∧ Eng.look env0 4 = .int .i64 0 ∧ Eng.look env0 5 = .int .i64 0) →
   execC (tyOf Tryz.prog) (fun _ => [3,4,5]) O K 43 1 true (.loop b) ⟨env0,caM A [],d⟩ = some (.exit 0,⟨(F env0 d).1,(F env0 d).2.1,d⟩) ∧
   ((F env0 d).2.1 = caM A (F env0 d).2.2 ∧ Eng.look (F env0 d).1 3 = caO (F env0 d).2.2 ∧ ltrim (F env0 d).2.2 = dig 10000 (zval 10000 A).toNat ∧ A.length ≤ (F env0 d).2.2.length ∧ (F env0 d).2.2.length ≤ 2000000000000) := by
 refine loop_rule_m (β := List Nat) rfl (fun env0 => Eng.look env0 0 = .slice 0 0 A.length none ∧ Eng.look env0 3 = .nilslice ∧ Eng.look env0 4 = .int .i64 0 ∧ Eng.look env0 5 = .int .i64 0)
  (fun _ env' mem' out => mem' = caM A out ∧ Eng.look env' 3 = caO out ∧ ltrim out = dig 10000 (zval 10000 A).toNat ∧ A.length ≤ out.length ∧ out.length ≤ 2000000000000) ?_
 rintro env0 d ⟨h0,h3,h4,h5⟩
 have hn : normE [3,4,5] (writesC b) env0 ((3,caO []) :: (4,.int .i64 0) :: (5,.int .i64 ((0 : Nat) : Int)) :: env0) = normE [3,4,5] (writesC b) env0 env0 := by simp [normE,h3,h4,h5,caO]
 rw [← hn]
 refine iter_ind_m (α := Nat × Int × List Nat) (fun s => ⟨normE [3,4,5] (writesC b) env0 ((3,caO s.2.2) :: (4,.int .i64 s.2.1) :: (5,.int .i64 (s.1 : Int)) :: env0),caM A s.2.2,d⟩)
  (fun s => (A.length - s.1) * caC + s.2.1.natAbs) (fun s => CarryI A s.1 s.2.1 s.2.2) (.exit 0) d _ (by simp) ?_ K (0,0,[]) (CarryI.start A) (by show (A.length - 0) * caC + 0 < K; rw [Nat.sub_zero]; omega)
 rintro ⟨i,over,out⟩ hI
 simp only at hI ⊢
 clear hn
 have b1 := hI.b1
 have b2 := hI.b2
 have hlen := hI.len
 simp [loopsF,loopsC,Tryz.f223] at hbd
 by_cases hi : i < A.length
 ·left
  obtain ⟨x,hx⟩ : ∃ x,A[i]? = some x := ⟨A[i],by simp [hi]⟩
  have hx' : A[i] = x := by
   have := List.getElem?_eq_getElem hi
   rw [hx] at this
   exact (Option.some.inj this).symm
  have hxb := hb x (List.mem_of_getElem? hx)
  have hN := hI.next hx hxb
  have nb1 := hN.b1
  refine ⟨(i + 1,(over + x) / 10000,out ++ [((over + x) % 10000).toNat]),?_⟩
  refine exists_and_fin2 (show CarryI A (i + 1) _ _ ∧ _ from ⟨hN,by
   have := caC_lt
   show (A.length - (i + 1)) * caC + ((over + x) / 10000).natAbs < (A.length - i) * caC + over.natAbs
   have e : A.length - i = A.length - (i + 1) + 1 := by omega
   rw [e,Nat.add_mul,Nat.one_mul]
   generalize (A.length - (i + 1)) * caC = p
   omega⟩) ?_
  clear hN
  obtain ⟨s,hs⟩ : ∃ s,s = over + x := ⟨_,rfl⟩
  have w1 : IntKind.i64.wrap (over + x) = s := by rw [← hs]; exact wrap_i64 (by omega) (by omega)
  rw [← hs] at nb1 ⊢
  have fx := tmod_neg_fix s
  have fd := tdiv_fix s
  obtain ⟨n,hn⟩ : ∃ n : Nat,(n : Int) = s % 10000 := ⟨(s % 10000).toNat,Int.toNat_of_nonneg (by omega)⟩
  rw [← hn] at fx fd ⊢
  rw [Int.toNat_natCast]
  obtain ⟨q,hq⟩ : ∃ q,q = s / 10000 := ⟨_,rfl⟩
  rw [← hq] at nb1 fd ⊢
  obtain ⟨m,hm⟩ : ∃ m,m = s.tmod 10000 := ⟨_,rfl⟩
  rw [← hm] at fx
  have hmb : m.natAbs < 10000 := by
   rw [hm,Int.natAbs_tmod]; exact Nat.mod_lt _ (by decide)
  have w2 : IntKind.i64.wrap (m + 10000) = m + 10000 := wrap_i64 (by omega) (by omega)
  have w3 : IntKind.i64.wrap (s - (n : Int)) = s - (n : Int) := wrap_i64 (by omega) (by omega)
  have w6 : IntKind.i64.wrap (n : Int) = (n : Int) := wrap_i64 (by omega) (by omega)
  have w4 : IntKind.i64.wrap q = q := wrap_i64 (by omega) (by omega)
  have w5 : IntKind.i64.wrap ((i : Int) + 1) = ((i + 1 : Nat) : Int) := by rw [wrap_i64 (by omega) (by omega)]; omega
  have hiI : (i : Int) < (A.length : Int) := by omega
  subst hbd
  cases out with
  | nil =>
   simp only [List.length_nil] at hlen
   by_cases hneg : m < 0
   ·rw [if_pos hneg] at fx
    simp [caM,caO,h0,hi,hiI,hx,hx',w1,← hm,hneg,w2,fx,w3,fd,w4,w5,w6,iN_cons,Nat.testBit]
   ·rw [if_neg hneg] at fx
    have hneg2 : ¬ (n : Int) < 0 := by omega
    simp [caM,caO,h0,hi,hiI,hx,hx',w1,← hm,hneg,hneg2,fx,w3,fd,w4,w5,w6,iN_cons,Nat.testBit]
  | cons y l =>
   simp only [List.length_cons] at hlen
   have ht : (iN .i64 l).take l.length = iN .i64 l := List.take_of_length_le (by simp)
   have hm1 : (l.length + 1 + 1) * 8 ≤ 140737488355328 := by omega
   have hm2 : l.length + 1 + 1 ≤ 140737488355328 := by omega
   by_cases hneg : m < 0
   ·rw [if_pos hneg] at fx
    simp [caM,caO,h0,hi,hiI,hx,hx',w1,← hm,hneg,w2,fx,w3,fd,w4,w5,w6,ht,hm1,hm2,iN_cons,iN_append,Nat.testBit]
   ·rw [if_neg hneg] at fx
    have hneg2 : ¬ (n : Int) < 0 := by omega
    simp [caM,caO,h0,hi,hiI,hx,hx',w1,← hm,hneg,hneg2,fx,w3,fd,w4,w5,w6,ht,hm1,hm2,iN_cons,iN_append,Nat.testBit]
 ·have hiI : ¬ (i : Int) < (A.length : Int) := by omega
  by_cases ho : over = 0
  ·right
   subst ho
   have hdone := hI.done (by omega)
   have hl1 : A.length ≤ out.length := by omega
   have hl2 : out.length ≤ 2000000000000 := by omega
   clear hI b1 b2
   subst hbd
   cases out with
   | nil =>
    simp only [List.length_nil] at hlen
    subst hlen
    have hA0 : A.length = 0 := by omega
    simp [caM,caO,h0,hA0]
    exact ⟨_,_,⟨rfl,rfl⟩,[],rfl,rfl,hdone,hl2⟩
   | cons y l =>
    simp only [List.length_cons] at hlen
    simp [caM,caO,h0,hiI]
    exact ⟨_,_,⟨rfl,rfl⟩,y :: l,rfl,rfl,hdone,hl1,hl2⟩
  ·left
   have hN := hI.more (by omega) hA ho
   have h00 := hI.over (by omega) hA
   have nb1 := hN.b1
   refine ⟨(i + 1,over / 10000,out ++ [(over % 10000).toNat]),?_⟩
   refine exists_and_fin2 (show CarryI A (i + 1) _ _ ∧ _ from ⟨hN,by
    show (A.length - (i + 1)) * caC + (over / 10000).natAbs < (A.length - i) * caC + over.natAbs
    have e : A.length - i = A.length - (i + 1) := by omega
    rw [e]
    generalize (A.length - (i + 1)) * caC = p
    omega⟩) ?_
   clear hN
   have fx := tmod_neg_fix over
   have fd := tdiv_fix over
   obtain ⟨n,hn⟩ : ∃ n : Nat,(n : Int) = over % 10000 := ⟨(over % 10000).toNat,Int.toNat_of_nonneg (by omega)⟩
   rw [← hn] at fx fd ⊢
   rw [Int.toNat_natCast]
   obtain ⟨q,hq⟩ : ∃ q,q = over / 10000 := ⟨_,rfl⟩
   rw [← hq] at nb1 fd ⊢
   obtain ⟨m,hm⟩ : ∃ m,m = over.tmod 10000 := ⟨_,rfl⟩
   rw [← hm] at fx
   have hmb : 0 ≤ m := by rw [hm]; exact Int.tmod_nonneg _ h00
   have hneg : ¬ m < 0 := by omega
   rw [if_neg hneg] at fx
   have hneg2 : ¬ (n : Int) < 0 := by omega
   have w3 : IntKind.i64.wrap (over - (n : Int)) = over - (n : Int) := wrap_i64 (by omega) (by omega)
   have w6 : IntKind.i64.wrap (n : Int) = (n : Int) := wrap_i64 (by omega) (by omega)
   have w4 : IntKind.i64.wrap q = q := wrap_i64 (by omega) (by omega)
   have w5 : IntKind.i64.wrap ((i : Int) + 1) = ((i + 1 : Nat) : Int) := by rw [wrap_i64 (by omega) (by omega)]; omega
   subst hbd
   cases out with
   | nil =>
    simp only [List.length_nil] at hlen
    simp [caM,caO,h0,hi,hiI,ho,← hm,hneg,hneg2,fx,w3,fd,w4,w5,w6,iN_cons,Nat.testBit]
   | cons y l =>
    simp only [List.length_cons] at hlen
    have ht : (iN .i64 l).take l.length = iN .i64 l := List.take_of_length_le (by simp)
    have hm1 : (l.length + 1 + 1) * 8 ≤ 140737488355328 := by omega
    have hm2 : l.length + 1 + 1 ≤ 140737488355328 := by omega
    simp [caM,caO,h0,hi,hiI,ho,← hm,hneg,hneg2,fx,w3,fd,w4,w5,w6,ht,hm1,hm2,iN_cons,iN_append,Nat.testBit]
theorem Tryz.aRcutM {M : Mem} {x : AV} {A : List Nat} (hl : A.length ≤ 4000000000000) (hx : RowAt .i64 M x A) : ∃ b,x = .slice b 0 A.length none ∧ ACallsTo Tryz.prog 222 [x] M (.slice b 0 (ltrim A).length none) M := by
 obtain ⟨b,e,h⟩ := ACallsTo.rows1 (new := []) (rest := []) rfl rfl (Tryz.aRcut A hl) hx
 refine ⟨b,e,?_⟩
 simpa [AV.ren,back] using h
theorem Tryz.aRcutNil (M : Mem) : ACallsTo Tryz.prog 222 [.nilslice] M .nilslice M := by
 have hG : fnOf Tryz.prog 222 = some Tryz.f222 := by kernel_rfl
 refine Tryz.run (noOracle_ok _) (lv := fun _ => [0]) (K := 1) rfl rfl ?_ M
 simp [callFn,hG,Tryz.f222,execC_loop,iter]
theorem Tryz.aRlessM {M : Mem} {x y : AV} {A B : List Nat} (hA : lok 10000 A = true) (hB : lok 10000 B = true) (hl : A.length ≤ 1000000000) (tA : ltrim A = A) (tB : ltrim B = B) (hx : RowAt .i64 M x A) (hy : RowAt .i64 M y B) :
  ACallsTo Tryz.prog 220 [x,y] M (.bool (decide (lval 10000 A < lval 10000 B))) M := by
 obtain ⟨b,c,e1,e2,h⟩ := ACallsTo.rows2 (new := []) rfl (Tryz.aRless A B hA hB hl tA tB) hx hy
 simpa [AV.ren] using h
noncomputable def Tryz.rfO1 : Oracle := fun c args M => match c,args with
 | .fn 222,[.nilslice] => some ⟨.nilslice,none,[]⟩
 | .fn 222,[x] => match x,sliceN .i64 M x with
  | .slice b _ _ _,some A => if A.length ≤ 4000000000000 then some ⟨.slice b 0 (ltrim A).length none,none,[]⟩ else none
  | _,_ => none
 | .fn 220,[x,y] => match sliceN .i64 M x,sliceN .i64 M y with
  | some A,some B => if lok 10000 A = true ∧ lok 10000 B = true ∧ A.length ≤ 1000000000 ∧ ltrim A = A ∧ ltrim B = B then some ⟨.bool (decide (lval 10000 A < lval 10000 B)),none,[]⟩ else none
  | _,_ => none
 | _,_ => none
theorem Tryz.rfO1_ok : OracleOk Tryz.prog Tryz.rfO1 := by
 refine oracleOk_of fun c args M r h => ?_
 unfold Tryz.rfO1 at h
 split at h
 ·cases h
  refine soundAt_call ?_
  rw [List.append_nil]
  exact Tryz.aRcutNil M
 ·split at h
  ·rename_i hA
   split at h
   ·rename_i hl
    cases h
    obtain ⟨b,e,h⟩ := Tryz.aRcutM hl (sliceN_some hA)
    cases e
    refine soundAt_call ?_
    rw [List.append_nil]
    exact h
   ·cases h
  ·cases h
 ·split at h
  ·rename_i hA hB
   split at h
   ·rename_i hc
    obtain ⟨c1,c2,c3,c4,c5⟩ := hc
    cases h
    refine soundAt_call ?_
    rw [List.append_nil]
    exact Tryz.aRlessM c1 c2 c3 c4 c5 (sliceN_some hA) (sliceN_some hB)
   ·cases h
  ·cases h
 ·cases h
theorem Tryz.carry_run (A : List Int) (hne : A ≠ []) (hA : 0 ≤ zval 10000 A) (hb : ∀ d ∈ A,d.natAbs ≤ 1000000000000) (hl : A.length ≤ 10000000) :
  ∃ out,callFn (tyOf Tryz.prog) (fun _ => [3,4,5]) (fnOf Tryz.prog) Tryz.rfO1 (A.length * caC + caC + 1) 223 [.slice 0 0 A.length none] [.cells false 1 (iZ A)] =
   some ⟨.slice 1 0 (dig 10000 (zval 10000 A).toNat).length none,none,[.cells true 1 (iN .i64 out)]⟩ ∧ ltrim out = dig 10000 (zval 10000 A).toNat := by
 have hG : fnOf Tryz.prog 223 = some Tryz.f223 := by kernel_rfl
 obtain ⟨b,hbd⟩ : ∃ b,loopsF Tryz.f223 = [b] := ⟨_,rfl⟩
 obtain ⟨F,hF⟩ := Tryz.carry_loop (O := Tryz.rfO1) (K := A.length * caC + caC + 1) A hA hb hl (by omega) hbd
 have hF2 : ∀ env0 d,(Eng.look env0 0 = .slice 0 0 A.length none ∧ Eng.look env0 3 = .nilslice ∧ Eng.look env0 4 = .int .i64 0 ∧ Eng.look env0 5 = .int .i64 0) →
   execC (tyOf Tryz.prog) (fun _ => [3,4,5]) Tryz.rfO1 (A.length * caC + caC + 1) 43 1 true (.loop b) ⟨env0,[.cells false 1 (iZ A)],d⟩ = some (.exit 0,⟨(F env0 d).1,[.cells false 1 (iZ A),.cells true 1 (iN .i64 (F env0 d).2.2)],d⟩) ∧
   Eng.look (F env0 d).1 3 = .slice 1 0 (F env0 d).2.2.length none ∧ ltrim (F env0 d).2.2 = dig 10000 (zval 10000 A).toNat ∧ (F env0 d).2.2.length ≤ 4000000000000 := by
  intro env0 d hp
  obtain ⟨h1,h2,h3,h4,h5,h6⟩ := hF env0 d hp
  have hpos := List.length_pos_iff.2 hne
  cases ho : (F env0 d).2.2 with
  | nil => rw [ho] at h5; exact absurd (List.eq_nil_of_length_eq_zero (Nat.le_zero.1 h5)) hne
  | cons y l =>
   rw [h2,ho] at h1
   rw [ho] at h3 h4 h6
   exact ⟨h1,h3,h4,by omega⟩
 clear hF
 have hs : ∀ (a0 : Slot) (o : List Nat) l,sliceN .i64 (a0 :: .cells true 1 (iN .i64 o) :: l) (.slice 1 0 o.length none) = some o := fun a0 o l => sliceN_at rfl (by simp) (List.take_of_length_le (by simp))
 obtain ⟨K,hK⟩ : ∃ K,K = A.length * caC + caC + 1 := ⟨_,rfl⟩
 rw [← hK] at hF2 ⊢
 simp [loopsF,loopsC,Tryz.f223] at hbd
 subst hbd
 simp [callFn,hG,Tryz.f223,Tryz.rfO1,hF2,hs]
 exact ⟨_,rfl,(hF2 _ _ ⟨rfl,rfl,rfl,rfl⟩).2.2.1⟩
theorem Tryz.aCarryM {M : Mem} {x : AV} {A : List Int} (hne : A ≠ []) (hA : 0 ≤ zval 10000 A) (hb : ∀ d ∈ A,d.natAbs ≤ 1000000000000) (hl : A.length ≤ 10000000) (hx : RowZ M x A) :
  ACallsTo Tryz.prog 223 [x] M (.slice M.length 0 (dig 10000 (zval 10000 A).toNat).length none) (M ++ [.cells true 1 (iN .i64 (dig 10000 (zval 10000 A).toNat))]) := by
 obtain ⟨out,h1,h2⟩ := Tryz.carry_run A hne hA hb hl
 have h3 := (callFn_sound Tryz.mixed (tyOf_ok _) Tryz.rfO1_ok (fnOf_ok _) h1).1
 simp only [CallRes.mem,Option.getD_none,List.cons_append,List.nil_append] at h3
 have h4 := ACallsTo.truncs (m2 := [.cells false 1 (iZ A),.cells true 1 (iN .i64 (dig 10000 (zval 10000 A).toNat))]) h3 rfl (fun b s hb => by
  match b with
  | 0 => simp at hb; subst hb; exact ⟨_,rfl,.inl rfl⟩
  | 1 => simp at hb; subst hb; exact ⟨_,rfl,.row (by rw [← h2]; exact ltrim_isPrefix _)⟩
  | b + 2 => simp at hb)
 obtain ⟨b,rfl,h5⟩ := ACallsTo.rows1Z (new := [.cells true 1 (iN .i64 (dig 10000 (zval 10000 A).toNat))]) (rest := []) rfl rfl h4 hx
 simpa [AV.ren,back] using h5
def zsm (A : List Int) : Bool := A.all fun d => decide (d.natAbs ≤ 1000000000000)
noncomputable def Tryz.rfO2 : Oracle := fun c args M => match c,args with
 | .fn 223,[x] => match sliceZ M x with
  | some A => if A ≠ [] ∧ 0 ≤ zval 10000 A ∧ zsm A = true ∧ A.length ≤ 10000000 then some ⟨.slice M.length 0 (dig 10000 (zval 10000 A).toNat).length none,none,[.cells true 1 (iN .i64 (dig 10000 (zval 10000 A).toNat))]⟩ else none
  | none => none
 | c,args => Tryz.rfO1 c args M
theorem Tryz.rfO2_ok : OracleOk Tryz.prog Tryz.rfO2 := by
 refine oracleOk_of fun c args M r h => ?_
 unfold Tryz.rfO2 at h
 split at h
 ·split at h
  ·rename_i hA
   split at h
   ·rename_i hc
    obtain ⟨c1,c2,c3,c4⟩ := hc
    cases h
    exact soundAt_call (Tryz.aCarryM c1 c2 (fun d hd => by simpa using List.all_eq_true.1 c3 d hd) c4 (sliceZ_some hA))
   ·cases h
  ·cases h
 ·exact soundAt_of Tryz.rfO1_ok h
def jM (s0 : Slot) (A B : List Nat) (k : Int) (i : Nat) : Mem :=
 if A.length < i then [s0,.cells false 1 (iN .i64 B),.absent,.absent,.cells true 1 (iZ (jn k A (B.take i)))]
 else [s0,.cells false 1 (iN .i64 B),.absent,.cells true 1 (iZ (jn k A (B.take i)))]
def jO (A : List Nat) (n i : Nat) : AV := if A.length < i then .slice 4 0 n none else .slice 3 0 n none
def Tryz.joinLv (c : Code) : List Nat := if (writesC c).contains 10 then [9,10] else [9]
set_option maxHeartbeats 3200000 in
theorem Tryz.joined_loop {O : Oracle} {K : Nat} (X : List Nat) (A B : List Nat) (k : Int) (hA : lok 10000 A = true) (hB : lok 10000 B = true) (hk : k.natAbs ≤ 10000) (hl : A.length ≤ 1000000) (hl2 : B.length ≤ 1000000) (hK : B.length + 1 < K + 2) {b b2 : Code} (hbd : loopsF Tryz.f177 = [b,b2]) :
  ∃ F : Env → Bool → Env,∀ env0 d,(Eng.look env0 1 = .slice 1 0 B.length none ∧ Eng.look env0 2 = .int .i64 k ∧ Eng.look env0 3 = .int .i64 0 ∧ Eng.look env0 9 = .slice 3 0 A.length none ∧ Eng.look env0 10 = .int .i64 0) →
   execC (tyOf Tryz.prog) Tryz.joinLv O (K + 2) 45 2 true (.loop b) ⟨env0,[.cells false 1 (iN .i64 X),.cells false 1 (iN .i64 B),.absent,.cells true 1 (iN .i64 A)],d⟩ = some (.exit 0,⟨F env0 d,jM (.cells false 1 (iN .i64 X)) A B k B.length,d⟩) ∧
   Eng.look (F env0 d) 9 = jO A (jn k A B).length B.length := by
 have hlv : Tryz.joinLv b = [9,10] := by
  simp [loopsF,loopsC,Tryz.f177] at hbd
  obtain ⟨rfl,rfl⟩ := hbd
  decide
 refine loop_rule hlv (fun env0 => Eng.look env0 1 = .slice 1 0 B.length none ∧ Eng.look env0 2 = .int .i64 k ∧ Eng.look env0 3 = .int .i64 0 ∧ Eng.look env0 9 = .slice 3 0 A.length none ∧ Eng.look env0 10 = .int .i64 0)
  (fun _ env' => Eng.look env' 9 = jO A (jn k A B).length B.length) ?_
 rintro env0 d ⟨h1,h2,h3,h9,h10⟩
 have hn : normE [9,10] (writesC b) env0 ((9,jO A (jn k A (B.take 0)).length 0) :: (10,.int .i64 ((0 : Nat) : Int)) :: env0) = normE [9,10] (writesC b) env0 env0 := by
  simp [normE,h9,h10,jO,jn_nil,natZ]
 have hm0 : jM (.cells false 1 (iN .i64 X)) A B k 0 = [.cells false 1 (iN .i64 X),.cells false 1 (iN .i64 B),.absent,.cells true 1 (iN .i64 A)] := by
  unfold jM; rw [if_neg (by omega),List.take_zero,jn_nil]; exact congrArg (fun r => [_,_,_,Slot.cells true 1 r]) (iN_iZ A).symm
 rw [← hn,← hm0]
 refine iter_ind (α := Nat) (fun i => ⟨normE [9,10] (writesC b) env0 ((9,jO A (jn k A (B.take i)).length i) :: (10,.int .i64 (i : Int)) :: env0),jM (.cells false 1 (iN .i64 X)) A B k i,d⟩)
  (fun i => B.length - i) (fun i => i ≤ B.length) (.exit 0) _ d _ (by simp) ?_ (K + 2) 0 (Nat.zero_le _) (by simp only [Nat.sub_zero]; omega)
 intro i hi
 clear hn hm0
 simp [loopsF,loopsC,Tryz.f177] at hbd
 by_cases hib : i = B.length
 ·right
  subst hib
  rw [List.take_length]
  obtain ⟨rfl,rfl⟩ := hbd
  by_cases hs : A.length < B.length
  ·simp [jM,jO,hs,h1,List.take_length]
  ·simp [jM,jO,hs,h1,List.take_length]
 ·left
  have hlt : i < B.length := by omega
  obtain ⟨x,hx,hx'⟩ := get_both hlt
  obtain ⟨y,hy1,hy2⟩ := jn_step k A B i x hx
  have hjl := jn_length k A (B.take i)
  have hjl2 := jn_length k A (B.take (i + 1))
  rw [List.length_take,Nat.min_eq_left (by omega)] at hjl hjl2
  have hxb := lok_get hB hx
  have hjb := jn_bound hk hA (lok_take hB i)
  obtain ⟨J,hJ⟩ : ∃ J,J = jn k A (B.take i) := ⟨_,rfl⟩
  obtain ⟨J2,hJ2⟩ : ∃ J,J = jn k A (B.take (i + 1)) := ⟨_,rfl⟩
  rw [← hJ] at hjl hy1 hy2 hjb
  rw [← hJ2] at hjl2 hy2
  have hyb : y.natAbs ≤ 1000000000 := by
   split at hy1
   ·rcases List.mem_append.1 (List.mem_of_getElem? hy1) with h | h
    ·exact hjb y h
    ·simp at h; subst h; decide
   ·exact hjb y (List.mem_of_getElem? hy1)
  have hkx : (k * (x : Int)).natAbs ≤ 10000 * 10000 := by rw [Int.natAbs_mul,Int.natAbs_natCast]; exact Nat.mul_le_mul hk (by omega)
  obtain ⟨p,hp⟩ : ∃ p,p = k * (x : Int) := ⟨_,rfl⟩
  have w1 : IntKind.i64.wrap (k * (x : Int)) = p := by rw [← hp]; exact wrap_i64 (by omega) (by omega)
  rw [← hp] at hy2 hkx
  have w2 : IntKind.i64.wrap (y + p) = y + p := wrap_i64 (by omega) (by omega)
  have w3 : IntKind.i64.wrap (i : Int) = (i : Int) := wrap_i64 (by omega) (by omega)
  have w4 : IntKind.i64.wrap ((i : Int) + 1) = ((i + 1 : Nat) : Int) := by rw [wrap_i64 (by omega) (by omega)]; omega
  have hiI : (i : Int) < (B.length : Int) := by omega
  obtain ⟨J1,hJ1⟩ : ∃ J1,J1 = if J.length ≤ i then J ++ [0] else J := ⟨_,rfl⟩
  rw [← hJ1] at hy1 hy2
  have hi1 : i < J1.length := (List.getElem?_eq_some_iff.1 hy1).1
  have hy1' : J1[i] = y := (List.getElem?_eq_some_iff.1 hy1).2
  have hst : (iZ J1).take i ++ .int .i64 (y + p) :: (iZ J1).drop (i + 1) = iZ J2 := by rw [iZ_store _ _ _ hi1,hy2]
  have hl12 : J1.length = J2.length := by rw [← hy2,List.length_set]
  have hi1I : (i : Int) < (J1.length : Int) := by omega
  obtain ⟨rfl,rfl⟩ := hbd
  refine ⟨i + 1,?_⟩
  refine exists_and_fin (show i + 1 ≤ B.length ∧ _ from ⟨hlt,by omega⟩) ?_
  have hii : ¬ ((i : Int) + 1 ≤ (i : Int)) := by omega
  have hii2 : (i : Int) < (i : Int) + 1 := by omega
  have hc1 : (i + 1) * 8 ≤ 140737488355328 := by omega
  have hc2 : i ≤ 140737488355327 := by omega
  rcases Nat.lt_trichotomy A.length i with hs | hs | hs
  ·have hlen : J.length = i := by omega
   rw [if_pos (by omega)] at hJ1
   have hap : iZ J ++ [AV.int .i64 0] = iZ J1 := by rw [hJ1,iZ_append]; rfl
   have htk : (iZ J).take i = iZ J := List.take_of_length_le (by simp [hlen])
   have hl1 : J1.length = i + 1 := by rw [hJ1]; simp [hlen]
   have hs2 : A.length < i + 1 := by omega
   have hl2' : J2.length = i + 1 := by omega
   simp [jM,jO,hs,hs2,← hJ,← hJ2,hlen,hl1,hl2',h1,h2,h3,hiI,hlt,w3,execC_loop,iter,Tryz.joinLv,hap,htk,hx,hx',hy1,hy1',w1,w2,hst,w4,hc1,hc2,hii,hii2,Nat.testBit]
  ·have hlen : J.length = i := by omega
   rw [if_pos (by omega)] at hJ1
   have hap : iZ J ++ [AV.int .i64 0] = iZ J1 := by rw [hJ1,iZ_append]; rfl
   have htk : (iZ J).take i = iZ J := List.take_of_length_le (by simp [hlen])
   have hl1 : J1.length = i + 1 := by rw [hJ1]; simp [hlen]
   have hs1 : ¬ A.length < i := by omega
   have hs2 : A.length < i + 1 := by omega
   have hl2' : J2.length = i + 1 := by omega
   simp [jM,jO,hs1,hs2,← hJ,← hJ2,hlen,hl1,hl2',h1,h2,h3,hiI,hlt,w3,execC_loop,iter,Tryz.joinLv,hap,htk,hx,hx',hy1,hy1',w1,w2,hst,w4,hc1,hc2,hii,hii2,Nat.testBit]
  ·have hlen : ¬ J.length ≤ i := by omega
   rw [if_neg hlen] at hJ1
   subst hJ1
   have hs1 : ¬ A.length < i := by omega
   have hs2 : ¬ A.length < i + 1 := by omega
   have hlenI : ¬ (J1.length : Int) ≤ (i : Int) := by omega
   have hi1' : i + 1 ≤ J1.length := by omega
   simp [jM,jO,hs1,hs2,← hJ,← hJ2,hlen,hlenI,← hl12,h1,h2,h3,hiI,hi1I,hi1,hi1',hlt,w3,execC_loop,iter,Tryz.joinLv,hx,hx',hy1,hy1',w1,w2,hst,w4,Nat.testBit]
theorem Tryz.joined_run (X A B : List Nat) (k : Int) (p : AV) (hp : (p = .slice 0 0 A.length none ∧ X = A) ∨ (p = .nilslice ∧ A = [])) (hne : A ≠ [] ∨ B ≠ []) (hA : lok 10000 A = true) (hB : lok 10000 B = true) (hk : k.natAbs ≤ 10000) (hl : A.length ≤ 1000000) (hl2 : B.length ≤ 1000000)
  (hv : 0 ≤ (lval 10000 A : Int) + k * (lval 10000 B : Int)) :
  callFn (tyOf Tryz.prog) Tryz.joinLv (fnOf Tryz.prog) Tryz.rfO2 (B.length + 2) 177 [p,.slice 1 0 B.length none,.int .i64 k,.int .i64 0] [.cells false 1 (iN .i64 X),.cells false 1 (iN .i64 B)] =
   some ⟨.slice 2 0 (dig 10000 ((lval 10000 A : Int) + k * (lval 10000 B : Int)).toNat).length none,none,[.cells true 1 (iN .i64 (dig 10000 ((lval 10000 A : Int) + k * (lval 10000 B : Int)).toNat))]⟩ := by
 have hG : fnOf Tryz.prog 177 = some Tryz.f177 := by kernel_rfl
 obtain ⟨b,b2,hbd⟩ : ∃ b b2,loopsF Tryz.f177 = [b,b2] := ⟨_,_,rfl⟩
 obtain ⟨F,hF⟩ := Tryz.joined_loop (O := Tryz.rfO2) (K := B.length) X A B k hA hB hk hl hl2 (by omega) hbd
 have hjl := jn_length k A B
 have hjv := zval_jn k A B
 have hjb := jn_bound hk hA hB
 have hb' : zsm (jn k A B) = true := List.all_eq_true.2 fun d hd => by have := hjb d hd; simp; omega
 have hjn : jn k A B ≠ [] := by
  intro e
  rw [e] at hjl
  rcases hne with h | h
  ·have := List.length_pos_iff.2 h; simp at hjl; omega
  ·have := List.length_pos_iff.2 h; simp at hjl; omega
 rw [← hjv] at hv ⊢
 unfold jM jO at hF
 rw [List.take_length] at hF
 obtain ⟨J,hJ⟩ : ∃ J,J = jn k A B := ⟨_,rfl⟩
 rw [← hJ] at hF hjl hjb hjn hv hb' ⊢
 have hl3 : J.length ≤ 10000000 := by omega
 have hsa : (iN .i64 A).take A.length = iN .i64 A := List.take_of_length_le (by simp)
 have hz4 : ∀ (a0 a1 a2 a3 : Slot) l,sliceZ (a0 :: a1 :: a2 :: a3 :: .cells true 1 (iZ J) :: l) (.slice 4 0 J.length none) = some J := fun a0 a1 a2 a3 l => sliceZ_at rfl (by simp) (List.take_of_length_le (by simp))
 have hz3 : ∀ (a0 a1 a2 : Slot) l,sliceZ (a0 :: a1 :: a2 :: .cells true 1 (iZ J) :: l) (.slice 3 0 J.length none) = some J := fun a0 a1 a2 l => sliceZ_at rfl (by simp) (List.take_of_length_le (by simp))
 have hm1 : A.length * 8 ≤ 140737488355328 := by omega
 have hm2 : A.length ≤ 140737488355328 := by omega
 obtain ⟨D,hD⟩ : ∃ D,D = dig 10000 (zval 10000 J).toNat := ⟨_,rfl⟩
 rw [← hD]
 clear hjv hJ
 simp [loopsF,loopsC,Tryz.f177] at hbd
 obtain ⟨rfl,rfl⟩ := hbd
 by_cases hs : A.length < B.length
 ·simp only [if_pos hs] at hF
  rcases hp with ⟨rfl,rfl⟩ | ⟨rfl,rfl⟩
  ·simp [callFn,hG,Tryz.f177,hsa,hm1,hm2,hF,Tryz.rfO2,hz4,hjn,hv,hb',hl3,← hD]
  ·simp only [List.length_nil,iN_nil] at hF
   simp [callFn,hG,Tryz.f177,hF,Tryz.rfO2,hz4,hjn,hv,hb',hl3,← hD]
 ·simp only [if_neg hs] at hF
  rcases hp with ⟨rfl,rfl⟩ | ⟨rfl,rfl⟩
  ·simp [callFn,hG,Tryz.f177,hsa,hm1,hm2,hF,Tryz.rfO2,hz3,hjn,hv,hb',hl3,← hD]
  ·exfalso
   simp only [List.length_nil] at hs
   rcases hne with h | h
   ·exact h rfl
   ·have := List.length_pos_iff.2 h; omega
theorem RowAt.len {k : IntKind} {M : Mem} {x : AV} {A : List Nat} (h : RowAt k M x A) : True := trivial
theorem Tryz.aJoinedM {M : Mem} {x y : AV} {A B : List Nat} (k : Int) (hx : RowAt .i64 M x A ∨ (x = .nilslice ∧ A = [])) (hy : RowAt .i64 M y B) (hne : A ≠ [] ∨ B ≠ []) (hA : lok 10000 A = true) (hB : lok 10000 B = true) (hk : k.natAbs ≤ 10000) (hl : A.length ≤ 1000000) (hl2 : B.length ≤ 1000000)
  (hv : 0 ≤ (lval 10000 A : Int) + k * (lval 10000 B : Int)) :
  ACallsTo Tryz.prog 177 [x,y,.int .i64 k,.int .i64 0] M (.slice M.length 0 (dig 10000 ((lval 10000 A : Int) + k * (lval 10000 B : Int)).toNat).length none) (M ++ [.cells true 1 (iN .i64 (dig 10000 ((lval 10000 A : Int) + k * (lval 10000 B : Int)).toNat))]) := by
 obtain ⟨D,hD⟩ : ∃ D,D = dig 10000 ((lval 10000 A : Int) + k * (lval 10000 B : Int)).toNat := ⟨_,rfl⟩
 obtain ⟨c,o',cs',rfl,hc,ht'⟩ := hy
 have hlt' := (List.getElem?_eq_some_iff.1 hc).1
 rw [← hD]
 rcases hx with ⟨b,o,cs,rfl,hb,ht⟩ | ⟨rfl,rfl⟩
 ·have hlt := (List.getElem?_eq_some_iff.1 hb).1
  have h := (callFn_sound Tryz.mixed (tyOf_ok _) Tryz.rfO2_ok (fnOf_ok _) (Tryz.joined_run A A B k _ (.inl ⟨rfl,rfl⟩) hne hA hB hk hl hl2 hv)).1
  rw [← hD] at h
  have := ACallsTo.frame (M := M) [b,c] (m := [.cells false 1 (iN .i64 A),.cells false 1 (iN .i64 B)]) (new := [.cells true 1 (iN .i64 D)]) rfl (by simp [hlt,hlt']) (by simp) (fun i s hs => by
   match i with
   | 0 => simp at hs; subst hs; exact .row hb ht
   | 1 => simp at hs; subst hs; exact .row hc ht'
   | i + 2 => simp at hs) rfl h
  simpa [AV.rens,AV.ren,back] using this
 ·have h := (callFn_sound Tryz.mixed (tyOf_ok _) Tryz.rfO2_ok (fnOf_ok _) (Tryz.joined_run B [] B k _ (.inr ⟨rfl,rfl⟩) hne hA hB hk hl hl2 hv)).1
  rw [← hD] at h
  have := ACallsTo.frame (M := M) [c,c] (m := [.cells false 1 (iN .i64 B),.cells false 1 (iN .i64 B)]) (new := [.cells true 1 (iN .i64 D)]) rfl (by simp [hlt']) (by simp) (fun i s hs => by
   match i with
   | 0 => simp at hs; subst hs; exact .row hc ht'
   | 1 => simp at hs; subst hs; exact .row hc ht'
   | i + 2 => simp at hs) rfl h
  simpa [AV.rens,AV.ren,back] using this
noncomputable def Tryz.rfO3 : Oracle := fun c args M => match c,args with
 | .fn 177,[.nilslice,y,.int .i64 k,.int .i64 0] => match sliceN .i64 M y with
  | some B => if B ≠ [] ∧ lok 10000 B = true ∧ k.natAbs ≤ 10000 ∧ B.length ≤ 1000000 ∧ 0 ≤ k * (lval 10000 B : Int) then some ⟨.slice M.length 0 (dig 10000 (k * (lval 10000 B : Int)).toNat).length none,none,[.cells true 1 (iN .i64 (dig 10000 (k * (lval 10000 B : Int)).toNat))]⟩ else none
  | none => none
 | .fn 177,[x,y,.int .i64 k,.int .i64 0] => match sliceN .i64 M x,sliceN .i64 M y with
  | some A,some B => if (A ≠ [] ∨ B ≠ []) ∧ lok 10000 A = true ∧ lok 10000 B = true ∧ k.natAbs ≤ 10000 ∧ A.length ≤ 1000000 ∧ B.length ≤ 1000000 ∧ 0 ≤ (lval 10000 A : Int) + k * (lval 10000 B : Int) then some ⟨.slice M.length 0 (dig 10000 ((lval 10000 A : Int) + k * (lval 10000 B : Int)).toNat).length none,none,[.cells true 1 (iN .i64 (dig 10000 ((lval 10000 A : Int) + k * (lval 10000 B : Int)).toNat))]⟩ else none
  | _,_ => none
 | c,args => Tryz.rfO2 c args M
theorem Tryz.rfO3_ok : OracleOk Tryz.prog Tryz.rfO3 := by
 refine oracleOk_of fun c args M r h => ?_
 unfold Tryz.rfO3 at h
 split at h
 ·split at h
  ·rename_i hB
   split at h
   ·rename_i hc
    obtain ⟨c1,c2,c3,c4,c5⟩ := hc
    cases h
    have := Tryz.aJoinedM _ (A := []) (.inr ⟨rfl,rfl⟩) (sliceN_some hB) (.inr c1) rfl c2 c3 (Nat.zero_le _) c4 (by simpa [lval] using c5)
    simp only [lval,Int.natCast_zero,Int.zero_add] at this
    exact soundAt_call this
   ·cases h
  ·cases h
 ·split at h
  ·rename_i hA hB
   split at h
   ·rename_i hc
    obtain ⟨c1,c2,c3,c4,c5,c6,c7⟩ := hc
    cases h
    exact soundAt_call (Tryz.aJoinedM _ (.inl (sliceN_some hA)) (sliceN_some hB) c1 c2 c3 c4 c5 c6 c7)
   ·cases h
  ·cases h
 ·exact soundAt_of Tryz.rfO2_ok h
def Tryz.takeLv (c : Code) : List Nat := if (writesC c).contains 3 then [3,4] else [5,6]
theorem Tryz.take_inner {O : Oracle} {K m0 : Nat} (mem : Mem) (s : List UInt8) (e st : Nat) (hd : s.all isD = true) (he : e ≤ s.length) (hst : st ≤ e) (h4 : e ≤ st + 4) (hl : s.length ≤ 1000000) (hK : 5 < K) {b b2 : Code} (hbd : loopsF Tryz.f176 = [b,b2]) :
  ∃ F : Env → Bool → Env,∀ env0 d,(Eng.look env0 0 = .str s ∧ Eng.look env0 4 = .int .i64 (e : Int) ∧ Eng.look env0 5 = .int .i64 0 ∧ Eng.look env0 6 = .int .i64 (st : Int)) →
   execC (tyOf Tryz.prog) Tryz.takeLv O K 35 m0 true (.loop b2) ⟨env0,mem,d⟩ = some (.exit 2,⟨F env0 d,mem,d⟩) ∧
   (Eng.look (F env0 d) 5 = .int .i64 ((valD ((s.take e).drop st) : Nat) : Int) ∧ Eng.look (F env0 d) 0 = Eng.look env0 0 ∧ Eng.look (F env0 d) 3 = Eng.look env0 3 ∧ Eng.look (F env0 d) 4 = Eng.look env0 4) := by
 have hlv : Tryz.takeLv b2 = [5,6] := by
  simp [loopsF,loopsC,Tryz.f176] at hbd
  obtain ⟨rfl,rfl⟩ := hbd
  decide
 refine loop_rule hlv (fun env0 => Eng.look env0 0 = .str s ∧ Eng.look env0 4 = .int .i64 (e : Int) ∧ Eng.look env0 5 = .int .i64 0 ∧ Eng.look env0 6 = .int .i64 (st : Int))
  (fun env0 env' => Eng.look env' 5 = .int .i64 ((valD ((s.take e).drop st) : Nat) : Int) ∧ Eng.look env' 0 = Eng.look env0 0 ∧ Eng.look env' 3 = Eng.look env0 3 ∧ Eng.look env' 4 = Eng.look env0 4) ?_
 rintro env0 d ⟨h0,h4',h5,h6⟩
 obtain ⟨u,hu⟩ : ∃ u,u = (s.take e).drop st := ⟨_,rfl⟩
 have hul : u.length = e - st := by rw [hu,List.length_drop,List.length_take]; omega
 have hud : u.all isD = true := by rw [hu]; exact all_drop (all_take hd _) _
 have hv0 : valD (u.take 0) = 0 := by rw [List.take_zero]; unfold valD; rw [valF_nil]
 have hn : normE [5,6] (writesC b2) env0 ((5,.int .i64 ((valD (u.take 0) : Nat) : Int)) :: (6,.int .i64 ((st + 0 : Nat) : Int)) :: env0) = normE [5,6] (writesC b2) env0 env0 := by rw [hv0]; simp [normE,h5,h6]
 rw [← hn,← hu]
 refine iter_ind (α := Nat) (fun j => ⟨normE [5,6] (writesC b2) env0 ((5,.int .i64 ((valD (u.take j) : Nat) : Int)) :: (6,.int .i64 ((st + j : Nat) : Int)) :: env0),mem,d⟩)
  (fun j => u.length - j) (fun j => j ≤ u.length) (.exit 2) _ d _ (by simp) ?_ K 0 (Nat.zero_le _) (by simp only [Nat.sub_zero]; omega)
 intro j hj
 clear hn hv0
 simp [loopsF,loopsC,Tryz.f176] at hbd
 by_cases hje : j = u.length
 ·right
  subst hje
  have e1 : ((st + u.length : Nat) : Int) = (e : Int) := by omega
  rw [List.take_length,e1]
  obtain ⟨rfl,rfl⟩ := hbd
  simp [h0,h4']
 ·left
  have hlt : j < u.length := by omega
  obtain ⟨c,hc⟩ : ∃ c,u[j]? = some c := ⟨u[j],by simp [hlt]⟩
  have hcd := isD_lt (List.all_eq_true.1 hud c (List.mem_of_getElem? hc))
  have hcD := List.all_eq_true.1 hud c (List.mem_of_getElem? hc)
  have hc48 : 48 ≤ c.toNat := by unfold isD at hcD; simp only [Bool.and_eq_true,decide_eq_true_eq] at hcD; exact hcD.1
  have hst2 : u.take (j + 1) = u.take j ++ [c] := by rw [List.take_add_one,hc]; rfl
  have hv : valD (u.take (j + 1)) = 10 * valD (u.take j) + (c.toNat - 48) := by rw [hst2,valD_snoc]
  have hvb : valD (u.take j) < 10000 := by
   have h1 := valD_lt (all_take hud j)
   have h2 : (u.take j).length ≤ 4 := by rw [List.length_take]; omega
   have h3 : 10 ^ (u.take j).length ≤ 10 ^ 4 := Nat.pow_le_pow_right (by omega) h2
   omega
  have hsc : s[st + j]? = some c := by
   rw [hu,List.getElem?_drop,List.getElem?_take_of_lt (by omega)] at hc
   exact hc
  obtain ⟨v,hvv⟩ : ∃ v,v = valD (u.take j) := ⟨_,rfl⟩
  obtain ⟨v2,hvv2⟩ : ∃ v,v = valD (u.take (j + 1)) := ⟨_,rfl⟩
  rw [← hvv] at hvb hv
  rw [← hvv2] at hv
  obtain ⟨i,hi⟩ : ∃ i,i = st + j := ⟨_,rfl⟩
  rw [← hi] at hsc
  have hie : i < e := by omega
  have hieI : (i : Int) < (e : Int) := by omega
  have w1 : IntKind.i64.wrap (10 * (v : Int)) = 10 * (v : Int) := wrap_i64 (by omega) (by omega)
  have w2 : IntKind.i64.wrap (10 * (v : Int) + (c.toNat : Int)) = 10 * (v : Int) + (c.toNat : Int) := wrap_i64 (by omega) (by omega)
  have w3 : IntKind.i64.wrap (10 * (v : Int) + (c.toNat : Int) - 48) = (v2 : Int) := by rw [wrap_i64 (by omega) (by omega)]; omega
  have w4 : IntKind.i64.wrap ((i : Int) + 1) = ((st + (j + 1) : Nat) : Int) := by rw [wrap_i64 (by omega) (by omega)]; omega
  have w5 : IntKind.i64.wrap (c.toNat : Int) = (c.toNat : Int) := wrap_i64 (by omega) (by have := c.toNat_lt; omega)
  rw [← hi]
  refine ⟨j + 1,?_⟩
  refine exists_and_fin (show j + 1 ≤ u.length ∧ _ from ⟨hlt,by omega⟩) ?_
  obtain ⟨rfl,rfl⟩ := hbd
  simp [h0,h4',hie,hieI,hsc,← hvv,← hvv2,w1,w2,w3,w4,w5]
  try omega
def taM : List Nat → Mem
 | [] => []
 | x :: l => [.cells true 1 (iN .i64 (x :: l))]
def taO : List Nat → AV
 | [] => .nilslice
 | _ :: l => .slice 0 0 (l.length + 1) none
theorem Tryz.take_loop {O : Oracle} {K : Nat} (s : List UInt8) (hd : s.all isD = true) (hl : s.length ≤ 1000000) (hK : s.length + 5 < K) {b b2 : Code} (hbd : loopsF Tryz.f176 = [b,b2]) :
  ∃ F : Env → Bool → Env,∀ env0 d,(Eng.look env0 0 = .str s ∧ Eng.look env0 3 = .nilslice ∧ Eng.look env0 4 = .int .i64 (s.length : Int)) →
   execC (tyOf Tryz.prog) Tryz.takeLv O K 35 0 true (.loop b) ⟨env0,[],d⟩ = some (.exit 0,⟨F env0 d,taM (chunks4 s),d⟩) ∧ Eng.look (F env0 d) 3 = taO (chunks4 s) := by
 have hlv : Tryz.takeLv b = [3,4] := by
  simp [loopsF,loopsC,Tryz.f176] at hbd
  obtain ⟨rfl,rfl⟩ := hbd
  decide
 refine loop_rule hlv (fun env0 => Eng.look env0 0 = .str s ∧ Eng.look env0 3 = .nilslice ∧ Eng.look env0 4 = .int .i64 (s.length : Int)) (fun _ env' => Eng.look env' 3 = taO (chunks4 s)) ?_
 rintro env0 d ⟨h0,h3,h4⟩
 have hn : normE [3,4] (writesC b) env0 ((3,taO []) :: (4,.int .i64 (s.length : Int)) :: env0) = normE [3,4] (writesC b) env0 env0 := by simp [normE,h3,h4,taO]
 rw [← hn]
 refine iter_ind (α := Int × List Nat) (fun a => ⟨normE [3,4] (writesC b) env0 ((3,taO a.2) :: (4,.int .i64 a.1) :: env0),taM a.2,d⟩)
  (fun a => a.1.toNat) (fun a => -4 ≤ a.1 ∧ a.1 ≤ s.length ∧ a.2 ++ chunks4 (s.take a.1.toNat) = chunks4 s) (.exit 0) _ d _ (by simp) ?_ K ((s.length : Int),[]) ⟨by simp only; omega,Int.le_refl _,by simp only [Int.toNat_natCast]; rw [List.take_length]; rfl⟩ (by show (s.length : Int).toNat < K; omega)
 rintro ⟨z,out⟩ ⟨hz4,he,hinv⟩
 simp only at hz4 he hinv ⊢
 clear hn
 by_cases he0 : z ≤ 0
 ·right
  rw [show z.toNat = 0 by omega,List.take_zero,chunks4_nil,List.append_nil] at hinv
  rw [hinv]
  have hz : ¬ 0 < z := by omega
  simp [loopsF,loopsC,Tryz.f176] at hbd
  obtain ⟨rfl,rfl⟩ := hbd
  simp [hz]
 ·left
  obtain ⟨e,rfl⟩ : ∃ e : Nat,z = e := ⟨z.toNat,by omega⟩
  rw [Int.toNat_natCast] at hinv
  have hls : (s.take e).length = e := by rw [List.length_take]; omega
  have hne : s.take e ≠ [] := by intro h; rw [h] at hls; simp at hls; omega
  rw [chunks4_pos hne,hls,List.take_take,Nat.min_eq_left (by omega)] at hinv
  obtain ⟨st,hst⟩ : ∃ st,st = e - 4 := ⟨_,rfl⟩
  rw [← hst] at hinv
  obtain ⟨F,hF⟩ := Tryz.take_inner (O := O) (K := K) (m0 := 0) (taM out) s e st hd (by omega) (by omega) (by omega) hl (by omega) hbd
  obtain ⟨v,hv⟩ : ∃ v,v = valD ((s.take e).drop st) := ⟨_,rfl⟩
  rw [← hv] at hF hinv
  have hol : out.length ≤ 1000000 := by
   have h1 := (chunks4_spec _ s (Nat.le_refl _) hd).2.2
   rw [← hinv] at h1
   simp at h1; omega
  obtain ⟨z2,hz2⟩ : ∃ z2,z2 = (e : Int) - 4 := ⟨_,rfl⟩
  have w1 : IntKind.i64.wrap ((e : Int) - 4) = z2 := by rw [← hz2]; exact wrap_i64 (by omega) (by omega)
  have hp : 0 < e := by omega
  have hmax : (if 0 < z2 then z2 else 0) = (st : Int) := by split <;> omega
  have hz2n : z2.toNat = st := by omega
  simp [loopsF,loopsC,Tryz.f176] at hbd
  obtain ⟨rfl,rfl⟩ := hbd
  refine ⟨(z2,out ++ [v]),?_⟩
  refine exists_and_fin2 (show (-4 ≤ z2 ∧ z2 ≤ (s.length : Int) ∧ (out ++ [v]) ++ chunks4 (s.take z2.toNat) = chunks4 s) ∧ z2.toNat < (e : Int).toNat from ⟨⟨by omega,by omega,by rw [List.append_assoc,hz2n]; exact hinv⟩,by omega⟩) ?_
  cases out with
  | nil =>
   simp only [taM,taO] at hF
   simp [taM,taO,hp,w1,hmax,h0,hF,iN_cons]
  | cons y l =>
   simp only [List.length_cons] at hol
   have ht : (iN .i64 l).take l.length = iN .i64 l := List.take_of_length_le (by simp)
   have hm1 : (l.length + 1 + 1) * 8 ≤ 140737488355328 := by omega
   have hm2 : l.length + 1 + 1 ≤ 140737488355328 := by omega
   simp only [taM,taO,iN_cons] at hF
   simp [taM,taO,hp,w1,hmax,h0,hF,ht,hm1,hm2,iN_cons,iN_append]
theorem Tryz.take_run (v : Nat) (hl : (natD v).length ≤ 1000000) : callFn (tyOf Tryz.prog) Tryz.takeLv (fnOf Tryz.prog) Tryz.rfO3 ((natD v).length + 6) 176 [.str (natD v)] [] =
  some ⟨.slice 0 0 (dig 10000 v).length none,none,[.cells true 1 (iN .i64 (chunks4 (natD v)))]⟩ := by
 have hG : fnOf Tryz.prog 176 = some Tryz.f176 := by kernel_rfl
 obtain ⟨b,b2,hbd⟩ : ∃ b b2,loopsF Tryz.f176 = [b,b2] := ⟨_,_,rfl⟩
 obtain ⟨F,hF⟩ := Tryz.take_loop (O := Tryz.rfO3) (K := (natD v).length + 6) (natD v) (natD_all v) hl (by omega) hbd
 obtain ⟨c1,c2,c3⟩ := chunks4_spec _ (natD v) (Nat.le_refl _) (natD_all _)
 rw [valD_natD] at c2
 have hd : ltrim (chunks4 (natD v)) = dig 10000 v := by rw [← dig_lval (by omega) c1,c2]
 have hne : chunks4 (natD v) ≠ [] := by rw [chunks4_pos (natD_ne _)]; simp
 obtain ⟨s,hs⟩ : ∃ s,s = natD v := ⟨_,rfl⟩
 rw [← hs] at hF hd hne c3 hl ⊢
 obtain ⟨K,hK⟩ : ∃ K,K = s.length + 6 := ⟨_,rfl⟩
 rw [← hK] at hF ⊢
 have hl2 : (chunks4 s).length ≤ 4000000000000 := by omega
 obtain ⟨ch,hch⟩ : ∃ ch,ch = chunks4 s := ⟨_,rfl⟩
 rw [← hch] at hF hd hne hl2 ⊢
 have hM : taM ch = [.cells true 1 (iN .i64 ch)] := by cases ch <;> first | exact absurd rfl hne | rfl
 have hO : taO ch = .slice 0 0 ch.length none := by cases ch <;> first | exact absurd rfl hne | rfl
 rw [hM,hO] at hF
 have hsl : ∀ l,sliceN .i64 (.cells true 1 (iN .i64 ch) :: l) (.slice 0 0 ch.length none) = some ch := fun l => sliceN_at rfl (by simp) (List.take_of_length_le (by simp))
 simp [loopsF,loopsC,Tryz.f176] at hbd
 obtain ⟨rfl,rfl⟩ := hbd
 simp [callFn,hG,Tryz.f176,hF,Tryz.rfO3,Tryz.rfO2,Tryz.rfO1,hsl,hl2,hd]
theorem Tryz.aTakeM (v : Nat) (hl : (natD v).length ≤ 1000000) (M : Mem) : ACallsTo Tryz.prog 176 [.str (natD v)] M (.slice M.length 0 (dig 10000 v).length none) (M ++ [.cells true 1 (iN .i64 (dig 10000 v))]) := by
 obtain ⟨c1,c2,c3⟩ := chunks4_spec _ (natD v) (Nat.le_refl _) (natD_all _)
 rw [valD_natD] at c2
 have hd : ltrim (chunks4 (natD v)) = dig 10000 v := by rw [← dig_lval (by omega) c1,c2]
 have h := (callFn_sound Tryz.mixed (tyOf_ok _) Tryz.rfO3_ok (fnOf_ok _) (Tryz.take_run v hl)).1
 simp only [CallRes.mem,Option.getD_none,List.nil_append] at h
 have h2 := ACallsTo.truncs (m2 := [.cells true 1 (iN .i64 (dig 10000 v))]) h rfl (fun b s hb => by
  match b with
  | 0 => simp at hb; subst hb; exact ⟨_,rfl,.row (by rw [← hd]; exact ltrim_isPrefix _)⟩
  | b + 1 => simp at hb)
 have h3 := ACallsTo.frame (M := M) [] (m := []) (new := [.cells true 1 (iN .i64 (dig 10000 v))]) rfl (by simp) rfl (by simp) rfl h2
 simpa [AV.ren,AV.rens,back] using h3
theorem Tryz.give_loop {K : Nat} (v : Nat) (hv : 0 < v) (hl : (dig 10000 v).length ≤ 100000) (hK : (dig 10000 v).length < K) {b : Code} (hbd : loopsF Tryz.f224 = [b]) :
  ∃ F : Env → Bool → Env,∀ env0 d,(Eng.look env0 0 = .slice 0 0 (dig 10000 v).length none ∧ Eng.look env0 3 = .str (natD (lval 10000 ((dig 10000 v).drop ((dig 10000 v).length - 1)))) ∧ Eng.look env0 4 = .int .i64 ((((dig 10000 v).length - 1 : Nat) : Int) - 1)) →
   execC (tyOf Tryz.prog) (fun _ => [3,4]) (pureO Tryz.strF) K 34 1 true (.loop b) ⟨env0,[.cells false 1 (iN .i64 (dig 10000 v))],d⟩ = some (.exit 0,⟨F env0 d,[.cells false 1 (iN .i64 (dig 10000 v))],d⟩) ∧ Eng.look (F env0 d) 3 = .str (natD v) := by
 have hA : lok 10000 (dig 10000 v) = true := lok_dig (by omega) _
 have hval : lval 10000 (dig 10000 v) = v := lval_dig (by omega) _
 have hpos : ∀ j,j < (dig 10000 v).length → 0 < lval 10000 ((dig 10000 v).drop j) := fun j hj => lval_drop_pos (by omega) hj
 have hlen : 0 < (dig 10000 v).length := by
  rcases Nat.eq_zero_or_pos (dig 10000 v).length with h | h
  ·have := (dig_eq_nil (B := 10000) (n := v) (by omega)).1 (List.eq_nil_of_length_eq_zero h)
   omega
  ·exact h
 obtain ⟨A,hAe⟩ : ∃ A,A = dig 10000 v := ⟨_,rfl⟩
 rw [← hAe] at hl hK hA hval hpos hlen ⊢
 refine loop_rule rfl (fun env0 => Eng.look env0 0 = .slice 0 0 A.length none ∧ Eng.look env0 3 = .str (natD (lval 10000 (A.drop (A.length - 1)))) ∧ Eng.look env0 4 = .int .i64 (((A.length - 1 : Nat) : Int) - 1)) (fun _ env' => Eng.look env' 3 = .str (natD v)) ?_
 rintro env0 d ⟨h0,h3,h4⟩
 have hn : normE [3,4] (writesC b) env0 ((3,.str (natD (lval 10000 (A.drop (A.length - 1))))) :: (4,.int .i64 (((A.length - 1 : Nat) : Int) - 1)) :: env0) = normE [3,4] (writesC b) env0 env0 := by simp only [normE,List.map_cons,List.map_nil,look,h3,h4]; simp
 rw [← hn]
 refine iter_ind (α := Nat) (fun j => ⟨normE [3,4] (writesC b) env0 ((3,.str (natD (lval 10000 (A.drop j)))) :: (4,.int .i64 ((j : Int) - 1)) :: env0),[.cells false 1 (iN .i64 A)],d⟩)
  (fun j => j) (fun j => j < A.length) (.exit 0) _ d _ (by simp) ?_ K (A.length - 1) (by omega) (by omega)
 intro j hj
 clear hn
 simp [loopsF,loopsC,Tryz.f224] at hbd
 cases j with
 | zero =>
  right
  subst hbd
  simp [hval]
 | succ j =>
  left
  obtain ⟨x,hx,hx'⟩ := get_both (l := A) (i := j) (by omega)
  have hxb := lok_get hA hx
  have e1 : (((j + 1 : Nat) : Int) - 1) = (j : Int) := by omega
  have hpd : natD (lval 10000 (A.drop j)) = natD (lval 10000 (A.drop (j + 1))) ++ (natD (10000 + x)).drop 1 := by
   rw [lval_drop hx]
   have h1 := natD_pad (w := 4) (by omega) hxb (hpos (j + 1) hj)
   have h2 := natD_lead (w := 4) (x := x) (by omega) hxb
   rw [show 10 ^ 4 = 10000 from rfl] at h1 h2
   rw [h2,h1]
  have hsz : (natD (lval 10000 (A.drop (j + 1)))).length ≤ 400000 := by
   have h1 := lval_lt (lok_drop hA (j + 1))
   have h2 : (10000 : Nat) ^ (A.drop (j + 1)).length = 10 ^ (4 * (A.drop (j + 1)).length) := by rw [Nat.pow_mul]
   rw [h2] at h1
   have h3 : 0 < 4 * (A.drop (j + 1)).length := by simp; omega
   have h4 := natD_length_le h3 h1
   simp at h4; omega
  obtain ⟨t,ht⟩ : ∃ t,t = natD (lval 10000 (A.drop (j + 1))) := ⟨_,rfl⟩
  obtain ⟨t2,ht2⟩ : ∃ t,t = natD (lval 10000 (A.drop j)) := ⟨_,rfl⟩
  rw [← ht] at hpd hsz
  rw [← ht2] at hpd
  obtain ⟨y,hy⟩ : ∃ y : Nat,y = 10000 + x := ⟨_,rfl⟩
  rw [← hy] at hpd
  have w1 : IntKind.i64.wrap (10000 + (x : Int)) = (y : Int) := by rw [wrap_i64 (by omega) (by omega)]; omega
  have w2 : IntKind.i64.wrap ((j : Int) - 1) = (j : Int) - 1 := wrap_i64 (by omega) (by omega)
  have hf : fitsI (y : Int) = true := by unfold fitsI; simp; omega
  have hys : intS (y : Int) = natD y := rfl
  have hyl := natD_length_le (u := y) (k := 5) (by omega) (by omega)
  have hy1 : 1 ≤ (natD y).length := natD_pos y
  obtain ⟨u,hu⟩ : ∃ u,u = natD y := ⟨_,rfl⟩
  rw [← hu] at hpd hys hyl hy1
  have hy1I : (1 : Int) ≤ (u.length : Int) := by omega
  have htk : (u.drop 1).take (u.length - 1) = u.drop 1 := List.take_of_length_le (by simp)
  have hmx : t.length + (u.length - 1) ≤ maxInt := by unfold maxInt; omega
  have hjl : j < A.length := by omega
  have hjI : (j : Int) < (A.length : Int) := by omega
  obtain ⟨u1,hu1⟩ : ∃ u1,u1 = u.drop 1 := ⟨_,rfl⟩
  rw [← hu1] at hpd htk
  have hu1l : u1.length = u.length - 1 := by rw [hu1]; simp
  have hmx1 : t.length + u1.length ≤ maxInt := by rw [hu1l]; exact hmx
  rw [e1]
  refine ⟨j,?_⟩
  refine exists_and_fin (show j < A.length ∧ _ from ⟨hjl,Nat.lt_succ_self j⟩) ?_
  subst hbd
  simp [h0,hjI,hjl,hx,hx',w1,pureO,Tryz.strF,hf,hys,hy1I,← hu1,htk,← ht,← ht2,hmx1,← hpd,w2]
end Go.Proofs
