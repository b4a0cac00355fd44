/- See L55. -/
import Derived.Test.YtiopbpbcgccngaaGreatDoorL36
import Derived.Test.YtiopbpbcgccngaaGreatDoorL10
import Derived.Test.YtiopbpbcgccngaaGreatDoorL42
import Derived.Test.YtiopbpbcgccngaaGreatDoorL33
set_option linter.all false
namespace Go.Proofs
open Go.Eng
abbrev Hv := List UInt8 × Nat × Nat
def hvI (x : Hv) : Iv := (x.1,ratS (hf x.2.1),ratS (hf x.2.2))
def okH (x : Hv) : Prop := x.2.1 < x.2.2 ∧ x.2.2 ≤ 100000 ∧ x.1.length ≤ 1000000000
def mkH (a : Nat) : List Bit → List Hv
 | [] => []
 | b :: l => (unitS b.2.2,a + b.1 % 3,a + b.1 % 3 + (1 + b.2.1 % 6)) :: mkH (a + b.1 % 3 + (1 + b.2.1 % 6)) l
theorem mkL_H : ∀ (a : Nat) (l : List Bit),mkL a l = (mkH a l).map hvI
 | _,[] => rfl
 | a,b :: l => by rw [mkL,mkH,List.map_cons,mkL_H]; rfl
theorem mkH_ok : ∀ (B : List Bit) (a : Nat),a + 8 * B.length ≤ 100000 → ∀ x ∈ mkH a B,okH x
 | [],_,_,x,hx => by cases hx
 | b :: B,a,ha,x,hx => by
  simp only [List.length_cons] at ha
  have g3 : b.1 % 3 < 3 := Nat.mod_lt _ (by omega)
  have t6 : b.2.1 % 6 < 6 := Nat.mod_lt _ (by omega)
  rw [mkH] at hx
  rcases List.mem_cons.1 hx with rfl | hx
  ·exact ⟨by show a + b.1 % 3 < a + b.1 % 3 + (1 + b.2.1 % 6); omega,by show a + b.1 % 3 + (1 + b.2.1 % 6) ≤ 100000; omega,Nat.le_trans (unitS_len _) (by omega)⟩
  ·exact mkH_ok B _ (by omega) x hx
theorem hf_fine {n : Nat} (h : n ≤ 1000000) : fine (hf n) := ⟨by have := hf_big n h; omega,by have := hf_big n h; omega⟩
theorem Tryz.aHas (u : List UInt8) (a b d : Rat) (ha : fine a) (hb : fine b) (hd : fine d) (mem : Mem) :
  ACallsTo Tryz.prog 50 [.agg [.str u,.str (ratS a),.str (ratS b)],.str (ratS d)] mem (.bool (decide (a ≤ d) && decide (d < b))) mem := by
 have hG : fnOf Tryz.prog 50 = some Tryz.f50 := by kernel_rfl
 refine Tryz.run Tryz.rat3_ok (lv := fun _ => []) (K := 1) rfl rfl ?_ mem
 obtain ⟨a1,a2⟩ := ha
 obtain ⟨b1,b2⟩ := hb
 obtain ⟨d1,d2⟩ := hd
 by_cases h1 : a ≤ d
 ·have c1 := cmpQ_le.2 h1
  by_cases h2 : d < b
  ·have c2 := cmpQ_lt.2 h2
   simp [callFn,hG,Tryz.f50,pureO,Tryz.ratF3,ratP_ratS,a1,a2,b1,b2,d1,d2,h1,h2,c1,c2]
  ·have c2 : ¬ cmpQ d b < 0 := fun h => h2 (cmpQ_lt.1 h)
   simp [callFn,hG,Tryz.f50,pureO,Tryz.ratF3,ratP_ratS,a1,a2,b1,b2,d1,d2,h1,h2,c1,c2]
 ·have c1 : ¬ cmpQ a d ≤ 0 := fun h => h1 (cmpQ_le.1 h)
  simp [callFn,hG,Tryz.f50,pureO,Tryz.ratF3,ratP_ratS,a1,a2,d1,d2,h1,c1]
def ivN (x : Iv) : Option (Rat × Rat) := match ratP x.2.1,ratP x.2.2 with
 | some a,some b => if (natD a.num.natAbs).length ≤ 200 ∧ (natD a.den).length ≤ 200 ∧ (natD b.num.natAbs).length ≤ 200 ∧ (natD b.den).length ≤ 200 then some (a,b) else none
 | _,_ => none
def hasB (d : Rat) (x : Iv) : Bool := match ivN x with
 | some (a,b) => decide (a ≤ d) && decide (d < b)
 | none => false
def rightIv (x : Iv) : Prop := ∃ a b,ivN x = some (a,b)
theorem ivN_some {x : Iv} {a b : Rat} (h : ivN x = some (a,b)) : x.2.1 = ratS a ∧ x.2.2 = ratS b ∧ fine a ∧ fine b := by
 unfold ivN at h
 split at h
 ·rename_i a' b' h1 h2
  split at h
  ·rename_i hc
   cases h
   exact ⟨ratP_some h1,ratP_some h2,⟨by omega,by omega⟩,⟨by omega,by omega⟩⟩
  ·cases h
 ·cases h
theorem ivN_hv {x : Hv} (h : okH x) : ivN (hvI x) = some (hf x.2.1,hf x.2.2) := by
 have h1 := hf_big x.2.1 (by have := h.1; have := h.2.1; omega)
 have h2 := hf_big x.2.2 (by have := h.2.1; omega)
 unfold ivN hvI
 simp only [ratP_ratS]
 rw [if_pos ⟨by omega,by omega,by omega,by omega⟩]
noncomputable def Tryz.w15F (f : FuncId) (args : List AV) : Option AV :=
 match f,args with
 | 50,[.agg [.str u,.str s,.str t],.str d] => match ivN (u,s,t),ratP d with
  | some _,some q => if (natD q.num.natAbs).length ≤ 40000 ∧ (natD q.den).length ≤ 40000 then some (.bool (hasB q (u,s,t))) else none
  | _,_ => none
 | f,args => Tryz.w5F f args
theorem Tryz.w15_ok : OracleOk Tryz.prog (pureO Tryz.w15F) := pureO_ok fun f args v h mem => by
 unfold Tryz.w15F at h
 split at h
 ·rename_i u s t d
  split at h
  ·rename_i p q hp hq
   obtain ⟨a,b⟩ := p
   split at h
   ·rename_i hc
    cases h
    obtain ⟨e1,e2,f1,f2⟩ := ivN_some hp
    simp only at e1 e2
    rw [ratP_some hq]
    have := Tryz.aHas u a b q f1 f2 hc mem
    rw [← e1,← e2] at this
    unfold hasB
    rw [hp]
    exact this
   ·cases h
  ·cases h
 ·have := Tryz.w5_ok.fn _ _ mem ⟨v,none,[]⟩ (by unfold pureO; simp only; rw [h])
  simpa [CallRes.mem] using this
def idxI (d : Rat) : Nat → List Iv → Int
 | _,[] => -1
 | i,x :: l => if hasB d x = true then (i : Int) else idxI d (i + 1) l
theorem idxI_ge {d : Rat} : ∀ {i : Nat} {l : List Iv},-1 ≤ idxI d i l
 | _,[] => by unfold idxI; omega
 | i,x :: l => by
  unfold idxI
  split
  ·omega
  ·exact idxI_ge
def fineD (d : Rat) : Prop := (natD d.num.natAbs).length ≤ 40000 ∧ (natD d.den).length ≤ 40000
theorem idxI_find {d : Rat} : ∀ (i : Nat) (l : List Iv),(idxI d i l < 0 ∧ l.find? (hasB d) = none) ∨ ∃ k x,idxI d i l = ((i + k : Nat) : Int) ∧ l[k]? = some x ∧ l.find? (hasB d) = some x
 | i,[] => .inl ⟨by unfold idxI; omega,rfl⟩
 | i,x :: l => by
  unfold idxI
  cases hx : hasB d x with
  | true => exact .inr ⟨0,x,by simp,rfl,by simp [List.find?,hx]⟩
  | false =>
   rcases idxI_find (i + 1) l with ⟨h1,h2⟩ | ⟨k,y,h1,h2,h3⟩
   ·exact .inl ⟨by simpa using h1,by simp [List.find?,hx,h2]⟩
   ·refine .inr ⟨k + 1,y,?_,by simpa using h2,by simp [List.find?,hx,h3]⟩
    rw [if_neg (by simp),h1]; omega
theorem logE_right : ∀ (L : List Iv) (p : Option Rat),logE p L = 0 → ∀ x ∈ L,rightIv x
 | [],_,_,x,hx => by cases hx
 | y :: L,p,h,x,hx => by
  unfold logE at h
  split at h
  ·rename_i h0
   rcases List.mem_cons.1 hx with rfl | hx
   ·unfold ivE at h0
    split at h0
    ·cases h0
    ·split at h0
     ·rename_i hc
      obtain ⟨a,ha,_,a1,a2⟩ := chkR_rat hc.1
      obtain ⟨z,hz,_,z1,z2⟩ := chkR_rat hc.2
      refine ⟨a,z,?_⟩
      unfold ivN
      rw [ha,hz]
      simp only
      rw [if_pos ⟨a1,a2,z1,z2⟩]
     ·cases h0
   ·exact logE_right L _ h x hx
  ·rename_i h0; exact absurd h h0
theorem logR_right {L : List Iv} (h : logR L = 0) : ∀ x ∈ L,rightIv x := by
 unfold logR at h
 split at h
 ·cases h
 ·exact logE_right L _ h
def unitL (o : Option Iv) : List UInt8 := match o with
 | none => [45]
 | some x => x.1
set_option maxHeartbeats 3200000 in
theorem Tryz.lunit_loop {K : Nat} (L : List Iv) (hL : ∀ x ∈ L,rightIv x) (d : Rat) (hd : fineD d) (hl : L.length ≤ 1000000000) (hK : L.length < K) {b : Code} (hb : loopsF Tryz.f14 = [b]) :
  ∃ F : Env → Bool → Env × Mem × Iv,∀ env0 dd,(Eng.look env0 1 = .str (ratS d) ∧ Eng.look env0 7 = .slice 0 0 L.length none ∧ Eng.look env0 8 = .int .i64 L.length ∧ Eng.look env0 9 = .int .i64 0) →
   execC (tyOf Tryz.prog) (fun _ => [9]) (pureO Tryz.w5F) K 28 1 true (.loop b) ⟨env0,[.cells false 3 (ivC L)],dd⟩ = some (if L.find? (hasB d) = none then .exit 0 else .ret,⟨(F env0 dd).1,(F env0 dd).2.1,dd⟩) ∧
    ((L.find? (hasB d) = none → (F env0 dd).2.1 = [.cells false 3 (ivC L)]) ∧ (L.find? (hasB d) ≠ none → (F env0 dd).2.1 = [.cells false 3 (ivC L),.cells true 0 [.str (F env0 dd).2.2.1,.str (F env0 dd).2.2.2.1,.str (F env0 dd).2.2.2.2]] ∧ Eng.look (F env0 dd).1 4 = .str (unitL (L.find? (hasB d))))) := by
 refine loop_rule_m (β := Iv) rfl (fun env0 => Eng.look env0 1 = .str (ratS d) ∧ Eng.look env0 7 = .slice 0 0 L.length none ∧ Eng.look env0 8 = .int .i64 L.length ∧ Eng.look env0 9 = .int .i64 0) (fun _ env' mem' x => (L.find? (hasB d) = none → mem' = [.cells false 3 (ivC L)]) ∧ (L.find? (hasB d) ≠ none → mem' = [.cells false 3 (ivC L),.cells true 0 [.str x.1,.str x.2.1,.str x.2.2]] ∧ Eng.look env' 4 = .str (unitL (L.find? (hasB d))))) ?_
 rintro env0 dd ⟨h1,h7,h8,h9⟩
 simp [loopsF,loopsC,Tryz.f14] at hb
 have hn : normE [9] (writesC b) env0 ((9,.int .i64 ((0 : Nat) : Int)) :: env0) = normE [9] (writesC b) env0 env0 := by simp [normE,h9]
 rw [← hn]
 have kl : (ivC L).length = L.length * 3 := ivC_length L
 refine iter_ind_m (α := Nat) (fun s => ⟨normE [9] (writesC b) env0 ((9,.int .i64 (s : Int)) :: env0),[.cells false 3 (ivC L)],dd⟩) (fun s => L.length - s) (fun s => s ≤ L.length ∧ L.find? (hasB d) = (L.drop s).find? (hasB d)) (if L.find? (hasB d) = none then .exit 0 else .ret) dd (fun env' mem' => ∃ x : Iv,(L.find? (hasB d) = none → mem' = [.cells false 3 (ivC L)]) ∧ (L.find? (hasB d) ≠ none → mem' = [.cells false 3 (ivC L),.cells true 0 [.str x.1,.str x.2.1,.str x.2.2]] ∧ Eng.look env' 4 = .str (unitL (L.find? (hasB d))))) (by split <;> simp) ?_ K 0 ⟨by omega,by rw [List.drop_zero]⟩ (by omega)
 rintro n ⟨hn1,he⟩
 clear hn
 subst hb
 by_cases hlt : n < L.length
 ·obtain ⟨k,hk⟩ : ∃ k,L[n]? = some k := ⟨L[n],List.getElem?_eq_getElem hlt⟩
  obtain ⟨k1,_,_,_⟩ := ivC_at hk
  obtain ⟨a,z,hab⟩ := hL k (List.mem_of_getElem? hk)
  obtain ⟨e1,e2,⟨a1,a2⟩,⟨z1,z2⟩⟩ := ivN_some hab
  have hdr : L.drop n = k :: L.drop (n + 1) := by
   rw [List.getElem?_eq_some_iff] at hk
   obtain ⟨h1,h2⟩ := hk
   rw [← h2]; exact List.drop_eq_getElem_cons h1
  have hhas : hasB d k = (decide (a ≤ d) && decide (d < z)) := by unfold hasB; rw [hab]
  rw [hdr,List.find?_cons] at he
  have w1 : IntKind.i64.wrap ((n : Int) + 1) = ((n + 1 : Nat) : Int) := by rw [wrap_i64 (by omega) (by omega)]; omega
  have k5 : n * 3 + 3 ≤ (ivC L).length := by omega
  obtain ⟨u,f,t⟩ := k
  simp only at k1 e1 e2
  subst e1 e2
  obtain ⟨d1,d2⟩ := hd
  by_cases c1 : a ≤ d
  ·have g1 := cmpQ_le.2 c1
   by_cases c2 : d < z
   ·right
    have g2 := cmpQ_lt.2 c2
    have hh : hasB d (u,ratS a,ratS z) = true := by rw [hhas]; simp [c1,c2]
    rw [hh] at he
    simp only at he
    rw [he,if_neg (by simp)]
    simp [h1,h7,h8,hlt,k1,k5,pureO,Tryz.w5F,Tryz.ratF4,Tryz.ratF3,ratP_ratS,a1,a2,z1,z2,d1,d2,g1,g2,unitL]
    exact ⟨_,_,⟨rfl,rfl⟩,⟨_,_,_,rfl⟩,rfl⟩
   ·left
    have g2 : ¬ cmpQ d z < 0 := fun h => c2 (cmpQ_lt.1 h)
    have hh : hasB d (u,ratS a,ratS z) = false := by rw [hhas]; simp [c2]
    rw [hh] at he
    simp only at he
    refine ⟨n + 1,?_⟩
    simp [h1,h7,h8,hlt,k1,k5,pureO,Tryz.w5F,Tryz.ratF4,Tryz.ratF3,ratP_ratS,a1,a2,z1,z2,d1,d2,g1,g2,w1,ivC_refs]
    exact ⟨⟨by omega,he⟩,by omega⟩
  ·left
   have g1 : ¬ cmpQ a d ≤ 0 := fun h => c1 (cmpQ_le.1 h)
   have hh : hasB d (u,ratS a,ratS z) = false := by rw [hhas]; simp [c1]
   rw [hh] at he
   simp only at he
   refine ⟨n + 1,?_⟩
   simp [h1,h7,h8,hlt,k1,k5,pureO,Tryz.w5F,Tryz.ratF4,Tryz.ratF3,ratP_ratS,a1,a2,z1,z2,d1,d2,g1,w1,ivC_refs]
   exact ⟨⟨by omega,he⟩,by omega⟩
 ·right
  have e : L.drop n = [] := List.drop_of_length_le (by omega)
  rw [e,List.find?_nil] at he
  rw [he]
  simp [h8,hlt]
theorem Tryz.aLUnitP (L : List Iv) (hL : ∀ x ∈ L,rightIv x) (d : Rat) (hd : fineD d) (hl : L.length ≤ 1000000000) :
  ACallsTo Tryz.prog 14 [.slice 0 0 L.length none,.str (ratS d)] [.cells false 3 (ivC L)] (.str (unitL (L.find? (hasB d)))) [.cells false 3 (ivC L)] := by
 have hG : fnOf Tryz.prog 14 = some Tryz.f14 := by kernel_rfl
 obtain ⟨b,hb⟩ : ∃ b,loopsF Tryz.f14 = [b] := ⟨_,rfl⟩
 obtain ⟨F,hF⟩ := Tryz.lunit_loop (K := L.length + 1) L hL d hd hl (by omega) hb
 simp [loopsF,loopsC,Tryz.f14] at hb
 subst hb
 have h : callFn (tyOf Tryz.prog) (fun _ => [9]) (fnOf Tryz.prog) (pureO Tryz.w5F) (L.length + 1) 14 [.slice 0 0 L.length none,.str (ratS d)] [.cells false 3 (ivC L)] = some ⟨.str (unitL (L.find? (hasB d))),none,[]⟩ := by
  by_cases hc : L.find? (hasB d) = none
  ·rw [if_pos hc] at hF
   have hF1 := fun env0 d h => (hF env0 d h).1
   have hF2 := fun env0 d h => (hF env0 d h).2.1 hc
   clear hF
   rw [hc]
   simp [callFn,hG,Tryz.f14,hF1,hF2,unitL]
  ·rw [if_neg hc] at hF
   have hF1 := fun env0 d h => (hF env0 d h).1
   have hF2 := fun env0 d h => ((hF env0 d h).2.2 hc).1
   have hF3 := fun env0 d h => ((hF env0 d h).2.2 hc).2
   clear hF
   simp [callFn,hG,Tryz.f14,hF1,hF2,hF3,ivC_refs]
 have := (callFn_sound Tryz.mixed (tyOf_ok _) Tryz.w5_ok (fnOf_ok _) h).1
 simpa [CallRes.mem] using this
theorem hf_add (n m : Nat) : hf n + hf m = hf (n + m) := by
 rw [hf_eq,hf_eq,hf_eq]; push_cast; grind
theorem hf_sub {n m : Nat} (h : m ≤ n) : hf n - hf m = hf (n - m) := by
 have := hf_add (n - m) m
 rw [show n - m + m = n by omega] at this
 grind
theorem hf_zero : ratS (hf 0) = [48] := by kernel_rfl
theorem chkR_hf {n : Nat} (h : n ≤ 1000000) : chkR (ratS (hf n)) = 0 := by
 have := hf_big n h
 exact chkR_ratS (by omega) (by omega)
theorem chkR_0 : chkR [48] = 0 := by rw [← hf_zero]; exact chkR_hf (by decide)
theorem Tryz.aLUnitNil (s : List UInt8) (M : Mem) : ACallsTo Tryz.prog 14 [.nilslice,.str s] M (.str [45]) M := by
 have hG : fnOf Tryz.prog 14 = some Tryz.f14 := by kernel_rfl
 have h : callFn (tyOf Tryz.prog) (fun _ => [9]) (fnOf Tryz.prog) noOracle 1 14 [.nilslice,.str s] M = some ⟨.str [45],none,[]⟩ := by
  simp [callFn,hG,Tryz.f14,execC_loop,iter]
 have := (callFn_sound Tryz.mixed (tyOf_ok _) (noOracle_ok _) (fnOf_ok _) h).1
 simpa [CallRes.mem] using this
end Go.Proofs
namespace Go.Proofs
open Go.Eng
end Go.Proofs
namespace Go.Proofs
open Go.Eng
theorem mkH_small (B : List Bit) (h : B.length ≤ 8) : ∀ x ∈ mkH 0 B,okH x := mkH_ok B 0 (by omega)
end Go.Proofs
