/- See I57. -/
import Derived.Test.YtahfjdgeebjiaaaGreatDoorI19
set_option linter.all false
namespace Go.Proofs
open Go.Eng
theorem okT_false (t : List UInt8) : okT false t = (decide (t.length ≤ 200) && canonN t) := by
 cases t with
 | nil => rfl
 | cons c r =>
  unfold okT canonN
  simp only [List.length_cons,Bool.or_false,List.all_cons]
  rw [Bool.eq_iff_iff]
  simp
  cases r with
  | nil => simp
  | cons x r => simp; grind
theorem okT_true (t : List UInt8) : okT true t = (decide (t.length ≤ 200) && canonN t && !(t.head? == some 48)) := by
 cases t with
 | nil => rfl
 | cons c r =>
  unfold okT canonN
  simp only [List.length_cons,Bool.or_true,Bool.and_true,List.all_cons,List.head?_cons]
  rw [Bool.eq_iff_iff]
  simp
  grind
def okI (s : List UInt8) : Bool := match intP s with
 | some n => decide ((natD n.natAbs).length ≤ 200)
 | none => false
theorem intP_minus (r : List UInt8) : intP (45 :: r) = match natP r with
  | some (u + 1) => some (Int.negSucc u)
  | _ => none := rfl
theorem intP_plain {t : List UInt8} (h : ∀ r,t ≠ 45 :: r) : intP t = (natP t).map Int.ofNat := by
 unfold intP
 split
 ·rename_i r; exact absurd rfl (h r)
 ·cases natP t <;> rfl
theorem natP_yes {t : List UInt8} (h : canonN t = true) : natP t = some (valD t) := by unfold natP; rw [if_pos h]
theorem natP_no {t : List UInt8} (h : canonN t = false) : natP t = none := by unfold natP; rw [h]; rfl
theorem okT_okI (s : List UInt8) : okT (Lib.hasPrefix s [45]) (Lib.trimPrefix s [45]) = okI s := by
 unfold Lib.trimPrefix
 have plain : ∀ t : List UInt8,(∀ r,t ≠ 45 :: r) → okT false t = okI t := by
  intro t ht
  rw [okT_false]
  unfold okI
  rw [intP_plain ht]
  cases hc : canonN t with
  | true =>
   have := natD_valD hc
   rw [natP_yes hc]
   show _ = decide ((natD (Int.ofNat (valD t)).natAbs).length ≤ 200)
   rw [show (Int.ofNat (valD t)).natAbs = valD t from rfl,this,Bool.and_true]
  | false =>
   rw [natP_no hc,Bool.and_false]; rfl
 cases s with
 | nil => rw [show Lib.hasPrefix [] [45] = false from rfl]; exact plain [] (by simp)
 | cons c r =>
  by_cases h : c = 45
  ·subst h
   rw [show Lib.hasPrefix (45 :: r) [45] = true by simp [Lib.hasPrefix,List.isPrefixOf]]
   simp only [if_true,List.length_singleton,List.drop_succ_cons,List.drop_zero]
   rw [okT_true]
   unfold okI
   rw [intP_minus]
   cases hc : canonN r with
   | true =>
    rw [natP_yes hc,Bool.and_true]
    have hv := natD_valD hc
    cases hvd : valD r with
    | zero =>
     rw [hvd,natD_zero] at hv
     rw [← hv]; rfl
    | succ u =>
     rw [hvd] at hv
     have hh := natD_head (u + 1) (by omega)
     rw [hv] at hh
     show _ = decide ((natD (Int.negSucc u).natAbs).length ≤ 200)
     rw [show (Int.negSucc u).natAbs = u + 1 from rfl,hv]
     have : (r.head? == some 48) = false := by simpa using hh
     rw [this]; simp
   | false =>
    rw [natP_no hc]; simp
  ·have h1 : Lib.hasPrefix (c :: r) [45] = false := by
    have h' : ¬ (45 : UInt8) = c := fun e => h e.symm
    simp [Lib.hasPrefix,List.isPrefixOf,h']
   rw [h1]
   exact plain (c :: r) (by intro r' e; exact h (List.cons.inj e).1)
theorem intP_nat {r : List UInt8} {n : Int} (h : intP r = some n) (hn : 0 ≤ n) : natP r = some n.toNat := by
 rw [intP_some h,intS_natAbs hn,natP_natD]
 congr 1; omega
theorem natP_intP {r : List UInt8} {n : Nat} (h : natP r = some n) : intP r = some (n : Int) := by
 rw [natP_some h]; exact natP_natD' n
theorem indexByte_idxOf : ∀ (s : List UInt8) (c : UInt8),Lib.indexByte s c = match s.idxOf? c with
  | some i => (i : Int)
  | none => -1
 | [],_ => rfl
 | b :: l,c => by
  unfold Lib.indexByte
  rw [List.idxOf?_cons,indexByte_idxOf l c]
  by_cases h : b = c
  ·subst h; simp
  ·have h' : (b == c) = false := by simpa using h
   rw [h']
   simp only [Bool.false_eq_true,if_false]
   cases l.idxOf? c with
   | none => simp
   | some i =>
    have hn : ¬ (((i : Int) == -1) = true) := by rw [beq_iff_eq]; omega
    simp only [Option.map_some]
    rw [if_neg hn,Int.natCast_add]; rfl
def chkR (s : List UInt8) : Int := match ratP s with
 | some q => if (natD q.num.natAbs).length ≤ 200 ∧ (natD q.den).length ≤ 200 then 0 else 2
 | none => 2
noncomputable def Tryz.ratF3 (f : FuncId) (args : List AV) : Option AV :=
 match f,args with
 | 112,[.str s,.str t] => match ratP s,ratP t with
  | some a,some b => if (natD a.num.natAbs).length ≤ 9 ∧ (natD a.den).length ≤ 9 ∧ (natD b.num.natAbs).length ≤ 9 ∧ (natD b.den).length ≤ 9 then some (.int .i64 (cmpQ a b)) else none
  | _,_ => none
 | 169,[.str s,.str t] => match ratP s,ratP t with
  | some a,some b => if (natD a.num.natAbs).length ≤ 9 ∧ (natD a.den).length ≤ 9 ∧ (natD b.num.natAbs).length ≤ 9 ∧ (natD b.den).length ≤ 9 then some (.str (ratS (a + b))) else none
  | _,_ => none
 | 119,[.str s,.str t] => match ratP s,ratP t with
  | some a,some b => if (natD a.num.natAbs).length ≤ 9 ∧ (natD a.den).length ≤ 9 ∧ (natD b.num.natAbs).length ≤ 9 ∧ (natD b.den).length ≤ 9 then some (.str (ratS (a * b))) else none
  | _,_ => none
 | f,args => Tryz.ratF2 f args
theorem Tryz.rat3_ok : OracleOk Tryz.prog (pureO Tryz.ratF3) := pureO_ok fun f args v h mem => by
 unfold Tryz.ratF3 at h
 split at h
 ·split at h
  ·rename_i m n hm hn
   split at h
   ·rename_i hc
    cases h
    rw [ratP_some hm,ratP_some hn]
    exact Tryz.aCompareR m n ⟨hc.1,hc.2.1⟩ ⟨hc.2.2.1,hc.2.2.2⟩ mem
   ·cases h
  ·cases h
 ·split at h
  ·rename_i m n hm hn
   split at h
   ·rename_i hc
    cases h
    rw [ratP_some hm,ratP_some hn]
    exact Tryz.aAddR m n ⟨hc.1,hc.2.1⟩ ⟨hc.2.2.1,hc.2.2.2⟩ mem
   ·cases h
  ·cases h
 ·split at h
  ·rename_i m n hm hn
   split at h
   ·rename_i hc
    cases h
    rw [ratP_some hm,ratP_some hn]
    exact Tryz.aMulR m n ⟨hc.1,hc.2.1⟩ ⟨hc.2.2.1,hc.2.2.2⟩ mem
   ·cases h
  ·cases h
 ·have := Tryz.rat2_ok.fn _ _ mem ⟨v,none,[]⟩ (by unfold pureO; simp only; rw [h])
  simpa [CallRes.mem] using this
theorem Tryz.aSubR (a b : Rat) (ha : fine a) (hb : fine b) (mem : Mem) :
  ACallsTo Tryz.prog 115 [.str (ratS a),.str (ratS b)] mem (.str (ratS (a - b))) mem := by
 have hG : fnOf Tryz.prog 115 = some Tryz.f115 := by kernel_rfl
 refine Tryz.run Tryz.rat3_ok (lv := fun _ => []) (K := 1) rfl rfl ?_ mem
 have lb := fine_len hb
 obtain ⟨a1,a2⟩ := ha
 obtain ⟨b1,b2⟩ := hb
 have e : a + -b = a - b := (Rat.sub_eq_add_neg a b).symm
 simp [callFn,hG,Tryz.f115,pureO,Tryz.ratF3,Tryz.ratF2,Tryz.ratF1,ratP_ratS,lb,a1,a2,b1,b2,e]
theorem inv_num_pos {b : Rat} (h : 0 < b.num) : b⁻¹.num = (b.den : Int) ∧ b⁻¹.den = b.num.natAbs := by
 rw [Rat.num_inv,Rat.den_inv,Int.sign_eq_one_of_pos h,if_neg (by omega)]
 exact ⟨Int.one_mul _,rfl⟩
theorem inv_num_neg {b : Rat} (h : b.num < 0) : b⁻¹.num = -(b.den : Int) ∧ b⁻¹.den = b.num.natAbs := by
 rw [Rat.num_inv,Rat.den_inv,Int.sign_eq_neg_one_of_neg h,if_neg (by omega)]
 exact ⟨by omega,rfl⟩
theorem Tryz.aDivR (a b : Rat) (hb0 : b ≠ 0) (ha : fine a) (hb : fine b) (mem : Mem) :
  ACallsTo Tryz.prog 170 [.str (ratS a),.str (ratS b)] mem (.tuple [.str (ratS (a / b)),.int .i64 0]) mem := by
 have hG : fnOf Tryz.prog 170 = some Tryz.f170 := by kernel_rfl
 refine Tryz.run Tryz.rat3_ok (lv := fun _ => []) (K := 1) rfl rfl ?_ mem
 have lb := fine_len hb
 obtain ⟨a1,a2⟩ := ha
 obtain ⟨b1,b2⟩ := hb
 have hn : b.num ≠ 0 := fun e => hb0 (num_zero.1 e)
 have hbz : (ratS b == [48]) = false := by rw [ratS_beq_zero]; simpa using hb0
 have e : a * b⁻¹ = a / b := (Rat.div_def a b).symm
 obtain ⟨m,hm⟩ : ∃ m,m = b.num.natAbs := ⟨_,rfl⟩
 rw [← hm] at b1
 have lm : (natD m).length ≤ 1000000000 := by omega
 have ld : (natD b.den).length ≤ 1000000000 := by omega
 have fi : (natD b⁻¹.num.natAbs).length ≤ 9 ∧ (natD b⁻¹.den).length ≤ 9 := by
  rcases Int.lt_or_gt_of_ne hn with h | h
  ·obtain ⟨i1,i2⟩ := inv_num_neg h
   rw [i1,i2,Int.natAbs_neg,Int.natAbs_natCast,← hm]; exact ⟨b2,b1⟩
  ·obtain ⟨i1,i2⟩ := inv_num_pos h
   rw [i1,i2,Int.natAbs_natCast,← hm]; exact ⟨b2,b1⟩
 have inv1 := fun h => inv_num_neg (b := b) h
 have inv2 := fun h => inv_num_pos (b := b) h
 obtain ⟨w,hw⟩ : ∃ w,w = b⁻¹ := ⟨_,rfl⟩
 rw [← hw] at fi e inv1 inv2
 obtain ⟨f1,f2⟩ := fi
 rcases Int.lt_or_gt_of_ne hn with h | h
 ·obtain ⟨i1,i2⟩ := inv1 h
  have hg : (ratS b)[0]? = some 45 := by rw [ratS_of_neg h]; rfl
  have hin : intS (-b.num) = natD m := by rw [intS_natAbs (by omega),Int.natAbs_neg,hm]
  have ln : (intS b.num).length ≤ 1000000000 := by have := intS_length b.num; rw [← hm] at this; omega
  have ln2 : (intS (-(b.den : Int))).length ≤ 1000000000 := by
   have := intS_length (-(b.den : Int))
   rw [Int.natAbs_neg,Int.natAbs_natCast] at this; omega
  by_cases hm1 : m = 1
  ·have hj : intS (-(b.den : Int)) = ratS w := by
    unfold ratS; rw [if_pos (by rw [i2,← hm,hm1]),i1]
   have hp := congrArg intP hj
   rw [intP_intS] at hp
   have hp := hp.symm
   have l1 : (natD 1).length ≤ 1000000000 := by decide
   have lj : (ratS w).length ≤ 1000000000 := by rw [← hj]; first | exact ln2 | exact ld
   simp [callFn,hG,Tryz.f170,hbz,pureO,Tryz.ratF3,Tryz.ratF2,Tryz.ratF1,Tryz.intF3,Tryz.intF2,ratP_ratS,intP_intS,natP_natD,natP_natD',lb,hg,hin,ln,ln2,lm,ld,hm1,hj,hp,l1,lj,a1,a2,f1,f2,e]
  ·have hj : intS (-(b.den : Int)) ++ 47 :: natD m = ratS w := by
    unfold ratS; rw [if_neg (by rw [i2,← hm]; exact hm1),i1,i2,← hm]
   simp [callFn,hG,Tryz.f170,hbz,pureO,Tryz.ratF3,Tryz.ratF2,Tryz.ratF1,Tryz.intF3,Tryz.intF2,ratP_ratS,intP_intS,natP_natD,natP_natD',lb,hg,hin,ln,ln2,lm,ld,hm1,hj,a1,a2,f1,f2,e]
 ·obtain ⟨i1,i2⟩ := inv2 h
  obtain ⟨c,r,hc,hd⟩ := ratS_head (q := b) (by omega)
  have hg : (ratS b)[0]? = some c := by rw [hc]; rfl
  have hc45 := isD_ne_minus hd
  have hin : intS b.num = natD m := by rw [intS_natAbs (by omega),hm]
  by_cases hm1 : m = 1
  ·have hj : intS (b.den : Int) = ratS w := by
    unfold ratS; rw [if_pos (by rw [i2,← hm,hm1]),i1]
   have hp := congrArg intP hj
   rw [intP_intS] at hp
   have hp := hp.symm
   have l1 : (natD 1).length ≤ 1000000000 := by decide
   have lj : (ratS w).length ≤ 1000000000 := by rw [← hj]; first | exact ln2 | exact ld
   simp [callFn,hG,Tryz.f170,hbz,pureO,Tryz.ratF3,Tryz.ratF2,Tryz.ratF1,ratP_ratS,intP_intS,natP_natD,natP_natD',lb,hg,hc45,hin,lm,ld,hm1,hj,hp,l1,lj,a1,a2,f1,f2,e]
  ·have hj : intS (b.den : Int) ++ 47 :: natD m = ratS w := by
    unfold ratS; rw [if_neg (by rw [i2,← hm]; exact hm1),i1,i2,← hm]
   simp [callFn,hG,Tryz.f170,hbz,pureO,Tryz.ratF3,Tryz.ratF2,Tryz.ratF1,ratP_ratS,intP_intS,natP_natD,natP_natD',lb,hg,hc45,hin,lm,ld,hm1,hj,a1,a2,f1,f2,e]
theorem chkR_none {s : List UInt8} (h : s.idxOf? 47 = none) : chkR s = if okI s then 0 else 2 := by
 unfold chkR ratP okI
 rw [h]
 cases hn : intP s with
 | none => simp
 | some n =>
  have : (natD 1).length ≤ 200 := by decide
  simp [this]
theorem chkR_bad1 {s : List UInt8} {i : Nat} (h : s.idxOf? 47 = some i) (h1 : okI (s.take i) = false) : chkR s = 2 := by
 unfold chkR ratP
 rw [h]
 unfold okI at h1
 cases hn : intP (s.take i) with
 | none => simp [hn]
 | some n =>
  rw [hn] at h1
  simp only [decide_eq_false_iff_not] at h1
  simp only [hn]
  cases hd : natP (s.drop (i + 1)) with
  | none => simp [hd]
  | some d =>
   simp only [hd,ratOf]
   by_cases hc : 1 < d ∧ n.natAbs.gcd d = 1
   ·rw [dif_pos hc]
    simp only
    rw [if_neg (by intro h; exact h1 h.1)]
   ·rw [dif_neg hc]
theorem chkR_bad2 {s : List UInt8} {i : Nat} (h : s.idxOf? 47 = some i) (h1 : okI (s.drop (i + 1)) = false) : chkR s = 2 := by
 unfold chkR ratP
 rw [h]
 unfold okI at h1
 cases hn : intP (s.take i) with
 | none => simp [hn]
 | some n =>
  simp only [hn]
  cases hd : natP (s.drop (i + 1)) with
  | none => simp [hd]
  | some d =>
   rw [natP_intP hd] at h1
   simp only [decide_eq_false_iff_not,Int.natAbs_natCast] at h1
   simp only [hd,ratOf]
   by_cases hc : 1 < d ∧ n.natAbs.gcd d = 1
   ·rw [dif_pos hc]
    simp only
    rw [if_neg (by intro h; exact h1 h.2)]
   ·rw [dif_neg hc]
theorem chkR_slash {s : List UInt8} {i : Nat} {n d : Int} (h : s.idxOf? 47 = some i) (hn : intP (s.take i) = some n) (hd : intP (s.drop (i + 1)) = some d) (hn2 : (natD n.natAbs).length ≤ 200) (hd2 : (natD d.natAbs).length ≤ 200) :
  chkR s = if 1 < d ∧ n.natAbs.gcd d.natAbs = 1 then 0 else 2 := by
 unfold chkR ratP
 rw [h]
 simp only [hn]
 by_cases h0 : 0 ≤ d
 ·rw [intP_nat hd h0]
  simp only [ratOf]
  have e : d.toNat = d.natAbs := by omega
  rw [e]
  by_cases hc : 1 < d ∧ n.natAbs.gcd d.natAbs = 1
  ·rw [if_pos hc,dif_pos ⟨by omega,hc.2⟩]
   simp only
   rw [if_pos ⟨hn2,hd2⟩]
  ·rw [if_neg hc,dif_neg (fun e => hc ⟨by omega,e.2⟩)]
 ·have : natP (s.drop (i + 1)) = none := by
   cases hx : natP (s.drop (i + 1)) with
   | none => rfl
   | some u =>
    rw [natP_intP hx] at hd
    cases hd; omega
  rw [this]
  rw [if_neg (fun e => by omega)]
set_option maxHeartbeats 1600000 in
theorem Tryz.aCheckR (s : List UInt8) (hl8 : s.length ≤ 18) (mem : Mem) :
  ACallsTo Tryz.prog 166 [.str s] mem (.int .i64 (chkR s)) mem := by
 have hG : fnOf Tryz.prog 166 = some Tryz.f166 := by kernel_rfl
 refine Tryz.run Tryz.rat3_ok (lv := fun _ => []) (K := 1) rfl rfl ?_ mem
 have hl : s.length ≤ 1000000000 := by omega
 have hi := indexByte_idxOf s 47
 cases hx : s.idxOf? 47 with
 | none =>
  rw [hx] at hi
  simp only at hi
  rw [chkR_none hx]
  cases ho : okI s with
  | true => simp [callFn,hG,Tryz.f166,pureO,Tryz.ratF3,Tryz.ratF2,Tryz.ratF1,Tryz.intF3,Tryz.intF2,Tryz.intF1,Tryz.strF,hl,hi,okT_okI,ho]
  | false => simp [callFn,hG,Tryz.f166,pureO,Tryz.ratF3,Tryz.ratF2,Tryz.ratF1,Tryz.intF3,Tryz.intF2,Tryz.intF1,Tryz.strF,hl,hi,okT_okI,ho]
 | some i =>
  rw [hx] at hi
  simp only at hi
  have hi0 : (0 : Int) ≤ i := by omega
  obtain ⟨a,ha⟩ : ∃ a,a = s.take i := ⟨_,rfl⟩
  obtain ⟨b,hb⟩ : ∃ b,b = s.drop (i + 1) := ⟨_,rfl⟩
  have la : a.length ≤ 1000000000 := by rw [ha,List.length_take]; omega
  have lb : b.length ≤ 1000000000 := by rw [hb,List.length_drop]; omega
  have la8 : a.length ≤ 18 := by rw [ha,List.length_take]; omega
  have lb8 : b.length ≤ 18 := by rw [hb,List.length_drop]; omega
  cases ho : okI a with
  | false =>
   rw [chkR_bad1 hx (by rw [← ha]; exact ho)]
   simp [callFn,hG,Tryz.f166,pureO,Tryz.ratF3,Tryz.ratF2,Tryz.ratF1,Tryz.intF3,Tryz.intF2,Tryz.intF1,Tryz.strF,hl,hi,hi0,← ha,← hb,la,lb,okT_okI,ho]
  | true =>
   cases ho2 : okI b with
   | false =>
    rw [chkR_bad2 hx (by rw [← hb]; exact ho2)]
    simp [callFn,hG,Tryz.f166,pureO,Tryz.ratF3,Tryz.ratF2,Tryz.ratF1,Tryz.intF3,Tryz.intF2,Tryz.intF1,Tryz.strF,hl,hi,hi0,← ha,← hb,la,lb,okT_okI,ho,ho2]
   | true =>
    have hn : ∃ n,intP a = some n ∧ (natD n.natAbs).length ≤ 200 := by
     unfold okI at ho
     cases hx : intP a with
     | none => rw [hx] at ho; cases ho
     | some n => rw [hx] at ho; exact ⟨n,rfl,by simpa using ho⟩
    have hd : ∃ n,intP b = some n ∧ (natD n.natAbs).length ≤ 200 := by
     unfold okI at ho2
     cases hx : intP b with
     | none => rw [hx] at ho2; cases ho2
     | some n => rw [hx] at ho2; exact ⟨n,rfl,by simpa using ho2⟩
    obtain ⟨n,hn,n2⟩ := hn
    obtain ⟨d,hd,d2⟩ := hd
    rw [chkR_slash hx (by rw [← ha]; exact hn) (by rw [← hb]; exact hd) n2 d2]
    have h1 : intP [49] = some 1 := rfl
    have hcmp : cmpI d 1 ≤ 0 ↔ ¬ 1 < d := by
     unfold cmpI
     split
     ·constructor <;> intro h <;> omega
     ·split <;> constructor <;> intro h <;> omega
    have ha0 : (a == [48]) = decide (n = 0) := by rw [intP_some hn,intS_beq_zero]
    by_cases c1 : 1 < d
    ·have c1' : ¬ cmpI d 1 ≤ 0 := fun e => hcmp.1 e c1
     by_cases c2 : n = 0
     ·have c3 : ¬ n.natAbs.gcd d.natAbs = 1 := by subst c2; simp; omega
      rw [if_neg (fun e => c3 e.2)]
      simp [callFn,hG,Tryz.f166,pureO,Tryz.ratF3,Tryz.ratF2,Tryz.ratF1,Tryz.intF3,Tryz.intF2,Tryz.intF1,Tryz.strF,hl,hi,hi0,← ha,← hb,la,lb,okT_okI,ho,ho2,hd,h1,c1',ha0,c2]
     ·by_cases c3 : n.natAbs.gcd d.natAbs = 1
      ·rw [if_pos ⟨c1,c3⟩]
       simp [callFn,hG,Tryz.f166,pureO,Tryz.ratF3,Tryz.ratF2,Tryz.ratF1,Tryz.intF3,Tryz.intF2,Tryz.intF1,Tryz.strF,hl,hi,hi0,← ha,← hb,la,lb,okT_okI,ho,ho2,hn,hd,h1,c1',ha0,c2,la8,lb8,natD_beq_one,c3]
      ·rw [if_neg (fun e => c3 e.2)]
       simp [callFn,hG,Tryz.f166,pureO,Tryz.ratF3,Tryz.ratF2,Tryz.ratF1,Tryz.intF3,Tryz.intF2,Tryz.intF1,Tryz.strF,hl,hi,hi0,← ha,← hb,la,lb,okT_okI,ho,ho2,hn,hd,h1,c1',ha0,c2,la8,lb8,natD_beq_one,c3]
    ·have c1' : cmpI d 1 ≤ 0 := hcmp.2 c1
     rw [if_neg (fun e => c1 e.1)]
     simp [callFn,hG,Tryz.f166,pureO,Tryz.ratF3,Tryz.ratF2,Tryz.ratF1,Tryz.intF3,Tryz.intF2,Tryz.intF1,Tryz.strF,hl,hi,hi0,← ha,← hb,la,lb,okT_okI,ho,ho2,hd,h1,c1']
noncomputable def Tryz.ratF4 (f : FuncId) (args : List AV) : Option AV :=
 match f,args with
 | 166,[.str s] => if s.length ≤ 18 then some (.int .i64 (chkR s)) else none
 | 115,[.str s,.str t] => match ratP s,ratP t with
  | some a,some b => if (natD a.num.natAbs).length ≤ 9 ∧ (natD a.den).length ≤ 9 ∧ (natD b.num.natAbs).length ≤ 9 ∧ (natD b.den).length ≤ 9 then some (.str (ratS (a - b))) else none
  | _,_ => none
 | 170,[.str s,.str t] => match ratP s,ratP t with
  | some a,some b => if b ≠ 0 ∧ (natD a.num.natAbs).length ≤ 9 ∧ (natD a.den).length ≤ 9 ∧ (natD b.num.natAbs).length ≤ 9 ∧ (natD b.den).length ≤ 9 then some (.tuple [.str (ratS (a / b)),.int .i64 0]) else none
  | _,_ => none
 | f,args => Tryz.ratF3 f args
theorem Tryz.rat4_ok : OracleOk Tryz.prog (pureO Tryz.ratF4) := pureO_ok fun f args v h mem => by
 unfold Tryz.ratF4 at h
 split at h
 ·split at h
  ·rename_i hc; cases h; exact Tryz.aCheckR _ hc mem
  ·cases h
 ·split at h
  ·rename_i m n hm hn
   split at h
   ·rename_i hc; cases h; rw [ratP_some hm,ratP_some hn]; exact Tryz.aSubR m n ⟨hc.1,hc.2.1⟩ ⟨hc.2.2.1,hc.2.2.2⟩ mem
   ·cases h
  ·cases h
 ·split at h
  ·rename_i m n hm hn
   split at h
   ·rename_i hc; cases h; rw [ratP_some hm,ratP_some hn]; exact Tryz.aDivR m n hc.1 ⟨hc.2.1,hc.2.2.1⟩ ⟨hc.2.2.2.1,hc.2.2.2.2⟩ mem
   ·cases h
  ·cases h
 ·have := Tryz.rat3_ok.fn _ _ mem ⟨v,none,[]⟩ (by unfold pureO; simp only; rw [h])
  simpa [CallRes.mem] using this
theorem chkR_rat {s : List UInt8} (h : chkR s = 0) : ∃ q,ratP s = some q ∧ s = ratS q ∧ (natD q.num.natAbs).length ≤ 200 ∧ (natD q.den).length ≤ 200 := by
 unfold chkR at h
 cases hq : ratP s with
 | none => rw [hq] at h; cases h
 | some q =>
  rw [hq] at h
  simp only at h
  split at h
  ·rename_i hc; exact ⟨q,rfl,ratP_some hq,hc.1,hc.2⟩
  ·cases h
end Go.Proofs
