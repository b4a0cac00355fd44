/- See I57. -/
import Derived.Test.YtahfjdgeebjiaaaGreatDoorI25
import Derived.Test.YtahfjdgeebjiaaaGreatDoorI27
import Derived.Test.YtahfjdgeebjiaaaGreatDoorI09
set_option linter.all false
namespace Go.Proofs
open Go.Eng
theorem Tryz.aSNeg (q : Rat) (hl : (ratS q).length ≤ 1000000000) (mem : Mem) : ACallsTo Tryz.prog 272 [.str (ratS q)] mem (.str (ratS (-q))) mem := by
 have hG : fnOf Tryz.prog 272 = some Tryz.f272 := by kernel_rfl
 refine Tryz.run (noOracle_ok _) (lv := fun _ => []) (K := 1) rfl rfl ?_ mem
 by_cases h0 : q = 0
 ·subst h0
  simp [callFn,hG,Tryz.f272,ratS_beq_zero]
 ·have hn : ¬ q.num = 0 := fun e => h0 (num_zero.1 e)
  by_cases h1 : q.num < 0
  ·have e := ratS_of_neg h1
   have hb : (45 :: ratS (-q) == [48]) = false := by rw [← e,ratS_beq_zero]; simpa using h0
   rw [e]
   have h3 : (1 : Int) ≤ ((ratS (-q)).length : Int) + 1 := by omega
   simp [callFn,hG,Tryz.f272,hb,h3]
  ·have e := ratS_neg_pos (q := q) (by omega)
   obtain ⟨c,r,e2,hc⟩ := ratS_head (q := q) (by omega)
   have hb : (c :: r == [48]) = false := by rw [← e2,ratS_beq_zero]; simpa using h0
   have h2 := isD_ne_minus hc
   rw [e,e2]
   rw [e2] at hl
   simp only [List.length_cons] at hl
   have h3 : 1 + (r.length + 1) ≤ 9223372036854775807 := by omega
   simp [callFn,hG,Tryz.f272,hb,h2,h3,maxInt]
noncomputable def Tryz.rsF3 (f : FuncId) (args : List AV) : Option AV :=
 match f,args with
 | 53,[.int .i64 n,.int .i64 d] => if 0 < d ∧ n.natAbs < 10 ^ 8 ∧ d.toNat < 10 ^ 8 then some (.str (ratS (mkRat n d.toNat))) else none
 | 78,[.str s,.str t] => match ratP s,ratP t with
  | some a,some b => if (ratS a).length ≤ 9 ∧ (ratS b).length ≤ 9 then some (.str (ratS (a + b))) else none
  | _,_ => none
 | 191,[.str s,.str t] => match ratP s,ratP t with
  | some a,some b => if (ratS a).length ≤ 9 ∧ (ratS b).length ≤ 9 then some (.str (ratS (a * b))) else none
  | _,_ => none
 | 272,[.str s] => match ratP s with
  | some a => if (ratS a).length ≤ 9 then some (.str (ratS (-a))) else none
  | none => none
 | _,_ => none
theorem Tryz.rs3_ok : OracleOk Tryz.prog (pureO Tryz.rsF3) := pureO_ok fun f args v h mem => by
 unfold Tryz.rsF3 at h
 split at h
 ·rename_i n d
  split at h
  ·rename_i hc
   cases h
   have := Tryz.aSOf n d.toNat (by omega) hc.2.1 hc.2.2 mem
   rw [Int.toNat_of_nonneg (by omega)] at this
   exact this
  ·cases h
 ·split at h
  ·rename_i m n hm hn
   split at h
   ·rename_i hc; cases h; rw [ratP_some hm,ratP_some hn]; exact Tryz.aSAdd m n hc.1 hc.2 mem
   ·cases h
  ·cases h
 ·split at h
  ·rename_i m n hm hn
   split at h
   ·rename_i hc; cases h; rw [ratP_some hm,ratP_some hn]; exact Tryz.aSMul m n hc.1 hc.2 mem
   ·cases h
  ·cases h
 ·split at h
  ·rename_i m hm
   split at h
   ·rename_i hc; cases h; rw [ratP_some hm]; exact Tryz.aSNeg m (by omega) mem
   ·cases h
  ·cases h
 ·cases h
theorem Tryz.aSSub (a b : Rat) (qa : (ratS a).length ≤ 9) (qb : (ratS b).length ≤ 9) (qn : (ratS (-b)).length ≤ 9) (mem : Mem) :
  ACallsTo Tryz.prog 190 [.str (ratS a),.str (ratS b)] mem (.str (ratS (a - b))) mem := by
 have hG : fnOf Tryz.prog 190 = some Tryz.f190 := by kernel_rfl
 refine Tryz.run Tryz.rs3_ok (lv := fun _ => []) (K := 1) rfl rfl ?_ mem
 have e : a + -b = a - b := (Rat.sub_eq_add_neg a b).symm
 simp [callFn,hG,Tryz.f190,pureO,Tryz.rsF3,ratP_ratS,qa,qb,qn,e]
def zS (n : Int) : List UInt8 := ratS (n : Rat)
theorem zS_len {n : Int} (h : n.natAbs < 10 ^ 4) : (ratS (n : Rat)).length ≤ 9 := by
 have e : ratS (n : Rat) = intS n := by
  unfold ratS
  simp
 rw [e]
 have h1 := intS_length n
 have h2 : (natD n.natAbs).length ≤ 4 := natD_length_le (by omega) h
 omega
noncomputable def Tryz.rsF4 (f : FuncId) (args : List AV) : Option AV :=
 match f,args with
 | 190,[.str s,.str t] => match ratP s,ratP t with
  | some a,some b => if (ratS a).length ≤ 9 ∧ (ratS b).length ≤ 9 ∧ (ratS (-b)).length ≤ 9 then some (.str (ratS (a - b))) else none
  | _,_ => none
 | f,args => Tryz.rsF3 f args
theorem Tryz.rs4_ok : OracleOk Tryz.prog (pureO Tryz.rsF4) := pureO_ok fun f args v h mem => by
 unfold Tryz.rsF4 at h
 split at h
 ·split at h
  ·rename_i m n hm hn
   split at h
   ·rename_i hc; cases h; rw [ratP_some hm,ratP_some hn]; exact Tryz.aSSub m n hc.1 hc.2.1 hc.2.2 mem
   ·cases h
  ·cases h
 ·have := Tryz.rs3_ok.fn _ _ mem ⟨v,none,[]⟩ (by unfold pureO; simp only; rw [h])
  simpa [CallRes.mem] using this
theorem mul_small {a b : Int} (ha : a.natAbs ≤ 30) (hb : b.natAbs ≤ 30) : (a * b).natAbs ≤ 900 := by
 rw [Int.natAbs_mul]
 exact Nat.mul_le_mul ha hb
theorem Tryz.aMinor (a b c d : Int) (ha : a.natAbs ≤ 30) (hb : b.natAbs ≤ 30) (hc : c.natAbs ≤ 30) (hd : d.natAbs ≤ 30) (mem : Mem) :
  ACallsTo Tryz.prog 127 [.str (zS a),.str (zS b),.str (zS c),.str (zS d)] mem (.str (zS (a * d - b * c))) mem := by
 have hG : fnOf Tryz.prog 127 = some Tryz.f127 := by kernel_rfl
 have p1 := mul_small ha hd
 have p2 := mul_small hb hc
 have e1 : (a : Rat) * (d : Rat) = ((a * d : Int) : Rat) := (Rat.intCast_mul a d).symm
 have e2 : (b : Rat) * (c : Rat) = ((b * c : Int) : Rat) := (Rat.intCast_mul b c).symm
 obtain ⟨x,hx⟩ : ∃ x,x = a * d := ⟨_,rfl⟩
 obtain ⟨y,hy⟩ : ∃ x,x = b * c := ⟨_,rfl⟩
 rw [← hx] at p1 e1 ⊢
 rw [← hy] at p2 e2 ⊢
 have e3 : (x : Rat) - (y : Rat) = ((x - y : Int) : Rat) := (Rat.intCast_sub x y).symm
 obtain ⟨z,hz⟩ : ∃ z,z = x - y := ⟨_,rfl⟩
 rw [← hz] at e3 ⊢
 have l1 := zS_len (n := a) (by omega)
 have l2 := zS_len (n := b) (by omega)
 have l3 := zS_len (n := c) (by omega)
 have l4 := zS_len (n := d) (by omega)
 have l5 := zS_len (n := x) (by omega)
 have l6 := zS_len (n := y) (by omega)
 have l7 : (ratS (-(y : Rat))).length ≤ 9 := by
  rw [← Rat.intCast_neg]
  exact zS_len (n := -y) (by omega)
 refine Tryz.run Tryz.rs4_ok (lv := fun _ => []) (K := 1) rfl rfl ?_ mem
 simp [callFn,hG,Tryz.f127,pureO,Tryz.rsF4,Tryz.rsF3,zS,ratP_ratS,l1,l2,l3,l4,l5,l6,l7,e1,e2,e3]
abbrev Z3 := Int × Int × Int
def zA (v : Z3) : AV := .agg [.str (zS v.1),.str (zS v.2.1),.str (zS v.2.2)]
def z3Le (n : Nat) (v : Z3) : Prop := v.1.natAbs ≤ n ∧ v.2.1.natAbs ≤ n ∧ v.2.2.natAbs ≤ n
instance (n : Nat) (v : Z3) : Decidable (z3Le n v) := inferInstanceAs (Decidable (v.1.natAbs ≤ n ∧ v.2.1.natAbs ≤ n ∧ v.2.2.natAbs ≤ n))
theorem wrap_sm {n : Int} (h0 : -1000000 ≤ n) (h1 : n ≤ 1000000) : IntKind.i64.wrap n = n := by rw [wrap_i64 (by omega) (by omega)]
def crossZ (a b : Z3) : Z3 := (a.2.1 * b.2.2 - a.2.2 * b.2.1,a.2.2 * b.1 - a.1 * b.2.2,a.1 * b.2.1 - a.2.1 * b.1)
theorem zS_inj {a b : Int} (h : zS a = zS b) : a = b := by
 have := ratS_inj h
 exact_mod_cast this
theorem zS_zero (n : Int) : (zS n == [48]) = decide (n = 0) := by
 have h0 : zS 0 = [48] := rfl
 by_cases h : n = 0
 ·subst h; rfl
 ·rw [decide_eq_false h]
  have : zS n ≠ [48] := fun e => h (zS_inj (e.trans h0.symm))
  simpa using this
def zeroZ (v : Z3) : Bool := decide (v.1 = 0) && decide (v.2.1 = 0) && decide (v.2.2 = 0)
theorem Tryz.aZeroZ (v : Z3) (mem : Mem) : ACallsTo Tryz.prog 76 [zA v] mem (.bool (zeroZ v)) mem := by
 have hG : fnOf Tryz.prog 76 = some Tryz.f76 := by kernel_rfl
 refine Tryz.run (noOracle_ok _) (lv := fun _ => []) (K := 1) rfl rfl ?_ mem
 obtain ⟨a,b,c⟩ := v
 have ea := zS_zero a
 have eb := zS_zero b
 have ec := zS_zero c
 unfold zeroZ zA
 simp only
 obtain ⟨A,hA⟩ : ∃ A,A = zS a := ⟨_,rfl⟩
 obtain ⟨B,hB⟩ : ∃ A,A = zS b := ⟨_,rfl⟩
 obtain ⟨C,hC⟩ : ∃ A,A = zS c := ⟨_,rfl⟩
 rw [← hA] at ea ⊢
 rw [← hB] at eb ⊢
 rw [← hC] at ec ⊢
 rw [← ea,← eb,← ec]
 cases h1 : (A == [48]) <;> cases h2 : (B == [48]) <;> cases h3 : (C == [48]) <;> simp [callFn,hG,Tryz.f76,h1,h2,h3]
noncomputable def Tryz.rsF5 (f : FuncId) (args : List AV) : Option AV :=
 match f,args with
 | 127,[.str s,.str t,.str u,.str v] => match ratP s,ratP t,ratP u,ratP v with
  | some a,some b,some c,some d => if (a.den = 1 ∧ b.den = 1 ∧ c.den = 1 ∧ d.den = 1) ∧ a.num.natAbs ≤ 30 ∧ b.num.natAbs ≤ 30 ∧ c.num.natAbs ≤ 30 ∧ d.num.natAbs ≤ 30 then some (.str (zS (a.num * d.num - b.num * c.num))) else none
  | _,_,_,_ => none
 | _,_ => none
theorem int_of_den {q : Rat} (h : q.den = 1) : q = (q.num : Rat) := Rat.ext rfl h
theorem Tryz.rs5_ok : OracleOk Tryz.prog (pureO Tryz.rsF5) := pureO_ok fun f args v h mem => by
 unfold Tryz.rsF5 at h
 split at h
 ·split at h
  ·rename_i a b c d ha hb hc hd
   split at h
   ·rename_i hcond
    obtain ⟨⟨d1,d2,d3,d4⟩,c1,c2,c3,c4⟩ := hcond
    cases h
    rw [ratP_some ha,ratP_some hb,ratP_some hc,ratP_some hd]
    have := Tryz.aMinor a.num b.num c.num d.num c1 c2 c3 c4 mem
    unfold zS at this ⊢
    rw [← int_of_den d1,← int_of_den d2,← int_of_den d3,← int_of_den d4] at this
    exact this
   ·cases h
  ·cases h
 ·cases h
set_option maxRecDepth 8192 in
set_option maxHeartbeats 3200000 in
theorem Tryz.aCrossZ (a b : Z3) (ha : z3Le 30 a) (hb : z3Le 30 b) (mem : Mem) : ACallsTo Tryz.prog 79 [zA a,zA b] mem (zA (crossZ a b)) mem := by
 have hG : fnOf Tryz.prog 79 = some Tryz.f79 := by kernel_rfl
 obtain ⟨a1,a2,a3⟩ := a
 obtain ⟨b1,b2,b3⟩ := b
 obtain ⟨h1,h2,h3⟩ := ha
 obtain ⟨h4,h5,h6⟩ := hb
 simp only at h1 h2 h3 h4 h5 h6
 refine Tryz.run Tryz.rs5_ok (lv := fun _ => []) (K := 1) rfl rfl ?_ mem
 obtain ⟨ops,hops⟩ : ∃ ops,drawsF Tryz.f79 = [ops] := ⟨_,rfl⟩
 have hbs := draws_one hops (l := [0,1,0,4,0,16,0,64,255,0,512,0,2048,0,8192,0,32768,131071,0,262144,0,1048576,0,4194304,0,16777216,67108863,134217727,268435455]) (by kernel_rfl)
 have hab : allBef [0,1,0,4,0,16,0,64,255,0,512,0,2048,0,8192,0,32768,131071,0,262144,0,1048576,0,4194304,0,16777216,67108863,134217727,268435455] 28 = true := by decide
 simp [drawsF,drawsC,Tryz.f79] at hops
 subst hops
 have hp : ∀ n : Int,ratP (zS n) = some (n : Rat) := fun n => ratP_ratS _
 unfold zA crossZ
 simp only
 obtain ⟨A1,e1⟩ : ∃ x,x = zS a1 := ⟨_,rfl⟩
 obtain ⟨A2,e2⟩ : ∃ x,x = zS a2 := ⟨_,rfl⟩
 obtain ⟨A3,e3⟩ : ∃ x,x = zS a3 := ⟨_,rfl⟩
 obtain ⟨B1,e4⟩ : ∃ x,x = zS b1 := ⟨_,rfl⟩
 obtain ⟨B2,e5⟩ : ∃ x,x = zS b2 := ⟨_,rfl⟩
 obtain ⟨B3,e6⟩ : ∃ x,x = zS b3 := ⟨_,rfl⟩
 have p1 : ratP A1 = some (a1 : Rat) := by rw [e1]; exact hp _
 have p2 : ratP A2 = some (a2 : Rat) := by rw [e2]; exact hp _
 have p3 : ratP A3 = some (a3 : Rat) := by rw [e3]; exact hp _
 have p4 : ratP B1 = some (b1 : Rat) := by rw [e4]; exact hp _
 have p5 : ratP B2 = some (b2 : Rat) := by rw [e5]; exact hp _
 have p6 : ratP B3 = some (b3 : Rat) := by rw [e6]; exact hp _
 rw [← e1,← e2,← e3,← e4,← e5,← e6]
 obtain ⟨C1,f1⟩ : ∃ x,x = zS (a2 * b3 - a3 * b2) := ⟨_,rfl⟩
 obtain ⟨C2,f2⟩ : ∃ x,x = zS (a3 * b1 - a1 * b3) := ⟨_,rfl⟩
 obtain ⟨C3,f3⟩ : ∃ x,x = zS (a1 * b2 - a2 * b1) := ⟨_,rfl⟩
 rw [← f1,← f2,← f3]
 simp [callFn,hG,Tryz.f79,-runDraw,runDraw_light hbs,runDrawL,lightAll,lightRec,hab,pureO,Tryz.rsF5,p1,p2,p3,p4,p5,p6,h1,h2,h3,h4,h5,h6,← f1,← f2,← f3,aBuild,fieldPlaces,Nat.testBit]
theorem mkRat_one (n : Int) : mkRat n 1 = (n : Rat) := by
 have := Rat.mkRat_self (n : Rat)
 exact this
theorem Tryz.aLOf (n : Int) (hn : n.natAbs < 10 ^ 8) (mem : Mem) : ACallsTo Tryz.prog 46 [.int .i64 n] mem (.str (zS n)) mem := by
 have hG : fnOf Tryz.prog 46 = some Tryz.f46 := by kernel_rfl
 refine Tryz.run Tryz.rs3_ok (lv := fun _ => []) (K := 1) rfl rfl ?_ mem
 have h : n.natAbs < 100000000 := hn
 have e := mkRat_one n
 simp [callFn,hG,Tryz.f46,pureO,Tryz.rsF3,h,e,zS]
noncomputable def Tryz.dlF1 (f : FuncId) (args : List AV) : Option AV :=
 match f,args with
 | 46,[.int .i64 n] => if n.natAbs < 10 ^ 8 then some (.str (zS n)) else none
 | _,_ => none
theorem Tryz.dl1_ok : OracleOk Tryz.prog (pureO Tryz.dlF1) := pureO_ok fun f args v h mem => by
 unfold Tryz.dlF1 at h
 split at h
 ·split at h
  ·rename_i hc; cases h; exact Tryz.aLOf _ hc mem
  ·cases h
 ·cases h
theorem Tryz.aLSpot (v : Z3) (hv : z3Le 10000 v) (mem : Mem) : ACallsTo Tryz.prog 26 [.int .i64 v.1,.int .i64 v.2.1,.int .i64 v.2.2] mem (zA v) mem := by
 have hG : fnOf Tryz.prog 26 = some Tryz.f26 := by kernel_rfl
 refine Tryz.run Tryz.dl1_ok (lv := fun _ => []) (K := 1) rfl rfl ?_ mem
 obtain ⟨a,b,c⟩ := v
 obtain ⟨h1,h2,h3⟩ := hv
 simp only at h1 h2 h3
 have g1 : a.natAbs < 100000000 := by omega
 have g2 : b.natAbs < 100000000 := by omega
 have g3 : c.natAbs < 100000000 := by omega
 simp [callFn,hG,Tryz.f26,pureO,Tryz.dlF1,zA,g1,g2,g3,aBuild,fieldPlaces]
def mod3 (v : Z3) : Z3 := (v.1.tmod 3,v.2.1.tmod 3,v.2.2.tmod 3)
def normalZ (v : Z3) : Z3 := if zeroZ (mod3 v) then (0,0,1) else mod3 v
def acrossZ (n b : Z3) : Z3 := if zeroZ (crossZ n b) then (if zeroZ (crossZ n (1,0,0)) then (if zeroZ (crossZ n (0,1,0)) then (0,0,0) else crossZ n (0,1,0)) else crossZ n (1,0,0)) else crossZ n b
theorem tmod3 (x : Int) : -2 ≤ x.tmod 3 ∧ x.tmod 3 ≤ 2 := by
 have h1 := Int.tmod_lt_of_pos x (show (0 : Int) < 3 by decide)
 have h2 : -3 < x.tmod 3 := by
  have := Int.tmod_lt_of_pos (-x) (show (0 : Int) < 3 by decide)
  rw [Int.neg_tmod] at this
  omega
 omega
theorem mod3_le (v : Z3) : z3Le 2 (mod3 v) := by
 obtain ⟨a,b,c⟩ := v
 have h1 := tmod3 a
 have h2 := tmod3 b
 have h3 := tmod3 c
 unfold z3Le mod3
 simp only
 omega
theorem normalZ_le (v : Z3) : z3Le 2 (normalZ v) := by
 unfold normalZ
 split
 ·exact ⟨by decide,by decide,by decide⟩
 ·exact mod3_le v
theorem normalZ_ne (v : Z3) : zeroZ (normalZ v) = false := by
 unfold normalZ
 split
 ·rfl
 ·rename_i h; simpa using h
noncomputable def Tryz.dlF2 (f : FuncId) (args : List AV) : Option AV :=
 match f,args with
 | 26,[.int .i64 a,.int .i64 b,.int .i64 c] => if a.natAbs ≤ 10000 ∧ b.natAbs ≤ 10000 ∧ c.natAbs ≤ 10000 then some (zA (a,b,c)) else none
 | 76,[.agg [.str s,.str t,.str u]] => match ratP s,ratP t,ratP u with
  | some a,some b,some c => if a.den = 1 ∧ b.den = 1 ∧ c.den = 1 then some (.bool (zeroZ (a.num,b.num,c.num))) else none
  | _,_,_ => none
 | 79,[.agg [.str s,.str t,.str u],.agg [.str s',.str t',.str u']] => match ratP s,ratP t,ratP u,ratP s',ratP t',ratP u' with
  | some a,some b,some c,some d,some e,some f => if (a.den = 1 ∧ b.den = 1 ∧ c.den = 1 ∧ d.den = 1 ∧ e.den = 1 ∧ f.den = 1) ∧ z3Le 30 (a.num,b.num,c.num) ∧ z3Le 30 (d.num,e.num,f.num) then some (zA (crossZ (a.num,b.num,c.num) (d.num,e.num,f.num))) else none
  | _,_,_,_,_,_ => none
 | f,args => Tryz.dlF1 f args
theorem Tryz.dl2_ok : OracleOk Tryz.prog (pureO Tryz.dlF2) := pureO_ok fun f args v h mem => by
 unfold Tryz.dlF2 at h
 split at h
 ·split at h
  ·rename_i hc; cases h; exact Tryz.aLSpot (_,_,_) hc mem
  ·cases h
 ·split at h
  ·rename_i a b c ha hb hc
   split at h
   ·rename_i hcond
    obtain ⟨d1,d2,d3⟩ := hcond
    cases h
    rw [ratP_some ha,ratP_some hb,ratP_some hc]
    have := Tryz.aZeroZ (a.num,b.num,c.num) mem
    unfold zA zS at this
    simp only at this
    rw [← int_of_den d1,← int_of_den d2,← int_of_den d3] at this
    exact this
   ·cases h
  ·cases h
 ·split at h
  ·rename_i a b c d e f ha hb hc hd he hf
   split at h
   ·rename_i hcond
    obtain ⟨⟨d1,d2,d3,d4,d5,d6⟩,c1,c2⟩ := hcond
    cases h
    rw [ratP_some ha,ratP_some hb,ratP_some hc,ratP_some hd,ratP_some he,ratP_some hf]
    have := Tryz.aCrossZ (a.num,b.num,c.num) (d.num,e.num,f.num) c1 c2 mem
    unfold zA at this
    simp only at this
    have k : ∀ q : Rat,q.den = 1 → zS q.num = ratS q := fun q hq => by unfold zS; rw [← int_of_den hq]
    rw [k a d1,k b d2,k c d3,k d d4,k e d5,k f d6] at this
    exact this
   ·cases h
  ·cases h
 ·have := Tryz.dl1_ok.fn _ _ mem ⟨v,none,[]⟩ (by unfold pureO; simp only; rw [h])
  simpa [CallRes.mem] using this
theorem ratP_zS (n : Int) : ratP (zS n) = some (n : Rat) := ratP_ratS _
theorem zS_1 : zS 1 = [49] := rfl
set_option maxHeartbeats 1600000 in
theorem Tryz.aLNormal (v : Z3) (hv : z3Le 200 v) (mem : Mem) : ACallsTo Tryz.prog 50 [.agg [.int .i8 v.1,.int .i8 v.2.1,.int .i8 v.2.2]] mem (zA (normalZ v)) mem := by
 have hG : fnOf Tryz.prog 50 = some Tryz.f50 := by kernel_rfl
 refine Tryz.run Tryz.dl2_ok (lv := fun _ => []) (K := 1) rfl rfl ?_ mem
 have hm := mod3_le v
 unfold normalZ
 obtain ⟨a,b,c⟩ := v
 obtain ⟨h1,h2,h3⟩ := hv
 unfold mod3 at hm ⊢
 simp only at h1 h2 h3 hm ⊢
 have wa : IntKind.i64.wrap a = a := wrap_sm (by omega) (by omega)
 have wb : IntKind.i64.wrap b = b := wrap_sm (by omega) (by omega)
 have wc : IntKind.i64.wrap c = c := wrap_sm (by omega) (by omega)
 obtain ⟨x,hx⟩ : ∃ x,x = a.tmod 3 := ⟨_,rfl⟩
 obtain ⟨y,hy⟩ : ∃ x,x = b.tmod 3 := ⟨_,rfl⟩
 obtain ⟨z,hz⟩ : ∃ x,x = c.tmod 3 := ⟨_,rfl⟩
 rw [← hx,← hy,← hz] at hm ⊢
 obtain ⟨g1,g2,g3⟩ := hm
 simp only at g1 g2 g3
 have g1' : x.natAbs ≤ 10000 := by omega
 have g2' : y.natAbs ≤ 10000 := by omega
 have g3' : z.natAbs ≤ 10000 := by omega
 have hX := ratP_zS x
 have hY := ratP_zS y
 have hZ := ratP_zS z
 have e0 : zS 0 = [48] := rfl
 cases hzero : zeroZ (x,y,z) with
 | true =>
  have hz0 := hzero
  unfold zeroZ at hz0
  simp only [Bool.and_eq_true,decide_eq_true_eq] at hz0
  obtain ⟨⟨rfl,rfl⟩,rfl⟩ := hz0
  have h48 : ratP [48] = some ((0 : Int) : Rat) := ratP_zS 0
  simp [callFn,hG,Tryz.f50,pureO,Tryz.dlF2,wa,wb,wc,← hx,← hy,← hz,zA,hX,hzero,e0,zS_1,h48]
 | false =>
  simp [callFn,hG,Tryz.f50,pureO,Tryz.dlF2,wa,wb,wc,← hx,← hy,← hz,zA,g1',g2',g3',hX,hY,hZ,hzero]
theorem crossZ_le {a b : Z3} (ha : z3Le 2 a) (hb : z3Le 2 b) : z3Le 8 (crossZ a b) := by
 obtain ⟨a1,a2,a3⟩ := a
 obtain ⟨b1,b2,b3⟩ := b
 obtain ⟨h1,h2,h3⟩ := ha
 obtain ⟨h4,h5,h6⟩ := hb
 simp only at h1 h2 h3 h4 h5 h6
 have m : ∀ x y : Int,x.natAbs ≤ 2 → y.natAbs ≤ 2 → (x * y).natAbs ≤ 4 := fun x y hx hy => by
  rw [Int.natAbs_mul]; exact Nat.mul_le_mul hx hy
 unfold crossZ z3Le
 simp only
 have p1 := m a2 b3 h2 h6
 have p2 := m a3 b2 h3 h5
 have p3 := m a3 b1 h3 h4
 have p4 := m a1 b3 h1 h6
 have p5 := m a1 b2 h1 h5
 have p6 := m a2 b1 h2 h4
 omega
set_option maxRecDepth 8192 in
set_option maxHeartbeats 6400000 in
theorem Tryz.aLAcross (n b : Z3) (hn : z3Le 2 n) (hb : z3Le 2 b) (mem : Mem) : ACallsTo Tryz.prog 52 [zA n,zA b] mem (zA (acrossZ n b)) mem := by
 have hG : fnOf Tryz.prog 52 = some Tryz.f52 := by kernel_rfl
 refine Tryz.run Tryz.dl2_ok (lv := fun _ => [13]) (K := 9) rfl rfl ?_ mem
 have l0 : z3Le 2 (1,0,0) := by decide
 have l1 : z3Le 2 (0,1,0) := by decide
 have c1 := crossZ_le hn hb
 have c2 := crossZ_le hn l0
 have c3 := crossZ_le hn l1
 have hn30 : z3Le 30 n := ⟨by have := hn.1; omega,by have := hn.2.1; omega,by have := hn.2.2; omega⟩
 have hb30 : z3Le 30 b := ⟨by have := hb.1; omega,by have := hb.2.1; omega,by have := hb.2.2; omega⟩
 have h030 : z3Le 30 (1,0,0) := by decide
 have h130 : z3Le 30 (0,1,0) := by decide
 unfold acrossZ
 obtain ⟨C1,e1⟩ : ∃ c,c = crossZ n b := ⟨_,rfl⟩
 obtain ⟨C2,e2⟩ : ∃ c,c = crossZ n (1,0,0) := ⟨_,rfl⟩
 obtain ⟨C3,e3⟩ : ∃ c,c = crossZ n (0,1,0) := ⟨_,rfl⟩
 rw [← e1,← e2,← e3]
 obtain ⟨n1,n2,n3⟩ := n
 obtain ⟨b1,b2,b3⟩ := b
 obtain ⟨p1,p2,p3⟩ := C1
 obtain ⟨q1,q2,q3⟩ := C2
 obtain ⟨r1,r2,r3⟩ := C3
 have z0 : zS 0 = [48] := rfl
 have z1 : zS 1 = [49] := rfl
 have h0 : ratP [48] = some ((0 : Int) : Rat) := ratP_zS 0
 have h1 : ratP [49] = some ((1 : Int) : Rat) := ratP_zS 1
 have w1 : IntKind.i64.wrap 1 = 1 := rfl
 have w2 : IntKind.i64.wrap 2 = 2 := rfl
 have w3 : IntKind.i64.wrap 3 = 3 := rfl
 have w2' : IntKind.i64.wrap (1 + 1) = 2 := rfl
 have w3' : IntKind.i64.wrap (2 + 1) = 3 := rfl
 have hp := ratP_zS
 cases y1 : zeroZ (p1,p2,p3) with
 | false =>
  simp [callFn,hG,Tryz.f52,pureO,Tryz.dlF2,zA,hp,h0,h1,z0,z1,hn30,hb30,h030,h130,← e1,y1,execC_loop,iter,w1,w2,w3,w2',w3',Nat.testBit]
 | true =>
  cases y2 : zeroZ (q1,q2,q3) with
  | false =>
   simp [callFn,hG,Tryz.f52,pureO,Tryz.dlF2,zA,hp,h0,h1,z0,z1,hn30,hb30,h030,h130,← e1,← e2,y1,y2,execC_loop,iter,w1,w2,w3,w2',w3',Nat.testBit]
  | true =>
   cases y3 : zeroZ (r1,r2,r3) with
   | false =>
    simp [callFn,hG,Tryz.f52,pureO,Tryz.dlF2,zA,hp,h0,h1,z0,z1,hn30,hb30,h030,h130,← e1,← e2,← e3,y1,y2,y3,execC_loop,iter,w1,w2,w3,w2',w3',Nat.testBit]
   | true =>
    simp [callFn,hG,Tryz.f52,pureO,Tryz.dlF2,zA,hp,h0,h1,z0,z1,hn30,hb30,h030,h130,← e1,← e2,← e3,y1,y2,y3,execC_loop,iter,w1,w2,w3,w2',w3',Nat.testBit]
def dotZ (a b : Z3) : Int := a.1 * b.1 + a.2.1 * b.2.1 + a.2.2 * b.2.2
theorem dot_cross (n b : Z3) : dotZ (crossZ n b) n = 0 := by
 obtain ⟨a1,a2,a3⟩ := n
 obtain ⟨b1,b2,b3⟩ := b
 unfold dotZ crossZ
 simp only
 grind
theorem dot_across (n b : Z3) : dotZ (acrossZ n b) n = 0 := by
 unfold acrossZ
 split
 ·split
  ·split
   ·simp [dotZ]
   ·exact dot_cross _ _
  ·exact dot_cross _ _
 ·exact dot_cross _ _
theorem acrossZ_le {n b : Z3} (hn : z3Le 2 n) (hb : z3Le 2 b) : z3Le 8 (acrossZ n b) := by
 unfold acrossZ
 split
 ·split
  ·split
   ·decide
   ·exact crossZ_le hn (by decide)
  ·exact crossZ_le hn (by decide)
 ·exact crossZ_le hn hb
theorem chkZ {n : Int} (h : n.natAbs < 10 ^ 4) : chkR (zS n) = 0 := by
 have : dg 4 1 (n : Rat) := dg_int h
 exact chkR_dg (this.mono (by omega) (by omega))
theorem numE_z {v : Z3} (h : z3Le 99 v) : numE [zS v.1,zS v.2.1,zS v.2.2] = 0 := by
 obtain ⟨h1,h2,h3⟩ := h
 simp [numE,chkZ (n := v.1) (by omega),chkZ (n := v.2.1) (by omega),chkZ (n := v.2.2) (by omega)]
set_option maxHeartbeats 1600000 in
theorem Tryz.aAlong (v n : Z3) (hv : z3Le 99 v) (hn : z3Le 99 n) (hd : dotZ v n = 0) (M : Mem) : ACallsTo Tryz.prog 283 [zA v,zA n] M (.int .i64 0) M := by
 have hG : fnOf Tryz.prog 283 = some Tryz.f283 := by kernel_rfl
 have hE := numE_z hv
 obtain ⟨v1,v2,v3⟩ := v
 obtain ⟨n1,n2,n3⟩ := n
 obtain ⟨h1,h2,h3⟩ := hv
 obtain ⟨h4,h5,h6⟩ := hn
 simp only at h1 h2 h3 h4 h5 h6 hE
 have k : ∀ m : Nat,m ≤ 99 → (natD m).length ≤ 2 := fun m hm => natD_length_le (k := 2) (by omega) (by omega)
 have k1 : (natD 1).length ≤ 1 := natD_length_le (k := 1) (by omega) (by omega)
 have l1 := k _ h1
 have l2 := k _ h2
 have l3 := k _ h3
 have l4 := k _ h4
 have l5 := k _ h5
 have l6 := k _ h6
 have s1 := zS_len (n := v1) (by omega)
 have s2 := zS_len (n := v2) (by omega)
 have s3 := zS_len (n := v3) (by omega)
 have s1' : (zS v1).length ≤ 18 := by unfold zS; omega
 have s2' : (zS v2).length ≤ 18 := by unfold zS; omega
 have s3' : (zS v3).length ≤ 18 := by unfold zS; omega
 have hdot : (v1 : Rat) * (n1 : Rat) + (v2 : Rat) * (n2 : Rat) + (v3 : Rat) * (n3 : Rat) = 0 := by
  unfold dotZ at hd
  simp only at hd
  rw [← Rat.intCast_mul,← Rat.intCast_mul,← Rat.intCast_mul,← Rat.intCast_add,← Rat.intCast_add,hd]
  rfl
 have hp := ratP_zS
 have z0 : ratS 0 = [48] := rfl
 refine Tryz.run Tryz.vcF2_ok (lv := fun _ => []) (K := 1) rfl rfl ?_ M
 simp [callFn,hG,Tryz.f283,pureO,Tryz.vcF2,zA,hp,hE,k1,l1,l2,l3,l4,l5,l6,s1',s2',s3',hdot,z0]
set_option maxHeartbeats 1600000 in
theorem Tryz.aCheckPlane (n : Z3) (o : Int) (hn : z3Le 99 n) (hz : zeroZ n = false) (ho : o.natAbs ≤ 1000) (M : Mem) : ACallsTo Tryz.prog 282 [.agg [.str (zS n.1),.str (zS n.2.1),.str (zS n.2.2),.str (zS o)]] M (.int .i64 0) M := by
 have hG : fnOf Tryz.prog 282 = some Tryz.f282 := by kernel_rfl
 obtain ⟨n1,n2,n3⟩ := n
 obtain ⟨h4,h5,h6⟩ := hn
 simp only at h4 h5 h6
 have s1 := zS_len (n := n1) (by omega)
 have s2 := zS_len (n := n2) (by omega)
 have s3 := zS_len (n := n3) (by omega)
 have s4 := zS_len (n := o) (by omega)
 have s1' : (zS n1).length ≤ 18 := by unfold zS; omega
 have s2' : (zS n2).length ≤ 18 := by unfold zS; omega
 have s3' : (zS n3).length ≤ 18 := by unfold zS; omega
 have s4' : (zS o).length ≤ 18 := by unfold zS; omega
 have hE : numE [zS n1,zS n2,zS n3,zS o] = 0 := by
  simp [numE,chkZ (n := n1) (by omega),chkZ (n := n2) (by omega),chkZ (n := n3) (by omega),chkZ (n := o) (by omega)]
 have e1 := zS_zero n1
 have e2 := zS_zero n2
 have e3 := zS_zero n3
 have hb : ((zS n1 == [48] && zS n2 == [48]) && zS n3 == [48]) = false := by rw [e1,e2,e3]; exact hz
 refine Tryz.run Tryz.vcO2_ok (lv := fun _ => []) (K := 1) rfl rfl ?_ M
 simp only at hb ⊢
 obtain ⟨A,hA⟩ : ∃ A,A = zS n1 := ⟨_,rfl⟩
 obtain ⟨B,hB⟩ : ∃ A,A = zS n2 := ⟨_,rfl⟩
 obtain ⟨C,hC⟩ : ∃ A,A = zS n3 := ⟨_,rfl⟩
 obtain ⟨D,hD⟩ : ∃ A,A = zS o := ⟨_,rfl⟩
 rw [← hA] at s1' hE hb ⊢
 rw [← hB] at s2' hE hb ⊢
 rw [← hC] at s3' hE hb ⊢
 rw [← hD] at s4' hE ⊢
 simp [callFn,hG,Tryz.f282,Tryz.vcO2,Oracle.or,pureO,Tryz.vcF2,Tryz.vcO1,sliceS,strsOf,hE,hb,s1',s2',s3',s4']
end Go.Proofs
