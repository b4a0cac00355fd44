/- See K54. -/
import Derived.Test.YtiopbpbcgccngaaGreatDoorK44
import Derived.Test.YtiopbpbcgccngaaGreatDoorK30
import Derived.Test.YtiopbpbcgccngaaGreatDoorK32
import Derived.Test.YtiopbpbcgccngaaGreatDoorK33
set_option linter.all false
namespace Go.Proofs
open Go.Eng
noncomputable def Tryz.rgF5 (f : FuncId) (args : List AV) : Option AV :=
 match f,args with
 | 171,[.str s,.str t] => match intP s,intP t with
  | some a,some b => if (natD a.natAbs).length ≤ 10000 ∧ (natD b.natAbs).length ≤ 10000 then some (.str (intS (a + b))) else none
  | _,_ => none
 | f,args => Tryz.rgF4 f args
theorem Tryz.rg5_ok : OracleOk Tryz.prog (pureO Tryz.rgF5) := pureO_ok fun f args v h mem => by
 unfold Tryz.rgF5 at h
 split at h
 ·split at h
  ·rename_i m n hm hn
   split at h
   ·rename_i hc; cases h; rw [intP_some hm,intP_some hn]; exact Tryz.aRAdd m n hc.1 hc.2 mem
   ·cases h
  ·cases h
 ·have := Tryz.rg4_ok.fn _ _ mem ⟨v,none,[]⟩ (by unfold pureO; simp only; rw [h])
  simpa [CallRes.mem] using this
theorem Tryz.aRSub (a b : Int) (ha : (natD a.natAbs).length ≤ 10000) (hb : (natD b.natAbs).length ≤ 10000) (mem : Mem) : ACallsTo Tryz.prog 129 [.str (intS a),.str (intS b)] mem (.str (intS (a - b))) mem := by
 have hG : fnOf Tryz.prog 129 = some Tryz.f129 := by kernel_rfl
 refine Tryz.run Tryz.rg5_ok (lv := fun _ => []) (K := 1) rfl rfl ?_ mem
 have hb1 : (natD b.natAbs).length ≤ 1000000000 := by omega
 have e : a + -b = a - b := Int.sub_eq_add_neg.symm
 simp [callFn,hG,Tryz.f129,pureO,Tryz.rgF5,Tryz.rgF4,Tryz.rgF3,intP_intS,hb1,ha,hb,e]
noncomputable def Tryz.rgF6 (f : FuncId) (args : List AV) : Option AV :=
 match f,args with
 | 129,[.str s,.str t] => match intP s,intP t with
  | some a,some b => if (natD a.natAbs).length ≤ 10000 ∧ (natD b.natAbs).length ≤ 10000 then some (.str (intS (a - b))) else none
  | _,_ => none
 | f,args => Tryz.rgF5 f args
theorem Tryz.rg6_ok : OracleOk Tryz.prog (pureO Tryz.rgF6) := pureO_ok fun f args v h mem => by
 unfold Tryz.rgF6 at h
 split at h
 ·split at h
  ·rename_i m n hm hn
   split at h
   ·rename_i hc; cases h; rw [intP_some hm,intP_some hn]; exact Tryz.aRSub m n hc.1 hc.2 mem
   ·cases h
  ·cases h
 ·have := Tryz.rg5_ok.fn _ _ mem ⟨v,none,[]⟩ (by unfold pureO; simp only; rw [h])
  simpa [CallRes.mem] using this
theorem Tryz.aRCompare (a b : Int) (ha : (natD a.natAbs).length ≤ 10000) (hb : (natD b.natAbs).length ≤ 10000) (mem : Mem) : ACallsTo Tryz.prog 95 [.str (intS a),.str (intS b)] mem (.int .i64 (sgnI (a - b))) mem := by
 have hG : fnOf Tryz.prog 95 = some Tryz.f95 := by kernel_rfl
 refine Tryz.run Tryz.rg6_ok (lv := fun _ => []) (K := 1) rfl rfl ?_ mem
 obtain ⟨c,hc⟩ : ∃ c,c = a - b := ⟨_,rfl⟩
 simp [callFn,hG,Tryz.f95,pureO,Tryz.rgF6,Tryz.rgF5,Tryz.rgF4,Tryz.rgF3,intP_intS,ha,hb,← hc]
theorem tdiv_exact {a : Int} {b : Nat} (hb : 0 < b) (h : 0 ≤ a ∨ a.natAbs % b = 0) : a.tdiv b = a / b ∧ a.tmod b = ((a.natAbs % b : Nat) : Int) := by
 by_cases h0 : 0 ≤ a
 ·obtain ⟨n,rfl⟩ : ∃ n : Nat,a = n := ⟨a.toNat,by omega⟩
  rw [tdiv_nat,tmod_nat,Int.natAbs_natCast,Int.natCast_ediv]
  exact ⟨rfl,rfl⟩
 ·have h1 : a.natAbs % b = 0 := by rcases h with h | h <;> omega
  have h2 : a = -((a.natAbs / b * b : Nat) : Int) := by
   have := Nat.div_add_mod a.natAbs b
   rw [h1,Nat.add_zero,Nat.mul_comm] at this
   omega
  obtain ⟨q,hq⟩ : ∃ q,q = a.natAbs / b := ⟨_,rfl⟩
  rw [← hq] at h2
  rw [h1,h2,Int.natCast_mul,← Int.neg_mul]
  have hb' : (b : Int) ≠ 0 := by omega
  exact ⟨by rw [Int.mul_tdiv_cancel _ hb',Int.mul_ediv_cancel _ hb'],by rw [Int.mul_tmod_left]; rfl⟩
set_option maxHeartbeats 3200000 in
theorem Tryz.aRDivMod (a : Int) (b : Nat) (hb0 : 0 < b) (hab : 0 ≤ a ∨ a.natAbs % b = 0) (ha : (natD a.natAbs).length ≤ 10000) (hb : (natD b).length ≤ 10000) (mem : Mem) :
  ACallsTo Tryz.prog 131 [.str (intS a),.str (natD b)] mem (.tuple [.str (intS (a / b)),.str (natD (a.natAbs % b))]) mem := by
 have hG : fnOf Tryz.prog 131 = some Tryz.f131 := by kernel_rfl
 refine Tryz.run Tryz.roO_ok (lv := fun _ => []) (K := 1) rfl rfl ?_ mem
 have hpb : intP (natD b) = some (b : Int) := intP_intS (b : Int)
 have hpx : Lib.hasPrefix (natD b) [45] = false := by
  have := hasPrefix_intS (b : Int)
  rw [show intS (b : Int) = natD b from rfl] at this
  rw [this]; simp
 have hpt : Lib.trimPrefix (natD b) [45] = natD b := by
  have := trimPrefix_intS (b : Int)
  rw [show intS (b : Int) = natD b from rfl,Int.natAbs_natCast] at this
  exact this
 have hcd := closeS_div hb0 hab
 have hte := tdiv_exact hb0 hab
 obtain ⟨n,hn⟩ : ∃ n,a.natAbs = n := ⟨_,rfl⟩
 rw [hn] at hcd hte ha hab ⊢
 have la1 : (natD n).length ≤ 1000000000 := by omega
 have lb1 : (natD b).length ≤ 1000000000 := by omega
 have hrlt : n % b < b := Nat.mod_lt _ hb0
 obtain ⟨q,hq⟩ : ∃ q,q = n / b := ⟨_,rfl⟩
 obtain ⟨r,hr⟩ : ∃ r,r = n % b := ⟨_,rfl⟩
 rw [← hq] at hcd
 rw [← hr] at hte hab hrlt ⊢
 obtain ⟨Z,hZ⟩ : ∃ Z,Z = a / (b : Int) := ⟨_,rfl⟩
 rw [← hZ] at hcd hte ⊢
 have hb0' : ¬ b = 0 := by omega
 by_cases hb17 : (natD n).length ≤ 17 ∧ (natD b).length ≤ 17
 ·obtain ⟨q1,q2⟩ := hb17
  have s1 : n < 10 ^ 17 := by
   have h1 := natD_lt_pow n
   have h2 : 10 ^ (natD n).length ≤ 10 ^ 17 := Nat.pow_le_pow_right (by omega) q1
   omega
  have s2 : b < 10 ^ 17 := by
   have h1 := natD_lt_pow b
   have h2 : 10 ^ (natD b).length ≤ 10 ^ 17 := Nat.pow_le_pow_right (by omega) q2
   omega
  have hZb : Z.natAbs ≤ n := by rw [hZ,← hn]; exact Int.natAbs_ediv_le_natAbs _ _
  have w1 : IntKind.i64.wrap (a.tdiv (b : Int)) = Z := by rw [hte.1]; exact wrap_i64 (by omega) (by omega)
  have w2 : IntKind.i64.wrap Z = Z := wrap_i64 (by omega) (by omega)
  have hf1 : fitsI Z = true := by unfold fitsI; simp; omega
  have hf2 : fitsI (r : Int) = true := by unfold fitsI; simp; omega
  have hrs : intS (r : Int) = natD r := rfl
  have hrn : ¬ (r : Int) < 0 := by omega
  simp [callFn,hG,Tryz.f131,Tryz.roO,Oracle.or,pureO,Tryz.rgF4,Tryz.rgF3,intP_intS,hpb,hn,la1,lb1,q1,q2,hb0',hte,w1,w2,hrn,hf1,hf2,hrs,Nat.testBit]
 ·have da := dig4_length n
  have db := dig4_length b
  have la2 : (natD n).length ≤ 1000000 := by omega
  have lb2 : (natD b).length ≤ 1000000 := by omega
  have va : lval 10000 (dig 10000 n) = n := lval_dig (by omega) _
  have vb : lval 10000 (dig 10000 b) = b := lval_dig (by omega) _
  have oa : lok 10000 (dig 10000 n) = true := lok_dig (by omega) _
  have ob : lok 10000 (dig 10000 b) = true := lok_dig (by omega) _
  have tb : ltrim (dig 10000 b) = dig 10000 b := ltrim_dig (by omega) _
  have hn0 : dig 10000 n = [] ↔ n = 0 := dig_eq_nil (by omega)
  obtain ⟨A,hA⟩ : ∃ A,A = dig 10000 n := ⟨_,rfl⟩
  obtain ⟨B,hB⟩ : ∃ B,B = dig 10000 b := ⟨_,rfl⟩
  rw [← hA] at da va oa hn0
  rw [← hB] at db vb ob tb
  have g1 : A.length ≤ 50000 := by omega
  have g2 : B.length ≤ 50000 := by omega
  have hr0 : closeS false r = natD r := closeS_false r
  obtain ⟨Q,hQ⟩ : ∃ Q,Q = dig 10000 q := ⟨_,rfl⟩
  obtain ⟨R,hR⟩ : ∃ R,R = dig 10000 r := ⟨_,rfl⟩
  have vq : lval 10000 Q = q := by rw [hQ]; exact lval_dig (by omega) _
  have oq : lok 10000 Q = true := by rw [hQ]; exact lok_dig (by omega) _
  have tq : ltrim Q = Q := by rw [hQ]; exact ltrim_dig (by omega) _
  have gq : Q.length ≤ 100000 := by
   have h1 := natD_length_mono (show q ≤ n by rw [hq]; exact Nat.div_le_self _ _)
   have h2 := dig4_length q
   rw [hQ]; omega
  have vr : lval 10000 R = r := by rw [hR]; exact lval_dig (by omega) _
  have or : lok 10000 R = true := by rw [hR]; exact lok_dig (by omega) _
  have tr : ltrim R = R := by rw [hR]; exact ltrim_dig (by omega) _
  have gr : R.length ≤ 100000 := by
   have h1 := natD_length_mono (show r ≤ b by omega)
   have h2 := dig4_length r
   rw [hR]; omega
  by_cases hA0 : A = []
  ·have hn00 := hn0.1 hA0
   have hq0 : q = 0 := by rw [hq,hn00]; exact Nat.zero_div _
   have hr00 : r = 0 := by rw [hr,hn00]; exact Nat.zero_mod _
   have ha0 : ¬ a < 0 := by omega
   rw [hq0] at hcd
   have hcd2 : intS Z = [48] := by rw [← hcd]; rfl
   have hrd : natD r = [48] := by rw [hr00]; exact natD_zero
   have e1 : ∀ l,sliceN .i64 (.cells true 1 [] :: l) (.slice 0 0 0 none) = some [] := fun l => sliceN_at (A := []) rfl (by simp) rfl
   have e2 : ∀ a0 a1 l,sliceN .i64 (a0 :: a1 :: .cells true 1 [] :: l) (.slice 2 0 0 none) = some [] := fun a0 a1 l => sliceN_at (A := []) rfl (by simp) rfl
   have k1 : lok 10000 [] = true := rfl
   have k2 : ltrim [] = [] := rfl
   have k3 : lval 10000 [] = 0 := rfl
   have k4 : ∀ mn,closeS mn 0 = [48] := fun mn => rfl
   have k5 : closeS false n = [48] := by rw [hn00]; rfl
   rw [hcd2,hrd]
   rw [hA0] at hA va
   clear hcd hr0 hQ hR
   by_cases q1 : (natD n).length ≤ 17
   ·have q2 : ¬ (natD b).length ≤ 17 := fun e => hb17 ⟨q1,e⟩
    simp [callFn,hG,Tryz.f131,Tryz.roO,Oracle.or,pureO,Tryz.rgF4,Tryz.rgF3,Tryz.rgF2,Tryz.rgF1,Tryz.strF,intP_intS,hpb,natP_natD,hn,la1,lb1,q1,q2,Tryz.rfO5,Tryz.rfO4,Tryz.rfO3,Tryz.rfO2,Tryz.rfO1,hasPrefix_intS,trimPrefix_intS,hpx,hpt,la2,lb2,← hA,← hB,rs0,rs1,rs2,rs3,oa,ob,tb,g1,g2,va,vb,hb0,hb0',← hq,← hr,hA0,hA0,e1,e2,k1,k2,k3,k4,k5,ha0]
   ·by_cases q2 : (natD b).length ≤ 17
    ·simp [callFn,hG,Tryz.f131,Tryz.roO,Oracle.or,pureO,Tryz.rgF4,Tryz.rgF3,Tryz.rgF2,Tryz.rgF1,Tryz.strF,intP_intS,hpb,natP_natD,hn,la1,lb1,q1,q2,Tryz.rfO5,Tryz.rfO4,Tryz.rfO3,Tryz.rfO2,Tryz.rfO1,hasPrefix_intS,trimPrefix_intS,hpx,hpt,la2,lb2,← hA,← hB,rs0,rs1,rs2,rs3,oa,ob,tb,g1,g2,va,vb,hb0,hb0',← hq,← hr,hA0,hA0,e1,e2,k1,k2,k3,k4,k5,ha0]
    ·simp [callFn,hG,Tryz.f131,Tryz.roO,Oracle.or,pureO,Tryz.rgF4,Tryz.rgF3,Tryz.rgF2,Tryz.rgF1,Tryz.strF,intP_intS,hpb,natP_natD,hn,la1,lb1,q1,q2,Tryz.rfO5,Tryz.rfO4,Tryz.rfO3,Tryz.rfO2,Tryz.rfO1,hasPrefix_intS,trimPrefix_intS,hpx,hpt,la2,lb2,← hA,← hB,rs0,rs1,rs2,rs3,oa,ob,tb,g1,g2,va,vb,hb0,hb0',← hq,← hr,hA0,hA0,e1,e2,k1,k2,k3,k4,k5,ha0]
  ·by_cases ha0 : a < 0
   ·have hr00 : r = 0 := by rcases hab with h | h <;> omega
    have hR0 : R = [] := by rw [hR,hr00]; exact dig_zero _
    have hRl : ¬ 0 < R.length := by rw [hR0]; simp
    have hcd' : closeS true q = intS Z := by rw [← hcd,decide_eq_true ha0]
    by_cases q1 : (natD n).length ≤ 17
    ·have q2 : ¬ (natD b).length ≤ 17 := fun e => hb17 ⟨q1,e⟩
     simp [callFn,hG,Tryz.f131,Tryz.roO,Oracle.or,pureO,Tryz.rgF4,Tryz.rgF3,Tryz.rgF2,Tryz.rgF1,Tryz.strF,intP_intS,hpb,natP_natD,hn,la1,lb1,q1,q2,Tryz.rfO5,Tryz.rfO4,Tryz.rfO3,Tryz.rfO2,Tryz.rfO1,hasPrefix_intS,trimPrefix_intS,hpx,hpt,la2,lb2,← hA,← hB,rs0,rs1,rs2,rs3,oa,ob,tb,g1,g2,va,vb,hb0,hb0',← hq,← hr,← hQ,← hR,vq,oq,tq,gq,vr,or,tr,gr,hr0,hA0,ha0,hRl,hcd']
    ·by_cases q2 : (natD b).length ≤ 17
     ·simp [callFn,hG,Tryz.f131,Tryz.roO,Oracle.or,pureO,Tryz.rgF4,Tryz.rgF3,Tryz.rgF2,Tryz.rgF1,Tryz.strF,intP_intS,hpb,natP_natD,hn,la1,lb1,q1,q2,Tryz.rfO5,Tryz.rfO4,Tryz.rfO3,Tryz.rfO2,Tryz.rfO1,hasPrefix_intS,trimPrefix_intS,hpx,hpt,la2,lb2,← hA,← hB,rs0,rs1,rs2,rs3,oa,ob,tb,g1,g2,va,vb,hb0,hb0',← hq,← hr,← hQ,← hR,vq,oq,tq,gq,vr,or,tr,gr,hr0,hA0,ha0,hRl,hcd']
     ·simp [callFn,hG,Tryz.f131,Tryz.roO,Oracle.or,pureO,Tryz.rgF4,Tryz.rgF3,Tryz.rgF2,Tryz.rgF1,Tryz.strF,intP_intS,hpb,natP_natD,hn,la1,lb1,q1,q2,Tryz.rfO5,Tryz.rfO4,Tryz.rfO3,Tryz.rfO2,Tryz.rfO1,hasPrefix_intS,trimPrefix_intS,hpx,hpt,la2,lb2,← hA,← hB,rs0,rs1,rs2,rs3,oa,ob,tb,g1,g2,va,vb,hb0,hb0',← hq,← hr,← hQ,← hR,vq,oq,tq,gq,vr,or,tr,gr,hr0,hA0,ha0,hRl,hcd']
   ·have hcd' : closeS false q = intS Z := by rw [← hcd,decide_eq_false ha0]
    by_cases q1 : (natD n).length ≤ 17
    ·have q2 : ¬ (natD b).length ≤ 17 := fun e => hb17 ⟨q1,e⟩
     simp [callFn,hG,Tryz.f131,Tryz.roO,Oracle.or,pureO,Tryz.rgF4,Tryz.rgF3,Tryz.rgF2,Tryz.rgF1,Tryz.strF,intP_intS,hpb,natP_natD,hn,la1,lb1,q1,q2,Tryz.rfO5,Tryz.rfO4,Tryz.rfO3,Tryz.rfO2,Tryz.rfO1,hasPrefix_intS,trimPrefix_intS,hpx,hpt,la2,lb2,← hA,← hB,rs0,rs1,rs2,rs3,oa,ob,tb,g1,g2,va,vb,hb0,hb0',← hq,← hr,← hQ,← hR,vq,oq,tq,gq,vr,or,tr,gr,hr0,hA0,ha0,hcd']
    ·by_cases q2 : (natD b).length ≤ 17
     ·simp [callFn,hG,Tryz.f131,Tryz.roO,Oracle.or,pureO,Tryz.rgF4,Tryz.rgF3,Tryz.rgF2,Tryz.rgF1,Tryz.strF,intP_intS,hpb,natP_natD,hn,la1,lb1,q1,q2,Tryz.rfO5,Tryz.rfO4,Tryz.rfO3,Tryz.rfO2,Tryz.rfO1,hasPrefix_intS,trimPrefix_intS,hpx,hpt,la2,lb2,← hA,← hB,rs0,rs1,rs2,rs3,oa,ob,tb,g1,g2,va,vb,hb0,hb0',← hq,← hr,← hQ,← hR,vq,oq,tq,gq,vr,or,tr,gr,hr0,hA0,ha0,hcd']
     ·simp [callFn,hG,Tryz.f131,Tryz.roO,Oracle.or,pureO,Tryz.rgF4,Tryz.rgF3,Tryz.rgF2,Tryz.rgF1,Tryz.strF,intP_intS,hpb,natP_natD,hn,la1,lb1,q1,q2,Tryz.rfO5,Tryz.rfO4,Tryz.rfO3,Tryz.rfO2,Tryz.rfO1,hasPrefix_intS,trimPrefix_intS,hpx,hpt,la2,lb2,← hA,← hB,rs0,rs1,rs2,rs3,oa,ob,tb,g1,g2,va,vb,hb0,hb0',← hq,← hr,← hQ,← hR,vq,oq,tq,gq,vr,or,tr,gr,hr0,hA0,ha0,hcd']
noncomputable def Tryz.rgF7 (f : FuncId) (args : List AV) : Option AV :=
 match f,args with
 | 131,[.str s,.str t] => match intP s,natP t with
  | some a,some b => if (natD a.natAbs).length ≤ 10000 ∧ (natD b).length ≤ 10000 ∧ 0 < b ∧ (0 ≤ a ∨ a.natAbs % b = 0) then some (.tuple [.str (intS (a / b)),.str (natD (a.natAbs % b))]) else none
  | _,_ => none
 | 95,[.str s,.str t] => match intP s,intP t with
  | some a,some b => if (natD a.natAbs).length ≤ 10000 ∧ (natD b.natAbs).length ≤ 10000 then some (.int .i64 (sgnI (a - b))) else none
  | _,_ => none
 | 93,[.str s] => if s.length ≤ 1000000000 then some (.bool (okI s)) else none
 | f,args => Tryz.rgF6 f args
theorem Tryz.rg7_ok : OracleOk Tryz.prog (pureO Tryz.rgF7) := pureO_ok fun f args v h mem => by
 unfold Tryz.rgF7 at h
 split at h
 ·split at h
  ·rename_i m n hm hn
   split at h
   ·rename_i hc; cases h; rw [intP_some hm,natP_some hn]; exact Tryz.aRDivMod m n hc.2.2.1 hc.2.2.2 hc.1 hc.2.1 mem
   ·cases h
  ·cases h
 ·split at h
  ·rename_i m n hm hn
   split at h
   ·rename_i hc; cases h; rw [intP_some hm,intP_some hn]; exact Tryz.aRCompare m n hc.1 hc.2 mem
   ·cases h
  ·cases h
 ·split at h
  ·rename_i hc; cases h; exact Tryz.aRRight _ hc mem
  ·cases h
 ·have := Tryz.rg6_ok.fn _ _ mem ⟨v,none,[]⟩ (by unfold pureO; simp only; rw [h])
  simpa [CallRes.mem] using this
theorem natD_beq_zero (n : Nat) : (natD n == [48]) = decide (n = 0) := by
 rw [Bool.eq_iff_iff,beq_iff_eq,decide_eq_true_eq]
 constructor
 ·intro e; exact natD_inj (e.trans (show [48] = natD 0 from rfl))
 ·rintro rfl; rfl
theorem Tryz.rgcd_loop {K : Nat} (x y : Nat) (hx : (natD x).length ≤ 10000) (hy : (natD y).length ≤ 10000) (hK : 2 * y + 1 < K) {b : Code} (hb : loopsF Tryz.f96 = [b]) :
  ∃ F : Env → Bool → Env,∀ env0 d,(Eng.look env0 0 = .str (natD x) ∧ Eng.look env0 1 = .str (natD y)) →
   execC (tyOf Tryz.prog) (fun _ => [0,1]) (pureO Tryz.rgF7) K 22 0 true (.loop b) ⟨env0,[],d⟩ = some (.exit 0,⟨F env0 d,[],d⟩) ∧ Eng.look (F env0 d) 0 = .str (natD (x.gcd y)) := by
 refine loop_rule rfl (fun env0 => Eng.look env0 0 = .str (natD x) ∧ Eng.look env0 1 = .str (natD y)) (fun _ env' => Eng.look env' 0 = .str (natD (x.gcd y))) ?_
 rintro env0 d ⟨h0,h1⟩
 have hn : normE [0,1] (writesC b) env0 ((0,.str (natD x)) :: (1,.str (natD y)) :: env0) = normE [0,1] (writesC b) env0 env0 := by simp [normE,h0,h1]
 rw [← hn]
 refine iter_ind (α := Nat × Nat) (fun s => ⟨normE [0,1] (writesC b) env0 ((0,.str (natD s.1)) :: (1,.str (natD s.2)) :: env0),[],d⟩)
  (fun s => s.2) (fun s => s.1.gcd s.2 = x.gcd y ∧ (natD s.1).length ≤ 10000 ∧ (natD s.2).length ≤ 10000) (.exit 0) _ d _ (by simp) ?_ K (x,y) ⟨rfl,hx,hy⟩ (by show y < K; omega)
 rintro ⟨a,c⟩ ⟨hg,ha,hc⟩
 simp only at hg ha hc ⊢
 clear hn
 simp [loopsF,loopsC,Tryz.f96] at hb
 by_cases hc0 : c = 0
 ·right
  subst hc0
  rw [Nat.gcd_zero_right] at hg
  rw [← hg]
  subst hb
  simp [natD_beq_zero]
 ·left
  have hcp : 0 < c := by omega
  have hlt : a % c < c := Nat.mod_lt _ hcp
  have hl2 : (natD (a % c)).length ≤ 10000 := by have := natD_length_mono (show a % c ≤ c by omega); omega
  refine ⟨(c,a % c),?_⟩
  refine exists_and_fin2 (show (c.gcd (a % c) = x.gcd y ∧ (natD c).length ≤ 10000 ∧ (natD (a % c)).length ≤ 10000) ∧ a % c < c from ⟨⟨by rw [← hg,Nat.gcd_comm a c,Nat.gcd_rec c a,Nat.gcd_comm],hc,hl2⟩,hlt⟩) ?_
  subst hb
  simp [natD_beq_zero,hc0,pureO,Tryz.rgF7,natP_natD',natP_natD,ha,hc,hcp]
theorem Tryz.aRGcd (a b : Int) (ha : (natD a.natAbs).length ≤ 10000) (hb : (natD b.natAbs).length ≤ 10000) (mem : Mem) : ACallsTo Tryz.prog 96 [.str (intS a),.str (intS b)] mem (.str (natD (a.natAbs.gcd b.natAbs))) mem := by
 have hG : fnOf Tryz.prog 96 = some Tryz.f96 := by kernel_rfl
 refine Tryz.run Tryz.rg7_ok (lv := fun _ => [0,1]) (K := 2 * b.natAbs + 2) rfl rfl ?_ mem
 obtain ⟨c,hbd⟩ : ∃ c,loopsF Tryz.f96 = [c] := ⟨_,rfl⟩
 obtain ⟨F,hF⟩ := Tryz.rgcd_loop (K := 2 * b.natAbs + 2) a.natAbs b.natAbs ha hb (by omega) hbd
 obtain ⟨K,hK⟩ : ∃ K,K = 2 * b.natAbs + 2 := ⟨_,rfl⟩
 rw [← hK] at hF ⊢
 simp [loopsF,loopsC,Tryz.f96] at hbd
 subst hbd
 simp [callFn,hG,Tryz.f96,pureO,Tryz.rgF7,Tryz.rgF6,Tryz.rgF5,Tryz.rgF4,Tryz.rgF3,intP_intS,hF]
theorem Tryz.aPParts (s : List UInt8) (hl : s.length ≤ 1000000000) (mem : Mem) : ACallsTo Tryz.prog 92 [.str s] mem (match s.idxOf? 47 with | some i => .tuple [.str (s.take i),.str (s.drop (i + 1))] | none => .tuple [.str s,.str [49]]) mem := by
 have hG : fnOf Tryz.prog 92 = some Tryz.f92 := by kernel_rfl
 refine Tryz.run Tryz.str_ok (lv := fun _ => []) (K := 1) rfl (by split <;> rfl) ?_ mem
 have hi := indexByte_idxOf s 47
 cases hx : s.idxOf? 47 with
 | none =>
  rw [hx] at hi
  simp only at hi
  simp [callFn,hG,Tryz.f92,pureO,Tryz.strF,hi]
 | some i =>
  rw [hx] at hi
  simp only at hi
  have hil : i < s.length := by
   have := (List.idxOf?_eq_some_iff.1 hx).1
   exact this
  have h0 : ¬ (i : Int) < 0 := by omega
  have h1 : (i : Int) ≤ (s.length : Int) := by omega
  have h1' : i ≤ s.length := by omega
  have w1 : IntKind.i64.wrap ((i : Int) + 1) = ((i + 1 : Nat) : Int) := by rw [wrap_i64 (by omega) (by omega)]; omega
  obtain ⟨j,hj⟩ : ∃ j,j = i + 1 := ⟨_,rfl⟩
  show _ = some (CallRes.mk (.tuple [.str (s.take i),.str (s.drop (i + 1))]) none [])
  rw [← hj] at w1 ⊢
  have h2 : (j : Int) ≤ (s.length : Int) := by omega
  have h2' : j ≤ s.length := by omega
  have htk : (s.drop j).take (s.length - j) = s.drop j := List.take_of_length_le (by simp)
  simp [callFn,hG,Tryz.f92,pureO,Tryz.strF,hi,h0,h1,h1',w1,h2,h2',htk,Nat.testBit]
theorem Tryz.aPPartsR (q : Rat) (hl : (ratS q).length ≤ 1000000000) (mem : Mem) : ACallsTo Tryz.prog 92 [.str (ratS q)] mem (.tuple [.str (intS q.num),.str (natD q.den)]) mem := by
 have h := Tryz.aPParts (ratS q) hl mem
 by_cases hd : q.den = 1
 ·have e : ratS q = intS q.num := by unfold ratS; rw [if_pos hd]
  have hi : (ratS q).idxOf? 47 = none := by rw [e]; exact idxOf_none (intS_no_slash _)
  rw [hi] at h
  have : natD q.den = [49] := by rw [hd]; rfl
  rw [this]
  rw [← e]
  exact h
 ·have e : ratS q = intS q.num ++ 47 :: natD q.den := by unfold ratS; rw [if_neg hd]
  have hi : (ratS q).idxOf? 47 = some (intS q.num).length := by rw [e]; exact idxOf_at (intS_no_slash _)
  rw [hi] at h
  have h1 : List.drop ((intS q.num).length + 1) (ratS q) = natD q.den := by rw [e,List.drop_append]; simp
  have h2 : List.take (intS q.num).length (ratS q) = intS q.num := by rw [e]; exact List.take_left' rfl
  simp only [h1,h2] at h
  exact h
theorem Tryz.psmall_loop {O : Oracle} {K : Nat} (n m : Int) (hK : m.natAbs < K) {b : Code} (hb : loopsF Tryz.f225 = [b]) :
  ∃ F : Env → Bool → Env,∀ env0 d,(Eng.look env0 9 = .int .i64 n ∧ Eng.look env0 10 = .int .i64 m) →
   execC (tyOf Tryz.prog) (fun _ => [9,10]) O K 55 0 true (.loop b) ⟨env0,[],d⟩ = some (.exit 0,⟨F env0 d,[],d⟩) ∧ (Eng.look (F env0 d) 9 = .int .i64 (euc K n m) ∧ Eng.look (F env0 d) 5 = Eng.look env0 5 ∧ Eng.look (F env0 d) 7 = Eng.look env0 7 ∧ Eng.look (F env0 d) 4 = Eng.look env0 4) := by
 refine loop_rule rfl (fun env0 => Eng.look env0 9 = .int .i64 n ∧ Eng.look env0 10 = .int .i64 m) (fun env0 env' => Eng.look env' 9 = .int .i64 (euc K n m) ∧ Eng.look env' 5 = Eng.look env0 5 ∧ Eng.look env' 7 = Eng.look env0 7 ∧ Eng.look env' 4 = Eng.look env0 4) ?_
 rintro env0 d ⟨h5,h6⟩
 have hn : normE [9,10] (writesC b) env0 ((9,.int .i64 n) :: (10,.int .i64 m) :: env0) = normE [9,10] (writesC b) env0 env0 := by simp [normE,h5,h6]
 rw [← hn]
 have key : ∀ (k : Nat) (x y : Int),y.natAbs < k → ∃ env',iter [9,10] (writesC b) env0 0 (execC (tyOf Tryz.prog) (fun _ => [9,10]) O K 55 0 true b) k ⟨normE [9,10] (writesC b) env0 ((9,.int .i64 x) :: (10,.int .i64 y) :: env0),[],d⟩ =
   some (.exit 0,⟨env',[],d⟩) ∧ Eng.look env' 9 = .int .i64 (euc k x y) ∧ Eng.look env' 5 = Eng.look env0 5 ∧ Eng.look env' 7 = Eng.look env0 7 ∧ Eng.look env' 4 = Eng.look env0 4 := by
  clear hn
  simp [loopsF,loopsC,Tryz.f225] at hb
  intro k
  induction k with
  | zero => intro x y h; omega
  | succ k ih =>
   intro x y hk
   by_cases hy : y = 0
   ·subst hb
    subst hy
    simp [iter,euc]
   ·have hlt : (x.tmod y).natAbs < k := by
     rw [Int.natAbs_tmod]
     have := Nat.mod_lt x.natAbs (show 0 < y.natAbs by omega)
     omega
    obtain ⟨env',e1,e2,e4⟩ := ih y (x.tmod y) hlt
    subst hb
    refine ⟨env',?_,by rw [e2,euc,if_neg hy],e4⟩
    rw [iter]
    simp [hy]
    simp at e1
    exact e1
 exact key K n m hK
theorem euc_nonneg : ∀ (k x y : Nat),0 ≤ euc k (x : Int) (y : Int) := by
 intro k
 induction k with
 | zero => intro x y; unfold euc; omega
 | succ k ih =>
  intro x y
  unfold euc
  split
  ·omega
  ·rw [tmod_nat]; exact ih y (x % y)
theorem Tryz.aPSmall (n : Int) (m : Nat) (hm0 : m ≠ 0) (hl1 : (intS n).length ≤ 18) (hl2 : (natD m).length ≤ 18) (mem : Mem) : ACallsTo Tryz.prog 225 [.str (intS n),.str (natD m)] mem (.str (ratS (mkRat n m))) mem := by
 have hG : fnOf Tryz.prog 225 = some Tryz.f225 := by kernel_rfl
 have hn := intS_small hl1
 have hm : m < 10 ^ 18 := by
  have h1 := natD_lt_pow m
  have h2 : 10 ^ (natD m).length ≤ 10 ^ 18 := Nat.pow_le_pow_right (by omega) hl2
  omega
 refine Tryz.run Tryz.str_ok (lv := fun _ => [9,10]) (K := m + 1) rfl rfl ?_ mem
 obtain ⟨b,hb⟩ : ∃ b,loopsF Tryz.f225 = [b] := ⟨_,rfl⟩
 obtain ⟨N,hN⟩ : ∃ N : Nat,N = n.natAbs := ⟨_,rfl⟩
 rw [← hN] at hn
 obtain ⟨F,hF⟩ := Tryz.psmall_loop (O := pureO Tryz.strF) (K := m + 1) (N : Int) (m : Int) (by simp) hb
 simp [loopsF,loopsC,Tryz.f225] at hb
 subst hb
 rw [ratS_mkRat n hm0,← hN]
 have hg := euc_natAbs (m + 1) (N : Int) (m : Int) (by simp)
 have hg0 := euc_nonneg (m + 1) N m
 generalize euc (m + 1) (N : Int) (m : Int) = gz at hF hg hg0
 rw [Int.natAbs_natCast,Int.natAbs_natCast] at hg
 obtain ⟨g,rfl⟩ : ∃ g : Nat,gz = g := ⟨gz.toNat,by omega⟩
 rw [Int.natAbs_natCast] at hg
 rw [← hg]
 have hgp : 0 < g := by rw [hg]; exact Nat.gcd_pos_of_pos_right _ (by omega)
 have hgn : g ∣ N := by rw [hg]; exact Nat.gcd_dvd_left _ _
 have te := tdiv_exact (a := n) hgp (.inr (by rw [← hN]; exact Nat.mod_eq_zero_of_dvd hgn))
 have hq1 : (n / (g : Int)).natAbs ≤ n.natAbs := Int.natAbs_ediv_le_natAbs _ _
 obtain ⟨Z,hZ⟩ : ∃ Z,Z = n / (g : Int) := ⟨_,rfl⟩
 rw [← hZ] at hq1 te ⊢
 obtain ⟨D,hD⟩ : ∃ D,D = m / g := ⟨_,rfl⟩
 have hDm : D ≤ m := by rw [hD]; exact Nat.div_le_self _ _
 rw [← hD]
 have w1 : IntKind.i64.wrap (n.tdiv (g : Int)) = Z := by rw [te.1]; exact wrap_i64 (by omega) (by omega)
 have w1' : IntKind.i64.wrap Z = Z := wrap_i64 (by omega) (by omega)
 have w2 : IntKind.i64.wrap ((m : Int).tdiv (g : Int)) = (D : Int) := by rw [tdiv_nat,← hD]; exact wrap_i64 (by omega) (by omega)
 have w2' : IntKind.i64.wrap ((m : Int) / (g : Int)) = (D : Int) := by rw [← Int.natCast_ediv,← hD]; exact wrap_i64 (by omega) (by omega)
 have hf1 : fitsI Z = true := by unfold fitsI; simp; omega
 have hf2 : fitsI (D : Int) = true := by unfold fitsI; simp; omega
 have hDs : intS (D : Int) = natD D := rfl
 have hg0' : ¬ g = 0 := by omega
 have lZ : (intS Z).length + 1 ≤ maxInt ∧ (intS Z).length + 1 + (natD D).length ≤ maxInt := by
  have h1 := intS_length Z
  have h2 := natD_length_le (u := Z.natAbs) (k := 20) (by omega) (by omega)
  have h3 := natD_length_le (u := D) (k := 20) (by omega) (by omega)
  unfold maxInt; omega
 obtain ⟨l1,l2⟩ := lZ
 have ha2 : Lib.atoi (natD m) = some (m : Int) := atoi_intS (m : Int)
 have hmn : ¬ (m : Int) < 0 := by omega
 have w0 : IntKind.i64.wrap (-n) = -n := wrap_i64 (by omega) (by omega)
 have hneg : n < 0 → -n = (N : Int) := by omega
 have hpos : ¬ n < 0 → n = (N : Int) := by omega
 by_cases h0 : n < 0
 ·have w0' : IntKind.i64.wrap (-n) = (N : Int) := by rw [w0]; exact hneg h0
  by_cases hD1 : D = 1
  ·have hD1I : (D : Int) = 1 := by omega
   rw [if_pos hD1]
   simp [callFn,hG,Tryz.f225,pureO,Tryz.strF,hl1,hl2,atoi_intS,ha2,hmn,h0,w0',hF,hg0',te,w1',w1,w2,w2',hD1I,hf1,Nat.testBit]
  ·have hD1I : ¬ (D : Int) = 1 := by omega
   rw [if_neg hD1]
   simp [callFn,hG,Tryz.f225,pureO,Tryz.strF,hl1,hl2,atoi_intS,ha2,hmn,h0,w0',hF,hg0',te,w1',w1,w2,w2',hD1I,hD1,hf1,hf2,hDs,l1,l2,Nat.testBit]
 ·have e := hpos h0
  rw [← e] at hF
  by_cases hD1 : D = 1
  ·have hD1I : (D : Int) = 1 := by omega
   rw [if_pos hD1]
   simp [callFn,hG,Tryz.f225,pureO,Tryz.strF,hl1,hl2,atoi_intS,ha2,hmn,h0, hF,hg0',te,w1',w1,w2,w2',hD1I,hf1,Nat.testBit]
  ·have hD1I : ¬ (D : Int) = 1 := by omega
   rw [if_neg hD1]
   simp [callFn,hG,Tryz.f225,pureO,Tryz.strF,hl1,hl2,atoi_intS,ha2,hmn,h0, hF,hg0',te,w1',w1,w2,w2',hD1I,hD1,hf1,hf2,hDs,l1,l2,Nat.testBit]
noncomputable def Tryz.rgF8 (f : FuncId) (args : List AV) : Option AV :=
 match f,args with
 | 96,[.str s,.str t] => match intP s,intP t with
  | some a,some b => if (natD a.natAbs).length ≤ 10000 ∧ (natD b.natAbs).length ≤ 10000 then some (.str (natD (a.natAbs.gcd b.natAbs))) else none
  | _,_ => none
 | 225,[.str s,.str t] => match intP s,natP t with
  | some n,some m => if m ≠ 0 ∧ (intS n).length ≤ 18 ∧ (natD m).length ≤ 18 then some (.str (ratS (mkRat n m))) else none
  | _,_ => none
 | 92,[.str s] => match ratP s with
  | some q => if s.length ≤ 1000000000 then some (.tuple [.str (intS q.num),.str (natD q.den)]) else none
  | none => none
 | f,args => Tryz.rgF7 f args
theorem Tryz.rg8_ok : OracleOk Tryz.prog (pureO Tryz.rgF8) := pureO_ok fun f args v h mem => by
 unfold Tryz.rgF8 at h
 split at h
 ·split at h
  ·rename_i m n hm hn
   split at h
   ·rename_i hc; cases h; rw [intP_some hm,intP_some hn]; exact Tryz.aRGcd m n hc.1 hc.2 mem
   ·cases h
  ·cases h
 ·split at h
  ·rename_i m n hm hn
   split at h
   ·rename_i hc; cases h; rw [intP_some hm,natP_some hn]; exact Tryz.aPSmall m n hc.1 hc.2.1 hc.2.2 mem
   ·cases h
  ·cases h
 ·split at h
  ·rename_i q hq
   split at h
   ·rename_i hl; cases h; rw [ratP_some hq] at hl ⊢; exact Tryz.aPPartsR q hl mem
   ·cases h
  ·cases h
 ·have := Tryz.rg7_ok.fn _ _ mem ⟨v,none,[]⟩ (by unfold pureO; simp only; rw [h])
  simpa [CallRes.mem] using this
noncomputable def Tryz.rgFR (f : FuncId) (args : List AV) : Option AV :=
 match f,args with
 | 92,[.str s] => if s.length ≤ 1000000000 then some (match s.idxOf? 47 with | some i => .tuple [.str (s.take i),.str (s.drop (i + 1))] | none => .tuple [.str s,.str [49]]) else none
 | f,args => Tryz.rgF8 f args
theorem Tryz.rgR_ok : OracleOk Tryz.prog (pureO Tryz.rgFR) := pureO_ok fun f args v h mem => by
 unfold Tryz.rgFR at h
 split at h
 ·split at h
  ·rename_i hc; cases h; exact Tryz.aPParts _ hc mem
  ·cases h
 ·have := Tryz.rg8_ok.fn _ _ mem ⟨v,none,[]⟩ (by unfold pureO; simp only; rw [h])
  simpa [CallRes.mem] using this
set_option maxHeartbeats 1600000 in
theorem Tryz.aPRight (s : List UInt8) (hl : s.length ≤ 1000000000) (mem : Mem) :
  ACallsTo Tryz.prog 51 [.str s] mem (.bool (chkR s == 0)) mem := by
 have hG : fnOf Tryz.prog 51 = some Tryz.f51 := by kernel_rfl
 refine Tryz.run Tryz.rgR_ok (lv := fun _ => []) (K := 1) rfl rfl ?_ mem
 have hi := indexByte_idxOf s 47
 cases hx : s.idxOf? 47 with
 | none =>
  rw [hx] at hi
  simp only at hi
  rw [chkR_none hx]
  have h49 : okI [49] = true := rfl
  cases ho : okI s with
  | true => simp [callFn,hG,Tryz.f51,pureO,Tryz.rgFR,Tryz.rgF8,Tryz.rgF7,Tryz.rgF6,Tryz.rgF5,Tryz.rgF4,Tryz.rgF3,Tryz.rgF2,Tryz.rgF1,Tryz.strF,hl,hi,hx,ho,h49]
  | false => simp [callFn,hG,Tryz.f51,pureO,Tryz.rgFR,Tryz.rgF8,Tryz.rgF7,Tryz.rgF6,Tryz.rgF5,Tryz.rgF4,Tryz.rgF3,Tryz.rgF2,Tryz.rgF1,Tryz.strF,hl,hx,ho]
 | some i =>
  rw [hx] at hi
  simp only at hi
  have hi0 : ¬ (i : Int) < 0 := by omega
  obtain ⟨a,ha⟩ : ∃ a,a = s.take i := ⟨_,rfl⟩
  obtain ⟨b,hb⟩ : ∃ b,b = s.drop (i + 1) := ⟨_,rfl⟩
  have la : a.length ≤ 1000000000 := by rw [ha,List.length_take]; omega
  have lb : b.length ≤ 1000000000 := by rw [hb,List.length_drop]; omega
  cases ho : okI a with
  | false =>
   rw [chkR_bad1 hx (by rw [← ha]; exact ho)]
   simp [callFn,hG,Tryz.f51,pureO,Tryz.rgFR,Tryz.rgF8,Tryz.rgF7,hl,hx,← ha,← hb,la,ho]
  | true =>
   cases ho2 : okI b with
   | false =>
    rw [chkR_bad2 hx (by rw [← hb]; exact ho2)]
    simp [callFn,hG,Tryz.f51,pureO,Tryz.rgFR,Tryz.rgF8,Tryz.rgF7,hl,hx,← ha,← hb,la,lb,ho,ho2]
   | true =>
    have hn : ∃ n,intP a = some n ∧ (natD n.natAbs).length ≤ 200 := by
     unfold okI at ho
     cases hx : intP a with
     | none => rw [hx] at ho; cases ho
     | some n => rw [hx] at ho; exact ⟨n,rfl,by simpa using ho⟩
    have hd : ∃ n,intP b = some n ∧ (natD n.natAbs).length ≤ 200 := by
     unfold okI at ho2
     cases hx : intP b with
     | none => rw [hx] at ho2; cases ho2
     | some n => rw [hx] at ho2; exact ⟨n,rfl,by simpa using ho2⟩
    obtain ⟨n,hn,n2⟩ := hn
    obtain ⟨d,hd,d2⟩ := hd
    rw [chkR_slash hx (by rw [← ha]; exact hn) (by rw [← hb]; exact hd) n2 d2]
    have h1 : intP [49] = some 1 := rfl
    have l1 : (natD 1).length ≤ 10000 := by decide
    have hcmp : 0 < sgnI (d - 1) ↔ 1 < d := by
     unfold sgnI
     split
     ·constructor <;> intro h <;> omega
     ·split <;> constructor <;> intro h <;> omega
    have ha0 : (a == [48]) = decide (n = 0) := by rw [intP_some hn,intS_beq_zero]
    have n3 : (natD n.natAbs).length ≤ 10000 := by omega
    have d3 : (natD d.natAbs).length ≤ 10000 := by omega
    by_cases c1 : 1 < d
    ·have c1' : 0 < sgnI (d - 1) := hcmp.2 c1
     by_cases c2 : n = 0
     ·have c3 : ¬ n.natAbs.gcd d.natAbs = 1 := by subst c2; simp; omega
      rw [if_neg (fun e => c3 e.2)]
      simp [callFn,hG,Tryz.f51,pureO,Tryz.rgFR,Tryz.rgF8,Tryz.rgF7,Tryz.rgF6,Tryz.rgF5,Tryz.rgF4,Tryz.rgF3,Tryz.rgF2,Tryz.rgF1,Tryz.strF,hl,hx,hi,hi0,← ha,← hb,la,lb,ho,ho2,hd,h1,l1,d3,c1',ha0,c2]
     ·by_cases c3 : n.natAbs.gcd d.natAbs = 1
      ·rw [if_pos ⟨c1,c3⟩]
       simp [callFn,hG,Tryz.f51,pureO,Tryz.rgFR,Tryz.rgF8,Tryz.rgF7,Tryz.rgF6,Tryz.rgF5,Tryz.rgF4,Tryz.rgF3,Tryz.rgF2,Tryz.rgF1,Tryz.strF,hl,hx,hi,hi0,← ha,← hb,la,lb,ho,ho2,hn,hd,h1,l1,n3,d3,c1',ha0,c2,natD_beq_one,c3]
      ·rw [if_neg (fun e => c3 e.2)]
       simp [callFn,hG,Tryz.f51,pureO,Tryz.rgFR,Tryz.rgF8,Tryz.rgF7,Tryz.rgF6,Tryz.rgF5,Tryz.rgF4,Tryz.rgF3,Tryz.rgF2,Tryz.rgF1,Tryz.strF,hl,hx,hi,hi0,← ha,← hb,la,lb,ho,ho2,hn,hd,h1,l1,n3,d3,c1',ha0,c2,natD_beq_one,c3]
    ·have c1' : ¬ 0 < sgnI (d - 1) := fun e => c1 (hcmp.1 e)
     rw [if_neg (fun e => c1 e.1)]
     simp [callFn,hG,Tryz.f51,pureO,Tryz.rgFR,Tryz.rgF8,Tryz.rgF7,Tryz.rgF6,Tryz.rgF5,Tryz.rgF4,Tryz.rgF3,Tryz.rgF2,Tryz.rgF1,Tryz.strF,hl,hx,hi,hi0,← ha,← hb,la,lb,ho,ho2,hd,h1,l1,d3,c1']
end Go.Proofs
