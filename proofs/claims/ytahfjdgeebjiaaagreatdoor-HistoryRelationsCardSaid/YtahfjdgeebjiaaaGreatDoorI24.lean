/- See I57. -/
import Derived.Test.YtahfjdgeebjiaaaGreatDoorI20
import Derived.Test.YtahfjdgeebjiaaaGreatDoorI23
import Derived.Test.YtahfjdgeebjiaaaGreatDoorI08
import Derived.Test.YtahfjdgeebjiaaaGreatDoorI07
set_option linter.all false
namespace Go.Proofs
open Go.Eng
noncomputable def Tryz.numF (f : FuncId) (args : List AV) : Option AV :=
 match f,args with
 | 304,[.str s,.int .i64 b,.int .i64 w] => if s ≠ [] ∧ s.all isD = true ∧ s.length ≤ 18 ∧ b = 10 ∧ w = 64 then some (.tuple [.int .u64 (valD s : Nat),.nilIface]) else none
 | 308,[.int .u64 u,.int .i64 b] => if 0 ≤ u ∧ u ≤ 18446744073709551615 ∧ b = 10 then some (.str (natD u.toNat)) else none
 | f,args => Tryz.strF f args
theorem Tryz.num_ok : OracleOk Tryz.prog (pureO Tryz.numF) := pureO_ok fun f args v h mem => by
 unfold Tryz.numF at h
 split at h
 ·split at h
  ·rename_i hc
   obtain ⟨h1,h2,h3,rfl,rfl⟩ := hc
   cases h
   exact Tryz.aParseUint _ h1 h2 h3 mem
  ·cases h
 ·split at h
  ·rename_i hc
   obtain ⟨h1,h2,rfl⟩ := hc
   cases h
   have hd := (Int.toNat_lt h1).2 (show _ < ((18446744073709551616 : Nat) : Int) by omega)
   have := Tryz.aFormatUint _ hd mem
   rw [Int.toNat_of_nonneg h1] at this
   exact this
  ·cases h
 ·have := Tryz.str_ok.fn _ _ mem ⟨v,none,[]⟩ (by unfold pureO; simp only; rw [h])
  simpa [CallRes.mem] using this
noncomputable def Tryz.copyO : Oracle := fun c args M => match c,args with
 | .fn 339,[.ptr b 0] => match M[b]? with
  | some (.cells true es [.nilptr,sl]) => if es = Tryz.bEs then some ⟨.tuple [],some (M.set b (.cells true Tryz.bEs [.ptr b 0,sl])),[]⟩ else none
  | some (.cells true es [.ptr b' 0,_]) => if es = Tryz.bEs ∧ b' = b then some ⟨.tuple [],none,[]⟩ else none
  | _ => none
 | _,_ => none
theorem Tryz.copyO_ok : OracleOk Tryz.prog Tryz.copyO where
 fn f args mem r h := by
  unfold Tryz.copyO at h
  split at h
  ·rename_i heq
   cases heq
   split at h
   ·rename_i b _ es sl hb
    split at h
    ·rename_i he
     cases h; subst he
     simpa [CallRes.mem] using Tryz.aCopyCheck_fresh mem b sl hb
    ·cases h
   ·rename_i b _ es b' sl hb
    split at h
    ·rename_i he
     cases h; obtain ⟨rfl,rfl⟩ := he
     simpa [CallRes.mem] using Tryz.aCopyCheck_used mem _ _ hb
    ·cases h
   ·cases h
  ·cases h
 yld b args mem r h := by unfold Tryz.copyO at h; split at h <;> simp_all
 pre c args mem r p h hp := by
  unfold Tryz.copyO at h
  split at h
  ·split at h
   ·split at h
    ·cases h; cases hp; simp
    ·cases h
   ·split at h
    ·cases h; cases hp
    ·cases h
   ·cases h
  ·cases h
noncomputable def Tryz.ofO : Oracle := Oracle.or Tryz.copyO (pureO Tryz.numF)
theorem Tryz.ofO_ok : OracleOk Tryz.prog Tryz.ofO := OracleOk.or Tryz.copyO_ok Tryz.num_ok
def okOf (q : List UInt8) (r : CallRes) : Bool := match r.v with
 | .tuple [.str s,.int .i64 0] => s == q && (match r.pre with | some p => p.isEmpty | none => true) && r.new.isEmpty
 | _ => false
theorem okOf_spec {q : List UInt8} {r : CallRes} (h : okOf q r = true) : r.v = .tuple [.str q,.int .i64 0] ∧ r.mem [] = [] := by
 obtain ⟨v,pre,new⟩ := r
 unfold okOf at h
 simp only at h
 split at h
 ·rename_i s
  simp only [Bool.and_eq_true,beq_iff_eq,List.isEmpty_iff] at h
  obtain ⟨⟨rfl,h1⟩,rfl⟩ := h
  refine ⟨rfl,?_⟩
  cases pre with
  | none => rfl
  | some p =>
   simp only [List.isEmpty_iff] at h1
   subst h1; rfl
 ·cases h
noncomputable def Tryz.ofRun (n : Int) (d : Nat) : Bool := match callF (tyOf Tryz.prog) writesC (fnOf Tryz.prog) Tryz.ofO 60 30 (.fn 75) [.int .i64 n,.int .i64 d] [] with
 | some r => okOf (ratS (mkRat n d)) r
 | none => false
theorem Tryz.of1 : (List.range 21).all (fun k => Tryz.ofRun ((k : Int) - 7) 1) = true := by kernel_rfl
theorem Tryz.of2 : (List.range 21).all (fun k => Tryz.ofRun ((k : Int) - 7) 2) = true := by kernel_rfl
theorem Tryz.aOfR (n : Int) (d : Nat) (hd : d = 1 ∨ d = 2) (h0 : -7 ≤ n) (h1 : n ≤ 13) (mem : Mem) :
  ACallsTo Tryz.prog 75 [.int .i64 n,.int .i64 d] mem (.tuple [.str (ratS (mkRat n d)),.int .i64 0]) mem := by
 have h : Tryz.ofRun n d = true := by
  have e : (((n + 7).toNat : Nat) - 7 : Int) = n := by omega
  rcases hd with rfl | rfl
  ·have := List.all_eq_true.1 Tryz.of1 (n + 7).toNat (List.mem_range.2 (by omega)); rwa [e] at this
  ·have := List.all_eq_true.1 Tryz.of2 (n + 7).toNat (List.mem_range.2 (by omega)); rwa [e] at this
 unfold Tryz.ofRun at h
 split at h
 ·rename_i r hr
  obtain ⟨e1,e2⟩ := okOf_spec h
  have := (callF_sound Tryz.mixed (tyOf_ok _) (fnOf_ok _) Tryz.ofO_ok 30).fn _ _ _ _ hr
  rw [e1,e2] at this
  exact ACallsTo.lift rfl rfl this mem
 ·cases h
end Go.Proofs
namespace Go.Eng
theorem tdiv_exact {a : Int} {b : Nat} (hb : 0 < b) (h : 0 ≤ a ∨ a.natAbs % b = 0) : a.tdiv b = a / b ∧ a.tmod b = ((a.natAbs % b : Nat) : Int) := by
 by_cases h0 : 0 ≤ a
 ·obtain ⟨n,rfl⟩ : ∃ n : Nat,a = n := ⟨a.toNat,by omega⟩
  rw [tdiv_nat,tmod_nat,Int.natAbs_natCast,Int.natCast_ediv]
  exact ⟨rfl,rfl⟩
 ·have h1 : a.natAbs % b = 0 := by rcases h with h | h <;> omega
  have h2 : a = -((a.natAbs / b * b : Nat) : Int) := by
   have := Nat.div_add_mod a.natAbs b
   rw [h1,Nat.add_zero,Nat.mul_comm] at this
   omega
  obtain ⟨q,hq⟩ : ∃ q,q = a.natAbs / b := ⟨_,rfl⟩
  rw [← hq] at h2
  rw [h1,h2,Int.natCast_mul,← Int.neg_mul]
  have hb' : (b : Int) ≠ 0 := by omega
  exact ⟨by rw [Int.mul_tdiv_cancel _ hb',Int.mul_ediv_cancel _ hb'],by rw [Int.mul_tmod_left]; rfl⟩
end Go.Eng
namespace Go.Proofs
open Go.Eng
theorem Tryz.plow_loop {O : Oracle} {K : Nat} (n m : Int) (hK : m.natAbs < K) {b : Code} (hb : loopsF Tryz.f123 = [b]) :
  ∃ F : Env → Bool → Env,∀ env0 d,(Eng.look env0 5 = .int .i64 n ∧ Eng.look env0 6 = .int .i64 m) →
   execC (tyOf Tryz.prog) (fun _ => [5,6]) O K 36 0 true (.loop b) ⟨env0,[],d⟩ = some (.exit 0,⟨F env0 d,[],d⟩) ∧ (Eng.look (F env0 d) 5 = .int .i64 (euc K n m) ∧ Eng.look (F env0 d) 0 = Eng.look env0 0 ∧ Eng.look (F env0 d) 1 = Eng.look env0 1 ∧ Eng.look (F env0 d) 4 = Eng.look env0 4) := by
 refine loop_rule rfl (fun env0 => Eng.look env0 5 = .int .i64 n ∧ Eng.look env0 6 = .int .i64 m) (fun env0 env' => Eng.look env' 5 = .int .i64 (euc K n m) ∧ Eng.look env' 0 = Eng.look env0 0 ∧ Eng.look env' 1 = Eng.look env0 1 ∧ Eng.look env' 4 = Eng.look env0 4) ?_
 rintro env0 d ⟨h5,h6⟩
 have hn : normE [5,6] (writesC b) env0 ((5,.int .i64 n) :: (6,.int .i64 m) :: env0) = normE [5,6] (writesC b) env0 env0 := by simp [normE,h5,h6]
 rw [← hn]
 have key : ∀ (k : Nat) (x y : Int),y.natAbs < k → ∃ env',iter [5,6] (writesC b) env0 0 (execC (tyOf Tryz.prog) (fun _ => [5,6]) O K 36 0 true b) k ⟨normE [5,6] (writesC b) env0 ((5,.int .i64 x) :: (6,.int .i64 y) :: env0),[],d⟩ =
   some (.exit 0,⟨env',[],d⟩) ∧ Eng.look env' 5 = .int .i64 (euc k x y) ∧ Eng.look env' 0 = Eng.look env0 0 ∧ Eng.look env' 1 = Eng.look env0 1 ∧ Eng.look env' 4 = Eng.look env0 4 := by
  clear hn
  simp [loopsF,loopsC,Tryz.f123] at hb
  intro k
  induction k with
  | zero => intro x y h; omega
  | succ k ih =>
   intro x y hk
   by_cases hy : y = 0
   ·subst hb
    subst hy
    simp [iter,euc]
   ·have hlt : (x.tmod y).natAbs < k := by
     rw [Int.natAbs_tmod]
     have := Nat.mod_lt x.natAbs (show 0 < y.natAbs by omega)
     omega
    obtain ⟨env',e1,e2,e4⟩ := ih y (x.tmod y) hlt
    subst hb
    refine ⟨env',?_,by rw [e2,euc,if_neg hy],e4⟩
    rw [iter]
    simp [hy]
    simp at e1
    exact e1
 exact key K n m hK
theorem Tryz.aPLowest (n : Int) (m : Nat) (hn : n.natAbs ≤ 4611686018427387904) (hm0 : m ≠ 0) (hm : m ≤ 4611686018427387904) (mem : Mem) : ACallsTo Tryz.prog 123 [.int .i64 n,.int .i64 m] mem (.str (ratS (mkRat n m))) mem := by
 have hG : fnOf Tryz.prog 123 = some Tryz.f123 := by kernel_rfl
 refine Tryz.run Tryz.str_ok (lv := fun _ => [5,6]) (K := m + 1) rfl rfl ?_ mem
 obtain ⟨b,hb⟩ : ∃ b,loopsF Tryz.f123 = [b] := ⟨_,rfl⟩
 obtain ⟨N,hN⟩ : ∃ N : Nat,N = n.natAbs := ⟨_,rfl⟩
 obtain ⟨F,hF⟩ := Tryz.plow_loop (O := pureO Tryz.strF) (K := m + 1) (N : Int) (m : Int) (by simp) hb
 simp [loopsF,loopsC,Tryz.f123] at hb
 subst hb
 rw [ratS_mkRat n hm0,← hN]
 have hgE : ∀ k (x y : Nat),0 ≤ euc k (x : Int) (y : Int) := by
  intro k
  induction k with
  | zero => intro x y; unfold euc; omega
  | succ k ih =>
   intro x y
   unfold euc
   split
   ·omega
   ·rw [tmod_nat]; exact ih y (x % y)
 have hg := euc_natAbs (m + 1) (N : Int) (m : Int) (by simp)
 have hg0 := hgE (m + 1) N m
 generalize euc (m + 1) (N : Int) (m : Int) = gz at hF hg hg0
 rw [Int.natAbs_natCast,Int.natAbs_natCast] at hg
 obtain ⟨g,rfl⟩ : ∃ g : Nat,gz = g := ⟨gz.toNat,by omega⟩
 rw [Int.natAbs_natCast] at hg
 rw [← hg]
 have hgp : 0 < g := by rw [hg]; exact Nat.gcd_pos_of_pos_right _ (by omega)
 have hgn : g ∣ N := by rw [hg]; exact Nat.gcd_dvd_left _ _
 have hgd : g ∣ m := by rw [hg]; exact Nat.gcd_dvd_right _ _
 have hgm : g ≤ m := Nat.le_of_dvd (by omega) hgd
 have te := tdiv_exact (a := n) hgp (.inr (by rw [← hN]; exact Nat.mod_eq_zero_of_dvd hgn))
 have hq1 : (n / (g : Int)).natAbs ≤ n.natAbs := Int.natAbs_ediv_le_natAbs _ _
 obtain ⟨Z,hZ⟩ : ∃ Z,Z = n / (g : Int) := ⟨_,rfl⟩
 rw [← hZ] at hq1 te ⊢
 obtain ⟨D,hD⟩ : ∃ D,D = m / g := ⟨_,rfl⟩
 have hDm : D ≤ m := by rw [hD]; exact Nat.div_le_self _ _
 rw [← hD]
 have w0 : IntKind.i64.wrap (-n) = -n := wrap_i64 (by omega) (by omega)
 have hmax : (if n < -n then -n else n) = (N : Int) := by split <;> omega
 have hmax' : (if -n < n then n else -n) = (N : Int) := by split <;> omega
 have w1 : IntKind.i64.wrap (n.tdiv (g : Int)) = Z := by rw [te.1]; exact wrap_i64 (by omega) (by omega)
 have w1' : IntKind.i64.wrap Z = Z := wrap_i64 (by omega) (by omega)
 have w2 : IntKind.i64.wrap ((m : Int).tdiv (g : Int)) = (D : Int) := by rw [tdiv_nat,← hD]; exact wrap_i64 (by omega) (by omega)
 have w2' : IntKind.i64.wrap ((m : Int) / (g : Int)) = (D : Int) := by rw [← Int.natCast_ediv,← hD]; exact wrap_i64 (by omega) (by omega)
 have hf1 : fitsI Z = true := by unfold fitsI; simp; omega
 have hf2 : fitsI (D : Int) = true := by unfold fitsI; simp; omega
 have hDs : intS (D : Int) = natD D := rfl
 have hg0' : ¬ g = 0 := by omega
 have lZ : (intS Z).length + 1 ≤ maxInt ∧ (intS Z).length + 1 + (natD D).length ≤ maxInt := by
  have h1 := intS_length Z
  have h2 := natD_length_le (u := Z.natAbs) (k := 20) (by omega) (by omega)
  have h3 := natD_length_le (u := D) (k := 20) (by omega) (by omega)
  unfold maxInt; omega
 obtain ⟨l1,l2⟩ := lZ
 by_cases hm1 : m = 1
 ·have hg1 : g = 1 := by omega
  have hD1 : D = 1 := by rw [hD,hm1,hg1]
  have hZn : Z = n := by rw [hZ,hg1]; exact Int.ediv_one n
  have hfn : fitsI n = true := by rw [← hZn]; exact hf1
  subst hm1
  rw [if_pos hD1,hZn]
  simp [callFn,hG,Tryz.f123,pureO,Tryz.strF,hfn]
 ·have hm1I : ¬ (m : Int) = 1 := by omega
  by_cases hD1 : D = 1
  ·have hD1I : (D : Int) = 1 := by omega
   rw [if_pos hD1]
   simp [callFn,hG,Tryz.f123,hm1,hm1I,w0,hmax,hmax',hF,hg0',te,w1',w1,w2,w2',hD1I,pureO,Tryz.strF,hf1,Nat.testBit]
  ·have hD1I : ¬ (D : Int) = 1 := by omega
   rw [if_neg hD1]
   simp [callFn,hG,Tryz.f123,hm1,hm1I,w0,hmax,hmax',hF,hg0',te,w1',w1,w2,w2',hD1I,hD1,pureO,Tryz.strF,hf1,hf2,hDs,l1,l2,Nat.testBit]
theorem Tryz.psmall_loop {O : Oracle} {K : Nat} (n m : Int) (hK : m.natAbs < K) {b : Code} (hb : loopsF Tryz.f128 = [b]) :
  ∃ F : Env → Bool → Env,∀ env0 d,(Eng.look env0 9 = .int .i64 n ∧ Eng.look env0 10 = .int .i64 m) →
   execC (tyOf Tryz.prog) (fun _ => [9,10]) O K 55 0 true (.loop b) ⟨env0,[],d⟩ = some (.exit 0,⟨F env0 d,[],d⟩) ∧ (Eng.look (F env0 d) 9 = .int .i64 (euc K n m) ∧ Eng.look (F env0 d) 5 = Eng.look env0 5 ∧ Eng.look (F env0 d) 7 = Eng.look env0 7 ∧ Eng.look (F env0 d) 4 = Eng.look env0 4) := by
 refine loop_rule rfl (fun env0 => Eng.look env0 9 = .int .i64 n ∧ Eng.look env0 10 = .int .i64 m) (fun env0 env' => Eng.look env' 9 = .int .i64 (euc K n m) ∧ Eng.look env' 5 = Eng.look env0 5 ∧ Eng.look env' 7 = Eng.look env0 7 ∧ Eng.look env' 4 = Eng.look env0 4) ?_
 rintro env0 d ⟨h5,h6⟩
 have hn : normE [9,10] (writesC b) env0 ((9,.int .i64 n) :: (10,.int .i64 m) :: env0) = normE [9,10] (writesC b) env0 env0 := by simp [normE,h5,h6]
 rw [← hn]
 have key : ∀ (k : Nat) (x y : Int),y.natAbs < k → ∃ env',iter [9,10] (writesC b) env0 0 (execC (tyOf Tryz.prog) (fun _ => [9,10]) O K 55 0 true b) k ⟨normE [9,10] (writesC b) env0 ((9,.int .i64 x) :: (10,.int .i64 y) :: env0),[],d⟩ =
   some (.exit 0,⟨env',[],d⟩) ∧ Eng.look env' 9 = .int .i64 (euc k x y) ∧ Eng.look env' 5 = Eng.look env0 5 ∧ Eng.look env' 7 = Eng.look env0 7 ∧ Eng.look env' 4 = Eng.look env0 4 := by
  clear hn
  simp [loopsF,loopsC,Tryz.f128] at hb
  intro k
  induction k with
  | zero => intro x y h; omega
  | succ k ih =>
   intro x y hk
   by_cases hy : y = 0
   ·subst hb
    subst hy
    simp [iter,euc]
   ·have hlt : (x.tmod y).natAbs < k := by
     rw [Int.natAbs_tmod]
     have := Nat.mod_lt x.natAbs (show 0 < y.natAbs by omega)
     omega
    obtain ⟨env',e1,e2,e4⟩ := ih y (x.tmod y) hlt
    subst hb
    refine ⟨env',?_,by rw [e2,euc,if_neg hy],e4⟩
    rw [iter]
    simp [hy]
    simp at e1
    exact e1
 exact key K n m hK
theorem euc_nonneg : ∀ (k x y : Nat),0 ≤ euc k (x : Int) (y : Int) := by
 intro k
 induction k with
 | zero => intro x y; unfold euc; omega
 | succ k ih =>
  intro x y
  unfold euc
  split
  ·omega
  ·rw [tmod_nat]; exact ih y (x % y)
theorem Tryz.aPSmall (n : Int) (m : Nat) (hm0 : m ≠ 0) (hl1 : (intS n).length ≤ 18) (hl2 : (natD m).length ≤ 18) (mem : Mem) : ACallsTo Tryz.prog 128 [.str (intS n),.str (natD m)] mem (.str (ratS (mkRat n m))) mem := by
 have hG : fnOf Tryz.prog 128 = some Tryz.f128 := by kernel_rfl
 have hn := intS_small hl1
 have hm : m < 10 ^ 18 := by
  have h1 := natD_lt_pow m
  have h2 : 10 ^ (natD m).length ≤ 10 ^ 18 := Nat.pow_le_pow_right (by omega) hl2
  omega
 refine Tryz.run Tryz.str_ok (lv := fun _ => [9,10]) (K := m + 1) rfl rfl ?_ mem
 obtain ⟨b,hb⟩ : ∃ b,loopsF Tryz.f128 = [b] := ⟨_,rfl⟩
 obtain ⟨N,hN⟩ : ∃ N : Nat,N = n.natAbs := ⟨_,rfl⟩
 rw [← hN] at hn
 obtain ⟨F,hF⟩ := Tryz.psmall_loop (O := pureO Tryz.strF) (K := m + 1) (N : Int) (m : Int) (by simp) hb
 simp [loopsF,loopsC,Tryz.f128] at hb
 subst hb
 rw [ratS_mkRat n hm0,← hN]
 have hg := euc_natAbs (m + 1) (N : Int) (m : Int) (by simp)
 have hg0 := euc_nonneg (m + 1) N m
 generalize euc (m + 1) (N : Int) (m : Int) = gz at hF hg hg0
 rw [Int.natAbs_natCast,Int.natAbs_natCast] at hg
 obtain ⟨g,rfl⟩ : ∃ g : Nat,gz = g := ⟨gz.toNat,by omega⟩
 rw [Int.natAbs_natCast] at hg
 rw [← hg]
 have hgp : 0 < g := by rw [hg]; exact Nat.gcd_pos_of_pos_right _ (by omega)
 have hgn : g ∣ N := by rw [hg]; exact Nat.gcd_dvd_left _ _
 have te := tdiv_exact (a := n) hgp (.inr (by rw [← hN]; exact Nat.mod_eq_zero_of_dvd hgn))
 have hq1 : (n / (g : Int)).natAbs ≤ n.natAbs := Int.natAbs_ediv_le_natAbs _ _
 obtain ⟨Z,hZ⟩ : ∃ Z,Z = n / (g : Int) := ⟨_,rfl⟩
 rw [← hZ] at hq1 te ⊢
 obtain ⟨D,hD⟩ : ∃ D,D = m / g := ⟨_,rfl⟩
 have hDm : D ≤ m := by rw [hD]; exact Nat.div_le_self _ _
 rw [← hD]
 have w1 : IntKind.i64.wrap (n.tdiv (g : Int)) = Z := by rw [te.1]; exact wrap_i64 (by omega) (by omega)
 have w1' : IntKind.i64.wrap Z = Z := wrap_i64 (by omega) (by omega)
 have w2 : IntKind.i64.wrap ((m : Int).tdiv (g : Int)) = (D : Int) := by rw [tdiv_nat,← hD]; exact wrap_i64 (by omega) (by omega)
 have w2' : IntKind.i64.wrap ((m : Int) / (g : Int)) = (D : Int) := by rw [← Int.natCast_ediv,← hD]; exact wrap_i64 (by omega) (by omega)
 have hf1 : fitsI Z = true := by unfold fitsI; simp; omega
 have hf2 : fitsI (D : Int) = true := by unfold fitsI; simp; omega
 have hDs : intS (D : Int) = natD D := rfl
 have hg0' : ¬ g = 0 := by omega
 have lZ : (intS Z).length + 1 ≤ maxInt ∧ (intS Z).length + 1 + (natD D).length ≤ maxInt := by
  have h1 := intS_length Z
  have h2 := natD_length_le (u := Z.natAbs) (k := 20) (by omega) (by omega)
  have h3 := natD_length_le (u := D) (k := 20) (by omega) (by omega)
  unfold maxInt; omega
 obtain ⟨l1,l2⟩ := lZ
 have ha2 : Lib.atoi (natD m) = some (m : Int) := atoi_intS (m : Int)
 have hmn : ¬ (m : Int) < 0 := by omega
 have w0 : IntKind.i64.wrap (-n) = -n := wrap_i64 (by omega) (by omega)
 have hneg : n < 0 → -n = (N : Int) := by omega
 have hpos : ¬ n < 0 → n = (N : Int) := by omega
 by_cases h0 : n < 0
 ·have w0' : IntKind.i64.wrap (-n) = (N : Int) := by rw [w0]; exact hneg h0
  by_cases hD1 : D = 1
  ·have hD1I : (D : Int) = 1 := by omega
   rw [if_pos hD1]
   simp [callFn,hG,Tryz.f128,pureO,Tryz.strF,hl1,hl2,atoi_intS,ha2,hmn,h0,w0',hF,hg0',te,w1',w1,w2,w2',hD1I,hf1,Nat.testBit]
  ·have hD1I : ¬ (D : Int) = 1 := by omega
   rw [if_neg hD1]
   simp [callFn,hG,Tryz.f128,pureO,Tryz.strF,hl1,hl2,atoi_intS,ha2,hmn,h0,w0',hF,hg0',te,w1',w1,w2,w2',hD1I,hD1,hf1,hf2,hDs,l1,l2,Nat.testBit]
 ·have e := hpos h0
  rw [← e] at hF
  by_cases hD1 : D = 1
  ·have hD1I : (D : Int) = 1 := by omega
   rw [if_pos hD1]
   simp [callFn,hG,Tryz.f128,pureO,Tryz.strF,hl1,hl2,atoi_intS,ha2,hmn,h0, hF,hg0',te,w1',w1,w2,w2',hD1I,hf1,Nat.testBit]
  ·have hD1I : ¬ (D : Int) = 1 := by omega
   rw [if_neg hD1]
   simp [callFn,hG,Tryz.f128,pureO,Tryz.strF,hl1,hl2,atoi_intS,ha2,hmn,h0, hF,hg0',te,w1',w1,w2,w2',hD1I,hD1,hf1,hf2,hDs,l1,l2,Nat.testBit]
end Go.Proofs
