/- See I57. -/
import Derived.Test.YtahfjdgeebjiaaaGreatDoorI24
set_option linter.all false
namespace Go.Proofs
open Go.Eng
theorem valD_take_lt {ds : List UInt8} (hd : ds.all isD = true) (hl : ds.length ≤ 9) (j : Nat) : valD (ds.take j) < 10 ^ 9 := by
 have h1 : valD (ds.take j) < 10 ^ (ds.take j).length := by
  have h0 : (ds.take j).all isD = true := by
   rw [List.all_eq_true] at hd ⊢
   exact fun c hc => hd c (List.mem_of_mem_take hc)
  have := valF_lt_pow _ 0 h0
  unfold valD
  omega
 have h2 : (ds.take j).length ≤ 9 := by rw [List.length_take]; omega
 have h3 : 10 ^ (ds.take j).length ≤ 10 ^ 9 := Nat.pow_le_pow_right (by omega) h2
 omega
def Tryz.briefLv (c : Code) : List Nat := if (writesC c).contains 24 then [2,5] else [3,5]
theorem Tryz.brief_loop1 {O : Oracle} {K : Nat} (s ds rest : List UInt8) (st : Nat) (hs : s.length ≤ 9) (hst : st ≤ s.length) (hd : s.drop st = ds ++ rest) (hrest : rest = [] ∨ ∃ r,rest = 47 :: r) (hall : ds.all isD = true) (hK : 10 < K) {b b2 : Code} (hb : loopsF Tryz.f122 = [b,b2]) :
  ∃ F : Env → Bool → Env,∀ env0 d,(Eng.look env0 0 = .str s ∧ Eng.look env0 2 = .int .i64 0 ∧ Eng.look env0 5 = .int .i64 (st : Int)) →
   execC (tyOf Tryz.prog) Tryz.briefLv O K 57 0 true (.loop b) ⟨env0,[],d⟩ = some (.exit 0,⟨F env0 d,[],d⟩) ∧ (Eng.look (F env0 d) 2 = .int .i64 ((valD ds : Nat) : Int) ∧ Eng.look (F env0 d) 5 = .int .i64 ((st + ds.length : Nat) : Int) ∧ Eng.look (F env0 d) 0 = Eng.look env0 0 ∧ Eng.look (F env0 d) 3 = Eng.look env0 3 ∧ Eng.look (F env0 d) 6 = Eng.look env0 6) := by
 have hlv : Tryz.briefLv b = [2,5] := by
  simp [loopsF,loopsC,Tryz.f122] at hb
  obtain ⟨rfl,rfl⟩ := hb
  decide
 have hlen : st + ds.length + rest.length = s.length := by
  have := congrArg List.length hd
  simp at this; omega
 refine loop_rule hlv (fun env0 => Eng.look env0 0 = .str s ∧ Eng.look env0 2 = .int .i64 0 ∧ Eng.look env0 5 = .int .i64 (st : Int)) (fun env0 env' => Eng.look env' 2 = .int .i64 ((valD ds : Nat) : Int) ∧ Eng.look env' 5 = .int .i64 ((st + ds.length : Nat) : Int) ∧ Eng.look env' 0 = Eng.look env0 0 ∧ Eng.look env' 3 = Eng.look env0 3 ∧ Eng.look env' 6 = Eng.look env0 6) ?_
 rintro env0 d ⟨h0,h2,h5⟩
 have hv0 : valD (ds.take 0) = 0 := by rw [List.take_zero]; unfold valD; rw [valF_nil]
 have hn : normE [2,5] (writesC b) env0 ((2,.int .i64 ((valD (ds.take 0) : Nat) : Int)) :: (5,.int .i64 ((st + 0 : Nat) : Int)) :: env0) = normE [2,5] (writesC b) env0 env0 := by rw [hv0]; simp [normE,h2,h5]
 rw [← hn]
 refine iter_ind (α := Nat) (fun j => ⟨normE [2,5] (writesC b) env0 ((2,.int .i64 ((valD (ds.take j) : Nat) : Int)) :: (5,.int .i64 ((st + j : Nat) : Int)) :: env0),[],d⟩)
  (fun j => ds.length - j) (fun j => j ≤ ds.length) (.exit 0) _ d _ (by simp) ?_ K 0 (Nat.zero_le _) (by simp only [Nat.sub_zero]; omega)
 intro j hj
 clear hn hv0
 simp [loopsF,loopsC,Tryz.f122] at hb
 obtain ⟨i,hi⟩ : ∃ i,i = st + j := ⟨_,rfl⟩
 have hsi : s[i]? = (ds ++ rest)[j]? := by rw [← hd,List.getElem?_drop,hi]
 by_cases hje : j = ds.length
 ·right
  subst hje
  rw [List.take_length,← hi]
  rw [List.getElem?_append_right (Nat.le_refl _),Nat.sub_self] at hsi
  obtain ⟨rfl,rfl⟩ := hb
  rcases hrest with h | ⟨r,h⟩
  ·subst h
   have hil : i = s.length := by simp at hlen; omega
   have h1 : ¬ i < s.length := by omega
   have h1I : ¬ (i : Int) < (s.length : Int) := by omega
   simp [h0,h1,h1I]
  ·subst h
   have hil : i < s.length := by simp at hlen; omega
   have hilI : (i : Int) < (s.length : Int) := by omega
   have hc : s[i]? = some 47 := by simpa using hsi
   have hc' : s[i] = 47 := (List.getElem?_eq_some_iff.1 hc).2
   simp [h0,hil,hilI,hc,hc']
 ·left
  have hlt : j < ds.length := by omega
  obtain ⟨c,hc⟩ : ∃ c,ds[j]? = some c := ⟨ds[j],by simp [hlt]⟩
  rw [List.getElem?_append_left hlt,hc] at hsi
  have hil : i < s.length := (List.getElem?_eq_some_iff.1 hsi).1
  have hilI : (i : Int) < (s.length : Int) := by omega
  have hsi' : s[i] = c := (List.getElem?_eq_some_iff.1 hsi).2
  have hcD := List.all_eq_true.1 hall c (List.mem_of_getElem? hc)
  have hcd := isD_lt hcD
  have hc48 : 48 ≤ c.toNat ∧ c.toNat ≤ 57 := by unfold isD at hcD; simp only [Bool.and_eq_true,decide_eq_true_eq] at hcD; exact hcD
  have hc47 : ¬ ((c.toNat : Int) = 47) := by omega
  have hst2 : ds.take (j + 1) = ds.take j ++ [c] := by rw [List.take_add_one,hc]; rfl
  have hvn : valD (ds.take (j + 1)) = 10 * valD (ds.take j) + (c.toNat - 48) := by rw [hst2,valD_snoc]
  have hvb := valD_take_lt hall (by omega) j
  obtain ⟨v,hvv⟩ : ∃ v,v = valD (ds.take j) := ⟨_,rfl⟩
  obtain ⟨v2,hvv2⟩ : ∃ v,v = valD (ds.take (j + 1)) := ⟨_,rfl⟩
  rw [← hvv] at hvb hvn
  rw [← hvv2] at hvn
  obtain ⟨k,hk⟩ : ∃ k : Nat,k = c.toNat - 48 := ⟨_,rfl⟩
  have w0 : IntKind.u8.wrap ((c.toNat : Int) - 48) = (k : Int) := by rw [wrap_u8 (by omega) (by omega)]; omega
  have w1 : IntKind.i64.wrap (k : Int) = (k : Int) := wrap_i64 (by omega) (by omega)
  have w2 : IntKind.i64.wrap (10 * (v : Int)) = 10 * (v : Int) := wrap_i64 (by omega) (by omega)
  have w3 : IntKind.i64.wrap (10 * (v : Int) + (k : Int)) = (v2 : Int) := by rw [wrap_i64 (by omega) (by omega)]; omega
  have w4 : IntKind.i64.wrap ((i : Int) + 1) = ((st + (j + 1) : Nat) : Int) := by rw [wrap_i64 (by omega) (by omega)]; omega
  rw [← hi]
  refine ⟨j + 1,?_⟩
  refine exists_and_fin (show j + 1 ≤ ds.length ∧ _ from ⟨hlt,by omega⟩) ?_
  obtain ⟨rfl,rfl⟩ := hb
  simp [h0,hil,hilI,hsi,hsi',hc47,← hvv,← hvv2,w0,w1,w2,w3,w4]
  try omega
theorem Tryz.brief_loop2 {O : Oracle} {K : Nat} (s ds : List UInt8) (st : Nat) (hs : s.length ≤ 9) (hst : st ≤ s.length) (hd : s.drop st = ds) (hall : ds.all isD = true) (hK : 10 < K) {b b2 : Code} (hb : loopsF Tryz.f122 = [b,b2]) :
  ∃ F : Env → Bool → Env,∀ env0 d,(Eng.look env0 0 = .str s ∧ Eng.look env0 3 = .int .i64 0 ∧ Eng.look env0 5 = .int .i64 (st : Int)) →
   execC (tyOf Tryz.prog) Tryz.briefLv O K 57 0 true (.loop b2) ⟨env0,[],d⟩ = some (.exit 2,⟨F env0 d,[],d⟩) ∧ (Eng.look (F env0 d) 3 = .int .i64 ((valD ds : Nat) : Int) ∧ Eng.look (F env0 d) 2 = Eng.look env0 2 ∧ Eng.look (F env0 d) 6 = Eng.look env0 6) := by
 have hlv : Tryz.briefLv b2 = [3,5] := by
  simp [loopsF,loopsC,Tryz.f122] at hb
  obtain ⟨rfl,rfl⟩ := hb
  decide
 have hlen : st + ds.length = s.length := by
  have := congrArg List.length hd
  simp at this; omega
 refine loop_rule hlv (fun env0 => Eng.look env0 0 = .str s ∧ Eng.look env0 3 = .int .i64 0 ∧ Eng.look env0 5 = .int .i64 (st : Int)) (fun env0 env' => Eng.look env' 3 = .int .i64 ((valD ds : Nat) : Int) ∧ Eng.look env' 2 = Eng.look env0 2 ∧ Eng.look env' 6 = Eng.look env0 6) ?_
 rintro env0 d ⟨h0,h2,h5⟩
 have hv0 : valD (ds.take 0) = 0 := by rw [List.take_zero]; unfold valD; rw [valF_nil]
 have hn : normE [3,5] (writesC b2) env0 ((3,.int .i64 ((valD (ds.take 0) : Nat) : Int)) :: (5,.int .i64 ((st + 0 : Nat) : Int)) :: env0) = normE [3,5] (writesC b2) env0 env0 := by rw [hv0]; simp [normE,h2,h5]
 rw [← hn]
 refine iter_ind (α := Nat) (fun j => ⟨normE [3,5] (writesC b2) env0 ((3,.int .i64 ((valD (ds.take j) : Nat) : Int)) :: (5,.int .i64 ((st + j : Nat) : Int)) :: env0),[],d⟩)
  (fun j => ds.length - j) (fun j => j ≤ ds.length) (.exit 2) _ d _ (by simp) ?_ K 0 (Nat.zero_le _) (by simp only [Nat.sub_zero]; omega)
 intro j hj
 clear hn hv0
 simp [loopsF,loopsC,Tryz.f122] at hb
 obtain ⟨i,hi⟩ : ∃ i,i = st + j := ⟨_,rfl⟩
 have hsi : s[i]? = ds[j]? := by rw [← hd,List.getElem?_drop,hi]
 by_cases hje : j = ds.length
 ·right
  subst hje
  rw [List.take_length,← hi]
  obtain ⟨rfl,rfl⟩ := hb
  have h1 : ¬ i < s.length := by omega
  have h1I : ¬ (i : Int) < (s.length : Int) := by omega
  simp [h0,h1]
 ·left
  have hlt : j < ds.length := by omega
  obtain ⟨c,hc⟩ : ∃ c,ds[j]? = some c := ⟨ds[j],by simp [hlt]⟩
  rw [hc] at hsi
  have hil : i < s.length := (List.getElem?_eq_some_iff.1 hsi).1
  have hilI : (i : Int) < (s.length : Int) := by omega
  have hsi' : s[i] = c := (List.getElem?_eq_some_iff.1 hsi).2
  have hcD := List.all_eq_true.1 hall c (List.mem_of_getElem? hc)
  have hcd := isD_lt hcD
  have hc48 : 48 ≤ c.toNat ∧ c.toNat ≤ 57 := by unfold isD at hcD; simp only [Bool.and_eq_true,decide_eq_true_eq] at hcD; exact hcD
  have hst2 : ds.take (j + 1) = ds.take j ++ [c] := by rw [List.take_add_one,hc]; rfl
  have hvn : valD (ds.take (j + 1)) = 10 * valD (ds.take j) + (c.toNat - 48) := by rw [hst2,valD_snoc]
  have hvb := valD_take_lt hall (by omega) j
  obtain ⟨v,hvv⟩ : ∃ v,v = valD (ds.take j) := ⟨_,rfl⟩
  obtain ⟨v2,hvv2⟩ : ∃ v,v = valD (ds.take (j + 1)) := ⟨_,rfl⟩
  rw [← hvv] at hvb hvn
  rw [← hvv2] at hvn
  obtain ⟨k,hk⟩ : ∃ k : Nat,k = c.toNat - 48 := ⟨_,rfl⟩
  have w0 : IntKind.u8.wrap ((c.toNat : Int) - 48) = (k : Int) := by rw [wrap_u8 (by omega) (by omega)]; omega
  have w1 : IntKind.i64.wrap (k : Int) = (k : Int) := wrap_i64 (by omega) (by omega)
  have w2 : IntKind.i64.wrap (10 * (v : Int)) = 10 * (v : Int) := wrap_i64 (by omega) (by omega)
  have w3 : IntKind.i64.wrap (10 * (v : Int) + (k : Int)) = (v2 : Int) := by rw [wrap_i64 (by omega) (by omega)]; omega
  have w4 : IntKind.i64.wrap ((i : Int) + 1) = ((st + (j + 1) : Nat) : Int) := by rw [wrap_i64 (by omega) (by omega)]; omega
  rw [← hi]
  refine ⟨j + 1,?_⟩
  refine exists_and_fin (show j + 1 ≤ ds.length ∧ _ from ⟨hlt,by omega⟩) ?_
  obtain ⟨rfl,rfl⟩ := hb
  simp [h0,hil,hilI,hsi,hsi',← hvv,← hvv2,w0,w1,w2,w3,w4]
  try omega
theorem Tryz.aPBrief (q : Rat) (mem : Mem) : ACallsTo Tryz.prog 122 [.str (ratS q)] mem (if (ratS q).length ≤ 9 then .tuple [.int .i64 q.num,.int .i64 q.den,.bool true] else .tuple [.int .i64 0,.int .i64 0,.bool false]) mem := by
 have hG : fnOf Tryz.prog 122 = some Tryz.f122 := by kernel_rfl
 refine Tryz.run (noOracle_ok _) (lv := Tryz.briefLv) (K := 11) rfl (by split <;> rfl) ?_ mem
 by_cases hl : (ratS q).length ≤ 9
 ·rw [if_pos hl]
  have hlI : ¬ (9 < ((ratS q).length : Int)) := by omega
  obtain ⟨b,b2,hb⟩ : ∃ b b2,loopsF Tryz.f122 = [b,b2] := ⟨_,_,rfl⟩
  obtain ⟨rest,hsh,hre⟩ := ratS_shape q
  obtain ⟨s,hs⟩ : ∃ s,s = ratS q := ⟨_,rfl⟩
  rw [← hs] at hl hlI hsh ⊢
  obtain ⟨N,hN⟩ : ∃ N,N = q.num.natAbs := ⟨_,rfl⟩
  rw [← hN] at hsh
  have hallN := natD_all N
  have hvN := valD_natD N
  have hpN := natD_pos N
  have hNn := natD_ne N
  have hrest : rest = [] ∨ ∃ r,rest = 47 :: r := by rw [hre]; split <;> simp
  obtain ⟨st,hst⟩ : ∃ st : Nat,st = if q.num < 0 then 1 else 0 := ⟨_,rfl⟩
  have hpre : (if q.num < 0 then [(45 : UInt8)] else []).length = st := by rw [hst]; split <;> rfl
  have hdrop : s.drop st = natD N ++ rest := by rw [hsh,← hpre,List.drop_left]
  have hlen : s.length = st + (natD N).length + rest.length := by rw [hsh,List.length_append,hpre,List.length_append]; omega
  obtain ⟨F,hF⟩ := Tryz.brief_loop1 (O := noOracle) (K := 11) s (natD N) rest st hl (by omega) hdrop hrest hallN (by omega) hb
  rw [hvN] at hF
  obtain ⟨at1,hat⟩ : ∃ at1,at1 = st + (natD N).length := ⟨_,rfl⟩
  rw [← hat] at hF hlen
  have hN18 : N < 10 ^ 9 := by
   have h1 := natD_lt_pow N
   have h2 : 10 ^ (natD N).length ≤ 10 ^ 9 := Nat.pow_le_pow_right (by omega) (by omega)
   omega
  have wn : IntKind.i64.wrap (-(N : Int)) = -(N : Int) := wrap_i64 (by omega) (by omega)
  have wp : IntKind.i64.wrap (N : Int) = (N : Int) := wrap_i64 (by omega) (by omega)
  by_cases hd1 : q.den = 1
  ·rw [if_pos hd1] at hre
   subst hre
   have hatl : ¬ at1 < s.length := by simp at hlen; omega
   simp [loopsF,loopsC,Tryz.f122] at hb
   obtain ⟨rfl,rfl⟩ := hb
   by_cases h0 : q.num < 0
   ·rw [if_pos h0] at hst
    subst hst
    have hc : s[0]? = some 45 := by rw [hsh,if_pos h0]; rfl
    have e : -(N : Int) = q.num := by omega
    have wn' : IntKind.i64.wrap (-(N : Int)) = q.num := by rw [wn,e]
    simp only [Int.natCast_one] at hF
    simp [callFn,hG,Tryz.f122,hlI,hc,hF,hatl,wn',hd1]
   ·rw [if_neg h0] at hst
    subst hst
    have hc : ∃ c,s[0]? = some c ∧ isD c = true := by
     rw [hsh,if_neg h0]
     cases hx : natD N with
     | nil => exact absurd hx hNn
     | cons c r =>
      rw [hx] at hallN
      simp only [List.all_cons,Bool.and_eq_true] at hallN
      exact ⟨c,by simp,hallN.1⟩
    obtain ⟨c,hc,hcD⟩ := hc
    have hc45 := isD_ne_minus hcD
    have e : (N : Int) = q.num := by omega
    have wp' : IntKind.i64.wrap (N : Int) = q.num := by rw [wp,e]
    simp only [Int.natCast_zero] at hF
    simp [callFn,hG,Tryz.f122,hlI,hc,hc45,hF,hatl,wp',hd1]
  ·rw [if_neg hd1] at hre
   subst hre
   have hatl : at1 < s.length := by simp at hlen; omega
   have hatlI : (at1 : Int) < (s.length : Int) := by omega
   have hdrop2 : s.drop (at1 + 1) = natD q.den := by
    have h1 : s.drop at1 = 47 :: natD q.den := by
     rw [hat,← List.drop_drop,hdrop,List.drop_left]
    rw [← List.drop_drop,h1]; rfl
   obtain ⟨F2,hF2⟩ := Tryz.brief_loop2 (O := noOracle) (K := 11) s (natD q.den) (at1 + 1) hl (by omega) hdrop2 (natD_all _) (by omega) hb
   rw [valD_natD] at hF2
   have w1 : IntKind.i64.wrap ((at1 : Int) + 1) = ((at1 + 1 : Nat) : Int) := by rw [wrap_i64 (by omega) (by omega)]; omega
   obtain ⟨at2,hat2⟩ : ∃ at2,at2 = at1 + 1 := ⟨_,rfl⟩
   rw [← hat2] at w1 hF2
   simp [loopsF,loopsC,Tryz.f122] at hb
   obtain ⟨rfl,rfl⟩ := hb
   by_cases h0 : q.num < 0
   ·rw [if_pos h0] at hst
    subst hst
    have hc : s[0]? = some 45 := by rw [hsh,if_pos h0]; rfl
    have e : -(N : Int) = q.num := by omega
    have wn' : IntKind.i64.wrap (-(N : Int)) = q.num := by rw [wn,e]
    simp only [Int.natCast_one] at hF
    simp [callFn,hG,Tryz.f122,hlI,hc,hF,hatl,hatlI,w1,hF2,wn']
   ·rw [if_neg h0] at hst
    subst hst
    have hc : ∃ c,s[0]? = some c ∧ isD c = true := by
     rw [hsh,if_neg h0]
     cases hx : natD N with
     | nil => exact absurd hx hNn
     | cons c r =>
      rw [hx] at hallN
      simp only [List.all_cons,Bool.and_eq_true] at hallN
      exact ⟨c,by simp,hallN.1⟩
    obtain ⟨c,hc,hcD⟩ := hc
    have hc45 := isD_ne_minus hcD
    have e : (N : Int) = q.num := by omega
    have wp' : IntKind.i64.wrap (N : Int) = q.num := by rw [wp,e]
    simp only [Int.natCast_zero] at hF
    simp [callFn,hG,Tryz.f122,hlI,hc,hc45,hF,hatl,hatlI,w1,hF2,wp']
 ·rw [if_neg hl]
  have hlI : (9 < ((ratS q).length : Int)) := by omega
  simp [callFn,hG,Tryz.f122,hlI]
theorem brief_ltS {q : Rat} (h : (ratS q).length ≤ 9) : q.num.natAbs < 10 ^ 9 ∧ q.den < 10 ^ 9 := big_of_length h
noncomputable def Tryz.rsF1 (f : FuncId) (args : List AV) : Option AV :=
 match f,args with
 | 122,[.str s] => match ratP s with
  | some q => some (if (ratS q).length ≤ 9 then .tuple [.int .i64 q.num,.int .i64 q.den,.bool true] else .tuple [.int .i64 0,.int .i64 0,.bool false])
  | none => none
 | 123,[.int .i64 n,.int .i64 m] => if 0 < m ∧ n.natAbs ≤ 4611686018427387904 ∧ m ≤ 4611686018427387904 then some (.str (ratS (mkRat n m.toNat))) else none
 | 128,[.str s,.str t] => match intP s,natP t with
  | some n,some d => if d ≠ 0 ∧ (intS n).length ≤ 18 ∧ (natD d).length ≤ 18 then some (.str (ratS (mkRat n d))) else none
  | _,_ => none
 | 81,[.int .i64 n] => if fitsI n then some (.str (intS n)) else none
 | f,args => Tryz.strF f args
theorem Tryz.aSInt (n : Int) (hn : fitsI n = true) (mem : Mem) : ACallsTo Tryz.prog 81 [.int .i64 n] mem (.str (intS n)) mem := by
 have hG : fnOf Tryz.prog 81 = some Tryz.f81 := by kernel_rfl
 refine Tryz.run Tryz.str_ok (lv := fun _ => []) (K := 1) rfl rfl ?_ mem
 simp [callFn,hG,Tryz.f81,pureO,Tryz.strF,hn]
theorem Tryz.rs1_ok : OracleOk Tryz.prog (pureO Tryz.rsF1) := pureO_ok fun f args v h mem => by
 unfold Tryz.rsF1 at h
 split at h
 ·split at h
  ·rename_i q hq; cases h; rw [ratP_some hq]; exact Tryz.aPBrief q mem
  ·cases h
 ·rename_i n m
  split at h
  ·rename_i hc
   cases h
   have := Tryz.aPLowest n m.toNat hc.2.1 (by omega) (by omega) mem
   rw [Int.toNat_of_nonneg (by omega)] at this
   exact this
  ·cases h
 ·split at h
  ·rename_i m n hm hn
   split at h
   ·rename_i hc; cases h; rw [intP_some hm,natP_some hn]; exact Tryz.aPSmall m n hc.1 hc.2.1 hc.2.2 mem
   ·cases h
  ·cases h
 ·split at h
  ·rename_i hc; cases h; exact Tryz.aSInt _ hc mem
  ·cases h
 ·have := Tryz.str_ok.fn _ _ mem ⟨v,none,[]⟩ (by unfold pureO; simp only; rw [h])
  simpa [CallRes.mem] using this
theorem Tryz.aSFraction (n : Int) (d : Nat) (hd : d ≠ 0) (hn : n.natAbs < 10 ^ 8) (hd2 : d < 10 ^ 8) (mem : Mem) : ACallsTo Tryz.prog 80 [.str (intS n),.str (natD d)] mem (.str (ratS (mkRat n d))) mem := by
 have hG : fnOf Tryz.prog 80 = some Tryz.f80 := by kernel_rfl
 refine Tryz.run Tryz.rs1_ok (lv := fun _ => []) (K := 1) rfl rfl ?_ mem
 have l1 : (natD n.natAbs).length ≤ 8 := natD_length_le (by omega) hn
 have l2 : (natD d).length ≤ 8 := natD_length_le (by omega) hd2
 have l3 : (intS n).length ≤ 9 := by have := intS_length n; omega
 have c1 : ((intS n).length : Int) ≤ 9 := by omega
 have c2 : ((natD d).length : Int) ≤ 9 := by omega
 have c3 : (intS n).length ≤ 18 := by omega
 have c4 : (natD d).length ≤ 18 := by omega
 have c5 : (natD d).length ≤ 9 := by omega
 simp [callFn,hG,Tryz.f80,pureO,Tryz.rsF1,intP_intS,natP_natD',natP_natD,l3,c1,c2,c3,c4,c5,hd]
noncomputable def Tryz.rsF2 (f : FuncId) (args : List AV) : Option AV :=
 match f,args with
 | 80,[.str s,.str t] => match intP s,natP t with
  | some n,some d => if d ≠ 0 ∧ n.natAbs < 10 ^ 8 ∧ d < 10 ^ 8 then some (.str (ratS (mkRat n d))) else none
  | _,_ => none
 | f,args => Tryz.rsF1 f args
theorem Tryz.rs2_ok : OracleOk Tryz.prog (pureO Tryz.rsF2) := pureO_ok fun f args v h mem => by
 unfold Tryz.rsF2 at h
 split at h
 ·split at h
  ·rename_i m n hm hn
   split at h
   ·rename_i hc; cases h; rw [intP_some hm,natP_some hn]; exact Tryz.aSFraction m n hc.1 hc.2.1 hc.2.2 mem
   ·cases h
  ·cases h
 ·have := Tryz.rs1_ok.fn _ _ mem ⟨v,none,[]⟩ (by unfold pureO; simp only; rw [h])
  simpa [CallRes.mem] using this
theorem Tryz.aSOf (n : Int) (d : Nat) (hd : d ≠ 0) (hn : n.natAbs < 10 ^ 8) (hd2 : d < 10 ^ 8) (mem : Mem) : ACallsTo Tryz.prog 53 [.int .i64 n,.int .i64 d] mem (.str (ratS (mkRat n d))) mem := by
 have hG : fnOf Tryz.prog 53 = some Tryz.f53 := by kernel_rfl
 refine Tryz.run Tryz.rs2_ok (lv := fun _ => []) (K := 1) rfl rfl ?_ mem
 have f1 : fitsI n = true := by unfold fitsI; simp; omega
 have f2 : fitsI (d : Int) = true := by unfold fitsI; simp; omega
 have hi : intS (d : Int) = natD d := rfl
 have hn' : n.natAbs < 100000000 := hn
 have hd' : d < 100000000 := hd2
 simp [callFn,hG,Tryz.f53,pureO,Tryz.rsF2,Tryz.rsF1,f1,f2,hi,intP_intS,natP_natD',natP_natD,hd,hn',hd']
set_option maxHeartbeats 1600000 in
theorem Tryz.aSAdd (a b : Rat) (qa : (ratS a).length ≤ 9) (qb : (ratS b).length ≤ 9) (mem : Mem) :
  ACallsTo Tryz.prog 78 [.str (ratS a),.str (ratS b)] mem (.str (ratS (a + b))) mem := by
 have hG : fnOf Tryz.prog 78 = some Tryz.f78 := by kernel_rfl
 refine Tryz.run Tryz.rs1_ok (lv := fun _ => []) (K := 1) rfl rfl ?_ mem
 have hdp : a.den * b.den ≠ 0 := Nat.mul_ne_zero a.den_nz b.den_nz
 have hsum := Rat.add_def' a b
 obtain ⟨X,hX⟩ : ∃ X,X = a.num * (b.den : Int) := ⟨_,rfl⟩
 obtain ⟨Y,hY⟩ : ∃ Y,Y = b.num * (a.den : Int) := ⟨_,rfl⟩
 obtain ⟨D,hD⟩ : ∃ D,D = a.den * b.den := ⟨_,rfl⟩
 rw [← hX,← hY,← hD] at hsum
 rw [← hD] at hdp
 rw [hsum]
 obtain ⟨a1,a2⟩ := brief_ltS qa
 obtain ⟨b1,b2⟩ := brief_ltS qb
 have x1 : X.natAbs < 10 ^ 9 * 10 ^ 9 := by rw [hX]; exact natAbs_mul_lt a1 (by simpa using b2)
 have y1 : Y.natAbs < 10 ^ 9 * 10 ^ 9 := by rw [hY]; exact natAbs_mul_lt b1 (by simpa using a2)
 have d1 : D < 10 ^ 9 * 10 ^ 9 := by rw [hD]; exact Nat.mul_lt_mul'' a2 b2
 have w1 : IntKind.i64.wrap (a.num * (b.den : Int)) = X := by rw [← hX]; exact wrap_i64 (by omega) (by omega)
 have w2 : IntKind.i64.wrap (b.num * (a.den : Int)) = Y := by rw [← hY]; exact wrap_i64 (by omega) (by omega)
 have w3 : IntKind.i64.wrap (X + Y) = X + Y := wrap_i64 (by omega) (by omega)
 have w4 : IntKind.i64.wrap ((a.den : Int) * (b.den : Int)) = (D : Int) := by
  rw [← Int.natCast_mul,← hD]; exact wrap_i64 (by omega) (by omega)
 have c1 : (X + Y).natAbs ≤ 4611686018427387904 := by omega
 have c2 : (D : Int) ≤ 4611686018427387904 := by omega
 have c2' : D ≤ 4611686018427387904 := by omega
 have c3 : 0 < D := by omega
 have c3' : (0 : Int) < D := by omega
 simp [callFn,hG,Tryz.f78,pureO,Tryz.rsF1,ratP_ratS,qa,qb,w1,w2,w3,w4,hdp,c1,c2,c2',c3,c3']
set_option maxHeartbeats 1600000 in
theorem Tryz.aSMul (a b : Rat) (qa : (ratS a).length ≤ 9) (qb : (ratS b).length ≤ 9) (mem : Mem) :
  ACallsTo Tryz.prog 191 [.str (ratS a),.str (ratS b)] mem (.str (ratS (a * b))) mem := by
 have hG : fnOf Tryz.prog 191 = some Tryz.f191 := by kernel_rfl
 refine Tryz.run Tryz.rs1_ok (lv := fun _ => []) (K := 1) rfl rfl ?_ mem
 have hdp : a.den * b.den ≠ 0 := Nat.mul_ne_zero a.den_nz b.den_nz
 have hsum := Rat.mul_def' a b
 obtain ⟨X,hX⟩ : ∃ X,X = a.num * b.num := ⟨_,rfl⟩
 obtain ⟨D,hD⟩ : ∃ D,D = a.den * b.den := ⟨_,rfl⟩
 rw [← hX,← hD] at hsum
 rw [← hD] at hdp
 rw [hsum]
 obtain ⟨a1,a2⟩ := brief_ltS qa
 obtain ⟨b1,b2⟩ := brief_ltS qb
 have x1 : X.natAbs < 10 ^ 9 * 10 ^ 9 := by rw [hX]; exact natAbs_mul_lt a1 b1
 have d1 : D < 10 ^ 9 * 10 ^ 9 := by rw [hD]; exact Nat.mul_lt_mul'' a2 b2
 have w1 : IntKind.i64.wrap (a.num * b.num) = X := by rw [← hX]; exact wrap_i64 (by omega) (by omega)
 have w4 : IntKind.i64.wrap ((a.den : Int) * (b.den : Int)) = (D : Int) := by
  rw [← Int.natCast_mul,← hD]; exact wrap_i64 (by omega) (by omega)
 have c1 : X.natAbs ≤ 4611686018427387904 := by omega
 have c2 : (D : Int) ≤ 4611686018427387904 := by omega
 have c2' : D ≤ 4611686018427387904 := by omega
 have c3 : 0 < D := by omega
 have c3' : (0 : Int) < D := by omega
 simp [callFn,hG,Tryz.f191,pureO,Tryz.rsF1,ratP_ratS,qa,qb,w1,w4,hdp,c1,c2,c2',c3,c3']
end Go.Proofs
