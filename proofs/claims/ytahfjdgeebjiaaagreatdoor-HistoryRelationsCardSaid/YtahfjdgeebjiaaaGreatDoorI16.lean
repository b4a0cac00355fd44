/- See I57. -/
import Derived.Test.YtahfjdgeebjiaaaGreatDoorI15
import Derived.Test.YtahfjdgeebjiaaaGreatDoorI10
set_option linter.all false
namespace Go.Proofs
open Go.Eng
theorem Tryz.aSign (n : Int) (mem : Mem) : ACallsTo Tryz.prog 180 [.str (intS n)] mem (.int .i64 (sgnI n)) mem := by
 have hG : fnOf Tryz.prog 180 = some Tryz.f180 := by kernel_rfl
 refine Tryz.run Tryz.str_ok (lv := fun _ => []) (K := 1) rfl rfl ?_ mem
 by_cases h0 : n = 0
 ·simp [callFn,hG,Tryz.f180,intS_beq_zero,sgnI,h0]
 ·by_cases h1 : n < 0
  ·simp [callFn,hG,Tryz.f180,pureO,Tryz.strF,intS_beq_zero,hasPrefix_intS,h1,h0,sgnI]
  ·simp [callFn,hG,Tryz.f180,pureO,Tryz.strF,intS_beq_zero,hasPrefix_intS,h1,h0,sgnI]
theorem Tryz.aOf (n : Int) (hn : fitsI n = true) (mem : Mem) : ACallsTo Tryz.prog 108 [.int .i64 n] mem (.str (intS n)) mem := by
 have hG : fnOf Tryz.prog 108 = some Tryz.f108 := by kernel_rfl
 refine Tryz.run Tryz.str_ok (lv := fun _ => []) (K := 1) rfl rfl ?_ mem
 simp [callFn,hG,Tryz.f108,pureO,Tryz.strF,hn]
theorem Tryz.nilError (r c : Bool) : aNil (tyOf Tryz.prog) 304 r c .nilIface .nilIface = if r || c then some true else none := aNil_iface (by kernel_rfl) r c
theorem Tryz.aQuick (n : Int) (m : Int) (hm : m ≤ 18) (hl : (intS n).length ≤ 1000000000) (mem : Mem) : ACallsTo Tryz.prog 261 [.str (intS n),.int .i64 m] mem (if (intS n).length ≤ m then .tuple [.int .i64 n,.bool true] else .tuple [.int .i64 0,.bool false]) mem := by
 have hG : fnOf Tryz.prog 261 = some Tryz.f261 := by kernel_rfl
 refine Tryz.run Tryz.str_ok (lv := fun _ => []) (K := 1) rfl (by split <;> rfl) ?_ mem
 by_cases h : ((intS n).length : Int) ≤ m
 ·have h2 : ¬ m < ((intS n).length : Int) := by omega
  have h3 : (intS n).length ≤ 18 := by omega
  simp [callFn,hG,Tryz.f261,pureO,Tryz.strF,h,h2,h3,atoi_intS,Tryz.nilError]
 ·have h2 : m < ((intS n).length : Int) := by omega
  simp [callFn,hG,Tryz.f261,h,h2]
noncomputable def Tryz.intF1 (f : FuncId) (args : List AV) : Option AV :=
 match f,args with
 | 180,[.str s] => match intP s with
  | some n => some (.int .i64 (sgnI n))
  | none => none
 | _,_ => Tryz.strF f args
theorem Tryz.int1_ok : OracleOk Tryz.prog (pureO Tryz.intF1) := by
 have hs := Tryz.str_ok
 refine pureO_ok fun f args v h mem => ?_
 unfold Tryz.intF1 at h
 split at h
 ·split at h
  ·rename_i n hn; cases h; rw [intP_some hn]; exact Tryz.aSign n mem
  ·cases h
 ·have := hs.fn f args mem ⟨v,none,[]⟩ (by unfold pureO; simp only; rw [h])
  simpa [CallRes.mem] using this
theorem Tryz.aNeg (n : Int) (hl : (intS n).length ≤ 1000000000) (mem : Mem) : ACallsTo Tryz.prog 257 [.str (intS n)] mem (.str (intS (-n))) mem := by
 have hG : fnOf Tryz.prog 257 = some Tryz.f257 := by kernel_rfl
 refine Tryz.run Tryz.int1_ok (lv := fun _ => []) (K := 1) rfl rfl ?_ mem
 by_cases h0 : n = 0
 ·subst h0
  simp [callFn,hG,Tryz.f257,pureO,Tryz.intF1,intP_intS,sgnI]
 ·by_cases h1 : n < 0
  ·have h2 : 1 ≤ (intS n).length := intS_length_pos n
   have h3 : ((1 : Int) ≤ (intS n).length) := by omega
   have h4 : List.take ((intS n).length - 1) (List.drop 1 (intS n)) = intS (-n) := by
    rw [List.take_of_length_le (by simp),intS_drop_neg h1]
   simp [callFn,hG,Tryz.f257,pureO,Tryz.intF1,intP_intS,sgnI,h1,h3]
   rw [← List.drop_one]
   exact h4
  ·have h5 : 1 + (intS n).length ≤ 9223372036854775807 := by omega
   simp [callFn,hG,Tryz.f257,pureO,Tryz.intF1,intP_intS,sgnI,h0,h1,h5,maxInt,intS_neg_pos (show 0 < n by omega)]
theorem Tryz.aCompareI (a b : Int) (mem : Mem) : ACallsTo Tryz.prog 173 [.str (intS a),.str (intS b)] mem (.int .i64 (cmpI a b)) mem := by
 have hG : fnOf Tryz.prog 173 = some Tryz.f173 := by kernel_rfl
 refine Tryz.run Tryz.int1_ok (lv := fun _ => []) (K := 1) rfl rfl ?_ mem
 rw [cmpI_eq]
 have hs : ∀ n,-1 ≤ sgnI n ∧ sgnI n ≤ 1 := by intro n; unfold sgnI; repeat' split <;> omega
 by_cases h0 : sgnI a = sgnI b
 ·by_cases h1 : (natD a.natAbs).length = (natD b.natAbs).length
  ·have hc : IntKind.i64.wrap (sgnI b * cmpN a.natAbs b.natAbs) = sgnI b * cmpN a.natAbs b.natAbs := by
    have h1 := hs b
    have h2 : -1 ≤ cmpN a.natAbs b.natAbs ∧ cmpN a.natAbs b.natAbs ≤ 1 := by unfold cmpN; repeat' split <;> omega
    have h3 : -1 ≤ sgnI b * cmpN a.natAbs b.natAbs ∧ sgnI b * cmpN a.natAbs b.natAbs ≤ 1 := by
     generalize sgnI b = x at *
     generalize cmpN a.natAbs b.natAbs = y at *
     have hx : x = -1 ∨ x = 0 ∨ x = 1 := by omega
     rcases hx with rfl | rfl | rfl <;> omega
    exact wrap_i64 (by omega) (by omega)
   simp [callFn,hG,Tryz.f173,pureO,Tryz.intF1,Tryz.strF,intP_intS,trimPrefix_intS,h0,h1,compareBytes_natD h1,hc]
  ·have hw : IntKind.i64.wrap (- sgnI b) = - sgnI b := by have := hs b; exact wrap_i64 (by omega) (by omega)
   have h1i : ¬ ((natD a.natAbs).length : Int) = (natD b.natAbs).length := by omega
   by_cases h2 : (natD a.natAbs).length < (natD b.natAbs).length
   ·simp [callFn,hG,Tryz.f173,pureO,Tryz.intF1,Tryz.strF,intP_intS,trimPrefix_intS,h0,h1,h1i,h2,hw]
   ·simp [callFn,hG,Tryz.f173,pureO,Tryz.intF1,Tryz.strF,intP_intS,trimPrefix_intS,h0,h1,h1i,h2]
 ·by_cases h2 : sgnI a < sgnI b
  ·simp [callFn,hG,Tryz.f173,pureO,Tryz.intF1,intP_intS,h0,h2]
  ·simp [callFn,hG,Tryz.f173,pureO,Tryz.intF1,intP_intS,h0,h2]
theorem Tryz.check_loop {O : Oracle} {K : Nat} {lv : Code → List Nat} (s : List UInt8) (hs : s.length ≤ 1000000000) (env0 : Env) (d : Bool) (h3 : Eng.look env0 3 = .str s) (h32 : Eng.look env0 32 = .int .i64 s.length) {b : Code} (hb : loopsF Tryz.f254 = [b]) :
  ∀ (k i : Nat),i ≤ s.length → s.length ≤ i + k → ∃ env',iter [33] (writesC b) env0 0 (execC (tyOf Tryz.prog) lv O K 47 0 true b) (k + 1) ⟨normE [33] (writesC b) env0 ((33,.int .i64 i) :: env0),[],d⟩ =
   some (if (s.drop i).all isD then .exit 0 else .ret,⟨env',[],d⟩) ∧ ((s.drop i).all isD = false → Eng.look env' 2 = .int .i64 2) := by
 simp [loopsF,loopsC,Tryz.f254] at hb
 have last : ∀ k,∃ env',iter [33] (writesC b) env0 0 (execC (tyOf Tryz.prog) lv O K 47 0 true b) (k + 1) ⟨normE [33] (writesC b) env0 ((33,.int .i64 s.length) :: env0),[],d⟩ =
   some (if (s.drop s.length).all isD then .exit 0 else .ret,⟨env',[],d⟩) ∧ ((s.drop s.length).all isD = false → Eng.look env' 2 = .int .i64 2) := by
  intro k
  subst hb
  simp [iter,h32]
 intro k
 induction k with
 | zero =>
  intro i hi1 hi2
  have hi' : i = s.length := by omega
  subst hi'
  exact last 0
 | succ k ih =>
  intro i hi1 hi2
  by_cases hi' : i = s.length
  ·subst hi'; exact last (k + 1)
  have hlt : i < s.length := by omega
  have hlt' : (i : Int) < s.length := by omega
  obtain ⟨c,hc⟩ : ∃ c,s[i]? = some c := ⟨s[i],by simp [hlt]⟩
  have hd : s.drop i = c :: s.drop (i + 1) := by
   rw [List.drop_eq_getElem_cons hlt]
   congr 1
   have := List.getElem?_eq_getElem hlt
   rw [hc] at this
   exact (Option.some.inj this).symm
  have hw : IntKind.i64.wrap ((i : Int) + 1) = ((i + 1 : Nat) : Int) := by rw [wrap_i64 (by omega) (by omega)]; omega
  obtain ⟨env',e1,e2⟩ := ih (i + 1) (by omega) (by omega)
  subst hb
  unfold iter
  by_cases h1 : c.toNat < 48
  ·have hn : isD c = false := by unfold isD; simp; omega
   have h1' : ((c.toNat : Int) < 48) := by omega
   simp [h3,h32,hlt',hc,h1',hd,hn]
  ·have h1' : ¬ ((c.toNat : Int) < 48) := by omega
   by_cases h2 : 57 < c.toNat
   ·have hn : isD c = false := by unfold isD; simp; omega
    have h2' : (57 < (c.toNat : Int)) := by omega
    simp [h3,h32,hlt',hc,h1',h2',hd,hn]
   ·have hn : isD c = true := by unfold isD; simp; omega
    have h2' : ¬ (57 < (c.toNat : Int)) := by omega
    refine ⟨env',?_,?_⟩
    ·simp [h3,h32,hlt',hc,h1',h2',hd,hn,hw]
     simp at e1
     exact e1
    ·rw [hd]; simpa [hn] using e2
theorem Tryz.check_loop' {O : Oracle} {K : Nat} {lv : Code → List Nat} (s : List UInt8) (hs : s.length ≤ 1000000000) (hK : s.length < K) {b : Code} (hb : loopsF Tryz.f254 = [b]) (hlv : lv b = [33]) :
  ∃ F : Env → Bool → Env,∀ env0 d,(Eng.look env0 3 = .str s ∧ Eng.look env0 32 = .int .i64 s.length ∧ Eng.look env0 33 = .int .i64 0) →
   execC (tyOf Tryz.prog) lv O K 47 0 true (.loop b) ⟨env0,[],d⟩ = some (if s.all isD then .exit 0 else .ret,⟨F env0 d,[],d⟩) ∧ (s.all isD = false → Eng.look (F env0 d) 2 = .int .i64 2) := by
 refine skolemE (p := fun env0 _ => Eng.look env0 3 = .str s ∧ Eng.look env0 32 = .int .i64 s.length ∧ Eng.look env0 33 = .int .i64 0) (q := fun env0 d e' => execC (tyOf Tryz.prog) lv O K 47 0 true (.loop b) ⟨env0,[],d⟩ = some (if s.all isD then .exit 0 else .ret,⟨e',[],d⟩) ∧ (s.all isD = false → Eng.look e' 2 = .int .i64 2)) ?_
 rintro env0 d ⟨h3,h32,h33⟩
 obtain ⟨env',e1,e2⟩ := Tryz.check_loop (O := O) (K := K) (lv := lv) s hs env0 d h3 h32 hb (K - 1) 0 (by omega) (by omega)
 refine ⟨env',?_,by simpa using e2⟩
 rw [execC_loop,hlv]
 have hn : normE [33] (writesC b) env0 ((33,.int .i64 (0 : Nat)) :: env0) = normE [33] (writesC b) env0 env0 := by simp [normE,h33]
 rw [hn,show K - 1 + 1 = K by omega] at e1
 simpa using e1
def okT (mn : Bool) (t : List UInt8) : Bool := match t with
 | [] => false
 | c :: r => decide (r.length < 200) && !(c == 48 && (decide (0 < r.length) || mn)) && (c :: r).all isD
theorem u8_48 {c : UInt8} : ((c.toNat : Int) = 48) ↔ c = 48 := by
 constructor
 ·intro e
  apply UInt8.toNat_inj.1
  have : c.toNat = 48 := by omega
  rw [this]; rfl
 ·rintro rfl; rfl
theorem Tryz.aCheckI (s : List UInt8) (hs : s.length ≤ 1000000000) (mem : Mem) : ACallsTo Tryz.prog 254 [.str s] mem (.int .i64 (if okT (Lib.hasPrefix s [45]) (Lib.trimPrefix s [45]) then 0 else 2)) mem := by
 have hG : fnOf Tryz.prog 254 = some Tryz.f254 := by kernel_rfl
 refine Tryz.run Tryz.str_ok (lv := fun _ => [33]) (K := s.length + 1) rfl rfl ?_ mem
 have ht : (Lib.trimPrefix s [45]).length ≤ s.length := by unfold Lib.trimPrefix; split <;> simp
 cases htp : Lib.trimPrefix s [45] with
 | nil => simp [callFn,hG,Tryz.f254,pureO,Tryz.strF,htp,okT]
 | cons c r =>
  rw [htp] at ht
  simp only [List.length_cons] at ht
  obtain ⟨b,hb⟩ : ∃ b,loopsF Tryz.f254 = [b] := ⟨_,rfl⟩
  obtain ⟨F,hF⟩ := Tryz.check_loop' (O := pureO Tryz.strF) (K := s.length + 1) (lv := fun _ => [33]) (c :: r) (by simp; omega) (by simp; omega) hb rfl
  simp [loopsF,loopsC,Tryz.f254] at hb
  subst hb
  simp only [List.length_cons] at hF
  by_cases h1 : r.length < 200
  ·have h1' : ¬ (200 < (r.length : Int) + 1) := by omega
   by_cases h2 : c = 48
   ·subst h2
    by_cases h3 : 0 < r.length
    ·have h3' : 1 < (r.length : Int) + 1 := by omega
     simp [callFn,hG,Tryz.f254,pureO,Tryz.strF,htp,okT,h1,h1',h3,h3']
    ·have h3' : ¬ 1 < (r.length : Int) + 1 := by omega
     have hr : r = [] := List.eq_nil_of_length_eq_zero (by omega)
     subst hr
     cases hmn : Lib.hasPrefix s [45] with
     | true => simp [callFn,hG,Tryz.f254,pureO,Tryz.strF,htp,okT,hmn]
     | false =>
      have hd : isD 48 = true := by decide
      simp [callFn,hG,Tryz.f254,pureO,Tryz.strF,htp,okT,hmn,hF,hd]
   ·have h2' : ¬ ((c.toNat : Int) = 48) := fun e => h2 (u8_48.1 e)
    cases hall : (c :: r).all isD with
    | true => simp [callFn,hG,Tryz.f254,pureO,Tryz.strF,htp,okT,h1,h1',h2,h2',hF,hall]
    | false => simp [callFn,hG,Tryz.f254,pureO,Tryz.strF,htp,okT,h1,h1',h2,h2',hF,hall]
  ·have h1' : (200 < (r.length : Int) + 1) := by omega
   simp [callFn,hG,Tryz.f254,pureO,Tryz.strF,htp,okT,h1,h1']
end Go.Proofs
