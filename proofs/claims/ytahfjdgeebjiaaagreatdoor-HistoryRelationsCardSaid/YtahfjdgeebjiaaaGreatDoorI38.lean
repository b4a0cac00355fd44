/- See I57. -/
import Derived.Test.YtahfjdgeebjiaaaGreatDoorI22
import Derived.Test.YtahfjdgeebjiaaaGreatDoorI08
import Derived.Test.YtahfjdgeebjiaaaGreatDoorI20
import Derived.Test.YtahfjdgeebjiaaaGreatDoorI10
import Derived.Test.YtahfjdgeebjiaaaGreatDoorI18
set_option linter.all false
namespace Go.Proofs
open Go.Eng
def kC : List (List UInt8 × List UInt8) → List AV
 | [] => []
 | k :: l => .str k.1 :: .str k.2 :: kC l
theorem kC_length : ∀ l : List (List UInt8 × List UInt8),(kC l).length = 2 * l.length
 | [] => rfl
 | _ :: l => by simp only [kC,List.length_cons,kC_length l]; omega
theorem kC_drop : ∀ (l : List (List UInt8 × List UInt8)) (i : Nat),(kC l).drop (i * 2) = kC (l.drop i)
 | l,0 => by simp
 | [],i + 1 => by simp [kC]
 | k :: l,i + 1 => by
  have : (i + 1) * 2 = i * 2 + 1 + 1 := by omega
  rw [this]
  simp only [kC,List.drop_succ_cons]
  exact kC_drop l i
theorem kC_at {l : List (List UInt8 × List UInt8)} {i : Nat} {k : List UInt8 × List UInt8} (h : l[i]? = some k) :
  ((kC l).drop (i * 2)).take 2 = [.str k.1,.str k.2] ∧ (kC l)[i * 2]? = some (.str k.1) ∧ (kC l)[i * 2 + 1]? = some (.str k.2) := by
 have hd : l.drop i = k :: l.drop (i + 1) := by
  rw [List.getElem?_eq_some_iff] at h
  obtain ⟨h1,h2⟩ := h
  rw [← h2]; exact List.drop_eq_getElem_cons h1
 have e := kC_drop l i
 rw [hd] at e
 refine ⟨by rw [e]; rfl,?_,?_⟩
 ·have : (kC l)[i * 2]? = ((kC l).drop (i * 2))[0]? := by rw [List.getElem?_drop]; rfl
  rw [this,e]; rfl
 ·have : (kC l)[i * 2 + 1]? = ((kC l).drop (i * 2))[1]? := by rw [List.getElem?_drop]
  rw [this,e]; rfl
theorem kC_refs (n : Nat) : ∀ l : List (List UInt8 × List UInt8),AV.refsL n (kC l) = []
 | [] => by simp [kC,AV.refsL]
 | k :: l => by simp [kC,AV.refsL,AV.refs,kC_refs n l]
def kT (Q : List (Rat × Rat)) : List (List UInt8 × List UInt8) := Q.map fun q => (ratS q.1,ratS q.2)
theorem kT_length (Q : List (Rat × Rat)) : (kT Q).length = Q.length := by simp [kT]
def risesB (p : Option Rat) (q : Rat) : Bool := match p with
 | some r => decide (r < q)
 | none => true
def ckE (p : Option Rat) : List (List UInt8 × List UInt8) → Int
 | [] => 0
 | k :: l => if chkR k.1 = 0 ∧ chkR k.2 = 0 then (if risesB p ((ratP k.1).getD 0) then ckE (ratP k.1) l else 6) else 2
def behind (L : List (List UInt8 × List UInt8)) (n : Nat) (p : Option Rat) : Prop :=
 (n = 0 ∧ p = none) ∨ (∃ m q k,n = m + 1 ∧ p = some q ∧ L[m]? = some k ∧ k.1 = ratS q ∧ (natD q.num.natAbs).length ≤ 200 ∧ (natD q.den).length ≤ 200)
theorem ratS_lens (q : Rat) : (natD q.num.natAbs).length ≤ (ratS q).length ∧ (natD q.den).length ≤ (ratS q).length := by
 have h := natD_le_intS q.num
 unfold ratS
 split
 ·rename_i h1
  have h2 := natD_pos q.num.natAbs
  rw [h1]
  exact ⟨h,by have : (natD 1).length = 1 := rfl; omega⟩
 ·simp only [List.length_append,List.length_cons]
  exact ⟨by omega,by omega⟩
set_option maxHeartbeats 1600000 in
theorem Tryz.check_knots_loop {K : Nat} (L : List (List UInt8 × List UInt8)) (hL : ∀ k ∈ L,k.1.length ≤ 9 ∧ k.2.length ≤ 9) (hl : L.length ≤ 1000000000) (hK : L.length < K) {b : Code} (hb : loopsF Tryz.f284 = [b]) :
  ∃ F : Env → Bool → Env × Mem × (List UInt8 × List UInt8),∀ env0 d,(Eng.look env0 0 = .slice 0 0 L.length none ∧ Eng.look env0 8 = .slice 0 0 L.length none ∧ Eng.look env0 9 = .int .i64 L.length ∧ Eng.look env0 10 = .int .i64 0) →
   execC (tyOf Tryz.prog) (fun _ => [10]) (pureO Tryz.ratF4) K 40 1 true (.loop b) ⟨env0,[.cells false 2 (kC L)],d⟩ = some (if ckE none L = 0 then .exit 0 else .ret,⟨(F env0 d).1,(F env0 d).2.1,d⟩) ∧
    ((ckE none L = 0 → (F env0 d).2.1 = [.cells false 2 (kC L)]) ∧ (ckE none L ≠ 0 → (F env0 d).2.1 = [.cells false 2 (kC L),.cells true 0 [.str (F env0 d).2.2.1,.str (F env0 d).2.2.2]] ∧ Eng.look (F env0 d).1 2 = .int .i64 (ckE none L))) := by
 refine loop_rule_m (β := List UInt8 × List UInt8) rfl (fun env0 => (Eng.look env0 0 = .slice 0 0 L.length none ∧ Eng.look env0 8 = .slice 0 0 L.length none ∧ Eng.look env0 9 = .int .i64 L.length ∧ Eng.look env0 10 = .int .i64 0)) (fun _ env' mem' x => (ckE none L = 0 → mem' = [.cells false 2 (kC L)]) ∧ (ckE none L ≠ 0 → mem' = [.cells false 2 (kC L),.cells true 0 [.str x.1,.str x.2]] ∧ Eng.look env' 2 = .int .i64 (ckE none L))) ?_
 rintro env0 d ⟨h0,h8,h9,h10⟩
 simp [loopsF,loopsC,Tryz.f284] at hb
 have hn : normE [10] (writesC b) env0 ((10,.int .i64 ((0 : Nat) : Int)) :: env0) = normE [10] (writesC b) env0 env0 := by simp [normE,h10]
 rw [← hn]
 have kl : (kC L).length = 2 * L.length := kC_length L
 refine iter_ind_m (α := Nat) (fun n => ⟨normE [10] (writesC b) env0 ((10,.int .i64 (n : Int)) :: env0),[.cells false 2 (kC L)],d⟩) (fun n => L.length - n) (fun n => n ≤ L.length ∧ ∃ p,behind L n p ∧ ckE none L = ckE p (L.drop n)) (if ckE none L = 0 then .exit 0 else .ret) d (fun env' mem' => ∃ x : List UInt8 × List UInt8,(ckE none L = 0 → mem' = [.cells false 2 (kC L)]) ∧ (ckE none L ≠ 0 → mem' = [.cells false 2 (kC L),.cells true 0 [.str x.1,.str x.2]] ∧ Eng.look env' 2 = .int .i64 (ckE none L))) (by split <;> simp) ?_ K 0 ⟨by omega,none,.inl ⟨rfl,rfl⟩,by rw [List.drop_zero]⟩ (by omega)
 rintro n ⟨hn1,p,hp,he⟩
 clear hn
 subst hb
 by_cases hlt : n < L.length
 ·obtain ⟨k,hk⟩ : ∃ k,L[n]? = some k := ⟨L[n],List.getElem?_eq_getElem hlt⟩
  obtain ⟨k1,k2,k3⟩ := kC_at hk
  obtain ⟨l1,l2⟩ := hL k (List.mem_of_getElem? hk)
  have l1' : k.1.length ≤ 18 := by omega
  have l2' : k.2.length ≤ 18 := by omega
  have hd : L.drop n = k :: L.drop (n + 1) := by
   rw [List.getElem?_eq_some_iff] at hk
   obtain ⟨h1,h2⟩ := hk
   rw [← h2]; exact List.drop_eq_getElem_cons h1
  rw [hd,ckE] at he
  have w1 : IntKind.i64.wrap ((n : Int) + 1) = ((n + 1 : Nat) : Int) := by rw [wrap_i64 (by omega) (by omega)]; omega
  have k4 : n * 2 + 2 ≤ (kC L).length := by omega
  by_cases c1 : chkR k.1 = 0
  ·by_cases c2 : chkR k.2 = 0
   ·rw [if_pos ⟨c1,c2⟩] at he
    obtain ⟨q,hq,hqs,q1,q2⟩ := chkR_rat c1
    rw [hq] at he
    have ql := ratS_lens q
    rw [← hqs] at ql
    have q1' : (natD q.num.natAbs).length ≤ 9 := by omega
    have q2' : (natD q.den).length ≤ 9 := by omega
    clear ql
    simp only [Option.getD_some] at he
    rcases hp with ⟨rfl,rfl⟩ | ⟨m,r,j,rfl,rfl,hj,hjs,r1,r2⟩
    ·rw [if_pos (by rfl)] at he
     left
     refine ⟨1,?_⟩
     have hz : (0 : Int) < L.length := by omega
     have b1 : behind L 1 (some q) := .inr ⟨0,q,k,rfl,rfl,hk,hqs,q1,q2⟩
     have w3 : IntKind.i64.wrap 1 = 1 := rfl
     simp at k1 k4 hlt
     simp [h0,h8,h9,hlt,pureO,Tryz.ratF4,l1',l2',c1,c2,k1,k4,w3,kC_refs,Nat.testBit]
     exact ⟨⟨by omega,_,b1,by simpa using he⟩,by omega⟩
    ·obtain ⟨j1,j2,j3⟩ := kC_at hj
     have w2 : IntKind.i64.wrap (((m + 1 : Nat) : Int) - 1) = (m : Int) := by rw [wrap_i64 (by omega) (by omega)]; omega
     have rl := ratS_lens r
     have rl2 := (hL j (List.mem_of_getElem? hj)).1
     rw [← hjs] at rl
     have r1' : (natD r.num.natAbs).length ≤ 9 := by omega
     have r2' : (natD r.den).length ≤ 9 := by omega
     clear rl rl2
     obtain ⟨n,hn⟩ : ∃ n,n = m + 1 := ⟨_,rfl⟩
     rw [← hn] at hk k1 k2 k3 k4 w1 w2 hlt hn1 he hd ⊢
     have n0 : (0 : Int) < n := by omega
     have n0' : 0 < n := by omega
     have hm : m < L.length := by omega
     rw [hqs] at l1 l1' c1 k1
     rw [hjs] at j2
     have b1 : behind L (n + 1) (some q) := .inr ⟨n,q,k,rfl,rfl,hk,hqs,q1,q2⟩
     obtain ⟨v,hv⟩ : ∃ v,v = n + 1 := ⟨_,rfl⟩
     rw [← hv] at w1 b1 he
     by_cases hrq : r < q
     ·have c : ¬ cmpQ q r ≤ 0 := fun h => by have := cmpQ_le.1 h; grind
      rw [if_pos (by simp [risesB,hrq])] at he
      left
      refine ⟨v,?_⟩
      simp [h0,h8,h9,hlt,hm,n0,n0',pureO,Tryz.ratF4,Tryz.ratF3,ratP_ratS,l1',l2',c1,c2,k1,k4,j2,w1,w2,q1',q2',r1',r2',c,kC_refs,Nat.testBit]
      exact ⟨⟨by omega,_,b1,he⟩,by omega⟩
     ·have c : cmpQ q r ≤ 0 := cmpQ_le.2 (by grind)
      rw [if_neg (by simp [risesB,hrq])] at he
      right
      rw [he]
      simp [h0,h8,h9,hlt,hm,n0,n0',pureO,Tryz.ratF4,Tryz.ratF3,ratP_ratS,l1',l2',c1,c2,k1,k4,j2,w2,q1',q2',r1',r2',c,Nat.testBit]
      exact ⟨_,_,⟨rfl,rfl⟩,⟨_,_,rfl⟩,rfl⟩
   ·rw [if_neg (fun h => c2 h.2)] at he
    right
    rw [he]
    simp [h0,h8,h9,hlt,pureO,Tryz.ratF4,l1',l2',c1,c2,k1,k4,Nat.testBit]
    exact ⟨_,_,⟨rfl,rfl⟩,⟨k.1,k.2,rfl⟩,rfl⟩
  ·rw [if_neg (fun h => c1 h.1)] at he
   right
   rw [he]
   simp [h0,h8,h9,hlt,pureO,Tryz.ratF4,l1',l2',c1,k1,k4,Nat.testBit]
   exact ⟨_,_,⟨rfl,rfl⟩,⟨k.1,k.2,rfl⟩,rfl⟩
 ·right
  have e : L.drop n = [] := List.drop_of_length_le (by omega)
  rw [e,ckE] at he
  rw [he]
  simp [h9,hlt]
def knE (L : List (List UInt8 × List UInt8)) : Int := if 20 < L.length then 4 else ckE none L
theorem Tryz.aECheckKnots (L : List (List UInt8 × List UInt8)) (hL : ∀ k ∈ L,k.1.length ≤ 9 ∧ k.2.length ≤ 9) (hl : L.length ≤ 1000000000) :
  ACallsTo Tryz.prog 284 [.slice 0 0 L.length none] [.cells false 2 (kC L)] (.int .i64 (knE L)) [.cells false 2 (kC L)] := by
 have hG : fnOf Tryz.prog 284 = some Tryz.f284 := by kernel_rfl
 obtain ⟨b,hb⟩ : ∃ b,loopsF Tryz.f284 = [b] := ⟨_,rfl⟩
 obtain ⟨F,hF⟩ := Tryz.check_knots_loop (K := L.length + 1) L hL hl (by omega) hb
 simp [loopsF,loopsC,Tryz.f284] at hb
 subst hb
 have h : callFn (tyOf Tryz.prog) (fun _ => [10]) (fnOf Tryz.prog) (pureO Tryz.ratF4) (L.length + 1) 284 [.slice 0 0 L.length none] [.cells false 2 (kC L)] = some ⟨.int .i64 (knE L),none,[]⟩ := by
  unfold knE
  by_cases h20 : 20 < L.length
  ·rw [if_pos h20]
   have h20I : (20 : Int) < L.length := by omega
   simp [callFn,hG,Tryz.f284,h20I,h20]
  ·rw [if_neg h20]
   have h20I : ¬ (20 : Int) < L.length := by omega
   by_cases hc : ckE none L = 0
   ·rw [if_pos hc] at hF
    have hF1 := fun env0 d h => (hF env0 d h).1
    have hF2 := fun env0 d h => (hF env0 d h).2.1 hc
    clear hF
    simp [callFn,hG,Tryz.f284,h20I,h20,hF1,hF2,kC_refs,hc]
   ·rw [if_neg hc] at hF
    have hF1 := fun env0 d h => (hF env0 d h).1
    have hF2 := fun env0 d h => ((hF env0 d h).2.2 hc).1
    have hF3 := fun env0 d h => ((hF env0 d h).2.2 hc).2
    clear hF
    simp [callFn,hG,Tryz.f284,h20I,h20,hF1,hF2,hF3,kC_refs]
 have := (callFn_sound Tryz.mixed (tyOf_ok _) Tryz.rat4_ok (fnOf_ok _) h).1
 simpa [CallRes.mem] using this
end Go.Proofs
