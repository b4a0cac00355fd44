/- See K54. -/
import Derived.Test.YtiopbpbcgccngaaGreatDoorK12
import Derived.Test.YtiopbpbcgccngaaGreatDoorK35
import Derived.Test.YtiopbpbcgccngaaGreatDoorK31
set_option linter.all false
namespace Go.Proofs
open Go.Eng
def aheadB (p : Option Rat) (a : Rat) : Bool := match p with
 | some q => decide (a < q)
 | none => false
def ivE (p : Option Rat) (x : Iv) : Int :=
 if x.1 ≠ [] ∧ isNameB x.1 = false then 8
 else if chkR x.2.1 = 0 ∧ chkR x.2.2 = 0 then
  (if sgnR ((ratP x.2.1).getD 0) < 0 then 3
   else if (ratP x.2.2).getD 0 ≤ (ratP x.2.1).getD 0 ∨ aheadB p ((ratP x.2.1).getD 0) = true then 6 else 0)
 else 2
def logE (p : Option Rat) : List Iv → Int
 | [] => 0
 | x :: l => if ivE p x = 0 then logE (ratP x.2.2) l else ivE p x
def endAt (n : Nat) (p : Option Rat) (e : List UInt8) : Prop :=
 (n = 0 ∧ p = none) ∨ (0 < n ∧ ∃ q,p = some q ∧ e = ratS q ∧ (natD q.num.natAbs).length ≤ 200 ∧ (natD q.den).length ≤ 200)
noncomputable def Tryz.w5F (f : FuncId) (args : List AV) : Option AV :=
 match f,args with
 | 54,[.str s] => if s.length ≤ 1000000000 then some (.bool (isNameB s)) else none
 | f,args => Tryz.ratF4 f args
theorem Tryz.w5_ok : OracleOk Tryz.prog (pureO Tryz.w5F) := pureO_ok fun f args v h mem => by
 unfold Tryz.w5F at h
 split at h
 ·split at h
  ·rename_i hc; cases h; exact Tryz.aIsName _ hc mem
  ·cases h
 ·have := Tryz.rat4_ok.fn _ _ mem ⟨v,none,[]⟩ (by unfold pureO; simp only; rw [h])
  simpa [CallRes.mem] using this
def shortIv (L : List Iv) : Prop := ∀ x ∈ L,x.1.length ≤ 1000000000 ∧ x.2.1.length ≤ 1000000000 ∧ x.2.2.length ≤ 1000000000
set_option maxHeartbeats 6400000 in
theorem Tryz.log_loop {K : Nat} (L : List Iv) (hL : shortIv L) (hl : L.length ≤ 1000000000) (hK : L.length < K) {b : Code} (hb : loopsF Tryz.f29 = [b]) :
  ∃ F : Env → Bool → Env × Mem × Iv,∀ env0 d,(Eng.look env0 3 = .str [48] ∧ Eng.look env0 9 = .slice 0 0 L.length none ∧ Eng.look env0 10 = .int .i64 L.length ∧ Eng.look env0 11 = .int .i64 0) →
   execC (tyOf Tryz.prog) (fun _ => [3,11]) (pureO Tryz.w5F) K 63 1 true (.loop b) ⟨env0,[.cells false 3 (ivC L)],d⟩ = some (if logE none L = 0 then .exit 0 else .ret,⟨(F env0 d).1,(F env0 d).2.1,d⟩) ∧
    ((logE none L = 0 → (F env0 d).2.1 = [.cells false 3 (ivC L)]) ∧ (logE none L ≠ 0 → (F env0 d).2.1 = [.cells false 3 (ivC L),.cells true 0 [.str (F env0 d).2.2.1,.str (F env0 d).2.2.2.1,.str (F env0 d).2.2.2.2]] ∧ Eng.look (F env0 d).1 2 = .int .i64 (logE none L))) := by
 refine loop_rule_m (β := Iv) rfl (fun env0 => Eng.look env0 3 = .str [48] ∧ Eng.look env0 9 = .slice 0 0 L.length none ∧ Eng.look env0 10 = .int .i64 L.length ∧ Eng.look env0 11 = .int .i64 0) (fun _ env' mem' x => (logE none L = 0 → mem' = [.cells false 3 (ivC L)]) ∧ (logE none L ≠ 0 → mem' = [.cells false 3 (ivC L),.cells true 0 [.str x.1,.str x.2.1,.str x.2.2]] ∧ Eng.look env' 2 = .int .i64 (logE none L))) ?_
 rintro env0 d ⟨h3,h9,h10,h11⟩
 simp [loopsF,loopsC,Tryz.f29] at hb
 have hn : normE [3,11] (writesC b) env0 ((3,.str [48]) :: (11,.int .i64 ((0 : Nat) : Int)) :: env0) = normE [3,11] (writesC b) env0 env0 := by simp [normE,h3,h11]
 rw [← hn]
 have kl : (ivC L).length = L.length * 3 := ivC_length L
 refine iter_ind_m (α := Nat × List UInt8) (fun s => ⟨normE [3,11] (writesC b) env0 ((3,.str s.2) :: (11,.int .i64 (s.1 : Int)) :: env0),[.cells false 3 (ivC L)],d⟩) (fun s => L.length - s.1) (fun s => s.1 ≤ L.length ∧ ∃ p,endAt s.1 p s.2 ∧ logE none L = logE p (L.drop s.1)) (if logE none L = 0 then .exit 0 else .ret) d (fun env' mem' => ∃ x : Iv,(logE none L = 0 → mem' = [.cells false 3 (ivC L)]) ∧ (logE none L ≠ 0 → mem' = [.cells false 3 (ivC L),.cells true 0 [.str x.1,.str x.2.1,.str x.2.2]] ∧ Eng.look env' 2 = .int .i64 (logE none L))) (by split <;> simp) ?_ K (0,[48]) ⟨by simp,none,.inl ⟨rfl,rfl⟩,by rw [List.drop_zero]⟩ (by simp only; omega)
 rintro ⟨n,e⟩ ⟨hn1,p,hp,he⟩
 simp only at hn1 hp he ⊢
 clear hn
 subst hb
 by_cases hlt : n < L.length
 ·obtain ⟨k,hk⟩ : ∃ k,L[n]? = some k := ⟨L[n],List.getElem?_eq_getElem hlt⟩
  obtain ⟨k1,k2,k3,k4⟩ := ivC_at hk
  obtain ⟨l1,l2,l3⟩ := hL k (List.mem_of_getElem? hk)
  have hd : L.drop n = k :: L.drop (n + 1) := by
   rw [List.getElem?_eq_some_iff] at hk
   obtain ⟨h1,h2⟩ := hk
   rw [← h2]; exact List.drop_eq_getElem_cons h1
  rw [hd,logE] at he
  have w1 : IntKind.i64.wrap ((n : Int) + 1) = ((n + 1 : Nat) : Int) := by rw [wrap_i64 (by omega) (by omega)]; omega
  have k5 : n * 3 + 3 ≤ (ivC L).length := by omega
  obtain ⟨u,f,t⟩ := k
  simp only at k1 k2 k3 k4 l1 l2 l3
  obtain ⟨v,hv⟩ : ∃ v,v = n + 1 := ⟨_,rfl⟩
  rw [← hv] at w1 he
  by_cases hu : u ≠ [] ∧ isNameB u = false
  ·right
   have h8 : ivE p (u,f,t) = 8 := by unfold ivE; rw [if_pos hu]
   rw [h8,if_neg (by decide)] at he
   rw [he]
   have u1 : (u == []) = false := by simpa using hu.1
   have u2 := hu.2
   simp [h9,h10,hlt,k1,k5,pureO,Tryz.w5F,l1,u1,u2,Nat.testBit]
   exact ⟨_,_,⟨rfl,rfl⟩,⟨u,f,t,rfl⟩,rfl⟩
  ·have hus : ((u == []) = true ∧ True) ∨ ((u == []) = false ∧ isNameB u = true) := by
    by_cases h0 : u = []
    ·exact .inl ⟨by simpa using h0,trivial⟩
    ·refine .inr ⟨by simpa using h0,?_⟩
     cases hb : isNameB u with
     | true => rfl
     | false => exact absurd ⟨h0,hb⟩ hu
   by_cases c1 : chkR f = 0
   ·by_cases c2 : chkR t = 0
    ·obtain ⟨a,ha,has,a1,a2⟩ := chkR_rat c1
     obtain ⟨z,hz,hzs,z1,z2⟩ := chkR_rat c2
     have a1' : (natD a.num.natAbs).length ≤ 40000 := by omega
     have a2' : (natD a.den).length ≤ 40000 := by omega
     have z1' : (natD z.num.natAbs).length ≤ 40000 := by omega
     have z2' : (natD z.den).length ≤ 40000 := by omega
     have hE : ivE p (u,f,t) = if sgnR a < 0 then 3 else if z ≤ a ∨ aheadB p a = true then 6 else 0 := by
      unfold ivE; rw [if_neg hu]; simp only [c1,c2,and_self,if_true,ha,hz,Option.getD_some]
     simp only [hz] at he
     subst has hzs
     have b1 : endAt v (some z) (ratS z) := .inr ⟨by omega,z,rfl,rfl,z1,z2⟩
     by_cases hs : sgnR a < 0
     ·right
      rw [show ivE p (u,ratS a,ratS z) = 3 by rw [hE,if_pos hs],if_neg (by decide)] at he
      rw [he]
      rcases hus with ⟨u1,u2⟩ | ⟨u1,u2⟩
      all_goals
       simp [h9,h10,hlt,k1,k5,pureO,Tryz.w5F,Tryz.ratF4,Tryz.ratF3,Tryz.ratF2,Tryz.ratF1,ratP_ratS,l1,l2,l3,u1,u2,c1,c2,hs,Nat.testBit]
       exact ⟨_,_,⟨rfl,rfl⟩,⟨_,_,_,rfl⟩,rfl⟩
     ·rw [if_neg hs] at hE
      have hp' : (aheadB p a = true ∧ 0 < n ∧ ∃ q,e = ratS q ∧ cmpQ a q < 0 ∧ (natD q.num.natAbs).length ≤ 40000 ∧ (natD q.den).length ≤ 40000) ∨ (aheadB p a = false ∧ 0 < n ∧ ∃ q,e = ratS q ∧ ¬ cmpQ a q < 0 ∧ (natD q.num.natAbs).length ≤ 40000 ∧ (natD q.den).length ≤ 40000) ∨ (aheadB p a = false ∧ n = 0) := by
       rcases hp with ⟨rfl,rfl⟩ | ⟨h0,q,rfl,rfl,q1,q2⟩
       ·exact .inr (.inr ⟨rfl,rfl⟩)
       ·by_cases haq : a < q
        ·exact .inl ⟨by simp [aheadB,haq],h0,q,rfl,cmpQ_lt.2 haq,by omega,by omega⟩
        ·exact .inr (.inl ⟨by simp [aheadB,haq],h0,q,rfl,fun h => haq (cmpQ_lt.1 h),by omega,by omega⟩)
      by_cases hza : z ≤ a
      ·right
       have c3 : cmpQ z a ≤ 0 := cmpQ_le.2 hza
       rw [show ivE p (u,ratS a,ratS z) = 6 by rw [hE,if_pos (.inl hza)],if_neg (by decide)] at he
       rw [he]
       rcases hus with ⟨u1,u2⟩ | ⟨u1,u2⟩
       all_goals
        simp [h9,h10,hlt,k1,k5,pureO,Tryz.w5F,Tryz.ratF4,Tryz.ratF3,Tryz.ratF2,Tryz.ratF1,ratP_ratS,l1,l2,l3,u1,u2,c1,c2,hs,a1',a2',z1',z2',c3,Nat.testBit]
        exact ⟨_,_,⟨rfl,rfl⟩,⟨_,_,_,rfl⟩,rfl⟩
      ·have c3 : ¬ cmpQ z a ≤ 0 := fun h => hza (cmpQ_le.1 h)
       rcases hp' with ⟨g1,n0,q,rfl,g2,q1,q2⟩ | ⟨g1,n0,q,rfl,g2,q1,q2⟩ | ⟨g1,rfl⟩
       ·right
        have n0' : (0 : Int) < n := by omega
        rw [show ivE p (u,ratS a,ratS z) = 6 by rw [hE,if_pos (.inr g1)],if_neg (by decide)] at he
        rw [he]
        rcases hus with ⟨u1,u2⟩ | ⟨u1,u2⟩
        all_goals
         simp [h9,h10,hlt,k1,k5,pureO,Tryz.w5F,Tryz.ratF4,Tryz.ratF3,Tryz.ratF2,Tryz.ratF1,ratP_ratS,l1,l2,l3,u1,u2,c1,c2,hs,a1',a2',z1',z2',c3,n0,n0',g2,q1,q2,Nat.testBit]
         exact ⟨_,_,⟨rfl,rfl⟩,⟨_,_,_,rfl⟩,rfl⟩
       ·left
        have n0' : (0 : Int) < n := by omega
        rw [show ivE p (u,ratS a,ratS z) = 0 by rw [hE,if_neg (by rw [g1]; simp [hza])],if_pos rfl] at he
        refine ⟨(v,ratS z),?_⟩
        rcases hus with ⟨u1,u2⟩ | ⟨u1,u2⟩
        all_goals
         simp [h9,h10,hlt,k1,k5,pureO,Tryz.w5F,Tryz.ratF4,Tryz.ratF3,Tryz.ratF2,Tryz.ratF1,ratP_ratS,l1,l2,l3,u1,u2,c1,c2,hs,a1',a2',z1',z2',c3,n0,n0',g2,q1,q2,w1,ivC_refs,Nat.testBit]
         exact ⟨⟨by omega,_,b1,by simpa using he⟩,by omega⟩
       ·left
        rw [show ivE p (u,ratS a,ratS z) = 0 by rw [hE,if_neg (by rw [g1]; simp [hza])],if_pos rfl] at he
        have hv1 : v = 1 := by omega
        subst hv1
        have wz : IntKind.i64.wrap 1 = 1 := rfl
        have hp0 : 0 < L.length := by omega
        simp at k1 k5
        refine ⟨(1,ratS z),?_⟩
        rcases hus with ⟨u1,u2⟩ | ⟨u1,u2⟩
        all_goals
         simp [h9,h10,hp0,k1,k5,pureO,Tryz.w5F,Tryz.ratF4,Tryz.ratF3,Tryz.ratF2,Tryz.ratF1,ratP_ratS,l1,l2,l3,u1,u2,c1,c2,hs,a1',a2',z1',z2',c3,wz,ivC_refs,Nat.testBit]
         exact ⟨⟨by omega,_,b1,by simpa using he⟩,by omega⟩
    ·right
     have h2 : ivE p (u,f,t) = 2 := by unfold ivE; rw [if_neg hu,if_neg (fun h => c2 h.2)]
     rw [h2,if_neg (by decide)] at he
     rw [he]
     rcases hus with ⟨u1,u2⟩ | ⟨u1,u2⟩
     all_goals
      simp [h9,h10,hlt,k1,k5,pureO,Tryz.w5F,Tryz.ratF4,l1,l2,l3,u1,u2,c1,c2,Nat.testBit]
      exact ⟨_,_,⟨rfl,rfl⟩,⟨u,f,t,rfl⟩,rfl⟩
   ·right
    have h2 : ivE p (u,f,t) = 2 := by unfold ivE; rw [if_neg hu,if_neg (fun h => c1 h.1)]
    rw [h2,if_neg (by decide)] at he
    rw [he]
    rcases hus with ⟨u1,u2⟩ | ⟨u1,u2⟩
    all_goals
     simp [h9,h10,hlt,k1,k5,pureO,Tryz.w5F,Tryz.ratF4,l1,l2,l3,u1,u2,c1,Nat.testBit]
     exact ⟨_,_,⟨rfl,rfl⟩,⟨u,f,t,rfl⟩,rfl⟩
 ·right
  have e' : L.drop n = [] := List.drop_of_length_le (by omega)
  rw [e',logE] at he
  rw [he]
  simp [h10,hlt]
def logR (L : List Iv) : Int := if 200 < L.length then 4 else logE none L
theorem Tryz.aLogP (L : List Iv) (hL : shortIv L) (hl : L.length ≤ 1000000000) :
  ACallsTo Tryz.prog 29 [.slice 0 0 L.length none] [.cells false 3 (ivC L)] (.int .i64 (logR L)) [.cells false 3 (ivC L)] := by
 have hG : fnOf Tryz.prog 29 = some Tryz.f29 := by kernel_rfl
 obtain ⟨b,hb⟩ : ∃ b,loopsF Tryz.f29 = [b] := ⟨_,rfl⟩
 obtain ⟨F,hF⟩ := Tryz.log_loop (K := L.length + 1) L hL hl (by omega) hb
 simp [loopsF,loopsC,Tryz.f29] at hb
 subst hb
 have h : callFn (tyOf Tryz.prog) (fun _ => [3,11]) (fnOf Tryz.prog) (pureO Tryz.w5F) (L.length + 1) 29 [.slice 0 0 L.length none] [.cells false 3 (ivC L)] = some ⟨.int .i64 (logR L),none,[]⟩ := by
  unfold logR
  by_cases h200 : 200 < L.length
  ·rw [if_pos h200]
   have h200I : (200 : Int) < L.length := by omega
   simp [callFn,hG,Tryz.f29,h200I,h200]
  ·rw [if_neg h200]
   have h200I : ¬ (200 : Int) < L.length := by omega
   by_cases hc : logE none L = 0
   ·rw [if_pos hc] at hF
    have hF1 := fun env0 d h => (hF env0 d h).1
    have hF2 := fun env0 d h => (hF env0 d h).2.1 hc
    clear hF
    simp [callFn,hG,Tryz.f29,h200I,h200,hF1,hF2,ivC_refs,hc]
   ·rw [if_neg hc] at hF
    have hF1 := fun env0 d h => (hF env0 d h).1
    have hF2 := fun env0 d h => ((hF env0 d h).2.2 hc).1
    have hF3 := fun env0 d h => ((hF env0 d h).2.2 hc).2
    clear hF
    simp [callFn,hG,Tryz.f29,h200I,h200,hF1,hF2,hF3,ivC_refs]
 have := (callFn_sound Tryz.mixed (tyOf_ok _) Tryz.w5_ok (fnOf_ok _) h).1
 simpa [CallRes.mem] using this
theorem Tryz.aLogNil (M : Mem) : ACallsTo Tryz.prog 29 [.nilslice] M (.int .i64 0) M := by
 have hG : fnOf Tryz.prog 29 = some Tryz.f29 := by kernel_rfl
 refine Tryz.run (noOracle_ok _) (lv := fun _ => [3,11]) (K := 1) rfl rfl ?_ M
 simp [callFn,hG,Tryz.f29,execC_loop,iter]
theorem Tryz.aLogM {M : Mem} {x : AV} {L : List Iv} (hL : shortIv L) (hl : L.length ≤ 1000000000) (hx : ivs M x = some L) : ACallsTo Tryz.prog 29 [x] M (.int .i64 (logR L)) M := by
 rcases ivs_some hx with h | ⟨rfl,rfl⟩
 ·exact ACallsTo.rows1R (ivC_closed L) rfl rfl (Tryz.aLogP L hL hl) h
 ·exact Tryz.aLogNil M
def shortB (L : List Iv) : Bool := L.all fun x => decide (x.1.length ≤ 1000000000) && decide (x.2.1.length ≤ 1000000000) && decide (x.2.2.length ≤ 1000000000)
theorem shortB_iff {L : List Iv} : shortB L = true ↔ shortIv L := by
 simp [shortB,shortIv,and_assoc]
noncomputable def Tryz.w6O : Oracle := fun c args M => match c,args with
 | .fn 29,[x] => match ivs M x with
  | some L => if shortB L = true ∧ L.length ≤ 1000000000 then some ⟨.int .i64 (logR L),none,[]⟩ else none
  | none => none
 | c,args => pureO Tryz.w5F c args M
theorem Tryz.w6_ok : OracleOk Tryz.prog Tryz.w6O := by
 refine oracleOk_of fun c args M r h => ?_
 unfold Tryz.w6O at h
 split at h
 ·split at h
  ·rename_i L hL
   split at h
   ·rename_i hc
    cases h
    refine soundAt_call ?_
    rw [List.append_nil]
    exact Tryz.aLogM (shortB_iff.1 hc.1) hc.2 hL
   ·cases h
  ·cases h
 ·exact soundAt_of Tryz.w5_ok h
end Go.Proofs
namespace Go.Proofs
open Go.Eng
end Go.Proofs
namespace Go.Proofs
open Go.Eng
end Go.Proofs
