/- See L55. -/
import Derived.Test.YtiopbpbcgccngaaGreatDoorL12
import Derived.Test.YtiopbpbcgccngaaGreatDoorL35
import Derived.Test.YtiopbpbcgccngaaGreatDoorL31
set_option linter.all false
namespace Go.Proofs
open Go.Eng
def aheadB (p : Option Rat) (a : Rat) : Bool := match p with
 | some q => decide (a < q)
 | none => false
def ivE (p : Option Rat) (x : Iv) : Int :=
 if x.1 ≠ [] ∧ isNameB x.1 = false then 8
 else if chkR x.2.1 = 0 ∧ chkR x.2.2 = 0 then
  (if sgnR ((ratP x.2.1).getD 0) < 0 then 3
   else if (ratP x.2.2).getD 0 ≤ (ratP x.2.1).getD 0 ∨ aheadB p ((ratP x.2.1).getD 0) = true then 6 else 0)
 else 2
def logE (p : Option Rat) : List Iv → Int
 | [] => 0
 | x :: l => if ivE p x = 0 then logE (ratP x.2.2) l else ivE p x
def endAt (n : Nat) (p : Option Rat) (e : List UInt8) : Prop :=
 (n = 0 ∧ p = none) ∨ (0 < n ∧ ∃ q,p = some q ∧ e = ratS q ∧ (natD q.num.natAbs).length ≤ 200 ∧ (natD q.den).length ≤ 200)
noncomputable def Tryz.w5F (f : FuncId) (args : List AV) : Option AV :=
 match f,args with
 | 54,[.str s] => if s.length ≤ 1000000000 then some (.bool (isNameB s)) else none
 | f,args => Tryz.ratF4 f args
theorem Tryz.w5_ok : OracleOk Tryz.prog (pureO Tryz.w5F) := pureO_ok fun f args v h mem => by
 unfold Tryz.w5F at h
 split at h
 ·split at h
  ·rename_i hc; cases h; exact Tryz.aIsName _ hc mem
  ·cases h
 ·have := Tryz.rat4_ok.fn _ _ mem ⟨v,none,[]⟩ (by unfold pureO; simp only; rw [h])
  simpa [CallRes.mem] using this
def shortIv (L : List Iv) : Prop := ∀ x ∈ L,x.1.length ≤ 1000000000 ∧ x.2.1.length ≤ 1000000000 ∧ x.2.2.length ≤ 1000000000
set_option maxHeartbeats 6400000 in
theorem Tryz.log_loop {K : Nat} (L : List Iv) (hL : shortIv L) (hl : L.length ≤ 1000000000) (hK : L.length < K) {b : Code} (hb : loopsF Tryz.f29 = [b]) :
  ∃ F : Env → Bool → Env × Mem × Iv,∀ env0 d,(Eng.look env0 3 = .str [48] ∧ Eng.look env0 9 = .slice 0 0 L.length none ∧ Eng.look env0 10 = .int .i64 L.length ∧ Eng.look env0 11 = .int .i64 0) →
   execC (tyOf Tryz.prog) (fun _ => [3,11]) (pureO Tryz.w5F) K 63 1 true (.loop b) ⟨env0,[.cells false 3 (ivC L)],d⟩ = some (if logE none L = 0 then .exit 0 else .ret,⟨(F env0 d).1,(F env0 d).2.1,d⟩) ∧
    ((logE none L = 0 → (F env0 d).2.1 = [.cells false 3 (ivC L)]) ∧ (logE none L ≠ 0 → (F env0 d).2.1 = [.cells false 3 (ivC L),.cells true 0 [.str (F env0 d).2.2.1,.str (F env0 d).2.2.2.1,.str (F env0 d).2.2.2.2]] ∧ Eng.look (F env0 d).1 2 = .int .i64 (logE none L))) := by
 refine loop_rule_m (β := Iv) rfl (fun env0 => Eng.look env0 3 = .str [48] ∧ Eng.look env0 9 = .slice 0 0 L.length none ∧ Eng.look env0 10 = .int .i64 L.length ∧ Eng.look env0 11 = .int .i64 0) (fun _ env' mem' x => (logE none L = 0 → mem' = [.cells false 3 (ivC L)]) ∧ (logE none L ≠ 0 → mem' = [.cells false 3 (ivC L),.cells true 0 [.str x.1,.str x.2.1,.str x.2.2]] ∧ Eng.look env' 2 = .int .i64 (logE none L))) ?_
 rintro env0 d ⟨h3,h9,h10,h11⟩
 simp [loopsF,loopsC,Tryz.f29] at hb
 have hn : normE [3,11] (writesC b) env0 ((3,.str [48]) :: (11,.int .i64 ((0 : Nat) : Int)) :: env0) = normE [3,11] (writesC b) env0 env0 := by simp [normE,h3,h11]
 rw [← hn]
 have kl : (ivC L).length = L.length * 3 := ivC_length L
 refine iter_ind_m (α := Nat × List UInt8) (fun s => ⟨normE [3,11] (writesC b) env0 ((3,.str s.2) :: (11,.int .i64 (s.1 : Int)) :: env0),[.cells false 3 (ivC L)],d⟩) (fun s => L.length - s.1) (fun s => s.1 ≤ L.length ∧ ∃ p,endAt s.1 p s.2 ∧ logE none L = logE p (L.drop s.1)) (if logE none L = 0 then .exit 0 else .ret) d (fun env' mem' => ∃ x : Iv,(logE none L = 0 → mem' = [.cells false 3 (ivC L)]) ∧ (logE none L ≠ 0 → mem' = [.cells false 3 (ivC L),.cells true 0 [.str x.1,.str x.2.1,.str x.2.2]] ∧ Eng.look env' 2 = .int .i64 (logE none L))) (by split <;> simp) ?_ K (0,[48]) ⟨by simp,none,.inl ⟨rfl,rfl⟩,by rw [List.drop_zero]⟩ (by simp only; omega)
 rintro ⟨n,e⟩ ⟨hn1,p,hp,he⟩
 simp only at hn1 hp he ⊢
 clear hn
 subst hb
 by_cases hlt : n < L.length
 ·obtain ⟨k,hk⟩ : ∃ k,L[n]? = some k := ⟨L[n],List.getElem?_eq_getElem hlt⟩
  obtain ⟨k1,k2,k3,k4⟩ := ivC_at hk
  obtain ⟨l1,l2,l3⟩ := hL k (List.mem_of_getElem? hk)
  have hd : L.drop n = k :: L.drop (n + 1) := by
   rw [List.getElem?_eq_some_iff] at hk
   obtain ⟨h1,h2⟩ := hk
   rw [← h2]; exact List.drop_eq_getElem_cons h1
  rw [hd,logE] at he
  have w1 : IntKind.i64.wrap ((n : Int) + 1) = ((n + 1 : Nat) : Int) := by rw [wrap_i64 (by omega) (by omega)]; omega
  have k5 : n * 3 + 3 ≤ (ivC L).length := by omega
  obtain ⟨u,f,t⟩ := k
  simp only at k1 k2 k3 k4 l1 l2 l3
  obtain ⟨v,hv⟩ : ∃ v,v = n + 1 := ⟨_,rfl⟩
  rw [← hv] at w1 he
  by_cases hu : u ≠ [] ∧ isNameB u = false
  ·right
   have h8 : ivE p (u,f,t) = 8 := by unfold ivE; rw [if_pos hu]
   rw [h8,if_neg (by decide)] at he
   rw [he]
   have u1 : (u == []) = false := by simpa using hu.1
   have u2 := hu.2
   simp [h9,h10,hlt,k1,k5,pureO,Tryz.w5F,l1,u1,u2,Nat.testBit]
   exact ⟨_,_,⟨rfl,rfl⟩,⟨u,f,t,rfl⟩,rfl⟩
  ·have hus : ((u == []) = true ∧ True) ∨ ((u == []) = false ∧ isNameB u = true) := by
    by_cases h0 : u = []
    ·exact .inl ⟨by simpa using h0,trivial⟩
    ·refine .inr ⟨by simpa using h0,?_⟩
     cases hb : isNameB u with
     | true => rfl
     | false => exact absurd ⟨h0,hb⟩ hu
   by_cases c1 : chkR f = 0
   ·by_cases c2 : chkR t = 0
    ·obtain ⟨a,ha,has,a1,a2⟩ := chkR_rat c1
     obtain ⟨z,hz,hzs,z1,z2⟩ := chkR_rat c2
     have a1' : (natD a.num.natAbs).length ≤ 40000 := by omega
     have a2' : (natD a.den).length ≤ 40000 := by omega
     have z1' : (natD z.num.natAbs).length ≤ 40000 := by omega
     have z2' : (natD z.den).length ≤ 40000 := by omega
     have hE : ivE p (u,f,t) = if sgnR a < 0 then 3 else if z ≤ a ∨ aheadB p a = true then 6 else 0 := by
      unfold ivE; rw [if_neg hu]; simp only [c1,c2,and_self,if_true,ha,hz,Option.getD_some]
     simp only [hz] at he
     subst has hzs
     have b1 : endAt v (some z) (ratS z) := .inr ⟨by omega,z,rfl,rfl,z1,z2⟩
     by_cases hs : sgnR a < 0
     ·right
      rw [show ivE p (u,ratS a,ratS z) = 3 by rw [hE,if_pos hs],if_neg (by decide)] at he
      rw [he]
      rcases hus with ⟨u1,u2⟩ | ⟨u1,u2⟩
      all_goals
       simp [h9,h10,hlt,k1,k5,pureO,Tryz.w5F,Tryz.ratF4,Tryz.ratF3,Tryz.ratF2,Tryz.ratF1,ratP_ratS,l1,l2,l3,u1,u2,c1,c2,hs,Nat.testBit]
       exact ⟨_,_,⟨rfl,rfl⟩,⟨_,_,_,rfl⟩,rfl⟩
     ·rw [if_neg hs] at hE
      have hp' : (aheadB p a = true ∧ 0 < n ∧ ∃ q,e = ratS q ∧ cmpQ a q < 0 ∧ (natD q.num.natAbs).length ≤ 40000 ∧ (natD q.den).length ≤ 40000) ∨ (aheadB p a = false ∧ 0 < n ∧ ∃ q,e = ratS q ∧ ¬ cmpQ a q < 0 ∧ (natD q.num.natAbs).length ≤ 40000 ∧ (natD q.den).length ≤ 40000) ∨ (aheadB p a = false ∧ n = 0) := by
       rcases hp with ⟨rfl,rfl⟩ | ⟨h0,q,rfl,rfl,q1,q2⟩
       ·exact .inr (.inr ⟨rfl,rfl⟩)
       ·by_cases haq : a < q
        ·exact .inl ⟨by simp [aheadB,haq],h0,q,rfl,cmpQ_lt.2 haq,by omega,by omega⟩
        ·exact .inr (.inl ⟨by simp [aheadB,haq],h0,q,rfl,fun h => haq (cmpQ_lt.1 h),by omega,by omega⟩)
      by_cases hza : z ≤ a
      ·right
       have c3 : cmpQ z a ≤ 0 := cmpQ_le.2 hza
       rw [show ivE p (u,ratS a,ratS z) = 6 by rw [hE,if_pos (.inl hza)],if_neg (by decide)] at he
       rw [he]
       rcases hus with ⟨u1,u2⟩ | ⟨u1,u2⟩
       all_goals
        simp [h9,h10,hlt,k1,k5,pureO,Tryz.w5F,Tryz.ratF4,Tryz.ratF3,Tryz.ratF2,Tryz.ratF1,ratP_ratS,l1,l2,l3,u1,u2,c1,c2,hs,a1',a2',z1',z2',c3,Nat.testBit]
        exact ⟨_,_,⟨rfl,rfl⟩,⟨_,_,_,rfl⟩,rfl⟩
      ·have c3 : ¬ cmpQ z a ≤ 0 := fun h => hza (cmpQ_le.1 h)
       rcases hp' with ⟨g1,n0,q,rfl,g2,q1,q2⟩ | ⟨g1,n0,q,rfl,g2,q1,q2⟩ | ⟨g1,rfl⟩
       ·right
        have n0' : (0 : Int) < n := by omega
        rw [show ivE p (u,ratS a,ratS z) = 6 by rw [hE,if_pos (.inr g1)],if_neg (by decide)] at he
        rw [he]
        rcases hus with ⟨u1,u2⟩ | ⟨u1,u2⟩
        all_goals
         simp [h9,h10,hlt,k1,k5,pureO,Tryz.w5F,Tryz.ratF4,Tryz.ratF3,Tryz.ratF2,Tryz.ratF1,ratP_ratS,l1,l2,l3,u1,u2,c1,c2,hs,a1',a2',z1',z2',c3,n0,n0',g2,q1,q2,Nat.testBit]
         exact ⟨_,_,⟨rfl,rfl⟩,⟨_,_,_,rfl⟩,rfl⟩
       ·left
        have n0' : (0 : Int) < n := by omega
        rw [show ivE p (u,ratS a,ratS z) = 0 by rw [hE,if_neg (by rw [g1]; simp [hza])],if_pos rfl] at he
        refine ⟨(v,ratS z),?_⟩
        rcases hus with ⟨u1,u2⟩ | ⟨u1,u2⟩
        all_goals
         simp [h9,h10,hlt,k1,k5,pureO,Tryz.w5F,Tryz.ratF4,Tryz.ratF3,Tryz.ratF2,Tryz.ratF1,ratP_ratS,l1,l2,l3,u1,u2,c1,c2,hs,a1',a2',z1',z2',c3,n0,n0',g2,q1,q2,w1,ivC_refs,Nat.testBit]
         exact ⟨⟨by omega,_,b1,by simpa using he⟩,by omega⟩
       ·left
        rw [show ivE p (u,ratS a,ratS z) = 0 by rw [hE,if_neg (by rw [g1]; simp [hza])],if_pos rfl] at he
        have hv1 : v = 1 := by omega
        subst hv1
        have wz : IntKind.i64.wrap 1 = 1 := rfl
        have hp0 : 0 < L.length := by omega
        simp at k1 k5
        refine ⟨(1,ratS z),?_⟩
        rcases hus with ⟨u1,u2⟩ | ⟨u1,u2⟩
        all_goals
         simp [h9,h10,hp0,k1,k5,pureO,Tryz.w5F,Tryz.ratF4,Tryz.ratF3,Tryz.ratF2,Tryz.ratF1,ratP_ratS,l1,l2,l3,u1,u2,c1,c2,hs,a1',a2',z1',z2',c3,wz,ivC_refs,Nat.testBit]
         exact ⟨⟨by omega,_,b1,by simpa using he⟩,by omega⟩
    ·right
     have h2 : ivE p (u,f,t) = 2 := by unfold ivE; rw [if_neg hu,if_neg (fun h => c2 h.2)]
     rw [h2,if_neg (by decide)] at he
     rw [he]
     rcases hus with ⟨u1,u2⟩ | ⟨u1,u2⟩
     all_goals
      simp [h9,h10,hlt,k1,k5,pureO,Tryz.w5F,Tryz.ratF4,l1,l2,l3,u1,u2,c1,c2,Nat.testBit]
      exact ⟨_,_,⟨rfl,rfl⟩,⟨u,f,t,rfl⟩,rfl⟩
   ·right
    have h2 : ivE p (u,f,t) = 2 := by unfold ivE; rw [if_neg hu,if_neg (fun h => c1 h.1)]
    rw [h2,if_neg (by decide)] at he
    rw [he]
    rcases hus with ⟨u1,u2⟩ | ⟨u1,u2⟩
    all_goals
     simp [h9,h10,hlt,k1,k5,pureO,Tryz.w5F,Tryz.ratF4,l1,l2,l3,u1,u2,c1,Nat.testBit]
     exact ⟨_,_,⟨rfl,rfl⟩,⟨u,f,t,rfl⟩,rfl⟩
 ·right
  have e' : L.drop n = [] := List.drop_of_length_le (by omega)
  rw [e',logE] at he
  rw [he]
  simp [h10,hlt]
def logR (L : List Iv) : Int := if 200 < L.length then 4 else logE none L
theorem Tryz.aLogP (L : List Iv) (hL : shortIv L) (hl : L.length ≤ 1000000000) :
  ACallsTo Tryz.prog 29 [.slice 0 0 L.length none] [.cells false 3 (ivC L)] (.int .i64 (logR L)) [.cells false 3 (ivC L)] := by
 have hG : fnOf Tryz.prog 29 = some Tryz.f29 := by kernel_rfl
 obtain ⟨b,hb⟩ : ∃ b,loopsF Tryz.f29 = [b] := ⟨_,rfl⟩
 obtain ⟨F,hF⟩ := Tryz.log_loop (K := L.length + 1) L hL hl (by omega) hb
 simp [loopsF,loopsC,Tryz.f29] at hb
 subst hb
 have h : callFn (tyOf Tryz.prog) (fun _ => [3,11]) (fnOf Tryz.prog) (pureO Tryz.w5F) (L.length + 1) 29 [.slice 0 0 L.length none] [.cells false 3 (ivC L)] = some ⟨.int .i64 (logR L),none,[]⟩ := by
  unfold logR
  by_cases h200 : 200 < L.length
  ·rw [if_pos h200]
   have h200I : (200 : Int) < L.length := by omega
   simp [callFn,hG,Tryz.f29,h200I,h200]
  ·rw [if_neg h200]
   have h200I : ¬ (200 : Int) < L.length := by omega
   by_cases hc : logE none L = 0
   ·rw [if_pos hc] at hF
    have hF1 := fun env0 d h => (hF env0 d h).1
    have hF2 := fun env0 d h => (hF env0 d h).2.1 hc
    clear hF
    simp [callFn,hG,Tryz.f29,h200I,h200,hF1,hF2,ivC_refs,hc]
   ·rw [if_neg hc] at hF
    have hF1 := fun env0 d h => (hF env0 d h).1
    have hF2 := fun env0 d h => ((hF env0 d h).2.2 hc).1
    have hF3 := fun env0 d h => ((hF env0 d h).2.2 hc).2
    clear hF
    simp [callFn,hG,Tryz.f29,h200I,h200,hF1,hF2,hF3,ivC_refs]
 have := (callFn_sound Tryz.mixed (tyOf_ok _) Tryz.w5_ok (fnOf_ok _) h).1
 simpa [CallRes.mem] using this
theorem Tryz.aLogNil (M : Mem) : ACallsTo Tryz.prog 29 [.nilslice] M (.int .i64 0) M := by
 have hG : fnOf Tryz.prog 29 = some Tryz.f29 := by kernel_rfl
 refine Tryz.run (noOracle_ok _) (lv := fun _ => [3,11]) (K := 1) rfl rfl ?_ M
 simp [callFn,hG,Tryz.f29,execC_loop,iter]
theorem Tryz.aLogM {M : Mem} {x : AV} {L : List Iv} (hL : shortIv L) (hl : L.length ≤ 1000000000) (hx : ivs M x = some L) : ACallsTo Tryz.prog 29 [x] M (.int .i64 (logR L)) M := by
 rcases ivs_some hx with h | ⟨rfl,rfl⟩
 ·exact ACallsTo.rows1R (ivC_closed L) rfl rfl (Tryz.aLogP L hL hl) h
 ·exact Tryz.aLogNil M
def shortB (L : List Iv) : Bool := L.all fun x => decide (x.1.length ≤ 1000000000) && decide (x.2.1.length ≤ 1000000000) && decide (x.2.2.length ≤ 1000000000)
theorem shortB_iff {L : List Iv} : shortB L = true ↔ shortIv L := by
 simp [shortB,shortIv,and_assoc]
noncomputable def Tryz.w6O : Oracle := fun c args M => match c,args with
 | .fn 29,[x] => match ivs M x with
  | some L => if shortB L = true ∧ L.length ≤ 1000000000 then some ⟨.int .i64 (logR L),none,[]⟩ else none
  | none => none
 | c,args => pureO Tryz.w5F c args M
theorem Tryz.w6_ok : OracleOk Tryz.prog Tryz.w6O := by
 refine oracleOk_of fun c args M r h => ?_
 unfold Tryz.w6O at h
 split at h
 ·split at h
  ·rename_i L hL
   split at h
   ·rename_i hc
    cases h
    refine soundAt_call ?_
    rw [List.append_nil]
    exact Tryz.aLogM (shortB_iff.1 hc.1) hc.2 hL
   ·cases h
  ·cases h
 ·exact soundAt_of Tryz.w5_ok h
end Go.Proofs
namespace Go.Proofs
open Go.Eng
end Go.Proofs
namespace Go.Proofs
open Go.Eng
end Go.Proofs
namespace Go.Proofs
open Go.Eng
def unitS (n : Nat) : List UInt8 := match n % 6 with
 | 0 => [97] | 1 => [98] | 2 => [99] | 3 => [100] | 4 => [101] | _ => []
theorem Tryz.aUnits (n : Nat) (mem : Mem) : ACallsTo Tryz.prog 36 [.int .u8 n] mem (.str (unitS n)) mem := by
 have hG : fnOf Tryz.prog 36 = some Tryz.f36 := by kernel_rfl
 refine Tryz.run (noOracle_ok _) (lv := fun _ => []) (K := 1) rfl rfl ?_ mem
 have w1 : IntKind.i64.wrap ((n : Int) % 6) = ((n % 6 : Nat) : Int) := by rw [wrap_i64 (by omega) (by omega)]; omega
 have w2 : ((n : Int).tmod 6) = ((n % 6 : Nat) : Int) := tmod_lit n 6
 have hlt : n % 6 < 6 := Nat.mod_lt _ (by omega)
 unfold unitS
 obtain ⟨k,hk⟩ : ∃ k,k = n % 6 := ⟨_,rfl⟩
 rw [← hk] at w1 w2 hlt ⊢
 have hc : k = 0 ∨ k = 1 ∨ k = 2 ∨ k = 3 ∨ k = 4 ∨ k = 5 := by omega
 rcases hc with rfl | rfl | rfl | rfl | rfl | rfl
 all_goals simp [callFn,hG,Tryz.f36,w1,w2]
abbrev Bit := Nat × Nat × Nat
def okBit (b : Bit) : Prop := b.1 < 256 ∧ b.2.1 < 256 ∧ b.2.2 < 256
def btC : List Bit → List AV
 | [] => []
 | x :: l => .int .u8 (x.1 : Int) :: .int .u8 (x.2.1 : Int) :: .int .u8 (x.2.2 : Int) :: btC l
theorem btC_length : ∀ l : List Bit,(btC l).length = l.length * 3
 | [] => rfl
 | _ :: l => by simp only [btC,List.length_cons,btC_length l]; omega
theorem btC_closed : ∀ l : List Bit,AV.closeds (btC l) = true
 | [] => rfl
 | x :: l => by simp [btC,AV.closeds,AV.closed,btC_closed l]
theorem btC_refs (n : Nat) : ∀ l : List Bit,AV.refsL n (btC l) = []
 | [] => rfl
 | x :: l => by simp [btC,AV.refsL,AV.refs,btC_refs n l]
theorem btC_ren (f : Nat → Option Nat) (l : List Bit) : AV.rens f (btC l) = btC l := rens_closeds (btC_closed l)
theorem btC_drop : ∀ (l : List Bit) (i : Nat),(btC l).drop (i * 3) = btC (l.drop i)
 | l,0 => by simp
 | [],i + 1 => by simp [btC]
 | k :: l,i + 1 => by
  have : (i + 1) * 3 = i * 3 + 1 + 1 + 1 := by omega
  rw [this]
  simp only [btC,List.drop_succ_cons]
  exact btC_drop l i
theorem btC_at {l : List Bit} {i : Nat} {k : Bit} (h : l[i]? = some k) :
  (btC l)[i * 3]? = some (.int .u8 (k.1 : Int)) ∧ (btC l)[i * 3 + 1]? = some (.int .u8 (k.2.1 : Int)) ∧ (btC l)[i * 3 + 2]? = some (.int .u8 (k.2.2 : Int)) := by
 have hd : l.drop i = k :: l.drop (i + 1) := by
  rw [List.getElem?_eq_some_iff] at h
  obtain ⟨h1,h2⟩ := h
  rw [← h2]; exact List.drop_eq_getElem_cons h1
 have e := btC_drop l i
 rw [hd] at e
 refine ⟨?_,?_,?_⟩
 ·have : (btC l)[i * 3]? = ((btC l).drop (i * 3))[0]? := by rw [List.getElem?_drop]; rfl
  rw [this,e]; rfl
 ·have : (btC l)[i * 3 + 1]? = ((btC l).drop (i * 3))[1]? := by rw [List.getElem?_drop]
  rw [this,e]; rfl
 ·have : (btC l)[i * 3 + 2]? = ((btC l).drop (i * 3))[2]? := by rw [List.getElem?_drop]
  rw [this,e]; rfl
def mkIv (a : Nat) (b : Bit) : Iv := (unitS b.2.2,ratS (mkRat ((a + b.1 % 3 : Nat) : Int) 2),ratS (mkRat ((a + b.1 % 3 + (1 + b.2.1 % 6) : Nat) : Int) 2))
def mkL (a : Nat) : List Bit → List Iv
 | [] => []
 | b :: l => mkIv a b :: mkL (a + b.1 % 3 + (1 + b.2.1 % 6)) l
theorem mkL_length : ∀ (a : Nat) (l : List Bit),(mkL a l).length = l.length
 | _,[] => rfl
 | a,b :: l => by simp [mkL,mkL_length _ l]
noncomputable def Tryz.w9F (f : FuncId) (args : List AV) : Option AV :=
 match f,args with
 | 36,[.int .u8 n] => if 0 ≤ n ∧ n.toNat < 256 then some (.str (unitS n.toNat)) else none
 | 35,[.int .i64 n,.int .i64 d] => if 0 ≤ d ∧ d.toNat ≠ 0 ∧ fitsI n = true ∧ fitsI d = true then some (.tuple [.str (ratS (mkRat n d.toNat)),.int .i64 0]) else none
 | f,args => Tryz.rbF1 f args
theorem Tryz.w9_ok : OracleOk Tryz.prog (pureO Tryz.w9F) := pureO_ok fun f args v h mem => by
 unfold Tryz.w9F at h
 split at h
 ·rename_i n
  split at h
  ·rename_i hc
   cases h
   have := Tryz.aUnits n.toNat mem
   rw [Int.toNat_of_nonneg hc.1] at this
   exact this
  ·cases h
 ·split at h
  ·rename_i hc
   obtain ⟨h0,h1,h2,h3⟩ := hc
   cases h
   have e : ((Int.toNat _ : Nat) : Int) = _ := Int.toNat_of_nonneg h0
   have := Tryz.aOfR _ _ h1 h2 (by rw [e]; exact h3) mem
   rw [e] at this
   exact this
  ·cases h
 ·have := Tryz.rb1_ok.fn _ _ mem ⟨v,none,[]⟩ (by unfold pureO; simp only; rw [h])
  simpa [CallRes.mem] using this
def mkM (B : List Bit) : List Iv → Mem
 | [] => [.cells false 3 (btC B)]
 | a :: l => [.cells false 3 (btC B),.cells true 3 (ivC (a :: l))]
def mkO : List Iv → AV
 | [] => .nilslice
 | _ :: l => .slice 1 0 (l.length + 1) none
theorem fitsI_small {n : Nat} (h : n ≤ 1000000) : fitsI (n : Int) = true := by
 unfold fitsI; simp; omega
set_option maxHeartbeats 6400000 in
theorem Tryz.make_loop {K : Nat} (B : List Bit) (hB : ∀ b ∈ B,okBit b) (hl : B.length ≤ 8) (hK : B.length < K) {b : Code} (hb : loopsF Tryz.f9 = [b]) :
  ∃ F : Env → Bool → Env,∀ env0 d,(Eng.look env0 0 = .slice 0 0 B.length none ∧ Eng.look env0 3 = .nilslice ∧ Eng.look env0 4 = .int .i64 0 ∧ Eng.look env0 5 = .int .i64 0) →
   execC (tyOf Tryz.prog) (fun _ => [3,4,5]) (pureO Tryz.w9F) K 62 1 true (.loop b) ⟨env0,[.cells false 3 (btC B)],d⟩ = some (.exit 0,⟨F env0 d,mkM B (mkL 0 B),d⟩) ∧
    Eng.look (F env0 d) 3 = mkO (mkL 0 B) := by
 refine loop_rule rfl (fun env0 => Eng.look env0 0 = .slice 0 0 B.length none ∧ Eng.look env0 3 = .nilslice ∧ Eng.look env0 4 = .int .i64 0 ∧ Eng.look env0 5 = .int .i64 0) (fun _ env' => Eng.look env' 3 = mkO (mkL 0 B)) ?_
 rintro env0 d ⟨h0,h3,h4,h5⟩
 simp [loopsF,loopsC,Tryz.f9] at hb
 have hn : normE [3,4,5] (writesC b) env0 ((3,mkO []) :: (4,.int .i64 ((0 : Nat) : Int)) :: (5,.int .i64 ((0 : Nat) : Int)) :: env0) = normE [3,4,5] (writesC b) env0 env0 := by simp [normE,h3,h4,h5,mkO]
 rw [← hn]
 have kl : (btC B).length = B.length * 3 := btC_length B
 refine iter_ind (α := Nat × Nat × List Iv) (fun s => ⟨normE [3,4,5] (writesC b) env0 ((3,mkO s.2.2) :: (4,.int .i64 (s.2.1 : Int)) :: (5,.int .i64 (s.1 : Int)) :: env0),mkM B s.2.2,d⟩) (fun s => B.length - s.1) (fun s => s.1 ≤ B.length ∧ s.2.1 ≤ s.1 * 8 ∧ s.2.2.length = s.1 ∧ mkL 0 B = s.2.2 ++ mkL s.2.1 (B.drop s.1)) (.exit 0) _ d _ (by simp) ?_ K (0,0,[]) ⟨by simp,by simp,rfl,by rw [List.drop_zero]; rfl⟩ (by simp only; omega)
 rintro ⟨n,a,out⟩ ⟨hn1,hn2,hn3,he⟩
 simp only at hn1 hn2 hn3 he ⊢
 clear hn
 subst hb
 by_cases hlt : n < B.length
 ·left
  have h8 : n < 8 := by omega
  have h8I : (n : Int) < 8 := by omega
  obtain ⟨x,hx⟩ : ∃ x,B[n]? = some x := ⟨B[n],List.getElem?_eq_getElem hlt⟩
  obtain ⟨k1,k2,k3⟩ := btC_at hx
  obtain ⟨o1,o2,o3⟩ := hB x (List.mem_of_getElem? hx)
  have hd : B.drop n = x :: B.drop (n + 1) := by
   rw [List.getElem?_eq_some_iff] at hx
   obtain ⟨h1,h2⟩ := hx
   rw [← h2]; exact List.drop_eq_getElem_cons h1
  rw [hd,mkL] at he
  obtain ⟨g,t,u⟩ := x
  simp only at k1 k2 k3 o1 o2 o3 he
  have w1 : IntKind.i64.wrap ((n : Int) + 1) = ((n + 1 : Nat) : Int) := by rw [wrap_i64 (by omega) (by omega)]; omega
  have g3 : g % 3 < 3 := Nat.mod_lt _ (by omega)
  have t6 : t % 6 < 6 := Nat.mod_lt _ (by omega)
  have m1 : (g : Int).tmod 3 = ((g % 3 : Nat) : Int) := tmod_lit g 3
  have m2 : (t : Int).tmod 6 = ((t % 6 : Nat) : Int) := tmod_lit t 6
  obtain ⟨G,hG⟩ : ∃ G,G = g % 3 := ⟨_,rfl⟩
  obtain ⟨T,hT⟩ : ∃ T,T = t % 6 := ⟨_,rfl⟩
  rw [← hG] at g3 m1 he
  rw [← hT] at t6 m2 he
  have w2 : IntKind.i64.wrap (G : Int) = (G : Int) := wrap_i64 (by omega) (by omega)
  have w3 : IntKind.i64.wrap (T : Int) = (T : Int) := wrap_i64 (by omega) (by omega)
  obtain ⟨f,hf⟩ : ∃ f,f = a + G := ⟨_,rfl⟩
  obtain ⟨z,hz⟩ : ∃ z,z = f + (1 + T) := ⟨_,rfl⟩
  have hiv : mkIv a (g,t,u) = (unitS u,ratS (mkRat (f : Int) 2),ratS (mkRat (z : Int) 2)) := by rw [hz,hf,hG,hT]; rfl
  rw [← hf,← hz,hiv] at he
  have w4 : IntKind.i64.wrap ((a : Int) + G) = (f : Int) := by rw [hf,wrap_i64 (by omega) (by omega)]; omega
  obtain ⟨T1,hT1⟩ : ∃ T1,T1 = 1 + T := ⟨_,rfl⟩
  have w5 : IntKind.i64.wrap (1 + (T : Int)) = (T1 : Int) := by rw [hT1,wrap_i64 (by omega) (by omega)]; omega
  have w6 : IntKind.i64.wrap ((f : Int) + T1) = (z : Int) := by rw [hz,hT1,wrap_i64 (by omega) (by omega)]; omega
  have f1 : fitsI (f : Int) = true := fitsI_small (by omega)
  have f2 : fitsI (z : Int) = true := fitsI_small (by omega)
  have f3 : fitsI 2 = true := rfl
  have j1 : ∀ h,(btC B)[n * 3]'h = .int .u8 (g : Int) := fun h => by rw [List.getElem?_eq_getElem h] at k1; exact Option.some.inj k1
  have j2 : ∀ h,(btC B)[n * 3 + 1]'h = .int .u8 (t : Int) := fun h => by rw [List.getElem?_eq_getElem h] at k2; exact Option.some.inj k2
  have j3 : ∀ h,(btC B)[n * 3 + 2]'h = .int .u8 (u : Int) := fun h => by rw [List.getElem?_eq_getElem h] at k3; exact Option.some.inj k3
  have l1 : n * 3 < (btC B).length := by omega
  have l2 : n * 3 + 1 < (btC B).length := by omega
  have l3 : n * 3 + 2 < (btC B).length := by omega
  refine ⟨(n + 1,z,out ++ [(unitS u,ratS (mkRat (f : Int) 2),ratS (mkRat (z : Int) 2))]),?_⟩
  refine exists_and_fin (show (n + 1 ≤ B.length ∧ z ≤ (n + 1) * 8 ∧ (out ++ [(unitS u,ratS (mkRat (f : Int) 2),ratS (mkRat (z : Int) 2))]).length = n + 1 ∧ mkL 0 B = (out ++ [(unitS u,ratS (mkRat (f : Int) 2),ratS (mkRat (z : Int) 2))]) ++ mkL z (B.drop (n + 1))) ∧ B.length - (n + 1) < B.length - n from ⟨⟨by omega,by omega,by simp [hn3],by rw [he,List.append_assoc]; rfl⟩,by omega⟩) ?_
  clear he hiv hG hT hf hz hT1
  obtain ⟨R1,hR1⟩ : ∃ R,R = ratS (mkRat (f : Int) 2) := ⟨_,rfl⟩
  obtain ⟨R2,hR2⟩ : ∃ R,R = ratS (mkRat (z : Int) 2) := ⟨_,rfl⟩
  cases out with
  | nil =>
   simp [h0,hlt,h8,h8I,mkM,mkO,j1,j2,j3,l1,l2,l3,m1,m2,w1,w2,w3,w4,w5,w6,f1,f2,f3,o3,pureO,Tryz.w9F,btC_refs,btC_ren,ivC,aBuild,fieldPlaces]
  | cons c out =>
   have hl1 : (ivC (c :: out)).length = (out.length + 1) * 3 := by rw [ivC_length]; rfl
   have hl2 : (ivC (c :: out)).take ((out.length + 1) * 3) = ivC (c :: out) := List.take_of_length_le (by omega)
   simp only [List.length_cons] at hn3
   have b1 : (out.length + 1 + 1) * 48 ≤ 140737488355328 := by omega
   have b2 : out.length + 1 + 1 ≤ 140737488355328 := by omega
   have b3 : out.length ≤ 140737488355326 := by omega
   have hap : ∀ x,ivC (c :: (out ++ [x])) = ivC (c :: out) ++ [.str x.1,.str x.2.1,.str x.2.2] := fun x => by rw [← List.cons_append,ivC_append]; rfl
   obtain ⟨C,hC⟩ : ∃ C,C = ivC (c :: out) := ⟨_,rfl⟩
   have hC1 : ∀ f,AV.rens f C = C := fun f => by rw [hC]; exact ivC_ren f _
   have hC2 : ∀ n,AV.refsL n C = [] := fun n => by rw [hC]; exact ivC_refs n _
   rw [← hC] at hl1 hl2
   simp only [mkM,mkO,List.cons_append,hap,← hC]
   simp [h0,hlt,h8,h8I,j1,j2,j3,l1,l2,l3,m1,m2,w1,w2,w3,w4,w5,w6,f1,f2,f3,o3,pureO,Tryz.w9F,btC_refs,btC_ren,aBuild,fieldPlaces,hl1,hl2,b1,b2,b3,hC1,hC2]
 ·right
  have e : B.drop n = [] := List.drop_of_length_le (by omega)
  rw [e,mkL,List.append_nil] at he
  rw [he]
  simp [h0,hlt]
def hf (n : Nat) : Rat := mkRat (n : Int) 2
theorem hf_eq (n : Nat) : hf n = (n : Rat) / 2 := by
 unfold hf
 rw [Rat.mkRat_eq_div]
 rfl
theorem hf_lt {n m : Nat} (h : n < m) : hf n < hf m := by
 rw [hf_eq,hf_eq]
 have : (n : Rat) < (m : Rat) := by exact_mod_cast h
 grind
theorem hf_le {n m : Nat} (h : n ≤ m) : hf n ≤ hf m := by
 rcases Nat.lt_or_ge n m with h1 | h1
 ·have := hf_lt h1; grind
 ·have : n = m := by omega
  subst this; grind
theorem hf_big (n : Nat) (h : n ≤ 1000000) : (natD (hf n).num.natAbs).length ≤ 20 ∧ (natD (hf n).den).length ≤ 20 := by
 have hn : (hf n).num.natAbs ≤ n := by
  unfold hf
  rw [Rat.num_mkRat]
  split
  ·simp
  ·rw [Int.natAbs_natCast,← Int.natCast_ediv,Int.natAbs_natCast]
   exact Nat.div_le_self _ _
 have hd : (hf n).den ≤ 2 := by
  unfold hf
  rw [Rat.den_mkRat]
  split
  ·omega
  ·exact Nat.div_le_self _ _
 exact ⟨natD_length_le (by omega) (by omega),natD_length_le (by omega) (by omega)⟩
theorem hf_sgn (n : Nat) : ¬ sgnR (hf n) < 0 := by
 have h0 : hf 0 ≤ hf n := hf_le (by omega)
 have h1 : hf 0 = 0 := by rw [hf_eq]; grind
 rw [h1] at h0
 have : 0 ≤ (hf n).num := Rat.num_nonneg.2 h0
 unfold sgnR sgnI
 split
 ·omega
 ·split <;> omega
theorem chkR_ratS {q : Rat} (h1 : (natD q.num.natAbs).length ≤ 200) (h2 : (natD q.den).length ≤ 200) : chkR (ratS q) = 0 := by
 unfold chkR
 rw [ratP_ratS]
 simp [h1,h2]
theorem unitS_ok (n : Nat) : ¬ (unitS n ≠ [] ∧ isNameB (unitS n) = false) := by
 unfold unitS
 have h : n % 6 < 6 := Nat.mod_lt _ (by omega)
 obtain ⟨k,hk⟩ : ∃ k,k = n % 6 := ⟨_,rfl⟩
 rw [← hk] at h ⊢
 match k,h with
 | 0,_ => decide
 | 1,_ => decide
 | 2,_ => decide
 | 3,_ => decide
 | 4,_ => decide
 | 5,_ => decide
theorem unitS_len (n : Nat) : (unitS n).length ≤ 1 := by
 unfold unitS
 split <;> decide
theorem mkIv_eq (a : Nat) (b : Bit) : mkIv a b = (unitS b.2.2,ratS (hf (a + b.1 % 3)),ratS (hf (a + b.1 % 3 + (1 + b.2.1 % 6)))) := rfl
theorem logE_mkL : ∀ (B : List Bit) (a : Nat) (p : Option Rat),(p = none ∨ ∃ q,p = some q ∧ q ≤ hf a) → a + 8 * B.length ≤ 1000000 → logE p (mkL a B) = 0
 | [],_,_,_,_ => rfl
 | b :: B,a,p,hp,ha => by
  simp only [List.length_cons] at ha
  rw [mkL,logE,mkIv_eq]
  have g3 : b.1 % 3 < 3 := Nat.mod_lt _ (by omega)
  have t6 : b.2.1 % 6 < 6 := Nat.mod_lt _ (by omega)
  obtain ⟨f,hf1⟩ : ∃ f,f = a + b.1 % 3 := ⟨_,rfl⟩
  obtain ⟨z,hz1⟩ : ∃ z,z = f + (1 + b.2.1 % 6) := ⟨_,rfl⟩
  rw [← hf1,← hz1]
  have f1 := hf_big f (by omega)
  have z1 := hf_big z (by omega)
  have c1 : chkR (ratS (hf f)) = 0 := chkR_ratS (by omega) (by omega)
  have c2 : chkR (ratS (hf z)) = 0 := chkR_ratS (by omega) (by omega)
  have hlt : hf f < hf z := hf_lt (by omega)
  have haf : hf a ≤ hf f := hf_le (by omega)
  have hah : aheadB p (hf f) = false := by
   rcases hp with rfl | ⟨q,rfl,hq⟩
   ·rfl
   ·simp only [aheadB,decide_eq_false_iff_not]
    intro h; grind
  have h0 : ivE p (unitS b.2.2,ratS (hf f),ratS (hf z)) = 0 := by
   unfold ivE
   rw [if_neg (unitS_ok _)]
   simp only [c1,c2,and_self,if_true,ratP_ratS,Option.getD_some]
   rw [if_neg (hf_sgn f),if_neg]
   rintro (h | h)
   ·grind
   ·rw [hah] at h; cases h
  rw [h0,if_pos rfl]
  simp only [ratP_ratS]
  exact logE_mkL B z (some (hf z)) (.inr ⟨_,rfl,by grind⟩) (by omega)
theorem mkL_short : ∀ (B : List Bit) (a : Nat),a + 8 * B.length ≤ 1000000 → shortIv (mkL a B)
 | [],_,_ => fun x hx => by cases hx
 | b :: B,a,ha => by
  simp only [List.length_cons] at ha
  have g3 : b.1 % 3 < 3 := Nat.mod_lt _ (by omega)
  have t6 : b.2.1 % 6 < 6 := Nat.mod_lt _ (by omega)
  rw [mkL]
  intro x hx
  rcases List.mem_cons.1 hx with rfl | hx
  ·rw [mkIv_eq]
   have h1 := hf_big (a + b.1 % 3) (by omega)
   have h2 := hf_big (a + b.1 % 3 + (1 + b.2.1 % 6)) (by omega)
   have h3 := unitS_len b.2.2
   have l1 := fine_len (q := hf (a + b.1 % 3)) ⟨by omega,by omega⟩
   have l2 := fine_len (q := hf (a + b.1 % 3 + (1 + b.2.1 % 6))) ⟨by omega,by omega⟩
   exact ⟨Nat.le_trans h3 (by omega),l1,l2⟩
  ·exact mkL_short B _ (by omega) x hx
theorem logR_mkL (B : List Bit) (h : B.length ≤ 8) : logR (mkL 0 B) = 0 := by
 unfold logR
 rw [mkL_length,if_neg (by omega)]
 exact logE_mkL B 0 none (.inl rfl) (by omega)
end Go.Proofs
