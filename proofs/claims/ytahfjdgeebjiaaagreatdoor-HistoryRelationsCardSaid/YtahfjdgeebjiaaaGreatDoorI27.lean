/- See I57. -/
import Derived.Test.YtahfjdgeebjiaaaGreatDoorI26
import Derived.Test.YtahfjdgeebjiaaaGreatDoorI09
set_option linter.all false
namespace Go.Proofs
open Go.Eng
def ratsS : List (List UInt8) → Option (List Rat)
 | [] => some []
 | k :: l => match ratP k,ratsS l with
  | some a,some r => some (a :: r)
  | _,_ => none
theorem ratsS_some : ∀ {L : List (List UInt8)} {Q : List Rat},ratsS L = some Q → L = rT Q
 | [],Q,h => by cases h; rfl
 | k :: L,Q,h => by
  unfold ratsS at h
  split at h
  ·rename_i a r h1 h3
   cases h
   rw [ratsS_some h3,ratP_some h1]; rfl
  ·cases h
open Classical in
noncomputable def Tryz.vcO1 : Oracle := fun c args M => match c,args with
 | .fn 109,[x] => match sliceS M x with
  | some L => if (∀ s ∈ L,s.length ≤ 18) ∧ L.length ≤ 1000000000 then some ⟨.int .i64 (numE L),none,[]⟩ else none
  | none => none
 | .fn 175,[x] => match sliceS M x with
  | some L => match ratsS L with
   | some Q => if sumOk Q 0 ∧ Q ≠ [] ∧ Q.length ≤ 1000000000 then some ⟨.str (ratS (sumL Q 0)),none,[]⟩ else none
   | none => none
  | none => none
 | c,args => pureO Tryz.ratF4 c args M
theorem Tryz.vcO1_ok : OracleOk Tryz.prog Tryz.vcO1 := by
 refine oracleOk_of fun c args M r h => ?_
 unfold Tryz.vcO1 at h
 split at h
 ·split at h
  ·rename_i L hL
   split at h
   ·rename_i hc
    cases h
    refine soundAt_call ?_
    rw [List.append_nil]
    exact rows1S (rest := []) rfl rfl hL (Tryz.aNumbers L hc.1 hc.2) (fun hL0 => by subst hL0; exact Tryz.aNumbersNil M)
   ·cases h
  ·cases h
 ·split at h
  ·rename_i L hL
   split at h
   ·rename_i Q hQ
    split at h
    ·rename_i hc
     cases h
     refine soundAt_call ?_
     rw [List.append_nil]
     have hLQ := ratsS_some hQ
     subst hLQ
     have := Tryz.aSumQ Q hc.1 hc.2.2
     have hlen : (rT Q).length = Q.length := by simp [rT]
     rw [← hlen] at this
     exact rows1S (rest := []) rfl rfl hL this (fun hL0 => by
      cases Q with
      | nil => exact absurd rfl hc.2.1
      | cons q Q => cases hL0)
    ·cases h
   ·cases h
  ·cases h
 ·exact soundAt_of Tryz.rat4_ok h
theorem Tryz.aVCheck (a b c : List UInt8) (ha : a.length ≤ 18) (hb : b.length ≤ 18) (hc : c.length ≤ 18) (M : Mem) :
  ACallsTo Tryz.prog 68 [.agg [.str a,.str b,.str c]] M (.int .i64 (numE [a,b,c])) M := by
 have hG : fnOf Tryz.prog 68 = some Tryz.f68 := by kernel_rfl
 refine Tryz.run Tryz.vcO1_ok (lv := fun _ => []) (K := 1) rfl rfl ?_ M
 simp [callFn,hG,Tryz.f68,Tryz.vcO1,sliceS,strsOf,ha,hb,hc]
theorem Tryz.aVCheckPoint (a b : List UInt8) (ha : a.length ≤ 18) (hb : b.length ≤ 18) (M : Mem) :
  ACallsTo Tryz.prog 82 [.agg [.str a,.str b]] M (.int .i64 (numE [a,b])) M := by
 have hG : fnOf Tryz.prog 82 = some Tryz.f82 := by kernel_rfl
 refine Tryz.run Tryz.vcO1_ok (lv := fun _ => []) (K := 1) rfl rfl ?_ M
 simp [callFn,hG,Tryz.f82,Tryz.vcO1,sliceS,strsOf,ha,hb]
abbrev V3 := Rat × Rat × Rat
def vA (v : V3) : AV := .agg [.str (ratS v.1),.str (ratS v.2.1),.str (ratS v.2.2)]
def vDg (n : Nat) (v : V3) : Prop := dg n 1 v.1 ∧ dg n 1 v.2.1 ∧ dg n 1 v.2.2
def vDot (a b : V3) : Rat := a.1 * b.1 + a.2.1 * b.2.1 + a.2.2 * b.2.2
theorem fine_dg {n d : Nat} {q : Rat} (h : dg n d q) (hn : 0 < n) (hd : 0 < d) (h1 : n ≤ 9) (h2 : d ≤ 9) : fine q := by
 have := h.lens hn hd
 exact ⟨by omega,by omega⟩
set_option maxHeartbeats 1600000 in
theorem Tryz.aEDot (a b : V3) (ha : vDg 2 a) (hb : vDg 2 b) (M : Mem) : ACallsTo Tryz.prog 280 [vA a,vA b] M (.str (ratS (vDot a b))) M := by
 have hG : fnOf Tryz.prog 280 = some Tryz.f280 := by kernel_rfl
 obtain ⟨a1,a2,a3⟩ := a
 obtain ⟨b1,b2,b3⟩ := b
 obtain ⟨A1,A2,A3⟩ := ha
 obtain ⟨B1,B2,B3⟩ := hb
 simp only at A1 A2 A3 B1 B2 B3
 have P1 := dg_mul A1 B1
 have P2 := dg_mul A2 B2
 have P3 := dg_mul A3 B3
 have Z : dg 1 1 0 := ⟨by decide,by decide⟩
 have S1 := dg_add Z P1 (m := 5) (by omega) (by omega)
 have S2 := dg_add S1 P2 (m := 8) (by omega) (by omega)
 have hs : sumOk [a1 * b1,a2 * b2,a3 * b3] 0 :=
  ⟨fine_dg Z (by omega) (by omega) (by omega) (by omega),fine_dg P1 (by omega) (by omega) (by omega) (by omega),fine_dg S1 (by omega) (by omega) (by omega) (by omega),fine_dg P2 (by omega) (by omega) (by omega) (by omega),
   fine_dg S2 (by omega) (by omega) (by omega) (by omega),fine_dg P3 (by omega) (by omega) (by omega) (by omega),trivial⟩
 have hsum : sumL [a1 * b1,a2 * b2,a3 * b3] 0 = a1 * b1 + a2 * b2 + a3 * b3 := by simp [sumL,Rat.zero_add]
 obtain ⟨f1,f2⟩ := fine_dg A1 (by omega) (by omega) (by omega) (by omega)
 obtain ⟨f3,f4⟩ := fine_dg A2 (by omega) (by omega) (by omega) (by omega)
 obtain ⟨f5,f6⟩ := fine_dg A3 (by omega) (by omega) (by omega) (by omega)
 obtain ⟨g1,g2⟩ := fine_dg B1 (by omega) (by omega) (by omega) (by omega)
 obtain ⟨g3,g4⟩ := fine_dg B2 (by omega) (by omega) (by omega) (by omega)
 obtain ⟨g5,g6⟩ := fine_dg B3 (by omega) (by omega) (by omega) (by omega)
 clear P1 P2 P3 S1 S2 A1 A2 A3 B1 B2 B3 Z
 unfold vDot
 simp only
 obtain ⟨p,hp⟩ : ∃ p,p = a1 * b1 := ⟨_,rfl⟩
 obtain ⟨q,hq⟩ : ∃ p,p = a2 * b2 := ⟨_,rfl⟩
 obtain ⟨r,hr⟩ : ∃ p,p = a3 * b3 := ⟨_,rfl⟩
 rw [← hp,← hq,← hr] at hs hsum ⊢
 refine Tryz.run Tryz.vcO1_ok (lv := fun _ => []) (K := 1) rfl rfl ?_ M
 obtain ⟨ops,hops⟩ : ∃ ops,drawsF Tryz.f280 = [ops] := ⟨_,rfl⟩
 have hbs := draws_one hops (l := [0,1,0,4,15,0,32,0,128,511,0,1024,0,4096,16383,32767,65535,131071]) (by kernel_rfl)
 have hba : barAt [0,1,0,4,15,0,32,0,128,511,0,1024,0,4096,16383,32767,65535,131071] 18 15 = true := by decide
 simp [drawsF,drawsC,Tryz.f280] at hops
 subst hops
 simp [callFn,hG,Tryz.f280,-runDraw,runDraw_bar hbs,runDrawB,barAll,barRec,quietR,hba,vA,Tryz.vcO1,sliceS,strsOf,ratsS,ratP_ratS,pureO,Tryz.ratF4,Tryz.ratF3,f1,f2,f3,f4,f5,f6,g1,g2,g3,g4,g5,g6,← hp,← hq,← hr,hs,hsum,Nat.testBit]
theorem ratS_zero : ratS 0 = [48] := rfl
theorem ratS_inj {a b : Rat} (h : ratS a = ratS b) : a = b := by
 have := ratP_ratS a
 rw [h,ratP_ratS] at this
 exact (Option.some.inj this).symm
theorem chkR_dg {q : Rat} (h : dg 200 200 q) : chkR (ratS q) = 0 := by
 unfold chkR
 rw [ratP_ratS]
 exact if_pos (h.lens (by decide) (by decide))
theorem len_dg {n d : Nat} {q : Rat} (h : dg n d q) (h0 : 0 < n) (h1 : 0 < d) (h2 : n + d ≤ 16) : (ratS q).length ≤ 18 := by
 obtain ⟨a,b⟩ := h.lens h0 h1
 have := intS_length q.num
 unfold ratS
 split
 ·omega
 ·simp only [List.length_append,List.length_cons]; omega
theorem vDg.mono {n m : Nat} {v : V3} (h : vDg n v) (hm : n ≤ m) : vDg m v := ⟨h.1.mono hm (Nat.le_refl 1),h.2.1.mono hm (Nat.le_refl 1),h.2.2.mono hm (Nat.le_refl 1)⟩
theorem Tryz.aVZero (a b c : List UInt8) (M : Mem) : ACallsTo Tryz.prog 325 [.agg [.str a,.str b,.str c]] M (.bool (a == [48] && b == [48] && c == [48])) M := by
 have hG : fnOf Tryz.prog 325 = some Tryz.f325 := by kernel_rfl
 refine Tryz.run (noOracle_ok _) (lv := fun _ => []) (K := 1) rfl rfl ?_ M
 cases h1 : (a == [48]) <;> cases h2 : (b == [48]) <;> cases h3 : (c == [48]) <;> simp [callFn,hG,Tryz.f325,h1,h2,h3]
noncomputable def Tryz.vcF2 (f : FuncId) (args : List AV) : Option AV :=
 match f,args with
 | 68,[.agg [.str a,.str b,.str c]] => if a.length ≤ 18 ∧ b.length ≤ 18 ∧ c.length ≤ 18 then some (.int .i64 (numE [a,b,c])) else none
 | 82,[.agg [.str a,.str b]] => if a.length ≤ 18 ∧ b.length ≤ 18 then some (.int .i64 (numE [a,b])) else none
 | 325,[.agg [.str a,.str b,.str c]] => some (.bool (a == [48] && b == [48] && c == [48]))
 | 280,[.agg [.str a,.str b,.str c],.agg [.str d,.str e,.str f]] => match ratP a,ratP b,ratP c,ratP d,ratP e,ratP f with
  | some a,some b,some c,some d,some e,some f => if (natD a.num.natAbs).length ≤ 2 ∧ (natD a.den).length ≤ 1 ∧ (natD b.num.natAbs).length ≤ 2 ∧ (natD b.den).length ≤ 1 ∧ (natD c.num.natAbs).length ≤ 2 ∧ (natD c.den).length ≤ 1 ∧
    (natD d.num.natAbs).length ≤ 2 ∧ (natD d.den).length ≤ 1 ∧ (natD e.num.natAbs).length ≤ 2 ∧ (natD e.den).length ≤ 1 ∧ (natD f.num.natAbs).length ≤ 2 ∧ (natD f.den).length ≤ 1 then some (.str (ratS (a * d + b * e + c * f))) else none
  | _,_,_,_,_,_ => none
 | _,_ => none
theorem dg_of_lens {n d : Nat} {q : Rat} (h : (natD q.num.natAbs).length ≤ n ∧ (natD q.den).length ≤ d) : dg n d q := by
 have h1 := natD_lt_pow q.num.natAbs
 have h2 := natD_lt_pow q.den
 have h3 : 10 ^ (natD q.num.natAbs).length ≤ 10 ^ n := Nat.pow_le_pow_right (by omega) h.1
 have h4 : 10 ^ (natD q.den).length ≤ 10 ^ d := Nat.pow_le_pow_right (by omega) h.2
 exact ⟨by omega,by omega⟩
theorem Tryz.vcF2_ok : OracleOk Tryz.prog (pureO Tryz.vcF2) := pureO_ok fun f args v h mem => by
 unfold Tryz.vcF2 at h
 split at h
 ·split at h
  ·rename_i hc; cases h; exact Tryz.aVCheck _ _ _ hc.1 hc.2.1 hc.2.2 mem
  ·cases h
 ·split at h
  ·rename_i hc; cases h; exact Tryz.aVCheckPoint _ _ hc.1 hc.2 mem
  ·cases h
 ·cases h; exact Tryz.aVZero _ _ _ mem
 ·split at h
  ·rename_i a b c d e f ha hb hc hd he hf
   split at h
   ·rename_i hcond
    obtain ⟨c1,c2,c3,c4,c5,c6,c7,c8,c9,c10,c11,c12⟩ := hcond
    cases h
    rw [ratP_some ha,ratP_some hb,ratP_some hc,ratP_some hd,ratP_some he,ratP_some hf]
    exact Tryz.aEDot (a,b,c) (d,e,f) ⟨(dg_of_lens ⟨c1,c2⟩).mono (by omega) (by omega),(dg_of_lens ⟨c3,c4⟩).mono (by omega) (by omega),(dg_of_lens ⟨c5,c6⟩).mono (by omega) (by omega)⟩
     ⟨(dg_of_lens ⟨c7,c8⟩).mono (by omega) (by omega),(dg_of_lens ⟨c9,c10⟩).mono (by omega) (by omega),(dg_of_lens ⟨c11,c12⟩).mono (by omega) (by omega)⟩ mem
   ·cases h
  ·cases h
 ·cases h
noncomputable def Tryz.vcO2 : Oracle := Oracle.or (pureO Tryz.vcF2) Tryz.vcO1
theorem Tryz.vcO2_ok : OracleOk Tryz.prog Tryz.vcO2 := OracleOk.or Tryz.vcF2_ok Tryz.vcO1_ok
end Go.Proofs
