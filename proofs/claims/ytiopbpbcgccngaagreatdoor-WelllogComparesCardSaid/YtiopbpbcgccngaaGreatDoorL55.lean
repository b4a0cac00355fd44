/-
The law WelllogCompares of package klippelaw43 returns true for every two lists of described intervals, and both arguments read afterwards as they read before.
Conditions: those of the given row alone: the package-level variables that it lists hold at the start what the program's text lays (the given tie closes that); nothing is asked of the arguments beyond what a Go program can hold.
How: an executable engine over abstract values, proved sound over the library's fenced calculus (parts L01 to L10), contracts of the program's functions by runs of that engine (L13 to L52), the plain laws of numbers and of intervals (L11, L12, L48), the closed run of known by the kernel, cut into remembered calls (L38 to L41), the row and its card (the last parts).
-/
import Derived.Test.YtiopbpbcgccngaaGreatDoorL52
import Derived.Test.YtiopbpbcgccngaaGreatDoorL53
import Derived.Test.YtiopbpbcgccngaaGreatDoorL51
import Derived.Test.YtiopbpbcgccngaaGreatDoorL54
import Derived.Test.YtiopbpbcgccngaaGreatDoorL41
set_option linter.all false
namespace Go.Proofs
open Go.Eng
def Tryz.knF (f : FuncId) (args : List AV) : Option AV := match f,args with
 | 8,[] => some (.bool true)
 | _,_ => none
theorem Tryz.knF_ok : OracleOk Tryz.prog (pureO Tryz.knF) := pureO_ok fun f args v h mem => by
 unfold Tryz.knF at h
 split at h
 ·cases h; exact Tryz.aKnown mem
 ·cases h
theorem Tryz.wc_b {b b2 : Code} (hb : loopsF Tryz.f4 = [b,b2]) : 11 ∈ writesC b ∧ 12 ∈ writesC b ∧ 14 ∈ writesC b ∧ ∀ env0 v1 v2 v3,
  Eng.look (normE [11,12,14] (writesC b) env0 ((11,v1) :: (12,v2) :: (14,v3) :: env0)) 11 = v1 ∧
  Eng.look (normE [11,12,14] (writesC b) env0 ((11,v1) :: (12,v2) :: (14,v3) :: env0)) 12 = v2 ∧
  Eng.look (normE [11,12,14] (writesC b) env0 ((11,v1) :: (12,v2) :: (14,v3) :: env0)) 14 = v3 ∧
  ∀ t ∈ [4,5,6,7,8,9,10,13],Eng.look (normE [11,12,14] (writesC b) env0 ((11,v1) :: (12,v2) :: (14,v3) :: env0)) t = Eng.look env0 t := by
 simp [loopsF,loopsC,Tryz.f4] at hb
 obtain ⟨rfl,_⟩ := hb
 simp
theorem Tryz.wc_exit {O : Oracle} {K : Nat} {lv : Code → List Nat} {b b2 : Code} (hb : loopsF Tryz.f4 = [b,b2]) (n j : Nat) (hj : ¬ j + 1 < n) (hj2 : j ≤ 1000000) (env : Env) (M : Mem) (d : Bool) (h13 : Eng.look env 13 = .slice 5 0 n none) (h14 : Eng.look env 14 = .int .i64 (j : Int)) :
  ∃ env',execC (tyOf Tryz.prog) lv O K 182 2 true b ⟨env,M,d⟩ = some (.exit 0,⟨env',M,d⟩) ∧ ∀ t ∈ [4,5,6,7,8,9,10,11,12,13],Eng.look env' t = Eng.look env t := by
 simp [loopsF,loopsC,Tryz.f4] at hb
 obtain ⟨rfl,_⟩ := hb
 have w1 : IntKind.i64.wrap ((j : Int) + 1) = (j : Int) + 1 := wrap_i64 (by omega) (by omega)
 have hjI : ¬ (j : Int) + 1 < (n : Int) := by omega
 simp [h13,h14,w1,hjI]
theorem Tryz.wc_loop1 {O : Oracle} {K : Nat} (s0 s1 s2 s3 s4 : Slot) (h0 : s0.refs 6 = []) (h1 : s1.refs 6 = []) (h2 : s2.refs 6 = []) (h3 : s3.refs 6 = []) (h4 : s4.refs 6 = []) (va vb : AV) (ra : va.refs 6 = []) (rb : vb.refs 6 = []) (f : Rat → List UInt8 × List UInt8) (E : List Rat) (hE : ∀ x ∈ E,fine x) (hn : E.length ≤ 100000) (hne : 0 < E.length) (hK : E.length < K)
  (hua : ∀ e,fine e → ∀ r,O (.fn 14) [va,.str (ratS e)] (s0 :: s1 :: s2 :: s3 :: s4 :: r) = some ⟨.str (f e).1,none,[]⟩)
  (hub : ∀ e,fine e → ∀ r,O (.fn 14) [vb,.str (ratS e)] (s0 :: s1 :: s2 :: s3 :: s4 :: r) = some ⟨.str (f e).2,none,[]⟩)
  (hsub : ∀ args M,O (.fn 16) args M = pureO Tryz.w5F (.fn 16) args M) (hadd : ∀ args M,O (.fn 15) args M = pureO Tryz.w5F (.fn 15) args M)
  (hag : ∀ j,j < E.length → fine (agJ f E j)) (hst : ∀ j,j + 1 < E.length → fine (E.getD (j + 1) 0 - E.getD j 0))
  {b b2 : Code} (hb : loopsF Tryz.f4 = [b,b2]) (hlv : Tryz.wcLv b = [11,12,14]) :
  ∃ F : Env → Bool → Env,∀ env0 d,(Eng.look env0 5 = va ∧ Eng.look env0 6 = vb ∧ Eng.look env0 11 = .nilslice ∧ Eng.look env0 12 = .str [48] ∧ Eng.look env0 13 = .slice 5 0 E.length none ∧ Eng.look env0 14 = .int .i64 0) →
   execC (tyOf Tryz.prog) Tryz.wcLv O K 182 2 true (.loop b) ⟨env0,wcM s0 s1 s2 s3 s4 E,d⟩ = some (.exit 0,⟨F env0 d,wcM s0 s1 s2 s3 s4 E ++ ocE (stJ f E (E.length - 1)),d⟩) ∧
    (Eng.look (F env0 d) 11 = ocV 6 (stJ f E (E.length - 1)) ∧ Eng.look (F env0 d) 12 = .str (ratS (agJ f E (E.length - 1))) ∧ ∀ t ∈ [4,5,6,7,8,9,10,13],Eng.look (F env0 d) t = Eng.look env0 t) := by
 refine loop_rule hlv (fun env0 => Eng.look env0 5 = va ∧ Eng.look env0 6 = vb ∧ Eng.look env0 11 = .nilslice ∧ Eng.look env0 12 = .str [48] ∧ Eng.look env0 13 = .slice 5 0 E.length none ∧ Eng.look env0 14 = .int .i64 0)
  (fun env0 env' => Eng.look env' 11 = ocV 6 (stJ f E (E.length - 1)) ∧ Eng.look env' 12 = .str (ratS (agJ f E (E.length - 1))) ∧ ∀ t ∈ [4,5,6,7,8,9,10,13],Eng.look env' t = Eng.look env0 t) ?_
 rintro env0 d ⟨g5,g6,g11,g12,g13,g14⟩
 obtain ⟨w11,w12,w14,hlook⟩ := Tryz.wc_b hb
 have hz : ratS 0 = [48] := by kernel_rfl
 have hn0 : normE [11,12,14] (writesC b) env0 ((11,ocV 6 (stJ f E 0)) :: (12,.str (ratS (agJ f E 0))) :: (14,.int .i64 ((0 : Nat) : Int)) :: env0) = normE [11,12,14] (writesC b) env0 env0 := by simp [normE,g11,g12,g14,stJ,agJ,ocV,hz]
 rw [← hn0]
 have hml : (wcM s0 s1 s2 s3 s4 E).length = 6 := rfl
 rw [hml]
 have hm0 : wcM s0 s1 s2 s3 s4 E = wcM s0 s1 s2 s3 s4 E ++ ocE (stJ f E 0) := by simp [stJ,ocE]
 rw [show (⟨normE [11,12,14] (writesC b) env0 ((11,ocV 6 (stJ f E 0)) :: (12,.str (ratS (agJ f E 0))) :: (14,.int .i64 ((0 : Nat) : Int)) :: env0),wcM s0 s1 s2 s3 s4 E,d⟩ : XS) = ⟨normE [11,12,14] (writesC b) env0 ((11,ocV 6 (stJ f E 0)) :: (12,.str (ratS (agJ f E 0))) :: (14,.int .i64 ((0 : Nat) : Int)) :: env0),wcM s0 s1 s2 s3 s4 E ++ ocE (stJ f E 0),d⟩ by rw [← hm0]]
 refine iter_ind (α := Nat) (fun j => ⟨normE [11,12,14] (writesC b) env0 ((11,ocV 6 (stJ f E j)) :: (12,.str (ratS (agJ f E j))) :: (14,.int .i64 (j : Int)) :: env0),wcM s0 s1 s2 s3 s4 E ++ ocE (stJ f E j),d⟩) (fun j => E.length - j) (fun j => j + 1 ≤ E.length) (.exit 0) _ d _ (by simp) ?_ K 0 (by omega) (by omega)
 intro j hj
 clear hn0 hm0 hml
 obtain ⟨l11,l12,l14,lt⟩ := hlook env0 (ocV 6 (stJ f E j)) (.str (ratS (agJ f E j))) (.int .i64 (j : Int))
 by_cases hlt : j + 1 < E.length
 ·left
  obtain ⟨s,k1,k2⟩ := Tryz.wc_round (O := O) (K := K) s0 s1 s2 s3 s4 h0 h1 h2 h3 h4 va vb ra rb f E hE hn hua hub hsub hadd j hlt (hag j (by omega)) (hst j hlt) (fun acc z h => by have := stJ_len f E j acc z h; omega) hb _ env0 (writesC b) w11 w12 w14 d
   ((lt 5 (by simp)).trans g5) ((lt 6 (by simp)).trans g6) l11 l12 ((lt 13 (by simp)).trans g13) l14
  exact ⟨j + 1,s,k1,k2,by omega,by omega⟩
 ·right
  have hje : j = E.length - 1 := by omega
  obtain ⟨env',k1,k2⟩ := Tryz.wc_exit (O := O) (K := K) (lv := Tryz.wcLv) hb E.length j hlt (by omega) _ (wcM s0 s1 s2 s3 s4 E ++ ocE (stJ f E j)) d ((lt 13 (by simp)).trans g13) l14
  rw [← hje]
  exact ⟨env',k1,(k2 11 (by simp)).trans l11,(k2 12 (by simp)).trans l12,fun t ht => (k2 t (by simp only [List.mem_cons,List.not_mem_nil,or_false] at ht ⊢; omega)).trans (lt t ht)⟩
theorem acallsTo_pad {P : Program} {f : FuncId} {args : List AV} {m m' : Mem} {v : AV} (h : ACallsTo P f args m v m') : ACallsTo P f args m v (m' ++ [.absent]) := by
 refine ⟨h.1,fun base μ w Vs h0 h1 h2 => (h.2 base μ w Vs h0 h1 h2).mono ?_⟩
 rintro e w' ⟨V,v',m1,μ',he,hv,hh,hs,rfl,rfl⟩
 obtain ⟨k1,k2⟩ := hh.absent (μ' 0)
 exact ⟨V,_,_,_,he,hv.mono (by simp) k2.agree,k1,hs.trans (k2.mono hs.len),rfl,rfl⟩
def bitS (p : Bool) (B : List Bit) : Slot := match p with
 | true => .cells false 3 (btC B)
 | false => .absent
def bitV (p : Bool) (i : Nat) (B : List Bit) : AV := match p with
 | true => .slice i 0 B.length none
 | false => .nilslice
def bitOk (p : Bool) (B : List Bit) : Prop := p = false → B = []
def mkR (B : List Bit) : Bool := !B.isEmpty
def mkS (B : List Bit) : Slot := match B with
 | [] => .absent
 | _ :: _ => .cells true 3 (ivC (mkL 0 B))
theorem mkR_ok (B : List Bit) : rowOk (mkR B) (mkL 0 B) := by
 intro h
 cases B with
 | nil => rfl
 | cons b B => cases h
theorem bitS_refs (n : Nat) (p : Bool) (B : List Bit) : (bitS p B).refs n = [] := by cases p <;> simp [bitS,Slot.refs,btC_refs]
theorem mkS_refs (n : Nat) (B : List Bit) : (mkS B).refs n = [] := by cases B <;> simp [mkS,Slot.refs,ivC_refs]
theorem Tryz.aMakeF (p : Bool) (B : List Bit) (hp : bitOk p B) (hB : ∀ b ∈ B,okBit b) (h8 : B.length ≤ 8) (M : Mem) (k : Nat) (hk : M[k]? = some (bitS p B)) :
  ACallsTo Tryz.prog 9 [bitV p k B] M (rowV (mkR B) M.length (mkL 0 B)) (M ++ [mkS B]) := by
 cases p with
 | false =>
  rw [hp rfl]
  exact acallsTo_pad (Tryz.aMakeNil M)
 | true =>
  have hx : RowC 3 M (.slice k 0 B.length none) B.length (btC B) := ⟨k,_,_,rfl,hk,List.take_length ..⟩
  have hmk := Tryz.aMakeP B hB h8
  cases B with
  | nil =>
   have := ACallsTo.rows1R (rest := []) (v := .nilslice) (btC_closed []) rfl rfl hmk hx
   exact acallsTo_pad this
  | cons b B =>
   obtain ⟨x,L,hL⟩ : ∃ x L,mkL 0 (b :: B) = x :: L := by
    have := mkL_length 0 (b :: B)
    cases h : mkL 0 (b :: B) with
    | nil => rw [h] at this; simp at this
    | cons x L => exact ⟨x,L,rfl⟩
   rw [hL] at hmk
   obtain ⟨b',hb',_,h⟩ := ACallsTo.rows1C (rest := []) (new := [.cells true 3 (ivC (x :: L))]) (btC_closed (b :: B)) rfl rfl hmk hx
   simp only [bitV,mkS,mkR,rowV,hL,List.isEmpty_cons,Bool.not_false]
   simpa [mkO,AV.ren,AV.rens,back,ren_cells,ivC_ren] using h
def ocS : Option (List Df × Df) → Slot
 | none => .absent
 | some (acc,z) => .cells true 4 (dfC (acc ++ [z]))
def raS (D : List Rat) : Slot := match D with
 | [] => .absent
 | _ :: _ => .cells true 1 (stC (D.map ratS))
theorem ocS_refs (n : Nat) (st : Option (List Df × Df)) : (ocS st).refs n = [] := by
 cases st with
 | none => rfl
 | some s => obtain ⟨acc,z⟩ := s; simp [ocS,Slot.refs,dfC_refs]
theorem mkS_sub {ks : List Nat} {M : Mem} {k : Nat} {B : List Bit} (h : M[k]? = some (mkS B)) : SubSlot ks M k (rowS (mkR B) (mkL 0 B)) := by
 cases B with
 | nil => trivial
 | cons b B => exact rowC_sub (ivC_closed _) h (List.take_length ..)
theorem Tryz.two_F {f : FuncId} {A B : List Bit} {v : AV} {new r : Mem} (s0 s1 : Slot) (hn : new.all (fun s => s.own || match s with | .absent => true | _ => false) = true)
  (h : ACallsTo Tryz.prog f [rowV (mkR A) 0 (mkL 0 A),rowV (mkR B) 1 (mkL 0 B)] [rowS (mkR A) (mkL 0 A),rowS (mkR B) (mkL 0 B)] v ([rowS (mkR A) (mkL 0 A),rowS (mkR B) (mkL 0 B)] ++ new)) :
  ACallsTo Tryz.prog f [rowV (mkR A) 2 (mkL 0 A),rowV (mkR B) 3 (mkL 0 B)] (s0 :: s1 :: mkS A :: mkS B :: r) (v.ren (back [2,3] (s0 :: s1 :: mkS A :: mkS B :: r).length)) ((s0 :: s1 :: mkS A :: mkS B :: r) ++ new.map (Slot.ren (back [2,3] (s0 :: s1 :: mkS A :: mkS B :: r).length))) := by
 have hu : AV.unders ([2,3] : List Nat).length [rowV (mkR A) 0 (mkL 0 A),rowV (mkR B) 1 (mkL 0 B)] = true := by cases mkR A <;> cases mkR B <;> simp [rowV,AV.unders,AV.under]
 have key := ACallsTo.frame (M := s0 :: s1 :: mkS A :: mkS B :: r) [2,3] (m := [rowS (mkR A) (mkL 0 A),rowS (mkR B) (mkL 0 B)]) (new := new) rfl (by simp) hu
  (fun i s hs => by
   match i,hs with
   | 0,hs => cases hs; exact mkS_sub rfl
   | 1,hs => cases hs; exact mkS_sub rfl
   | i + 2,hs => simp at hs) hn h
 have e : AV.rens (back [2,3] (s0 :: s1 :: mkS A :: mkS B :: r).length) [rowV (mkR A) 0 (mkL 0 A),rowV (mkR B) 1 (mkL 0 B)] = [rowV (mkR A) 2 (mkL 0 A),rowV (mkR B) 3 (mkL 0 B)] := by cases mkR A <;> cases mkR B <;> simp [rowV,AV.rens,AV.ren,back]
 rw [e] at key
 exact key
def hfIn (e : Rat) : Prop := ∃ n,n ≤ 100000 ∧ e = hf n
theorem endsQ_hf (B : List Bit) (h8 : B.length ≤ 8) : ∀ e ∈ endsQ (mkL 0 B),hfIn e := by
 intro e he
 unfold endsQ at he
 rw [mkL_H,List.mem_flatMap] at he
 obtain ⟨x,hx,hxe⟩ := he
 obtain ⟨y,hy,rfl⟩ := List.mem_map.1 hx
 have ok := mkH_small B h8 y hy
 unfold ivE2 at hxe
 rw [ivN_hv ok] at hxe
 obtain ⟨o1,o2,_⟩ := ok
 simp only [List.mem_cons,List.not_mem_nil,or_false] at hxe
 rcases hxe with rfl | rfl
 ·exact ⟨_,by omega,rfl⟩
 ·exact ⟨_,by omega,rfl⟩
theorem cuts_hf (A B : List Bit) (hA : A.length ≤ 8) (hB : B.length ≤ 8) : ∀ e ∈ cutsQ (mkL 0 A) (mkL 0 B),hfIn e := by
 intro e he
 rcases (cutsQ_mem _ _ _).1 he with h | h
 ·exact endsQ_hf A hA e h
 ·exact endsQ_hf B hB e h
theorem ag_hf (f : Rat → List UInt8 × List UInt8) (E : List Rat) (hE : ∀ e ∈ E,hfIn e) (hs : E.Pairwise (· < ·)) : ∀ j,j < E.length → ∃ m n,agJ f E j = hf m ∧ E.getD j 0 = hf n ∧ m ≤ n ∧ n ≤ 100000
 | 0,h => by
  obtain ⟨n,hn,e⟩ := hE (E.getD 0 0) (by rw [getD_get h]; exact List.getElem_mem h)
  exact ⟨0,n,by rw [agJ,hf_eq]; grind,e,Nat.zero_le _,hn⟩
 | j + 1,h => by
  obtain ⟨m,n,h1,h2,h3,h4⟩ := ag_hf f E hE hs j (by omega)
  obtain ⟨k,hk,e⟩ := hE (E.getD (j + 1) 0) (by rw [getD_get h]; exact List.getElem_mem h)
  have hlt : E.getD j 0 < E.getD (j + 1) 0 := by
   have hj : j < E.length := by omega
   rw [getD_get h,getD_get hj]
   exact List.pairwise_iff_getElem.1 hs j (j + 1) hj h (by omega)
  rw [h2,e] at hlt
  have hnk : n < k := by
   rcases Nat.lt_or_ge n k with g | g
   ·exact g
   ·exact absurd hlt (Rat.not_lt.2 (hf_le g))
  unfold agJ
  split
  ·exact ⟨m + (k - n),k,by rw [h1,h2,e,hf_sub (by omega),hf_add],e,by omega,hk⟩
  ·exact ⟨m,k,h1,e,by omega,hk⟩
theorem step_hf (E : List Rat) (hE : ∀ e ∈ E,hfIn e) (hs : E.Pairwise (· < ·)) (j : Nat) (h : j + 1 < E.length) : fine (E.getD (j + 1) 0 - E.getD j 0) := by
 have hj : j < E.length := by omega
 obtain ⟨k,hk,e⟩ := hE (E.getD (j + 1) 0) (by rw [getD_get h]; exact List.getElem_mem h)
 obtain ⟨n,hn,e2⟩ := hE (E.getD j 0) (by rw [getD_get hj]; exact List.getElem_mem hj)
 have hlt : E.getD j 0 < E.getD (j + 1) 0 := by
  rw [getD_get h,getD_get hj]
  exact List.pairwise_iff_getElem.1 hs j (j + 1) hj h (by omega)
 rw [e,e2] at hlt
 have hnk : n ≤ k := by
  rcases Nat.lt_or_ge n k with g | g
  ·omega
  ·exact absurd hlt (Rat.not_lt.2 (hf_le g))
 rw [e,e2,hf_sub hnk]
 exact hf_fine (by omega)
theorem agRes_hf (A B : List Bit) (hA : A.length ≤ 8) (hB : B.length ≤ 8) : agRes (agSt (mkL 0 A) (mkL 0 B)) = .tuple [.str (ratS (agSt (mkL 0 A) (mkL 0 B))),.int .i64 0] := by
 have h : chkR (ratS (agSt (mkL 0 A) (mkL 0 B))) = 0 := by
  unfold agSt
  by_cases h0 : 0 < (cutsQ (mkL 0 A) (mkL 0 B)).length
  ·obtain ⟨m,n,h1,_,h3,h4⟩ := ag_hf (un2 (mkL 0 A) (mkL 0 B)) _ (cuts_hf A B hA hB) (cutsQ_sorted _ _) ((cutsQ (mkL 0 A) (mkL 0 B)).length - 1) (by omega)
   rw [h1]; exact chkR_hf (by omega)
  ·have : cutsQ (mkL 0 A) (mkL 0 B) = [] := List.eq_nil_of_length_eq_zero (by omega)
   rw [this]
   have e : agJ (un2 (mkL 0 A) (mkL 0 B)) [] (List.length ([] : List Rat) - 1) = hf 0 := by
    have : agJ (un2 (mkL 0 A) (mkL 0 B)) [] (List.length ([] : List Rat) - 1) = 0 := rfl
    rw [this,hf_eq]; grind
   rw [e]; exact chkR_hf (by omega)
 unfold agRes
 rw [if_pos h]
theorem both_mk (A B : List Bit) (hA : A.length ≤ 8) (hB : B.length ≤ 8) : bothR (mkL 0 A) (mkL 0 B) = 0 := by
 unfold bothR
 rw [logR_mkL A hA,logR_mkL B hB]; rfl
theorem Tryz.aCompareF (A B : List Bit) (hA : A.length ≤ 8) (hB : B.length ≤ 8) (s0 s1 : Slot) :
  ACallsTo Tryz.prog 11 [rowV (mkR A) 2 (mkL 0 A),rowV (mkR B) 3 (mkL 0 B)] [s0,s1,mkS A,mkS B] (.tuple [ocV 4 (cmSt (mkL 0 A) (mkL 0 B)),.int .i64 0]) ([s0,s1,mkS A,mkS B] ++ [ocS (cmSt (mkL 0 A) (mkL 0 B))]) := by
 have h := Tryz.aCompareR2 (mkR A) (mkR B) (mkL 0 A) (mkL 0 B) (mkR_ok A) (mkR_ok B) (both_mk A B hA hB) (mkL_short A 0 (by omega)) (mkL_short B 0 (by omega)) (by rw [mkL_length]; omega) (by rw [mkL_length]; omega)
 obtain ⟨st,hst⟩ : ∃ st,st = cmSt (mkL 0 A) (mkL 0 B) := ⟨_,rfl⟩
 rw [← hst] at h ⊢
 cases st with
 | none =>
  have k := Tryz.two_F (r := []) s0 s1 (new := []) rfl h
  exact acallsTo_pad (by simpa [ocV,AV.ren,AV.rens] using k)
 | some st =>
  obtain ⟨acc,z⟩ := st
  have k := Tryz.two_F (r := []) s0 s1 (new := ocE (some (acc,z))) rfl h
  simpa [ocV,ocE,ocS,AV.ren,AV.rens,back,ren_cells,dfC_ren] using k
theorem Tryz.aAgreeF2 (A B : List Bit) (hA : A.length ≤ 8) (hB : B.length ≤ 8) (s0 s1 : Slot) (r : Mem) :
  ACallsTo Tryz.prog 12 [rowV (mkR A) 2 (mkL 0 A),rowV (mkR B) 3 (mkL 0 B)] (s0 :: s1 :: mkS A :: mkS B :: r) (.tuple [.str (ratS (agSt (mkL 0 A) (mkL 0 B))),.int .i64 0]) ((s0 :: s1 :: mkS A :: mkS B :: r) ++ []) := by
 have h := Tryz.aAgreeR2 (mkR A) (mkR B) (mkL 0 A) (mkL 0 B) (mkR_ok A) (mkR_ok B) (both_mk A B hA hB) (mkL_short A 0 (by omega)) (mkL_short B 0 (by omega)) (by rw [List.length_append,mkL_length,mkL_length]; omega)
 rw [agRes_hf A B hA hB] at h
 have k := Tryz.two_F (r := r) s0 s1 (new := []) rfl (by simpa using h)
 simpa [AV.ren,AV.rens] using k
theorem Tryz.aEndsF (A B : List Bit) (hA : A.length ≤ 8) (hB : B.length ≤ 8) (s0 s1 s4 : Slot) :
  ACallsTo Tryz.prog 13 [rowV (mkR A) 2 (mkL 0 A),rowV (mkR B) 3 (mkL 0 B)] [s0,s1,mkS A,mkS B,s4] (raV 5 (cutsQ (mkL 0 A) (mkL 0 B))) ([s0,s1,mkS A,mkS B,s4] ++ [raS (cutsQ (mkL 0 A) (mkL 0 B))]) := by
 have h := Tryz.aEnds (mkR A) (mkR B) (mkL 0 A) (mkL 0 B) (mkR_ok A) (mkR_ok B) (logR_right (logR_mkL A hA)) (logR_right (logR_mkL B hB)) (by rw [mkL_length]; omega) (by rw [mkL_length]; omega)
 obtain ⟨D,hD⟩ : ∃ D,D = cutsQ (mkL 0 A) (mkL 0 B) := ⟨_,rfl⟩
 rw [← hD] at h ⊢
 cases D with
 | nil =>
  have k := Tryz.two_F (r := [s4]) s0 s1 (new := []) rfl h
  exact acallsTo_pad (by simpa [raV,AV.ren,AV.rens] using k)
 | cons a D =>
  have k := Tryz.two_F (r := [s4]) s0 s1 (new := raM (a :: D)) rfl h
  simpa [raV,raM,raS,AV.ren,AV.rens,back,ren_cells,stC_ren] using k
theorem dfC_at {L : List Df} {n : Nat} {k : Df} (h : L[n]? = some k) : ((dfC L).drop (n * 4)).take 4 = [.str k.1,.str k.2.1,.str k.2.2.1,.str k.2.2.2] := by
 rw [dfC_drop]
 rw [List.getElem?_eq_some_iff] at h
 obtain ⟨h1,h2⟩ := h
 rw [List.drop_eq_getElem_cons h1,h2]
 rfl
theorem Tryz.eqDf (a b c d x y z u : List UInt8) : eqTy (tyOf Tryz.prog) 20 44 (.agg [.str a,.str b,.str c,.str d]) (.agg [.str x,.str y,.str z,.str u]) = some ((a == x) && ((b == y) && ((c == z) && (d == u)))) := by
 have h1 : ∀ u v,eqTy (tyOf Tryz.prog) 19 9 (.str u) (.str v) = some (u == v) := by intro u v; rw [eqTy]; simp
 have h2 : ∀ u v,eqTy (tyOf Tryz.prog) 19 31 (.str u) (.str v) = some (u == v) := by intro u v; rw [eqTy]; simp
 rw [eqTy]
 simp [eqFs,partA,TyI.isAgg,h1,h2]
set_option maxRecDepth 8192 in
set_option maxHeartbeats 3200000 in
theorem Tryz.wc_loop2 {O : Oracle} {K : Nat} {lv : Code → List Nat} (s0 s1 s2 s3 s5 : Slot) (L : List Df) (hl : L.length ≤ 1000000) (hK : L.length < K) {b b1 : Code} (hb : loopsF Tryz.f4 = [b1,b]) (hlv : lv b = [18]) :
  ∃ F : Env → Bool → Env,∀ env0 d,(Eng.look env0 7 = .slice 4 0 L.length none ∧ Eng.look env0 11 = .slice 6 0 L.length none ∧ Eng.look env0 18 = .int .i64 0) →
   execC (tyOf Tryz.prog) lv O K 182 2 true (.loop b) ⟨env0,[s0,s1,s2,s3,.cells true 4 (dfC L),s5,.cells true 4 (dfC L)],d⟩ = some (.exit 2,⟨F env0 d,[s0,s1,s2,s3,.cells true 4 (dfC L),s5,.cells true 4 (dfC L)],d⟩) ∧ True := by
 refine loop_rule hlv (fun env0 => Eng.look env0 7 = .slice 4 0 L.length none ∧ Eng.look env0 11 = .slice 6 0 L.length none ∧ Eng.look env0 18 = .int .i64 0) (fun _ _ => True) ?_
 rintro env0 d ⟨h7,h11,h18⟩
 simp [loopsF,loopsC,Tryz.f4] at hb
 obtain ⟨_,hb⟩ := hb
 have hn : normE [18] (writesC b) env0 ((18,.int .i64 ((0 : Nat) : Int)) :: env0) = normE [18] (writesC b) env0 env0 := by simp [normE,h18]
 rw [← hn]
 obtain ⟨C,hC⟩ : ∃ C,C = dfC L := ⟨_,rfl⟩
 have kl : C.length = L.length * 4 := by rw [hC]; exact dfC_length L
 have kat := fun n k (h : L[n]? = some k) => dfC_at h
 rw [← hC] at kat ⊢
 clear hC
 refine iter_ind (α := Nat) (fun s => ⟨normE [18] (writesC b) env0 ((18,.int .i64 (s : Int)) :: env0),[s0,s1,s2,s3,.cells true 4 C,s5,.cells true 4 C],d⟩) (fun s => L.length - s) (fun s => s ≤ L.length) (.exit 2) _ d _ (by simp) ?_ K 0 (by omega) (by omega)
 rintro n hn1
 clear hn
 subst hb
 by_cases hlt : n < L.length
 ·left
  obtain ⟨k,hk⟩ : ∃ k,L[n]? = some k := ⟨L[n],List.getElem?_eq_getElem hlt⟩
  have k1 := kat n k hk
  have w1 : IntKind.i64.wrap ((n : Int) + 1) = ((n + 1 : Nat) : Int) := by rw [wrap_i64 (by omega) (by omega)]; omega
  have k5 : n * 4 + 4 ≤ C.length := by omega
  obtain ⟨u,f,t,v⟩ := k
  simp only at k1
  refine ⟨n + 1,?_⟩
  refine exists_and_fin (show n + 1 ≤ L.length ∧ L.length - (n + 1) < L.length - n from ⟨by omega,by omega⟩) ?_
  simp [h7,h11,hlt,k1,k5,w1,Tryz.eqDf,Nat.testBit]
 ·right
  simp [h7,hlt]
theorem Tryz.aLen_bits (mem : Mem) (p : Bool) (i : Nat) {A : List Bit} (hp : bitOk p A) : aLen (tyOf Tryz.prog) 22 mem (bitV p i A) = some (.int .i64 A.length) := by
 cases p with
 | true => simp [bitV]
 | false => rw [hp rfl]; simp [bitV]
theorem Tryz.aLen_ra (mem : Mem) (b o n : Nat) (c : Option Nat) : aLen (tyOf Tryz.prog) 27 mem (.slice b o n c) = some (.int .i64 n) := by simp
theorem Tryz.aLen_ra0 (mem : Mem) : aLen (tyOf Tryz.prog) 27 mem .nilslice = some (.int .i64 0) := by simp
theorem Tryz.aLen_df (mem : Mem) (b o n : Nat) (c : Option Nat) : aLen (tyOf Tryz.prog) 35 mem (.slice b o n c) = some (.int .i64 n) := by simp
theorem Tryz.aLen_df0 (mem : Mem) : aLen (tyOf Tryz.prog) 35 mem .nilslice = some (.int .i64 0) := by simp
theorem bitV_known (p : Bool) (i : Nat) (A : List Bit) : (bitV p i A).known = true := by cases p <;> rfl
theorem ivs_mk2 (A : List Bit) (s0 s1 : Slot) (r : Mem) : ivs (s0 :: s1 :: mkS A :: r) (rowV (mkR A) 2 (mkL 0 A)) = some (mkL 0 A) := by
 cases A with
 | nil => rfl
 | cons b A => exact ivs_at rfl rfl (ivC_take _)
theorem ivs_mk3 (B : List Bit) (s0 s1 s2 : Slot) (r : Mem) : ivs (s0 :: s1 :: s2 :: mkS B :: r) (rowV (mkR B) 3 (mkL 0 B)) = some (mkL 0 B) := by
 cases B with
 | nil => rfl
 | cons b A => exact ivs_at rfl rfl (ivC_take _)
theorem Tryz.unO_law {M : Mem} {x : AV} {L : List Iv} (hx : ivs M x = some L) (hL : ∀ y ∈ L,rightIv y) (hl : L.length ≤ 1000000000) (e : Rat) (he : fine e) : Tryz.unO (.fn 14) [x,.str (ratS e)] M = some ⟨.str (unitL (L.find? (hasB e))),none,[]⟩ := by
 obtain ⟨e1,e2⟩ := he
 have e1' : (natD e.num.natAbs).length ≤ 40000 := by omega
 have e2' : (natD e.den).length ≤ 40000 := by omega
 simp only [Tryz.unO,hx,ratP_ratS,rightB_iff.2 hL,hl,e1',e2',and_self,if_true]
set_option maxHeartbeats 3200000 in
theorem Tryz.wc_exit0 {O : Oracle} {K : Nat} {lv : Code → List Nat} {b b2 : Code} (hb : loopsF Tryz.f4 = [b,b2]) (env : Env) (M : Mem) (d : Bool) (h13 : Eng.look env 13 = .nilslice) (h14 : Eng.look env 14 = .int .i64 0) :
  ∃ env',execC (tyOf Tryz.prog) lv O K 182 2 true b ⟨env,M,d⟩ = some (.exit 0,⟨env',M,d⟩) ∧ ∀ t ∈ [4,5,6,7,8,9,10,11,12,13],Eng.look env' t = Eng.look env t := by
 simp [loopsF,loopsC,Tryz.f4] at hb
 obtain ⟨rfl,_⟩ := hb
 have w1 : IntKind.i64.wrap 1 = 1 := rfl
 have w2 : IntKind.i64.wrap (0 + 1) = 1 := rfl
 simp [-aLen,Tryz.aLen_ra0,h13,h14,w1,w2]
theorem Tryz.wc_loop0 {O : Oracle} {K : Nat} (hK : 0 < K) (M : Mem) {b b2 : Code} (hb : loopsF Tryz.f4 = [b,b2]) (hlv : Tryz.wcLv b = [11,12,14]) :
  ∃ F : Env → Bool → Env,∀ env0 d,(Eng.look env0 13 = .nilslice ∧ Eng.look env0 14 = .int .i64 0) →
   execC (tyOf Tryz.prog) Tryz.wcLv O K 182 2 true (.loop b) ⟨env0,M,d⟩ = some (.exit 0,⟨F env0 d,M,d⟩) ∧ ∀ t ∈ [4,5,6,7,8,9,10,11,12,13],Eng.look (F env0 d) t = Eng.look env0 t := by
 refine loop_rule hlv (fun env0 => Eng.look env0 13 = .nilslice ∧ Eng.look env0 14 = .int .i64 0) (fun env0 env' => ∀ t ∈ [4,5,6,7,8,9,10,11,12,13],Eng.look env' t = Eng.look env0 t) ?_
 rintro env0 d ⟨h13,h14⟩
 obtain ⟨w11,w12,w14,hlook⟩ := Tryz.wc_b hb
 have hn : normE [11,12,14] (writesC b) env0 ((11,Eng.look env0 11) :: (12,Eng.look env0 12) :: (14,Eng.look env0 14) :: env0) = normE [11,12,14] (writesC b) env0 env0 := by simp [normE]
 rw [← hn]
 obtain ⟨l11,l12,l14,lt⟩ := hlook env0 (Eng.look env0 11) (Eng.look env0 12) (Eng.look env0 14)
 refine iter_ind (α := Unit) (fun _ => ⟨normE [11,12,14] (writesC b) env0 ((11,Eng.look env0 11) :: (12,Eng.look env0 12) :: (14,Eng.look env0 14) :: env0),M,d⟩) (fun _ => 0) (fun _ => True) (.exit 0) _ d _ (by simp) ?_ K () trivial hK
 intro _ _
 right
 obtain ⟨env',k1,k2⟩ := Tryz.wc_exit0 (O := O) (K := K) (lv := Tryz.wcLv) hb _ M d ((lt 13 (by simp)).trans h13) (l14.trans h14)
 refine ⟨env',k1,fun t ht => (k2 t ht).trans ?_⟩
 by_cases h11 : t = 11
 ·subst h11; exact l11
 by_cases h12 : t = 12
 ·subst h12; exact l12
 exact lt t (by simp only [List.mem_cons,List.not_mem_nil,or_false] at ht ⊢; omega)
set_option maxRecDepth 8192 in
set_option maxHeartbeats 12800000 in
theorem Tryz.wc_ok (p q : Bool) (A B : List Bit) (hp : bitOk p A) (hq : bitOk q B) (okA : ∀ b ∈ A,okBit b) (okB : ∀ b ∈ B,okBit b) (hA : A.length ≤ 8) (hB : B.length ≤ 8) :
  ACallsTo Tryz.prog 4 [bitV p 0 A,bitV q 1 B] [bitS p A,bitS q B] (.bool true) [bitS p A,bitS q B] := by
 have hG : fnOf Tryz.prog 4 = some Tryz.f4 := by kernel_rfl
 obtain ⟨b1,b2,hb,hlv1,hlv2⟩ : ∃ b1 b2,loopsF Tryz.f4 = [b1,b2] ∧ Tryz.wcLv b1 = [11,12,14] ∧ Tryz.wcLv b2 = [18] := ⟨_,_,rfl,by decide,by decide⟩
 obtain ⟨K,hK⟩ : ∃ K,100000 ≤ K := ⟨100000,Nat.le_refl _⟩
 obtain ⟨s0,hs0⟩ : ∃ s,s = bitS p A := ⟨_,rfl⟩
 obtain ⟨s1,hs1⟩ : ∃ s,s = bitS q B := ⟨_,rfl⟩
 have r0 : s0.refs 6 = [] := by rw [hs0]; exact bitS_refs _ _ _
 have r1 : s1.refs 6 = [] := by rw [hs1]; exact bitS_refs _ _ _
 have r00 : s0.refs 2 = [] := by rw [hs0]; exact bitS_refs _ _ _
 have r11 : s1.refs 2 = [] := by rw [hs1]; exact bitS_refs _ _ _
 have k1 := Tryz.aMakeF p A hp okA hA [s0,s1] 0 (by rw [hs0]; rfl)
 have k2 := Tryz.aMakeF q B hq okB hB [s0,s1,mkS A] 1 (by rw [hs1]; rfl)
 have k3 := Tryz.aCompareF A B hA hB s0 s1
 have k4 := Tryz.aAgreeF2 A B hA hB s0 s1 [ocS (cmSt (mkL 0 A) (mkL 0 B))]
 have k5 := Tryz.aEndsF A B hA hB s0 s1 (ocS (cmSt (mkL 0 A) (mkL 0 B)))
 rw [← hs0,← hs1]
 obtain ⟨E,hE⟩ : ∃ E,E = cutsQ (mkL 0 A) (mkL 0 B) := ⟨_,rfl⟩
 have hEh := cuts_hf A B hA hB
 have hEs := cutsQ_sorted (mkL 0 A) (mkL 0 B)
 have hst : cmSt (mkL 0 A) (mkL 0 B) = stJ (un2 (mkL 0 A) (mkL 0 B)) E (E.length - 1) := by rw [hE]; rfl
 have hag : agSt (mkL 0 A) (mkL 0 B) = agJ (un2 (mkL 0 A) (mkL 0 B)) E (E.length - 1) := by rw [hE]; rfl
 rw [← hE] at k5 hEh hEs
 obtain ⟨st,hstd⟩ : ∃ st,st = cmSt (mkL 0 A) (mkL 0 B) := ⟨_,rfl⟩
 obtain ⟨sg,hsg⟩ : ∃ s,s = ratS (agSt (mkL 0 A) (mkL 0 B)) := ⟨_,rfl⟩
 rw [← hstd] at k3 k4 k5 hst
 rw [← hsg] at k4
 obtain ⟨va,hva⟩ : ∃ v,v = rowV (mkR A) 2 (mkL 0 A) := ⟨_,rfl⟩
 obtain ⟨vb,hvb⟩ : ∃ v,v = rowV (mkR B) 3 (mkL 0 B) := ⟨_,rfl⟩
 have hO := Tryz.knF_ok.or ((oneO_ok k1).or ((oneO_ok k2).or ((oneO_ok k3).or ((oneO_ok k4).or ((oneO_ok k5).or (Tryz.unO_ok.or Tryz.w5_ok))))))
 have k1v : rowV (mkR A) ([s0,s1] : Mem).length (mkL 0 A) = va := by rw [hva]; rfl
 have k2v : rowV (mkR B) ([s0,s1,mkS A] : Mem).length (mkL 0 B) = vb := by rw [hvb]; rfl
 rw [k1v,k2v,← hva,← hvb] at hO
 clear k1 k2 k3 k4 k5 k1v k2v
 obtain ⟨m2,hm2⟩ : ∃ m,m = mkS A := ⟨_,rfl⟩
 obtain ⟨m3,hm3⟩ : ∃ m,m = mkS B := ⟨_,rfl⟩
 have r2 : m2.refs 6 = [] := by rw [hm2]; exact mkS_refs _ _
 have r3 : m3.refs 6 = [] := by rw [hm3]; exact mkS_refs _ _
 have ra : va.refs 6 = [] := by rw [hva]; exact rowV_refs (by omega) _ _
 have rb : vb.refs 6 = [] := by rw [hvb]; exact rowV_refs (by omega) _ _
 have ea := fun mem => Tryz.aLen_bits mem p 0 hp
 have eb := fun mem => Tryz.aLen_bits mem q 1 hq
 obtain ⟨xa,hxa⟩ : ∃ v,v = bitV p 0 A := ⟨_,rfl⟩
 obtain ⟨xb,hxb⟩ : ∃ v,v = bitV q 1 B := ⟨_,rfl⟩
 rw [← hxa,← hxb]
 rw [← hxa] at ea
 rw [← hxb] at eb
 rw [← hxa,← hxb,← hm2,← hm3] at hO
 obtain ⟨O,hOd⟩ : ∃ O,O = Oracle.or (pureO Tryz.knF) (Oracle.or (oneO 9 [xa] [s0,s1] ⟨va,none,[m2]⟩) (Oracle.or (oneO 9 [xb] [s0,s1,m2] ⟨vb,none,[m3]⟩)
  (Oracle.or (oneO 11 [va,vb] [s0,s1,m2,m3] ⟨.tuple [ocV 4 st,.int .i64 0],none,[ocS st]⟩) (Oracle.or (oneO 12 [va,vb] [s0,s1,m2,m3,ocS st] ⟨.tuple [.str sg,.int .i64 0],none,[]⟩)
  (Oracle.or (oneO 13 [va,vb] [s0,s1,m2,m3,ocS st] ⟨raV 5 E,none,[raS E]⟩) (Oracle.or Tryz.unO (pureO Tryz.w5F))))))) := ⟨_,rfl⟩
 rw [← hOd] at hO
 have o0 : ∀ M,O (.fn 8) [] M = some ⟨.bool true,none,[]⟩ := fun M => by rw [hOd]; rfl
 have o1 : O (.fn 9) [xa] [s0,s1] = some ⟨va,none,[m2]⟩ := by rw [hOd]; simp [Oracle.or,pureO,Tryz.knF,oneO_at]
 have o2 : O (.fn 9) [xb] [s0,s1,m2] = some ⟨vb,none,[m3]⟩ := by rw [hOd]; simp [Oracle.or,pureO,Tryz.knF,oneO]
 have o3 : O (.fn 11) [va,vb] [s0,s1,m2,m3] = some ⟨.tuple [ocV 4 st,.int .i64 0],none,[ocS st]⟩ := by rw [hOd]; simp [Oracle.or,pureO,Tryz.knF,oneO_at,oneO_ne]
 have o4 : O (.fn 12) [va,vb] [s0,s1,m2,m3,ocS st] = some ⟨.tuple [.str sg,.int .i64 0],none,[]⟩ := by rw [hOd]; simp [Oracle.or,pureO,Tryz.knF,oneO_at,oneO_ne]
 have o5 : O (.fn 13) [va,vb] [s0,s1,m2,m3,ocS st] = some ⟨raV 5 E,none,[raS E]⟩ := by rw [hOd]; simp [Oracle.or,pureO,Tryz.knF,oneO_at,oneO_ne]
 have hun : ∀ a M,O (.fn 14) a M = Oracle.or Tryz.unO (pureO Tryz.w5F) (.fn 14) a M := fun a M => by rw [hOd]; simp [Oracle.or,pureO,Tryz.knF,oneO_ne]
 have hsub : ∀ args M,O (.fn 16) args M = pureO Tryz.w5F (.fn 16) args M := fun args M => by rw [hOd]; simp [Oracle.or,pureO,Tryz.knF,oneO_ne,Tryz.unO]
 have hadd : ∀ args M,O (.fn 15) args M = pureO Tryz.w5F (.fn 15) args M := fun args M => by rw [hOd]; simp [Oracle.or,pureO,Tryz.knF,oneO_ne,Tryz.unO]
 have hua : ∀ e,fine e → ∀ r,O (.fn 14) [va,.str (ratS e)] (s0 :: s1 :: m2 :: m3 :: ocS st :: r) = some ⟨.str (un2 (mkL 0 A) (mkL 0 B) e).1,none,[]⟩ := fun e he r => by
  rw [hun]
  have := Tryz.unO_law (ivs_mk2 A s0 s1 (m3 :: ocS st :: r)) (logR_right (logR_mkL A hA)) (by rw [mkL_length]; omega) e he
  rw [← hva,← hm2] at this
  simp only [Oracle.or,this,un2]
 have hub : ∀ e,fine e → ∀ r,O (.fn 14) [vb,.str (ratS e)] (s0 :: s1 :: m2 :: m3 :: ocS st :: r) = some ⟨.str (un2 (mkL 0 A) (mkL 0 B) e).2,none,[]⟩ := fun e he r => by
  rw [hun]
  have := Tryz.unO_law (ivs_mk3 B s0 s1 m2 (ocS st :: r)) (logR_right (logR_mkL B hB)) (by rw [mkL_length]; omega) e he
  rw [← hvb,← hm3] at this
  simp only [Oracle.or,this,un2]
 clear hOd hun
 have h8a : ¬ (8 : Int) < A.length := by omega
 have h8b : ¬ (8 : Int) < B.length := by omega
 have xak : xa.known = true := by rw [hxa]; exact bitV_known _ _ _
 have xbk : xb.known = true := by rw [hxb]; exact bitV_known _ _ _
 have h : callFn (tyOf Tryz.prog) Tryz.wcLv (fnOf Tryz.prog) O (K + 3) 4 [xa,xb] [s0,s1] = some ⟨.bool true,none,[]⟩ := by
  have vak : va.known = true := by rw [hva]; exact rowV_known _ _ _
  have vbk : vb.known = true := by rw [hvb]; exact rowV_known _ _ _
  clear hva hvb hm2 hm3 hxa hxb hs0 hs1 hO hstd
  cases hEc : E with
  | nil =>
   have e1 : st = none := by rw [hst,hEc]; rfl
   have e2 : sg = [48] := by
    have : agJ (un2 (mkL 0 A) (mkL 0 B)) [] (([] : List Rat).length - 1) = hf 0 := by
     have : agJ (un2 (mkL 0 A) (mkL 0 B)) [] (([] : List Rat).length - 1) = 0 := rfl
     rw [this,hf_eq]; grind
    rw [hsg,hag,hEc,this]; exact hf_zero
   subst hEc
   subst e1
   subst e2
   simp only [raV,raS,ocV,ocS] at o3 o4 o5
   obtain ⟨F1,hF1⟩ := Tryz.wc_loop0 (O := O) (K := K + 3) (by omega) [s0,s1,m2,m3,.absent,.absent] hb hlv1
   have g1 := fun env0 d h => (hF1 env0 d h).1
   have g4 := fun env0 d h t ht => (hF1 env0 d h).2 t ht
   clear hF1 hlv1 hlv2
   simp only [loopsF,loopsC,Tryz.f4] at hb
   simp at hb
   obtain ⟨rfl,rfl⟩ := hb
   simp [-aLen,-AV.known,-Slot.refs,-Slot.ren,Tryz.aLen_ra,Tryz.aLen_ra0,Tryz.aLen_df,Tryz.aLen_df0,callFn,hG,Tryz.f4,execC_loop,iter,Tryz.wcLv,ea,eb,h8a,h8b,o0,o1,o2,o3,o4,o5,g1,g4,vak,vbk,xak,xbk,r00,r11]
  | cons e0 E0 =>
   have hne : 0 < E.length := by rw [hEc]; simp
   have hEf : ∀ x ∈ E,fine x := fun x hx => by
    obtain ⟨n,hn,e⟩ := hEh x hx
    rw [e]; exact hf_fine (by omega)
   have hEl : E.length ≤ 100 := by
    have := (cuts_pos (logR_right (logR_mkL A hA)) (logR_right (logR_mkL B hB)) (fun h0 => by
     rw [List.append_eq_nil_iff] at h0
     rw [h0.1,h0.2,cuts_nil] at hE
     rw [hE] at hEc; cases hEc)).2
    rw [← hE,List.length_append,mkL_length,mkL_length] at this
    omega
   obtain ⟨F1,hF1⟩ := Tryz.wc_loop1 (O := O) (K := K + 3) s0 s1 m2 m3 (ocS st) r0 r1 r2 r3 (ocS_refs _ _) va vb ra rb (un2 (mkL 0 A) (mkL 0 B)) E hEf (by omega) hne (by omega) hua hub hsub hadd
    (fun j hj => by
     obtain ⟨m,n,g1,_,g3,g4⟩ := ag_hf (un2 (mkL 0 A) (mkL 0 B)) E hEh hEs j hj
     rw [g1]; exact hf_fine (by omega)) (fun j hj => step_hf E hEh hEs j hj) hb hlv1
   rw [← hst,← hag,← hsg] at hF1
   have oR : raV 5 E = .slice 5 0 E.length none := raV_ne (by rw [hEc]; simp) 5
   have oS : raS E = .cells true 1 (stC (E.map ratS)) := by rw [hEc]; rfl
   rw [oR,oS] at o5
   have g1 := fun env0 d h => (hF1 env0 d h).1
   have g2 := fun env0 d h => (hF1 env0 d h).2.1
   have g3 := fun env0 d h => (hF1 env0 d h).2.2.1
   have g4 := fun env0 d h t ht => (hF1 env0 d h).2.2.2 t ht
   clear hF1
   simp only [wcM] at g1
   cases st with
   | none =>
    simp only [ocV,ocS,ocE,List.append_nil] at o3 o4 o5 g1 g2 g3 g4
    simp only [loopsF,loopsC,Tryz.f4] at hb
    simp at hb
    obtain ⟨hb1,hb2⟩ := hb
    clear hlv1 hlv2
    subst hb1
    subst hb2
    simp [-aLen,-AV.known,-Slot.refs,-Slot.ren,Tryz.aLen_ra,Tryz.aLen_ra0,Tryz.aLen_df,Tryz.aLen_df0,callFn,hG,Tryz.f4,execC_loop,iter,Tryz.wcLv,ea,eb,h8a,h8b,o0,o1,o2,o3,o4,o5,g1,g2,g3,g4,vak,vbk,xak,xbk,r00,r11]
   | some st =>
    obtain ⟨acc,z⟩ := st
    have hLl : (acc ++ [z]).length = acc.length + 1 := by simp
    have hLs : acc.length + 1 ≤ E.length := by
     have := stJ_len _ _ _ _ _ hst.symm; omega
    obtain ⟨F2,hF2⟩ := Tryz.wc_loop2 (O := O) (K := K + 3) (lv := Tryz.wcLv) s0 s1 m2 m3 (.cells true 1 (stC (E.map ratS))) (acc ++ [z]) (by omega) (by omega) hb hlv2
    have g5 := fun env0 d h => (hF2 env0 d h).1
    clear hF2
    rw [hLl] at g5
    simp only [ocV,ocS,ocE,List.cons_append,List.nil_append] at o3 o4 o5 g1 g2 g3 g4
    obtain ⟨R,hR⟩ : ∃ R,R = dfC (acc ++ [z]) := ⟨_,rfl⟩
    rw [← hR] at g1 g5 o3 o4 o5
    simp only [loopsF,loopsC,Tryz.f4] at hb
    simp at hb
    obtain ⟨hb1,hb2⟩ := hb
    clear hlv1 hlv2
    subst hb1
    subst hb2
    simp [-aLen,-AV.known,-Slot.refs,-Slot.ren,Tryz.aLen_ra,Tryz.aLen_ra0,Tryz.aLen_df,Tryz.aLen_df0,callFn,hG,Tryz.f4,ea,eb,h8a,h8b,o0,o1,o2,o3,o4,o5,g1,g2,g3,g4,g5,vak,vbk,xak,xbk,r00,r11]
 have := (callFn_sound Tryz.mixed (tyOf_ok _) hO (fnOf_ok _) h).1
 simpa [CallRes.mem] using this
theorem Tryz.wcp_long (p q : Bool) (A B : List Bit) (hp : bitOk p A) (hq : bitOk q B) (M : Mem) (h : 8 < A.length ∨ 8 < B.length) :
  ACallsTo Tryz.prog 4 [bitV p 0 A,bitV q 1 B] M (.bool true) M := by
 have hG : fnOf Tryz.prog 4 = some Tryz.f4 := by kernel_rfl
 have oK : ∀ M,pureO Tryz.knF (.fn 8) [] M = some ⟨.bool true,none,[]⟩ := fun M => rfl
 have ea := fun mem => Tryz.aLen_bits mem p 0 hp
 have eb := fun mem => Tryz.aLen_bits mem q 1 hq
 obtain ⟨xa,hxa⟩ : ∃ v,v = bitV p 0 A := ⟨_,rfl⟩
 obtain ⟨xb,hxb⟩ : ∃ v,v = bitV q 1 B := ⟨_,rfl⟩
 rw [← hxa] at ea
 rw [← hxb] at eb
 have xak : xa.known = true := by rw [hxa]; exact bitV_known _ _ _
 have xbk : xb.known = true := by rw [hxb]; exact bitV_known _ _ _
 rw [← hxa,← hxb]
 clear hxa hxb
 have h' : callFn (tyOf Tryz.prog) Tryz.wcLv (fnOf Tryz.prog) (pureO Tryz.knF) 1 4 [xa,xb] M = some ⟨.bool true,none,[]⟩ := by
  by_cases h8 : 8 < A.length
  ·have h8I : (8 : Int) < A.length := by omega
   simp [-aLen,-AV.known,callFn,hG,Tryz.f4,oK,ea,eb,xak,xbk,h8,h8I]
  ·have h8I : ¬ (8 : Int) < A.length := by omega
   have h9 : 8 < B.length := by omega
   have h9I : (8 : Int) < B.length := by omega
   simp [-aLen,-AV.known,callFn,hG,Tryz.f4,oK,ea,eb,xak,xbk,h8,h8I,h9,h9I]
 have := (callFn_sound Tryz.mixed (tyOf_ok _) Tryz.knF_ok (fnOf_ok _) h').1
 simpa [CallRes.mem] using this
theorem Tryz.aWelllogCompares (p q : Bool) (A B : List Bit) (hp : bitOk p A) (hq : bitOk q B) (okA : ∀ b ∈ A,okBit b) (okB : ∀ b ∈ B,okBit b) :
  ACallsTo Tryz.prog 4 [bitV p 0 A,bitV q 1 B] [bitS p A,bitS q B] (.bool true) [bitS p A,bitS q B] := by
 by_cases hA : A.length ≤ 8
 ·by_cases hB : B.length ≤ 8
  ·exact Tryz.wc_ok p q A B hp hq okA okB hA hB
  ·exact Tryz.wcp_long p q A B hp hq _ (.inr (by omega))
 ·exact Tryz.wcp_long p q A B hp hq _ (.inl (by omega))
end Go.Proofs
namespace Go.Proofs.YtiopbpbcgccngaaGreatDoor
open Go.ChangeShapes Go.WideShapes Go.ChangeAt Go.WideMaps Go.WideElems Go.RowKit Go.Eng
set_option maxRecDepth 100000 in
theorem open_bits2 {H : Type} {enc : TypeId × Value → H} {W : World} {b0 : Nat} {v : Value} {d : DataW H} {p : List MemPlace} (hval : Value.okWide Tryz.prog W .any b0 22 v) (h : DataW.Trod enc Tryz.prog W 0 (fun _ => true) true 22 v d p) :
  ∃ (s : Bool) (A : List Bit) (pl : Eng.Place),bitOk s A ∧ (∀ b ∈ A,okBit b) ∧ (∀ μ n base,SRel μ n base W pl (bitS s A)) ∧ ∀ μ n i,μ i = pl → i < n → VRel μ n (bitV s i A) v := by
 obtain ⟨fuel,hf⟩ := h
 have hu := Tryz.underlying22
 simp only [Value.okWide,hu,Cell.okWide] at hval
 obtain ⟨a,len,cap,rfl⟩ : ∃ a len cap,v = .slice a len cap := by cases v <;> simp_all [Cell.ok]
 rcases open_triples (f0 := _) (f1 := _) (f2 := _) hu Tryz.underlying77 (by kernel_rfl) rfl rfl rfl (by kernel_rfl) (by kernel_rfl) (by kernel_rfl) hf with h1 | ⟨a',len',cap',h1,h2,h3,h4⟩
 ·refine ⟨false,[],⟨0,0,0,0⟩,fun _ => rfl,(fun b hb => by cases hb),fun _ _ _ => trivial,fun μ n i _ _ => ?_⟩
  have : (Value.slice a len cap) = .slice none 0 0 := by simpa [Value.cells] using h1
  rw [this]
  simp [bitV,VRel]
 ·simp only [Value.cells,List.cons.injEq,Value.slice.injEq,and_true] at h1
  obtain ⟨rfl,rfl,rfl⟩ := h1
  simp only [Cell.ok,hu] at hval
  obtain ⟨_,_,_,hsp,row,cells,hsh,_⟩ := hval
  have h7 := h4 rfl
  obtain ⟨q,hq⟩ := Deep.choose_lt h7
  obtain ⟨cur,el,fr,hb⟩ : ∃ cur el fr,W.heap[a'.block]? = some (.cells cur el fr) := by
   unfold World.shape? at hsh
   split at hsh
   ·rename_i c e f hh; exact ⟨_,_,_,hh⟩
   ·cases hsh
  obtain ⟨blk,off,spot⟩ := a'
  simp only at hsp hb
  subst hsp
  have cell : ∀ k,W.cell? ((⟨blk,off,none⟩ : Addr).add k) = cur[off + k]? := by
   intro k
   rw [show (⟨blk,off,none⟩ : Addr).add k = ⟨blk,off + k,none⟩ from add_plain _ _ _]
   unfold World.cell?
   simp only
   rw [hb]; rfl
  have u8 : ∀ {n : Nat} {y : DataW H × List MemPlace} {x : Value},DataW.trod enc Tryz.prog W 0 (fun _ => true) true n 5 [x] = some y → ∃ k : Nat,k < 256 ∧ x = .int .u8 (k : Int) := by
   intro n y x hx
   obtain ⟨z,hz,_,hw⟩ := DataW.trod_int Tryz.underlying5 hx
   simp only [List.cons.injEq,and_true] at hz
   simp only [Lit.wf,Bool.and_eq_true,decide_eq_true_eq] at hw
   have h1 : IntKind.u8.min = 0 := rfl
   have h2 : IntKind.u8.max = 255 := rfl
   rw [h1,h2] at hw
   exact ⟨z.toNat,by omega,by rw [hz,Int.toNat_of_nonneg hw.1]⟩
  have hk : ∀ i,i < cap → ∃ b : Bit,okBit b ∧ (q i).1 = .int .u8 (b.1 : Int) ∧ (q i).2.1 = .int .u8 (b.2.1 : Int) ∧ (q i).2.2 = .int .u8 (b.2.2 : Int) := by
   intro i hi
   obtain ⟨_,_,_,⟨_,_,t0⟩,⟨_,_,t1⟩,⟨_,_,t2⟩⟩ := hq i hi
   obtain ⟨k0,k0l,e0⟩ := u8 t0
   obtain ⟨k1,k1l,e1⟩ := u8 t1
   obtain ⟨k2,k2l,e2⟩ := u8 t2
   exact ⟨(k0,k1,k2),⟨k0l,k1l,k2l⟩,e0,e1,e2⟩
  obtain ⟨g,hg⟩ := Deep.choose_lt hk
  obtain ⟨B,hB⟩ : ∃ B,B = (List.range len).map g := ⟨_,rfl⟩
  have hlen : B.length = len := by rw [hB]; simp
  have hget : ∀ i,i < len → B[i]? = some (g i) := fun i hi => by rw [hB]; simp [hi]
  refine ⟨true,B,⟨blk,off,cap * 3,3⟩,(fun h => by cases h),fun b hb => ?_,fun μ n base => ?_,fun μ n i hi hin => ?_⟩
  ·rw [hB,List.mem_map] at hb
   obtain ⟨i,hi,rfl⟩ := hb
   exact (hg i (by have := List.mem_range.1 hi; omega)).1
  ·show SRel μ n base W _ (.cells false 3 (btC B))
   simp only [SRel]
   refine ⟨cur,el,fr,hb,⟨rfl,fun h => by omega⟩,by rw [btC_length,hlen]; omega,fun j v hj => ?_,fun h => by cases h⟩
   have hj2 : j < len * 3 := by
    have := (List.getElem?_eq_some_iff.1 hj).1
    rw [btC_length,hlen] at this; exact this
   have hi : j / 3 < len := by omega
   obtain ⟨k1,k2,k3⟩ := btC_at (hget (j / 3) hi)
   obtain ⟨e0,e1,e2,_,_,_⟩ := hq (j / 3) (by omega)
   obtain ⟨_,g0,g1,g2⟩ := hg (j / 3) (by omega)
   rw [cell] at e0 e1 e2
   have hm : j % 3 = 0 ∨ j % 3 = 1 ∨ j % 3 = 2 := by omega
   rcases hm with hm | hm | hm
   ·have hje : j / 3 * 3 = j := by omega
    rw [hje] at k1 e0
    rw [hj] at k1; cases k1
    exact ⟨_,e0,by rw [g0]; simp [VRel]⟩
   ·have hje : j / 3 * 3 + 1 = j := by omega
    rw [hje] at k2 e1
    rw [hj] at k2; cases k2
    exact ⟨_,e1,by rw [g1]; simp [VRel]⟩
   ·have hje : j / 3 * 3 + 2 = j := by omega
    rw [hje] at k3 e2
    rw [hj] at k3; cases k3
    exact ⟨_,e2,by rw [g2]; simp [VRel]⟩
  ·simp only [bitV,VRel,capOf,hi]
   refine ⟨hin,?_⟩
   rw [hlen,Nat.add_zero,Nat.sub_zero,Nat.mul_div_cancel _ (by omega)]
theorem noOwn_bits (s t : Bool) (A B : List Bit) : ∀ b,¬ OwnAt [bitS s A,bitS t B] b := by
 rintro b ⟨x,hx,ho⟩
 match b,hx with
 | 0,hx => cases hx; cases s <;> cases ho
 | 1,hx => cases hx; cases t <;> cases ho
 | b + 2,hx => simp at hx
theorem hrel_bits {W : World} {s t : Bool} {A B : List Bit} {pa pb : Eng.Place} (ha : ∀ μ n base,SRel μ n base W pa (bitS s A)) (hb : ∀ μ n base,SRel μ n base W pb (bitS t B)) :
  HRel W.heap.size (fun i => if i = 0 then pa else pb) [bitS s A,bitS t B] W := by
 refine ⟨Nat.le_refl _,fun b x hx => ?_,fun b b' s' ho => absurd ho (noOwn_bits s t A B b)⟩
 match b,hx with
 | 0,hx => cases hx; exact ha _ _ _
 | 1,hx => cases hx; exact hb _ _ _
 | b + 2,hx => simp at hx
set_option maxRecDepth 100000 in
theorem welllogCompares_lifted (os : Os) (started : os.Started) (H : Type) (enc : TypeId × Value → H) :
  ReturnsInHanded {} Tryz.checked os 4 .any (fun w args => (Rows.welllogComparesSpec.pre enc Tryz.prog Tryz.f4 [] false w args ∧ laidMetH Tryz.prog laidAll w) ∧ sizedMet enc Tryz.prog Tryz.f4 (OpenSpec.ofChange Rows.welllogComparesSpec) false w args)
   (Rows.welllogComparesSpec.post enc Tryz.prog Tryz.f4 false true false false) := by
 refine returnsInHanded_of_change_and (C := Tryz.checked) (X := fun w _ => laidMetH Tryz.prog laidAll w) (fun _ _ _ hh h => h.of_heap hh) own started (by kernel_rfl) Tryz.func4
  (ChangeSpec.witness_shaped (enc := enc) (C := Tryz.checked) (os := os) (X := fun w _ => laidMetH Tryz.prog laidAll w) false (World.doorLaid Tryz.prog 400 os) #[.slice none 0 0,.slice none 0 0] 8 rfl (World.shaped_of_RefB (by kernel_rfl) (by kernel_rfl)) (by kernel_rfl) (by kernel_rfl) (by kernel_rfl) (door_met os _)) ?_
 intro W base args ds gs before hval0 hW _ _ hL _
 have hval : ∀ (j : Nat) t v,Tryz.f4.params[j]? = some t → args[j]? = some v → Value.okWide Tryz.prog W .any base t v := hval0
 have hW' := hW
 obtain ⟨p,q,hA0,hV,hpq,hfz,hnd⟩ := hW
 have hA : DataW.TrodAll enc Tryz.prog W 0 (fun _ => true) true Tryz.f4.params.toList args.toList ds p := hA0
 have hpar : Tryz.f4.params = #[22,22] := rfl
 rw [hpar] at hA hval
 obtain ⟨v0,v1,d0,d1,p0,p1,hargs,rfl,rfl,h0,h1⟩ := trodAll_two hA
 subst hargs
 obtain ⟨rfl,rfl⟩ := trodVars_none hV
 have hG := glob_of_laid hL
 have hlt : ∀ x ∈ before,x.block < W.heap.size := hW'.lt
 have fin : ∀ (W' : World),Below W.heap.size W W' → Rows.welllogComparesSpec.post enc Tryz.prog Tryz.f4 false true false false W #[v0,v1] (.bool true) W' := by
  intro W' hb
  refine post_true rfl hW' hb hpq rfl rfl rfl fun sp hsp => ?_
  rw [hpar]
  rw [List.append_nil]
  have hm : ∀ x ∈ p0 ++ p1,x ∈ before := fun x hx => by rw [hpq,List.append_nil]; exact hx
  have m0 : ∀ x ∈ p0,x ∈ p0 ++ p1 := fun x hx => List.mem_append_left _ hx
  have m1 : ∀ x ∈ p1,x ∈ p0 ++ p1 := fun x hx => List.mem_append_right _ hx
  exact trodAll_mk2 (Trod_stays laidOut (by kernel_rfl) (of_decide_eq_true (by kernel_rfl)) h0 (fun x hx => hb.same (hlt x (hm x (m0 x hx)))) (fun x hx => hsp x (hm x (m0 x hx))))
   (Trod_stays laidOut (by kernel_rfl) (of_decide_eq_true (by kernel_rfl)) h1 (fun x hx => hb.same (hlt x (hm x (m1 x hx)))) (fun x hx => hsp x (hm x (m1 x hx))))
 obtain ⟨s,A,pa,oa,la,ra,va⟩ := open_bits2 (hval 0 22 v0 rfl rfl) h0
 obtain ⟨t,B,pb,ob,lb,rb,vb⟩ := open_bits2 (hval 1 22 v1 rfl rfl) h1
 refine ((Tryz.aWelllogCompares s t A B oa ob la lb).2 W.heap.size (fun i => if i = 0 then pa else pb) W [v0,v1] hG (hrel_bits ra rb) (VRels_cons.2 ⟨va _ _ _ rfl (by simp),VRels_cons.2 ⟨vb _ _ _ rfl (by simp),by simp [VRels]⟩⟩)).mono ?_
 rintro e W' ⟨V,v',m',μ',rfl,q1,q2,q3,rfl,rfl⟩
 simp only [VRel] at q1
 subst q1
 exact ⟨_,rfl,fin W' (kept_of q3 (noOwn_bits s t A B))⟩
end Go.Proofs.YtiopbpbcgccngaaGreatDoor
namespace Go.Proofs.YtiopbpbcgccngaaGreatDoor
open Go.ChangeShapes Go.WideShapes Go.ChangeAt Go.WideMaps Go.WideElems Go.RowKit Go.Eng
set_option maxHeartbeats 40000000 in
set_option maxRecDepth 100000 in
theorem welllogCompares_row : Rows.WelllogComparesSaid :=
 OpenClaim.holds_of_wide 4 Tryz.f4 rfl rfl rfl rfl rfl rfl rfl ⟨rfl,rfl,rfl,rfl,rfl⟩ rfl rfl rfl rfl rfl (by as_aux_lemma => kernel_rfl) Tryz.func4 welllogCompares_facts
  (of_decide_eq_true (by as_aux_lemma => kernel_rfl)) (by unfold Func.isWrapper; first | (rw [if_pos (by decide +kernel)]; kernel_rfl) | (rw [if_neg (by decide +kernel)]; exact ⟨rfl,rfl⟩))
  (fun os started H enc _ => welllogCompares_lifted os started H enc)
end Go.Proofs.YtiopbpbcgccngaaGreatDoor
namespace Go.Proofs.YtiopbpbcgccngaaGreatDoor
open Go.ChangeShapes Go.WideShapes Go.ChangeAt Go.WideMaps Go.WideElems Go.RowKit Go.Eng
set_option maxHeartbeats 40000000 in
set_option maxRecDepth 100000 in
theorem welllogCompares_card : Rows.WelllogComparesCardSaid :=
 Claim7.holds_tied_plain_at .later [] [.data,.data,.data,.sentinel,.sentinel] true (true,"9eab3522df16a5c8b391370e4e0ee0c788f618622901efdfe2d7aa5ac60f9b57") true
  welllogCompares_row (fun _ h => by cases h) (by as_aux_lemma => kernel_rfl) (fun _ h => by cases h) welllogCompares_row_tie rfl ⟨rfl,rfl⟩ (by as_aux_lemma => kernel_rfl) rfl
  (fun f fn hf hfn => by
   obtain rfl : f = 4 := Option.some.inj ((show Tryz.prog.funcNamed Rows.welllogComparesRow.func = some 4 by as_aux_lemma => kernel_rfl).symm.trans hf) |>.symm
   obtain rfl : fn = Tryz.f4 := (Option.some.inj (Tryz.func4.symm.trans hfn)).symm
   exact ⟨by as_aux_lemma => kernel_rfl,fun j t ht => by
    have hp : Tryz.f4.params = #[22,22] := rfl
    rw [hp] at ht
    match j,ht with
    | 0,ht => simp at ht; subst ht; exact (show Tryz.prog.wantsStandIn 22 = false by as_aux_lemma => kernel_rfl)
    | 1,ht => simp at ht; subst ht; exact (show Tryz.prog.wantsStandIn 22 = false by as_aux_lemma => kernel_rfl)
    | j + 2,ht => simp at ht⟩)
  (by as_aux_lemma => kernel_rfl)
#print axioms welllogCompares_card
end Go.Proofs.YtiopbpbcgccngaaGreatDoor
