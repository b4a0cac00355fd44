/- See I57. -/
import Derived.Test.YtahfjdgeebjiaaaGreatDoorI28
import Derived.Test.YtahfjdgeebjiaaaGreatDoorI11
import Derived.Test.YtahfjdgeebjiaaaGreatDoorI09
set_option linter.all false
namespace Go.Proofs
open Go.Eng
noncomputable def Tryz.dlF3 (f : FuncId) (args : List AV) : Option AV :=
 match f,args with
 | 53,[.int .i64 n,.int .i64 d] => if 0 < d ∧ n.natAbs < 10 ^ 8 ∧ d.toNat < 10 ^ 8 then some (.str (ratS (mkRat n d.toNat))) else none
 | 78,[.str s,.str t] => match ratP s,ratP t with
  | some a,some b => if (ratS a).length ≤ 9 ∧ (ratS b).length ≤ 9 then some (.str (ratS (a + b))) else none
  | _,_ => none
 | 46,[.int .i64 n] => if n.natAbs < 10 ^ 8 then some (.str (zS n)) else none
 | _,_ => none
theorem Tryz.dl3_ok : OracleOk Tryz.prog (pureO Tryz.dlF3) := pureO_ok fun f args v h mem => by
 unfold Tryz.dlF3 at h
 split at h
 ·rename_i n d
  split at h
  ·rename_i hc
   cases h
   have := Tryz.aSOf n d.toNat (by omega) hc.2.1 hc.2.2 mem
   rw [Int.toNat_of_nonneg (by omega)] at this
   exact this
  ·cases h
 ·split at h
  ·rename_i m n hm hn
   split at h
   ·rename_i hc; cases h; rw [ratP_some hm,ratP_some hn]; exact Tryz.aSAdd m n hc.1 hc.2 mem
   ·cases h
  ·cases h
 ·split at h
  ·rename_i hc; cases h; exact Tryz.aLOf _ hc mem
  ·cases h
 ·cases h
def namesC : List AV := [.str [65],.str [66],.str [67],.str [68],.str [69],.str [70]]
theorem Tryz.aNames0 : ACallsTo Tryz.prog 77 [] [] (.slice 0 0 6 none) [.cells true 1 namesC] := by
 have hG : fnOf Tryz.prog 77 = some Tryz.f77 := by kernel_rfl
 have h : callFn (tyOf Tryz.prog) (fun _ => []) (fnOf Tryz.prog) noOracle 1 77 [] [] = some ⟨.slice 0 0 6 none,none,[.cells true 1 namesC]⟩ := by
  simp [callFn,hG,Tryz.f77,namesC]
 have := (callFn_sound Tryz.mixed (tyOf_ok _) (noOracle_ok _) (fnOf_ok _) h).1
 simpa [CallRes.mem] using this
theorem Tryz.aNames (M : Mem) : ACallsTo Tryz.prog 77 [] M (.slice M.length 0 6 none) (M ++ [.cells true 1 namesC]) := by
 have := ACallsTo.frame (M := M) (new := [.cells true 1 namesC]) (args := []) [] (m := []) rfl (by simp) (by rfl) (fun i s hs => by simp at hs) rfl Tryz.aNames0
 simpa [AV.ren,AV.rens,back,Slot.ren,namesC] using this
noncomputable def Tryz.dpO : Oracle := fun c args M => match c,args with
 | .fn 77,[] => some ⟨.slice M.length 0 6 none,none,[.cells true 1 namesC]⟩
 | c,args => pureO Tryz.dlF3 c args M
theorem Tryz.dpO_ok : OracleOk Tryz.prog Tryz.dpO := by
 refine oracleOk_of fun c args M r h => ?_
 unfold Tryz.dpO at h
 split at h
 ·cases h; exact soundAt_call (Tryz.aNames M)
 ·exact soundAt_of Tryz.dl3_ok h
def depM (d : Deed) (n k : Nat) (u : List UInt8) (x : AV) : Mem :=
 [.absent,.absent,.cells true 0 [.slice 0 0 n none,.slice 1 0 k none],.cells true 0 d.cells,.cells true 0 [.nilslice,.nilslice,.nilslice],.cells true 1 namesC,.cells true 1 [.str u],.cells true 0 [x,.slice 6 0 1 none,.nilslice]]
def depM1 (d : Deed) (n k : Nat) (u : List UInt8) (j : Nat) : Mem := if j = 0 then depM d n k u .nilslice else depM d n k u (.slice 8 0 j none) ++ [.cells true 1 (qC (qH (baseL d j)))]
theorem dc_refs (d : Deed) (n : Nat) : AV.refsL n d.cells = [] := rfl
theorem dc_ok (d : Deed) (f : Nat → Bool) : AV.refsOkL f d.cells = true := rfl
theorem dc_ren (d : Deed) (f : Nat → Option Nat) : AV.rens f d.cells = d.cells := rfl
theorem dc_len (d : Deed) : d.cells.length = 12 := rfl
theorem dc_N (d : Deed) : d.cells[7]? = some (.int .i8 d.N) := rfl
theorem depM1_pos {d : Deed} {n k : Nat} {u : List UInt8} {j : Nat} (h : 0 < j) : depM1 d n k u j = [.absent,.absent,.cells true 0 [.slice 0 0 n none,.slice 1 0 k none],.cells true 0 d.cells,.cells true 0 [.nilslice,.nilslice,.nilslice],.cells true 1 namesC,.cells true 1 [.str u],.cells true 0 [.slice 8 0 j none,.slice 6 0 1 none,.nilslice],.cells true 1 (qC (qH (baseL d j)))] := by
 unfold depM1
 rw [if_neg (by omega)]
 rfl
def Tryz.depLv (c : Code) : List Nat := if (writesC c).contains 24 then [24,24] else if (writesC c).contains 54 then [9,9,54] else [11,59]
theorem nth3_cells (d : Deed) (j : Nat) (hj : j < 3) : d.cells[1 + j]? = some (.int .i8 (nth3 d.A j)) := by
 have : j = 0 ∨ j = 1 ∨ j = 2 := by omega
 rcases this with rfl | rfl | rfl <;> rfl
theorem nth3_le {v : Int × Int × Int} (h : i83Ok v) (j : Nat) : i8Ok (nth3 v j) := by
 unfold nth3
 split
 ·exact h.1
 ·split
  ·exact h.2.1
  ·exact h.2.2
theorem baseZ_le {d : Deed} (k : Nat) : (baseZ d k).natAbs ≤ 8 := by
 have h1 := tmodk d.N 4 (by decide)
 have h2 := tmodk (nth3 d.A (k % 3)) 3 (by decide)
 unfold baseZ
 simp only [Int.cast_ofNat_Int] at h1 h2
 omega
set_option maxRecDepth 8192 in
set_option maxHeartbeats 12800000 in
theorem Tryz.dep_loop1 {K : Nat} (d : Deed) (hd : d.Ok) (n k : Nat) (u : List UInt8) (hl : n ≤ 1000) (hK : n < K) {b b2 b3 : Code} (hb : loopsF Tryz.f51 = [b,b2,b3]) :
  ∃ F : Env → Env,∀ env0,(Eng.look env0 4 = .ptr 3 0 ∧ Eng.look env0 7 = .ptr 7 0 ∧ Eng.look env0 23 = .int .i64 n ∧ Eng.look env0 24 = .int .i64 0 ∧ Eng.look env0 6 = .ptr 4 0) →
   execC (tyOf Tryz.prog) Tryz.depLv Tryz.dpO K 102 2 true (.loop b) ⟨env0,depM1 d n k u 0,false⟩ = some (.exit 0,⟨F env0,depM1 d n k u n,decide (0 < n)⟩) ∧ Eng.look (F env0) 4 = .ptr 3 0 ∧ Eng.look (F env0) 7 = .ptr 7 0 ∧ Eng.look (F env0) 6 = .ptr 4 0 ∧ Eng.look (F env0) 2 = Eng.look env0 2 := by
 refine loop_rule_d (L := [24,24]) (by simp [loopsF,loopsC,Tryz.f51] at hb; rw [← hb.1]; rfl) false _ (fun env0 => Eng.look env0 4 = .ptr 3 0 ∧ Eng.look env0 7 = .ptr 7 0 ∧ Eng.look env0 23 = .int .i64 n ∧ Eng.look env0 24 = .int .i64 0 ∧ Eng.look env0 6 = .ptr 4 0) (fun env0 env' => Eng.look env' 4 = .ptr 3 0 ∧ Eng.look env' 7 = .ptr 7 0 ∧ Eng.look env' 6 = .ptr 4 0 ∧ Eng.look env' 2 = Eng.look env0 2) ?_
 rintro env0 ⟨h4,h7,h23,h24,h6⟩
 obtain ⟨os,hops⟩ : ∃ os,drawsF Tryz.f51 = os := ⟨_,rfl⟩
 have hbs := draws_map hops (ls := [[0,1,0,4,12,28,60,0,128,0,896,1920,3968,8064,16380,32764,65532,131071,262143,524287],[0,1,0,0,12,28,0,64,196,508,1020,2047,4095,8191]]) (by kernel_rfl)
 have k16 : aftAll [0,1,0,4,12,28,60,0,128,0,896,1920,3968,8064,16380,32764,65532,131071,262143,524287] 20 16 = true := by decide
 have k17 : aftAll [0,1,0,4,12,28,60,0,128,0,896,1920,3968,8064,16380,32764,65532,131071,262143,524287] 20 17 = true := by decide
 have k19 : aftAll [0,1,0,4,12,28,60,0,128,0,896,1920,3968,8064,16380,32764,65532,131071,262143,524287] 20 19 = true := by decide
 have j17 : allBef [0,1,0,4,12,28,60,0,128,0,896,1920,3968,8064,16380,32764,65532,131071,262143,524287] 17 = true := by decide
 have j19 : allBef [0,1,0,4,12,28,60,0,128,0,896,1920,3968,8064,16380,32764,65532,131071,262143,524287] 19 = true := by decide
 simp only [drawsF,drawsC,Tryz.f51,List.nil_append,List.append_nil,List.cons_append] at hops
 subst hops
 simp only [List.map_cons,List.map_nil,List.cons.injEq,and_true] at hbs
 obtain ⟨hb1,-⟩ := hbs
 simp [loopsF,loopsC,Tryz.f51] at hb
 obtain ⟨hb,-⟩ := hb
 have hn0 : normE [24,24] (writesC b) env0 ((24,.int .i64 ((0 : Nat) : Int)) :: env0) = normE [24,24] (writesC b) env0 env0 := by simp [normE,h24]
 rw [← hn0]
 have hm1 : (depM1 d n k u 0).length = 8 := rfl
 refine iter_ind (α := Nat) (fun j => ⟨normE [24,24] (writesC b) env0 ((24,.int .i64 (j : Int)) :: env0),depM1 d n k u j,decide (0 < j)⟩) (fun j => n - j) (fun j => j ≤ n) (.exit 0) _ _ _ (by simp) ?_ K 0 (by omega) (by omega)
 intro j hn1
 clear hn0
 subst hb
 by_cases hlt : j < n
 ·left
  have q1 := nth3_cells d (j % 3) (Nat.mod_lt _ (by decide))
  have q2 := nth3_le hd.A (j % 3)
  have q3 := tmodk d.N 4 (by decide)
  have q4 := tmodk (nth3 d.A (j % 3)) 3 (by decide)
  simp only [Int.cast_ofNat_Int] at q3 q4
  have hbz := baseZ_le (d := d) j
  have hbs := baseL_succ d j
  have hz : baseZ d j = 2 * d.N.tmod 4 + (nth3 d.A (j % 3)).tmod 3 := rfl
  obtain ⟨X,hX⟩ : ∃ x,x = nth3 d.A (j % 3) := ⟨_,rfl⟩
  rw [← hX] at q1 q2 q4 hz
  obtain ⟨x,hx⟩ : ∃ y,y = X.tmod 3 := ⟨_,rfl⟩
  obtain ⟨y,hy⟩ : ∃ y,y = d.N.tmod 4 := ⟨_,rfl⟩
  rw [← hx] at q4 hz
  rw [← hy] at q3 hz
  have hadd := hQ_int y x
  rw [← hz] at hadd
  have l1 := zS_len (n := y) (by omega)
  have l2 := hQ_len (z := x) (by omega)
  have hN := hd.N
  unfold i8Ok at q2 hN
  have wX : IntKind.i64.wrap X = X := wrap_sm (by omega) (by omega)
  have wN : IntKind.i64.wrap d.N = d.N := wrap_sm (by omega) (by omega)
  have g1 : x.natAbs < 100000000 := by omega
  have g2 : y.natAbs < 100000000 := by omega
  have t3 : (j : Int).tmod 3 = ((j % 3 : Nat) : Int) := rfl
  have hj3 : j % 3 < 3 := Nat.mod_lt _ (by decide)
  obtain ⟨r,hr⟩ : ∃ r,r = j % 3 := ⟨_,rfl⟩
  rw [← hr] at t3 hj3 q1
  have hp := ratP_zS y
  have w1 : IntKind.i64.wrap ((j : Int) + 1) = ((j + 1 : Nat) : Int) := by rw [wrap_i64 (by omega) (by omega)]; omega
  obtain ⟨m,hm⟩ : ∃ m,m = j + 1 := ⟨_,rfl⟩
  rw [← hm] at w1 hbs
  refine ⟨m,?_⟩
  have hmp : 0 < m := by omega
  rw [depM1_pos hmp]
  have hsimp : qC (qH (baseL d m)) = qC (qH (baseL d j)) ++ [.str (ratS (hQ (baseZ d j)))] := by rw [hbs]; simp [qH,qC]
  have hQl : (qC (qH (baseL d j))).length = j := by rw [qC_length]; simp [qH,baseL_length]
  have hx2 : ratP (ratS (mkRat x 2)) = some (hQ x) := ratP_ratS _
  have l2' : (ratS (mkRat x 2)).length ≤ 9 := l2
  have eQ : mkRat x 2 = hQ x := rfl
  rw [hsimp]
  have hN7 := dc_N d
  by_cases hj0 : j = 0
  ·subst hj0
   have hm0 : m = 1 := by omega
   have w0 : IntKind.i64.wrap 1 = 1 := rfl
   have hr0 : r = 0 := by omega
   subst hr0
   have e0 : depM1 d n k u 0 = [.absent,.absent,.cells true 0 [.slice 0 0 n none,.slice 1 0 k none],.cells true 0 d.cells,.cells true 0 [.nilslice,.nilslice,.nilslice],.cells true 1 namesC,.cells true 1 [.str u],.cells true 0 [.nilslice,.slice 6 0 1 none,.nilslice]] := rfl
   have b0 : qC (qH (baseL d 0)) = [] := rfl
   simp only [Nat.add_zero] at q1
   rw [b0,e0,hm0]
   simp [h4,h7,h23,hlt,hN7,q1,dc_len,dc_refs,dc_ren,dc_ok,namesC,wX,wN,w0,← hx,← hy,hp,zS,l1,l2,eQ,hadd,g1,g2,ratP_ratS,Tryz.dpO,pureO,Tryz.dlF3,-runDraw,runDraw_mak hb1,runDrawM,makAll,makRec,quietR,k16,k17,k19,j17,j19,Nat.testBit]
   omega
  ·have hpos : 0 < j := by omega
   have hd1 : decide (0 < j) = true := by simpa using hpos
   rw [depM1_pos hpos,hd1]
   obtain ⟨Q,hQ0⟩ : ∃ Q,Q = qH (baseL d j) := ⟨_,rfl⟩
   rw [← hQ0] at hQl ⊢
   have g3 : (qC Q).take j = qC Q := List.take_of_length_le (by omega)
   have g4 : m * 16 ≤ 140737488355328 := by omega
   have g5 : m ≤ 140737488355328 := by omega
   have hj3' : (r : Int) < 3 := by omega
   have hmd : decide (0 < m) = true := by simpa using hmp
   simp [h4,h7,h23,hlt,hN7,q1,hj3,hj3',hm1,t3,dc_len,dc_refs,dc_ren,dc_ok,namesC,wX,wN,w1,← hx,← hy,← hm,hp,zS,l1,l2,eQ,hadd,g1,g2,g3,g4,g5,hQl,hmd,ratP_ratS,qC_refs,qC_ren,qC_ok,Tryz.dpO,pureO,Tryz.dlF3,-runDraw,runDraw_mak hb1,runDrawM,makAll,makRec,quietR,k16,k17,k19,j17,j19,Nat.testBit]
   omega
 ·right
  have e : j = n := by omega
  subst e
  simp [h4,h7,h6,h23,hlt]
theorem nth4_cells (d : Deed) (j : Nat) (hj : j < 4) : d.cells[8 + j]? = some (.int .u8 (nth4 d.K j : Nat)) := by
 have : j = 0 ∨ j = 1 ∨ j = 2 ∨ j = 3 := by omega
 rcases this with rfl | rfl | rfl | rfl <;> rfl
theorem nth4_le {v : Nat × Nat × Nat × Nat} (h : u84Ok v) (j : Nat) : nth4 v j < 256 := by
 unfold nth4
 split
 ·exact h.1
 ·split
  ·exact h.2.1
  ·split
   ·exact h.2.2.1
   ·exact h.2.2.2
def hRow (Z : List Int) : Slot := .cells true 1 (qC (qH Z))
def depS0 (d : Deed) (n k : Nat) (u : List UInt8) (L : List Int) : Mem :=
 [.absent,.absent,.cells true 0 [.slice 0 0 n none,.slice 1 0 k none],.cells true 0 d.cells,.cells true 0 [.nilslice,.nilslice,.nilslice],.cells true 1 namesC,.cells true 1 [.str u],.cells true 0 [.slice 8 0 n none,.slice 6 0 1 none,.nilslice],.cells true 1 (qC (qH L))]
def depS1 (d : Deed) (n k : Nat) (u u2 : List UInt8) (L0 L : List Int) : Mem :=
 [.absent,.absent,.cells true 0 [.slice 0 0 n none,.slice 1 0 k none],.cells true 0 d.cells,.cells true 0 [.nilslice,.nilslice,.nilslice],.cells true 1 namesC,.absent,.cells true 0 [.slice 8 0 n none,.slice 10 0 2 none,.slice 11 0 1 none],.cells true 1 (qC (qH L0)),.cells true 1 (qC (qH L)),.cells true 1 [.str u,.str u2],.cells true 1 [.slice 9 0 n none]]
theorem qH_at {L : List Int} {k : Nat} (h : k < L.length) : (qC (qH L))[k]? = some (.str (ratS (hQ (L.getD k 0)))) := by
 have h1 : L[k]? = some (L.getD k 0) := by rw [List.getD_eq_getElem?_getD,List.getElem?_eq_getElem h]; rfl
 exact qC_at (by simp only [qH,List.getElem?_map,h1]; rfl)
theorem qH_len (L : List Int) : (qC (qH L)).length = L.length := by rw [qC_length]; simp [qH]
def inRow0 (k : Nat) : AV := if k = 0 then .nilslice else .slice 9 0 k none
def inMem0 (d : Deed) (n k : Nat) (u : List UInt8) (L : List Int) (i : Nat) : Mem := if i = 0 then depS0 d n k u L else depS0 d n k u L ++ [.cells true 1 (qC (qH (surfL d 0 L i)))]
set_option maxRecDepth 8192 in
set_option maxHeartbeats 12800000 in
theorem Tryz.dep_in0 {K : Nat} (d : Deed) (hd : d.Ok) (n k : Nat) (u : List UInt8) (L : List Int) (hL : L.length = n) (hb9 : ∀ z ∈ L,z.natAbs ≤ 100) (hn0 : 0 < n) (hl : n ≤ 1000) (hK : n < K) {b b2 b3 : Code} (hb : loopsF Tryz.f51 = [b2,b3,b]) :
  ∃ F : Env → Bool → Env,∀ env0 df,(Eng.look env0 4 = .ptr 3 0 ∧ Eng.look env0 57 = .slice 8 0 n none ∧ Eng.look env0 58 = .int .i64 n ∧ Eng.look env0 59 = .int .i64 0 ∧ Eng.look env0 10 = .int .i64 0 ∧ Eng.look env0 11 = .nilslice) →
   execC (tyOf Tryz.prog) Tryz.depLv Tryz.dpO K 102 2 true (.loop b) ⟨env0,depS0 d n k u L,df⟩ = some (.exit 4,⟨F env0 df,depS0 d n k u L ++ [.cells true 1 (qC (qH (surfL d 0 L n)))],df⟩) ∧ Eng.look (F env0 df) 11 = .slice 9 0 n none ∧
    (∀ t,t ∈ [2,4,6,7,9,10,53,54] → Eng.look (F env0 df) t = Eng.look env0 t) := by
 refine loop_rule (L := [11,59]) (by simp [loopsF,loopsC,Tryz.f51] at hb; rw [← hb.2.2]; rfl) (fun env0 => Eng.look env0 4 = .ptr 3 0 ∧ Eng.look env0 57 = .slice 8 0 n none ∧ Eng.look env0 58 = .int .i64 n ∧ Eng.look env0 59 = .int .i64 0 ∧ Eng.look env0 10 = .int .i64 0 ∧ Eng.look env0 11 = .nilslice) (fun env0 env' => Eng.look env' 11 = .slice 9 0 n none ∧ (∀ t,t ∈ [2,4,6,7,9,10,53,54] → Eng.look env' t = Eng.look env0 t)) ?_
 rintro env0 df ⟨h4,h57,h58,h59,h10,h11⟩
 simp [loopsF,loopsC,Tryz.f51] at hb
 obtain ⟨-,-,hb⟩ := hb
 have hnE : normE [11,59] (writesC b) env0 ((11,inRow0 0) :: (59,.int .i64 ((0 : Nat) : Int)) :: env0) = normE [11,59] (writesC b) env0 env0 := by simp [normE,h59,h11,inRow0]
 rw [← hnE]
 have hm1 : (depS0 d n k u L).length = 9 := rfl
 have hfin : depS0 d n k u L ++ [.cells true 1 (qC (qH (surfL d 0 L n)))] = inMem0 d n k u L n := by unfold inMem0; rw [if_neg (by omega)]
 rw [hfin]
 refine iter_ind (α := Nat) (fun i => ⟨normE [11,59] (writesC b) env0 ((11,inRow0 i) :: (59,.int .i64 (i : Int)) :: env0),inMem0 d n k u L i,df⟩) (fun i => n - i) (fun i => i ≤ n) (.exit 4) _ df _ (by simp) ?_ K 0 (by omega) (by omega)
 intro i hi
 clear hnE hfin
 subst hb
 by_cases hlt : i < n
 ·left
  have hr4 : (0 + i) % 4 < 4 := Nat.mod_lt _ (by decide)
  have q1 := nth4_cells d ((0 + i) % 4) hr4
  have q2 := nth4_le hd.K ((0 + i) % 4)
  have hs := surfL_succ d 0 L i
  have hz : stepZ d 0 i = ((nth4 d.K ((0 + i) % 4) % 4 : Nat) : Int) := rfl
  have t4 : (((0 + i : Nat) : Int)).tmod 4 = (((0 + i) % 4 : Nat) : Int) := rfl
  obtain ⟨v,hv⟩ : ∃ v,v = 0 + i := ⟨_,rfl⟩
  rw [← hv] at hr4 q1 q2 hz t4
  obtain ⟨r,hr⟩ : ∃ r,r = v % 4 := ⟨_,rfl⟩
  rw [← hr] at hr4 q1 q2 hz t4
  obtain ⟨X,hX⟩ : ∃ X,X = nth4 d.K r := ⟨_,rfl⟩
  rw [← hX] at q1 q2 hz
  have t5 : (X : Int).tmod 4 = ((X % 4 : Nat) : Int) := rfl
  have hx4 : X % 4 < 4 := Nat.mod_lt _ (by decide)
  obtain ⟨x,hx⟩ : ∃ x,x = X % 4 := ⟨_,rfl⟩
  rw [← hx] at t5 hx4 hz
  have k1 := qH_at (L := L) (k := i) (by omega)
  have hzl : (L.getD i 0).natAbs ≤ 100 := by
   have : L.getD i 0 ∈ L := by rw [List.getD_eq_getElem?_getD,List.getElem?_eq_getElem (by omega)]; exact List.getElem_mem _
   exact hb9 _ this
  obtain ⟨z,hzz⟩ : ∃ z,z = L.getD i 0 := ⟨_,rfl⟩
  rw [← hzz] at k1 hzl hs
  rw [hz] at hs
  have hadd := hQ_add z (x : Int)
  have l1 := hQ_len (z := z) (by omega)
  have l2 := hQ_len (z := (x : Int)) (by omega)
  have g1 : x < 100000000 := by omega
  have hn' := qH_len L
  have k1' : ∀ h,(qC (qH L))[i]'h = .str (ratS (hQ z)) := fun h => by
   rw [List.getElem?_eq_getElem h] at k1
   exact Option.some.inj k1
  rw [hL] at hn'
  have hr4' : (r : Int) < 4 := by omega
  have eQ : mkRat (x : Int) 2 = hQ (x : Int) := rfl
  have w1 : IntKind.i64.wrap ((i : Int) + 1) = ((i + 1 : Nat) : Int) := by rw [wrap_i64 (by omega) (by omega)]; omega
  have w2 : IntKind.i64.wrap ((i : Int)) = (v : Int) := by rw [wrap_i64 (by omega) (by omega)]; omega
  have w3 : IntKind.i64.wrap (x : Int) = (x : Int) := wrap_sm (by omega) (by omega)
  obtain ⟨m,hm⟩ : ∃ m,m = i + 1 := ⟨_,rfl⟩
  rw [← hm] at w1 hs
  refine ⟨m,?_⟩
  have hmp : ¬ m = 0 := by omega
  have hsimp : qC (qH (surfL d 0 L m)) = qC (qH (surfL d 0 L i)) ++ [.str (ratS (hQ (z + (x : Int))))] := by rw [hs]; simp [qH,qC]
  by_cases hi0 : i = 0
  ·subst hi0
   have hm0 : m = 1 := by omega
   have w0 : IntKind.i64.wrap 1 = 1 := rfl
   have b0 : qC (qH (surfL d 0 L 0)) = [] := rfl
   rw [b0,hm0,List.nil_append] at hsimp
   have hrj : r = 0 := by omega
   subst hrj
   have q1' : d.cells[8 + 0]? = some (.int .u8 (X : Nat)) := q1
   simp only [Nat.reduceAdd] at q1'
   have wj : IntKind.i64.wrap 0 = 0 := rfl
   have tj : Int.tmod 0 4 = 0 := rfl
   simp [inMem0,inRow0,hmp,hsimp,hm0,h4,h57,h58,h10,hlt,q1,q1',wj,tj,k1,k1',dc_len,dc_refs,dc_ren,dc_ok,namesC,w0,w1,w2,w3,hr4,hr4',t4,t5,l1,l2,eQ,hadd,g1,ratP_ratS,depS0,qC_refs,qC_ren,qC_ok,hn',Tryz.dpO,pureO,Tryz.dlF3]
   omega
  ·obtain ⟨Q,hQ0⟩ : ∃ Q,Q = qH (surfL d 0 L i) := ⟨_,rfl⟩
   have hQl : (qC Q).length = i := by rw [hQ0,qH_len,surfL_length]
   rw [← hQ0] at hsimp
   have g3 : (qC Q).take i = qC Q := List.take_of_length_le (by omega)
   have g4 : m * 16 ≤ 140737488355328 := by omega
   have g5 : m ≤ 140737488355328 := by omega
   simp [inMem0,inRow0,hi0,hmp,hsimp,← hQ0,← hm,h4,h57,h58,h10,hlt,q1,k1,k1',dc_len,dc_refs,dc_ren,dc_ok,namesC,w1,w2,w3,hr4,hr4',t4,t5,l1,l2,eQ,hadd,g1,g3,g4,g5,hQl,ratP_ratS,depS0,qC_refs,qC_ren,qC_ok,hn',Tryz.dpO,pureO,Tryz.dlF3]
   omega
 ·right
  have e : i = n := by omega
  subst e
  have hi0 : ¬ i = 0 := by omega
  simp [inMem0,inRow0,hi0,h58,hlt]
def inRow1 (k : Nat) : AV := if k = 0 then .nilslice else .slice 12 0 k none
def inMem1 (d : Deed) (n k : Nat) (u u2 : List UInt8) (L0 L : List Int) (i : Nat) : Mem := if i = 0 then depS1 d n k u u2 L0 L else depS1 d n k u u2 L0 L ++ [.cells true 1 (qC (qH (surfL d 1 L i)))]
set_option maxRecDepth 8192 in
set_option maxHeartbeats 12800000 in
theorem Tryz.dep_in1 {K : Nat} (d : Deed) (hd : d.Ok) (n k : Nat) (u u2 : List UInt8) (L0 L : List Int) (hL : L.length = n) (hb9 : ∀ z ∈ L,z.natAbs ≤ 100) (hn0 : 0 < n) (hl : n ≤ 1000) (hK : n < K) {b b2 b3 : Code} (hb : loopsF Tryz.f51 = [b2,b3,b]) :
  ∃ F : Env → Bool → Env,∀ env0 df,(Eng.look env0 4 = .ptr 3 0 ∧ Eng.look env0 57 = .slice 9 0 n none ∧ Eng.look env0 58 = .int .i64 n ∧ Eng.look env0 59 = .int .i64 0 ∧ Eng.look env0 10 = .int .i64 1 ∧ Eng.look env0 11 = .nilslice) →
   execC (tyOf Tryz.prog) Tryz.depLv Tryz.dpO K 102 2 true (.loop b) ⟨env0,depS1 d n k u u2 L0 L,df⟩ = some (.exit 4,⟨F env0 df,depS1 d n k u u2 L0 L ++ [.cells true 1 (qC (qH (surfL d 1 L n)))],df⟩) ∧ Eng.look (F env0 df) 11 = .slice 12 0 n none ∧
    (∀ t,t ∈ [2,4,6,7,9,10,53,54] → Eng.look (F env0 df) t = Eng.look env0 t) := by
 refine loop_rule (L := [11,59]) (by simp [loopsF,loopsC,Tryz.f51] at hb; rw [← hb.2.2]; rfl) (fun env0 => Eng.look env0 4 = .ptr 3 0 ∧ Eng.look env0 57 = .slice 9 0 n none ∧ Eng.look env0 58 = .int .i64 n ∧ Eng.look env0 59 = .int .i64 0 ∧ Eng.look env0 10 = .int .i64 1 ∧ Eng.look env0 11 = .nilslice) (fun env0 env' => Eng.look env' 11 = .slice 12 0 n none ∧ (∀ t,t ∈ [2,4,6,7,9,10,53,54] → Eng.look env' t = Eng.look env0 t)) ?_
 rintro env0 df ⟨h4,h57,h58,h59,h10,h11⟩
 simp [loopsF,loopsC,Tryz.f51] at hb
 obtain ⟨-,-,hb⟩ := hb
 have hnE : normE [11,59] (writesC b) env0 ((11,inRow1 0) :: (59,.int .i64 ((0 : Nat) : Int)) :: env0) = normE [11,59] (writesC b) env0 env0 := by simp [normE,h59,h11,inRow1]
 rw [← hnE]
 have hm1 : (depS1 d n k u u2 L0 L).length = 12 := rfl
 have hfin : depS1 d n k u u2 L0 L ++ [.cells true 1 (qC (qH (surfL d 1 L n)))] = inMem1 d n k u u2 L0 L n := by unfold inMem1; rw [if_neg (by omega)]
 rw [hfin]
 refine iter_ind (α := Nat) (fun i => ⟨normE [11,59] (writesC b) env0 ((11,inRow1 i) :: (59,.int .i64 (i : Int)) :: env0),inMem1 d n k u u2 L0 L i,df⟩) (fun i => n - i) (fun i => i ≤ n) (.exit 4) _ df _ (by simp) ?_ K 0 (by omega) (by omega)
 intro i hi
 clear hnE hfin
 subst hb
 by_cases hlt : i < n
 ·left
  have hr4 : (1 + i) % 4 < 4 := Nat.mod_lt _ (by decide)
  have q1 := nth4_cells d ((1 + i) % 4) hr4
  have q2 := nth4_le hd.K ((1 + i) % 4)
  have hs := surfL_succ d 1 L i
  have hz : stepZ d 1 i = ((nth4 d.K ((1 + i) % 4) % 4 : Nat) : Int) := rfl
  have t4 : (((1 + i : Nat) : Int)).tmod 4 = (((1 + i) % 4 : Nat) : Int) := rfl
  obtain ⟨v,hv⟩ : ∃ v,v = 1 + i := ⟨_,rfl⟩
  rw [← hv] at hr4 q1 q2 hz t4
  obtain ⟨r,hr⟩ : ∃ r,r = v % 4 := ⟨_,rfl⟩
  rw [← hr] at hr4 q1 q2 hz t4
  obtain ⟨X,hX⟩ : ∃ X,X = nth4 d.K r := ⟨_,rfl⟩
  rw [← hX] at q1 q2 hz
  have t5 : (X : Int).tmod 4 = ((X % 4 : Nat) : Int) := rfl
  have hx4 : X % 4 < 4 := Nat.mod_lt _ (by decide)
  obtain ⟨x,hx⟩ : ∃ x,x = X % 4 := ⟨_,rfl⟩
  rw [← hx] at t5 hx4 hz
  have k1 := qH_at (L := L) (k := i) (by omega)
  have hzl : (L.getD i 0).natAbs ≤ 100 := by
   have : L.getD i 0 ∈ L := by rw [List.getD_eq_getElem?_getD,List.getElem?_eq_getElem (by omega)]; exact List.getElem_mem _
   exact hb9 _ this
  obtain ⟨z,hzz⟩ : ∃ z,z = L.getD i 0 := ⟨_,rfl⟩
  rw [← hzz] at k1 hzl hs
  rw [hz] at hs
  have hadd := hQ_add z (x : Int)
  have l1 := hQ_len (z := z) (by omega)
  have l2 := hQ_len (z := (x : Int)) (by omega)
  have g1 : x < 100000000 := by omega
  have hn' := qH_len L
  have k1' : ∀ h,(qC (qH L))[i]'h = .str (ratS (hQ z)) := fun h => by
   rw [List.getElem?_eq_getElem h] at k1
   exact Option.some.inj k1
  rw [hL] at hn'
  have hr4' : (r : Int) < 4 := by omega
  have eQ : mkRat (x : Int) 2 = hQ (x : Int) := rfl
  have w1 : IntKind.i64.wrap ((i : Int) + 1) = ((i + 1 : Nat) : Int) := by rw [wrap_i64 (by omega) (by omega)]; omega
  have w2 : IntKind.i64.wrap (1 + (i : Int)) = (v : Int) := by rw [wrap_i64 (by omega) (by omega)]; omega
  have w3 : IntKind.i64.wrap (x : Int) = (x : Int) := wrap_sm (by omega) (by omega)
  obtain ⟨m,hm⟩ : ∃ m,m = i + 1 := ⟨_,rfl⟩
  rw [← hm] at w1 hs
  refine ⟨m,?_⟩
  have hmp : ¬ m = 0 := by omega
  have hsimp : qC (qH (surfL d 1 L m)) = qC (qH (surfL d 1 L i)) ++ [.str (ratS (hQ (z + (x : Int))))] := by rw [hs]; simp [qH,qC]
  by_cases hi0 : i = 0
  ·subst hi0
   have hm0 : m = 1 := by omega
   have w0 : IntKind.i64.wrap 1 = 1 := rfl
   have b0 : qC (qH (surfL d 1 L 0)) = [] := rfl
   rw [b0,hm0,List.nil_append] at hsimp
   have hrj : r = 1 := by omega
   subst hrj
   have q1' : d.cells[8 + 1]? = some (.int .u8 (X : Nat)) := q1
   simp only [Nat.reduceAdd] at q1'
   have wj : IntKind.i64.wrap 1 = 1 := rfl
   have tj : Int.tmod 1 4 = 1 := rfl
   simp [inMem1,inRow1,hmp,hsimp,hm0,h4,h57,h58,h10,hlt,q1,q1',wj,tj,k1,k1',dc_len,dc_refs,dc_ren,dc_ok,namesC,w0,w1,w2,w3,hr4,hr4',t4,t5,l1,l2,eQ,hadd,g1,ratP_ratS,depS1,qC_refs,qC_ren,qC_ok,hn',Tryz.dpO,pureO,Tryz.dlF3]
   omega
  ·obtain ⟨Q,hQ0⟩ : ∃ Q,Q = qH (surfL d 1 L i) := ⟨_,rfl⟩
   have hQl : (qC Q).length = i := by rw [hQ0,qH_len,surfL_length]
   rw [← hQ0] at hsimp
   have g3 : (qC Q).take i = qC Q := List.take_of_length_le (by omega)
   have g4 : m * 16 ≤ 140737488355328 := by omega
   have g5 : m ≤ 140737488355328 := by omega
   simp [inMem1,inRow1,hi0,hmp,hsimp,← hQ0,← hm,h4,h57,h58,h10,hlt,q1,k1,k1',dc_len,dc_refs,dc_ren,dc_ok,namesC,w1,w2,w3,hr4,hr4',t4,t5,l1,l2,eQ,hadd,g1,g3,g4,g5,hQl,ratP_ratS,depS1,qC_refs,qC_ren,qC_ok,hn',Tryz.dpO,pureO,Tryz.dlF3]
   omega
 ·right
  have e : i = n := by omega
  subst e
  have hi0 : ¬ i = 0 := by omega
  simp [inMem1,inRow1,hi0,h58,hlt]
theorem nC_refs (n : Nat) : AV.refsL n namesC = [] := rfl
theorem nC_ok (f : Nat → Bool) : AV.refsOkL f namesC = true := rfl
theorem nC_ren (f : Nat → Option Nat) : AV.rens f namesC = namesC := rfl
theorem nC_len : namesC.length = 6 := rfl
def letter (i : Nat) : UInt8 := UInt8.ofNat (65 + i)
theorem nC_at {i : Nat} (hi : i < 6) : namesC[i]? = some (.str [letter i]) := by
 have : i = 0 ∨ i = 1 ∨ i = 2 ∨ i = 3 ∨ i = 4 ∨ i = 5 := by omega
 rcases this with rfl | rfl | rfl | rfl | rfl | rfl <;> rfl
def unitsL (i : Nat) : Nat → List (List UInt8)
 | 0 => [[letter i,49]]
 | 1 => [[letter i,49],[letter i,50]]
 | _ => [[letter i,49],[letter i,50],[letter i,51]]
def depV (n : Nat) : Nat → AV
 | 0 => .agg [.slice 2 0 n none,.slice 3 0 1 none,.nilslice]
 | 1 => .agg [.slice 2 0 n none,.slice 3 0 2 none,.slice 4 0 1 none]
 | _ => .agg [.slice 2 0 n none,.slice 3 0 3 none,.slice 4 0 2 none]
def depNew (d : Deed) (n i : Nat) : Nat → Mem
 | 0 => [hRow (baseL d n),.cells true 1 ((unitsL i 0).map .str)]
 | 1 => [hRow (baseL d n),.cells true 1 ((unitsL i 1).map .str),.cells true 1 [.slice 5 0 n none],hRow (surfL d 0 (baseL d n) n)]
 | _ => [hRow (baseL d n),.cells true 1 ((unitsL i 2).map .str),.cells true 1 [.slice 5 0 n none,.slice 6 0 n none],hRow (surfL d 0 (baseL d n) n),hRow (surfL d 1 (surfL d 0 (baseL d n) n) n)]
set_option maxRecDepth 8192 in
set_option maxHeartbeats 12800000 in
theorem Tryz.aDeposit_0 (d : Deed) (hd : d.Ok) (n k i : Nat) (hi : i < 6) (hn : 0 < n) (hl : n ≤ 1000) (hJ : d.K.1 % 3 = 0) :
  ACallsTo Tryz.prog 51 [.agg [.slice 0 0 n none,.slice 1 0 k none],.agg d.cells,.int .i64 i] [.absent,.absent] (depV n 0) ([.absent,.absent] ++ depNew d n i 0) := by
 have hG : fnOf Tryz.prog 51 = some Tryz.f51 := by kernel_rfl
 obtain ⟨b,b2,b3,hb⟩ : ∃ b b2 b3,loopsF Tryz.f51 = [b,b2,b3] := ⟨_,_,_,rfl⟩
 obtain ⟨K,hK⟩ : ∃ K,K = n + 1 := ⟨_,rfl⟩
 obtain ⟨F,hF⟩ := Tryz.dep_loop1 (K := K + 5) d hd n k [letter i,49] hl (by omega) hb
 have e0 : depM1 d n k [letter i,49] 0 = [.absent,.absent,.cells true 0 [.slice 0 0 n none,.slice 1 0 k none],.cells true 0 d.cells,.cells true 0 [.nilslice,.nilslice,.nilslice],.cells true 1 namesC,.cells true 1 [.str [letter i,49]],.cells true 0 [.nilslice,.slice 6 0 1 none,.nilslice]] := rfl
 have hdn : decide (0 < n) = true := by simpa using hn
 rw [depM1_pos hn,e0,hdn] at hF
 have hF1 := fun env0 h => (hF env0 h).1
 have hG4 := fun env0 h => (hF env0 h).2.1
 have hG7 := fun env0 h => (hF env0 h).2.2.1
 have hG6 := fun env0 h => (hF env0 h).2.2.2.1
 have hG2 := fun env0 h => (hF env0 h).2.2.2.2
 clear hF
 simp [loopsF,loopsC,Tryz.f51] at hb
 obtain ⟨rfl,rfl,rfl⟩ := hb
 have hna := nC_at hi
 have hK8 : d.cells[8]? = some (.int .u8 (d.K.1 : Nat)) := rfl
 have t3 : ((d.K.1 : Nat) : Int).tmod 3 = 0 := by
  have : ((d.K.1 : Nat) : Int).tmod 3 = ((d.K.1 % 3 : Nat) : Int) := rfl
  rw [this,hJ]; rfl
 have w0 : IntKind.i64.wrap 0 = 0 := rfl
 have hi' : (i : Int) < 6 := by omega
 have h : callFn (tyOf Tryz.prog) Tryz.depLv (fnOf Tryz.prog) Tryz.dpO (K + 5) 51 [.agg [.slice 0 0 n none,.slice 1 0 k none],.agg d.cells,.int .i64 i] [.absent,.absent] = some ⟨depV n 0,some [.absent,.absent],depNew d n i 0⟩ := by
  simp [callFn,hG,Tryz.f51,hF1,hG4,hG7,hG6,hG2,Tryz.dpO,hna,hi,hi',hK8,t3,w0,dc_len,dc_refs,dc_ren,dc_ok,nC_refs,nC_ok,nC_ren,nC_len,qC_refs,qC_ren,execC_loop,iter,Tryz.depLv,depV,depNew,unitsL,hRow,maxInt,aBuild,fieldPlaces]
  exact ⟨rfl,rfl⟩
 have := (callFn_sound Tryz.mixed (tyOf_ok _) Tryz.dpO_ok (fnOf_ok _) h).1
 simpa [CallRes.mem] using this
end Go.Proofs
