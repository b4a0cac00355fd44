/- See I57. -/
import Derived.Test.YtahfjdgeebjiaaaGreatDoorI30
set_option linter.all false
namespace Go.Proofs
open Go.Eng
def knotP (d : Deed) (j : Nat) : P2 := (((d.N.tmod 3 + 2 * j : Int) : Rat),mkRat ((nth4 d.K j % 4 : Nat) - 1 : Int) (1 + d.K.2.2.2 % 2))
def knotsL (d : Deed) (c : Nat) : List P2 := (List.range c).map (knotP d)
theorem knotsL_succ (d : Deed) (c : Nat) : knotsL d (c + 1) = knotsL d c ++ [knotP d c] := by simp [knotsL,List.range_succ]
theorem knotsL_length (d : Deed) (c : Nat) : (knotsL d c).length = c := by simp [knotsL]
def zero32 : List AV := [.int .i64 0,.str [],.nilslice,.nilslice,.nilslice,.str [],.str [],.str [],.str [],.str [],.str [],.str [],.str [],.str [],.str [],.nilslice,.str [],.str [],.str [],.str [],.str [],.str [],.str [],.str [],.str [],.int .i64 0,.int .i64 0,.int .i64 0,.int .i64 0,.str [],.str [],.str []]
def foldM (d : Deed) (n k : Nat) (nm : List UInt8) (v : Z3) (o : Int) (s : Z3) (x : AV) : Mem :=
 [.absent,.absent,.cells true 0 [.slice 0 0 n none,.slice 1 0 k none],.cells true 0 d.cells,.cells true 0 zero32,.cells true 0 [.str (zS v.1),.str (zS v.2.1),.str (zS v.2.2)],.cells true 0 [.str (zS v.1),.str (zS v.2.1),.str (zS v.2.2),.str (zS o)],.cells true 0 (evFold nm v x s)]
def foldM1 (d : Deed) (n k : Nat) (nm : List UInt8) (v : Z3) (o : Int) (s : Z3) (j : Nat) : Mem := if j = 0 then foldM d n k nm v o s .nilslice else foldM d n k nm v o s (.slice 8 0 j none) ++ [.cells true 2 (pC (knotsL d j))]
theorem foldM1_pos {d : Deed} {n k : Nat} {nm : List UInt8} {v : Z3} {o : Int} {s : Z3} {j : Nat} (h : 0 < j) : foldM1 d n k nm v o s j = foldM d n k nm v o s (.slice 8 0 j none) ++ [.cells true 2 (pC (knotsL d j))] := if_neg (by omega)
theorem z32_refs (n : Nat) : AV.refsL n zero32 = [] := rfl
theorem z32_ok (f : Nat → Bool) : AV.refsOkL f zero32 = true := rfl
theorem z32_ren (f : Nat → Option Nat) : AV.rens f zero32 = zero32 := rfl
set_option maxRecDepth 8192 in
set_option maxHeartbeats 12800000 in
theorem Tryz.fold_loop {K : Nat} (d : Deed) (hd : d.Ok) (n k : Nat) (nm : List UInt8) (v : Z3) (o : Int) (s : Z3) (c : Nat) (hc : c ≤ 3) (hK : c < K) {b : Code} (hb : loopsF Tryz.f29 = [b]) :
  ∃ F : Env → Env,∀ env0,(Eng.look env0 4 = .ptr 3 0 ∧ Eng.look env0 9 = .ptr 7 0 ∧ Eng.look env0 121 = .int .i64 c ∧ Eng.look env0 122 = .int .i64 0 ∧ Eng.look env0 6 = .ptr 4 0) →
   execC (tyOf Tryz.prog) (fun _ => [122,122]) (Tryz.deO d) K 172 2 true (.loop b) ⟨env0,foldM1 d n k nm v o s 0,false⟩ = some (.exit 1,⟨F env0,foldM1 d n k nm v o s c,decide (0 < c)⟩) ∧ Eng.look (F env0) 9 = .ptr 7 0 ∧ Eng.look (F env0) 6 = .ptr 4 0 := by
 refine loop_rule_d (L := [122,122]) rfl false _ (fun env0 => Eng.look env0 4 = .ptr 3 0 ∧ Eng.look env0 9 = .ptr 7 0 ∧ Eng.look env0 121 = .int .i64 c ∧ Eng.look env0 122 = .int .i64 0 ∧ Eng.look env0 6 = .ptr 4 0) (fun env0 env' => Eng.look env' 9 = .ptr 7 0 ∧ Eng.look env' 6 = .ptr 4 0) ?_
 rintro env0 ⟨h4,h9,h121,h122,h6⟩
 obtain ⟨os,hops⟩ : ∃ os,drawsF Tryz.f29 = os := ⟨_,rfl⟩
 have hbs := draws_map hops (ls := [[0,0,2,6,14,30,63,0,255],[0,1,3,7,15,0,32,96,255,0,1023],[0,0,0,4,12,28,60,0,128,384,896,1920,0,4096,12288,28672,61440,131068,262142,524287,1048575,2097151],[0,0,0,4,12,28,60,0,128,384,896,1920,0,4096,12288,28672,61440,131068,262142,524287,1048575,2097151],[0,1,3,0,8,24,56,0,128,504,1016,0,0,6144,14336,30720,63488,129024,0,262144,786432,1835008,3932160,8126464,16777208,33554424,67108856,134217727,268435455,536870911,1073741823],[0,0,2,6,14,30,62,126,0,510,1022,2047,4095,8191],[0,0,0,0,0,0,63,0,128,384,896,2047,4095,0,8192,24576,57344,122880,0,262144,786432,1835008,3932160,0,8388608,25165824,58720256,125829120,268427264,536870911,1073741823,2147483647]]) (by kernel_rfl)
 simp only [drawsF,drawsC,Tryz.f29,List.nil_append,List.append_nil,List.cons_append] at hops
 subst hops
 simp only [List.map_cons,List.map_nil,List.cons.injEq,and_true] at hbs
 obtain ⟨-,-,-,-,hb4,-,-⟩ := hbs
 have k26 : aftAll [0,1,3,0,8,24,56,0,128,504,1016,0,0,6144,14336,30720,63488,129024,0,262144,786432,1835008,3932160,8126464,16777208,33554424,67108856,134217727,268435455,536870911,1073741823] 31 26 = true := by decide
 have k27 : aftAll [0,1,3,0,8,24,56,0,128,504,1016,0,0,6144,14336,30720,63488,129024,0,262144,786432,1835008,3932160,8126464,16777208,33554424,67108856,134217727,268435455,536870911,1073741823] 31 27 = true := by decide
 have k30 : aftAll [0,1,3,0,8,24,56,0,128,504,1016,0,0,6144,14336,30720,63488,129024,0,262144,786432,1835008,3932160,8126464,16777208,33554424,67108856,134217727,268435455,536870911,1073741823] 31 30 = true := by decide
 have j27 : allBef [0,1,3,0,8,24,56,0,128,504,1016,0,0,6144,14336,30720,63488,129024,0,262144,786432,1835008,3932160,8126464,16777208,33554424,67108856,134217727,268435455,536870911,1073741823] 27 = true := by decide
 have j30 : allBef [0,1,3,0,8,24,56,0,128,504,1016,0,0,6144,14336,30720,63488,129024,0,262144,786432,1835008,3932160,8126464,16777208,33554424,67108856,134217727,268435455,536870911,1073741823] 30 = true := by decide
 simp [loopsF,loopsC,Tryz.f29] at hb
 have hn0 : normE [122,122] (writesC b) env0 ((122,.int .i64 ((0 : Nat) : Int)) :: env0) = normE [122,122] (writesC b) env0 env0 := by simp [normE,h122]
 rw [← hn0]
 have hm1 : (foldM1 d n k nm v o s 0).length = 8 := rfl
 refine iter_ind (α := Nat) (fun j => ⟨normE [122,122] (writesC b) env0 ((122,.int .i64 (j : Int)) :: env0),foldM1 d n k nm v o s j,decide (0 < j)⟩) (fun j => c - j) (fun j => j ≤ c) (.exit 1) _ _ _ (by simp) ?_ K 0 (by omega) (by omega)
 intro j hn1
 clear hn0
 subst hb
 by_cases hlt : j < c
 ·left
  have hk1 := knotsL_succ d j
  have hkp : knotP d j = (((d.N.tmod 3 + 2 * j : Int) : Rat),mkRat ((nth4 d.K j % 4 : Nat) - 1 : Int) (1 + d.K.2.2.2 % 2)) := rfl
  have q1 := nth4_cells d j (by omega)
  have q2 := nth4_le hd.K j
  have q3 := tmodk d.N 3 (by decide)
  simp only [Int.cast_ofNat_Int] at q3
  have hN := hd.N
  unfold i8Ok at hN
  have hN7 := dc_N d
  have h11 : d.cells[11]? = some (.int .u8 (d.K.2.2.2 : Nat)) := rfl
  have wN : IntKind.i64.wrap d.N = d.N := wrap_sm (by omega) (by omega)
  obtain ⟨y,hy⟩ : ∃ y,y = d.N.tmod 3 := ⟨_,rfl⟩
  rw [← hy] at q3 hkp
  have l0 := dc_len d
  have r0 := dc_refs d
  have o0 := dc_ok d
  have n0 := dc_ren d
  have hdO : ∀ c a M,Tryz.deO d c a M = Tryz.deO d c a M := fun _ _ _ => rfl
  obtain ⟨C,hC⟩ : ∃ C,C = d.cells := ⟨_,rfl⟩
  have hC' : d.cells = C := hC.symm
  rw [← hC] at q1 hN7 h11 l0
  simp only [← hC] at r0 o0 n0
  obtain ⟨X,hX⟩ : ∃ X,X = nth4 d.K j := ⟨_,rfl⟩
  rw [← hX] at q1 q2 hkp
  have j7 : ∀ h,C[7]'h = _ := fun h => Option.some.inj ((List.getElem?_eq_getElem h).symm.trans hN7)
  have j11 : ∀ h,C[11]'h = _ := fun h => Option.some.inj ((List.getElem?_eq_getElem h).symm.trans h11)
  have j8 : ∀ h,C[8 + j]'h = _ := fun h => Option.some.inj ((List.getElem?_eq_getElem h).symm.trans q1)
  have t4 : ((X : Nat) : Int).tmod 4 = ((X % 4 : Nat) : Int) := rfl
  have x4 : X % 4 < 4 := Nat.mod_lt _ (by decide)
  obtain ⟨x,hx⟩ : ∃ x,x = X % 4 := ⟨_,rfl⟩
  rw [← hx] at t4 x4 hkp
  have wX : IntKind.i64.wrap (X : Int) = (X : Int) := wrap_sm (by omega) (by omega)
  have wx : IntKind.i64.wrap ((x : Int) - 1) = (x : Int) - 1 := wrap_sm (by omega) (by omega)
  have t2 : ((d.K.2.2.2 : Nat) : Int).tmod 2 = ((d.K.2.2.2 % 2 : Nat) : Int) := rfl
  have x2 : d.K.2.2.2 % 2 < 2 := Nat.mod_lt _ (by decide)
  obtain ⟨w,hw⟩ : ∃ x,x = d.K.2.2.2 % 2 := ⟨_,rfl⟩
  rw [← hw] at t2 x2 hkp
  have ww : IntKind.i64.wrap (w : Int) = (w : Int) := wrap_sm (by omega) (by omega)
  have ww1 : IntKind.i64.wrap (1 + (w : Int)) = ((1 + w : Nat) : Int) := by rw [wrap_sm (by omega) (by omega)]; omega
  obtain ⟨D,hD⟩ : ∃ D,D = 1 + w := ⟨_,rfl⟩
  rw [← hD] at ww1 hkp
  have hDp : 0 < D := by omega
  have hDl : D < 100000000 := by omega
  have w2j : IntKind.i64.wrap (2 * (j : Int)) = 2 * (j : Int) := wrap_sm (by omega) (by omega)
  have wyj : IntKind.i64.wrap (y + 2 * (j : Int)) = y + 2 * (j : Int) := wrap_sm (by omega) (by omega)
  obtain ⟨Y,hY⟩ : ∃ Y,Y = y + 2 * (j : Int) := ⟨_,rfl⟩
  rw [← hY] at wyj hkp
  have gY : Y.natAbs < 100000000 := by omega
  obtain ⟨Z,hZ⟩ : ∃ Z,Z = (x : Int) - 1 := ⟨_,rfl⟩
  rw [← hZ] at wx hkp
  have gZ : Z.natAbs < 100000000 := by omega
  have hpc : pC [knotP d j] = [.str (zS Y),.str (ratS (mkRat Z D))] := by rw [hkp]; rfl
  have w1 : IntKind.i64.wrap ((j : Int) + 1) = ((j + 1 : Nat) : Int) := by rw [wrap_i64 (by omega) (by omega)]; omega
  obtain ⟨m,hm⟩ : ∃ m,m = j + 1 := ⟨_,rfl⟩
  rw [← hm] at w1 hk1
  have hmp : 0 < m := by omega
  have hKm : pC (knotsL d m) = pC (knotsL d j) ++ [.str (zS Y),.str (ratS (mkRat Z D))] := by rw [hk1,pC_append,hpc]
  have hj3 : (j : Int) < 4 := by omega
  have hj3' : j < 4 := by omega
  have hjc : (j : Int) < c := by omega
  refine ⟨m,?_⟩
  rw [foldM1_pos hmp,hKm]
  by_cases hj0 : j = 0
  ·have e0 : foldM1 d n k nm v o s j = foldM d n k nm v o s .nilslice := if_pos hj0
   have e1 : knotsL d j = [] := by rw [hj0]; rfl
   have hd0 : decide (0 < j) = false := by simp [hj0]
   have hmd : decide (0 < m) = true := by simpa using hmp
   have hm0 : m = 1 := by omega
   rw [e0,hd0,e1,hm0]
   rw [hm0] at w1
   have e2 : pC [] ++ [.str (zS Y),.str (ratS (mkRat Z D))] = [.str (zS Y),.str (ratS (mkRat Z D))] := rfl
   rw [e2]
   simp [foldM,evFold,hC',h4,h9,h121,hlt,hjc,l0,r0,o0,n0,q1,j7,j8,j11,hj3,hj3',z32_refs,z32_ok,z32_ren,wN,← hy,t4,t2,wX,wx,ww,ww1,w2j,wyj,← hY,← hZ,gY,gZ,hDp,hDl,w1,hm1,Tryz.deO,pureO,Tryz.dlF3,-runDraw,runDraw_mak hb4,runDrawM,makAll,makRec,quietR,k26,k27,k30,j27,j30,aBuild,fieldPlaces,Nat.testBit]
   omega
  ·have hpos : 0 < j := by omega
   have hd1 : decide (0 < j) = true := by simpa using hpos
   have hmd : decide (0 < m) = true := by simpa using hmp
   rw [foldM1_pos hpos,hd1]
   have hPl : (pC (knotsL d j)).length = j * 2 := by rw [pC_length,knotsL_length]
   obtain ⟨P,hP⟩ : ∃ P,P = knotsL d j := ⟨_,rfl⟩
   rw [← hP] at hPl ⊢
   have g3 : (pC P).take (j * 2) = pC P := List.take_of_length_le (by omega)
   have g4 : m * 32 ≤ 140737488355328 := by omega
   have g5 : m ≤ 140737488355328 := by omega
   simp [foldM,evFold,hC',h4,h9,h121,hlt,hjc,l0,r0,o0,n0,q1,j7,j8,j11,hj3,hj3',z32_refs,z32_ok,z32_ren,wN,← hy,t4,t2,wX,wx,ww,ww1,w2j,wyj,← hY,← hZ,gY,gZ,hDp,hDl,w1,hm1,hPl,← hm,hmd,g3,g4,g5,pC_refs,pC_ok,pC_ren,Tryz.deO,pureO,Tryz.dlF3,-runDraw,runDraw_mak hb4,runDrawM,makAll,makRec,quietR,k26,k27,k30,j27,j30,aBuild,fieldPlaces,Nat.testBit]
   omega
 ·right
  have e : j = c := by omega
  subst e
  simp [h9,h6,h121,hlt]
set_option maxRecDepth 8192 in
set_option maxHeartbeats 12800000 in
theorem Tryz.aDeal_fold (d : Deed) (hd : d.Ok) (n k i : Nat) (hi : i < 6) (hn : 0 < n) (hl : n ≤ 1000) (hk : d.kind % 5 = 2) :
  ACallsTo Tryz.prog 29 [.agg [.slice 0 0 n none,.slice 1 0 k none],.agg d.cells,.int .i64 i] [.absent,.absent] (.agg (evFold (evName i) (normalZ d.A) (.slice 2 0 (1 + d.K.1 % 3) none) (acrossZ (normalZ d.A) (mod3 d.B)))) ([.absent,.absent] ++ [.cells true 2 (pC (knotsL d (1 + d.K.1 % 3)))]) := by
 have hG : fnOf Tryz.prog 29 = some Tryz.f29 := by kernel_rfl
 obtain ⟨os,hops⟩ : ∃ os,drawsF Tryz.f29 = os := ⟨_,rfl⟩
 have hbs := draws_map hops (ls := [[0,0,2,6,14,30,63,0,255],[0,1,3,7,15,0,32,96,255,0,1023],[0,0,0,4,12,28,60,0,128,384,896,1920,0,4096,12288,28672,61440,131068,262142,524287,1048575,2097151],[0,0,0,4,12,28,60,0,128,384,896,1920,0,4096,12288,28672,61440,131068,262142,524287,1048575,2097151],[0,1,3,0,8,24,56,0,128,504,1016,0,0,6144,14336,30720,63488,129024,0,262144,786432,1835008,3932160,8126464,16777208,33554424,67108856,134217727,268435455,536870911,1073741823],[0,0,2,6,14,30,62,126,0,510,1022,2047,4095,8191],[0,0,0,0,0,0,63,0,128,384,896,2047,4095,0,8192,24576,57344,122880,0,262144,786432,1835008,3932160,0,8388608,25165824,58720256,125829120,268427264,536870911,1073741823,2147483647]]) (by kernel_rfl)
 simp only [drawsF,drawsC,Tryz.f29,List.nil_append,List.append_nil,List.cons_append] at hops
 subst hops
 simp only [List.map_cons,List.map_nil,List.cons.injEq,and_true] at hbs
 obtain ⟨hb0,hb1,hb2,hb3,hb4,hb5,hb6⟩ := hbs
 have a08 : allBef [0,0,2,6,14,30,63,0,255] 8 = true := by decide
 have a110 : allBef [0,1,3,7,15,0,32,96,255,0,1023] 10 = true := by decide
 have a321 : allBef [0,0,0,4,12,28,60,0,128,384,896,1920,0,4096,12288,28672,61440,131068,262142,524287,1048575,2097151] 21 = true := by decide
 have a221 : allBef [0,0,0,4,12,28,60,0,128,384,896,1920,0,4096,12288,28672,61440,131068,262142,524287,1048575,2097151] 21 = true := by decide
 have a513 : allBef [0,0,2,6,14,30,62,126,0,510,1022,2047,4095,8191] 13 = true := by decide
 have a631 : allBef [0,0,0,0,0,0,63,0,128,384,896,2047,4095,0,8192,24576,57344,122880,0,262144,786432,1835008,3932160,0,8388608,25165824,58720256,125829120,268427264,536870911,1073741823,2147483647] 31 = true := by decide
 obtain ⟨b,hb⟩ : ∃ b,loopsF Tryz.f29 = [b] := ⟨_,rfl⟩
 have c3 : d.K.1 % 3 < 3 := Nat.mod_lt _ (by decide)
 obtain ⟨F,hF⟩ := Tryz.fold_loop (K := 9) d hd n k (evName i) (normalZ d.A) (d.N.tmod 5) (acrossZ (normalZ d.A) (mod3 d.B)) (1 + d.K.1 % 3) (by omega) (by omega) hb
 have hcp : 0 < 1 + d.K.1 % 3 := by omega
 have hcd : decide (0 < 1 + d.K.1 % 3) = true := by simpa using hcp
 rw [foldM1_pos hcp,hcd] at hF
 have hF0 : foldM1 d n k (evName i) (normalZ d.A) (d.N.tmod 5) (acrossZ (normalZ d.A) (mod3 d.B)) 0 = foldM d n k (evName i) (normalZ d.A) (d.N.tmod 5) (acrossZ (normalZ d.A) (mod3 d.B)) .nilslice := rfl
 rw [hF0] at hF
 simp [loopsF,loopsC,Tryz.f29] at hb
 subst hb
 have hN := hd.N
 have hB := fits3 hd.B
 have hA := fits3 hd.A
 have n1 := normalZ_le d.A
 have m1 := mod3_le d.B
 have q3 := tmodk d.N 5 (by decide)
 have h8 := dc_8 d
 have h0 := dc_0 d
 have h4 := dc_4 d
 have h5 := dc_5 d
 have h6 := dc_6 d
 have h7 := dc_N d
 have h1 := dc_A d
 have l0 := dc_len d
 have r0 := dc_refs d
 have o0 := dc_ok d
 have okd := Tryz.deO_ok d hd
 clear hd
 obtain ⟨kd,⟨A1,A2,A3⟩,⟨B1,B2,B3⟩,N,⟨K1,K2,K3,K4⟩⟩ := d
 simp only at hF c3 hk hN hB hA n1 m1 q3 h8 h0 h4 h5 h6 h7 h1 ⊢
 simp only [Int.cast_ofNat_Int] at q3
 unfold i8Ok at hN
 obtain ⟨hB1,hB2,hB3⟩ := hB
 simp only at hB1 hB2 hB3
 have wN : IntKind.i64.wrap N = N := wrap_sm (by omega) (by omega)
 have wB1 : IntKind.i64.wrap B1 = B1 := wrap_sm (by omega) (by omega)
 have wB2 : IntKind.i64.wrap B2 = B2 := wrap_sm (by omega) (by omega)
 have wB3 : IntKind.i64.wrap B3 = B3 := wrap_sm (by omega) (by omega)
 have hkt : ((kd : Nat) : Int).tmod 5 = 2 := by
  have : ((kd : Nat) : Int).tmod 5 = ((kd % 5 : Nat) : Int) := rfl
  rw [this,hk]; rfl
 obtain ⟨⟨nx,ny,nz⟩,e1⟩ : ∃ v,v = normalZ (A1,A2,A3) := ⟨_,rfl⟩
 rw [← e1] at n1
 have e2 : mod3 (B1,B2,B3) = (B1.tmod 3,B2.tmod 3,B3.tmod 3) := rfl
 rw [e2] at m1
 obtain ⟨o,ho⟩ : ∃ o,o = N.tmod 5 := ⟨_,rfl⟩
 rw [← ho] at q3
 have go : o.natAbs < 100000000 := by omega
 have gi : i < 100000000 := by omega
 obtain ⟨bx,hbx⟩ : ∃ o,o = B1.tmod 3 := ⟨_,rfl⟩
 obtain ⟨by',hby⟩ : ∃ o,o = B2.tmod 3 := ⟨_,rfl⟩
 obtain ⟨bz,hbz⟩ : ∃ o,o = B3.tmod 3 := ⟨_,rfl⟩
 rw [← hbx,← hby,← hbz] at m1 e2
 obtain ⟨g1,g2,g3⟩ := m1
 simp only at g1 g2 g3
 have g1' : bx.natAbs ≤ 10000 := by omega
 have g2' : by'.natAbs ≤ 10000 := by omega
 have g3' : bz.natAbs ≤ 10000 := by omega
 have m2 : z3Le 2 (bx,by',bz) := ⟨g1,g2,g3⟩
 obtain ⟨C,hC⟩ : ∃ C,C = Deed.cells ⟨kd,(A1,A2,A3),(B1,B2,B3),N,(K1,K2,K3,K4)⟩ := ⟨_,rfl⟩
 rw [← hC] at h8 h0 h4 h5 h6 h7 h1 l0 r0 o0
 have hC' : Deed.cells ⟨kd,(A1,A2,A3),(B1,B2,B3),N,(K1,K2,K3,K4)⟩ = C := hC.symm
 have tk : C.take 12 = C := List.take_of_length_le (by omega)
 have j8 : ∀ h,C[8]'h = _ := fun h => Option.some.inj ((List.getElem?_eq_getElem h).symm.trans h8)
 have j0 : ∀ h,C[0]'h = _ := fun h => Option.some.inj ((List.getElem?_eq_getElem h).symm.trans h0)
 have j4 : ∀ h,C[4]'h = _ := fun h => Option.some.inj ((List.getElem?_eq_getElem h).symm.trans h4)
 have j5 : ∀ h,C[5]'h = _ := fun h => Option.some.inj ((List.getElem?_eq_getElem h).symm.trans h5)
 have j6 : ∀ h,C[6]'h = _ := fun h => Option.some.inj ((List.getElem?_eq_getElem h).symm.trans h6)
 have j7 : ∀ h,C[7]'h = _ := fun h => Option.some.inj ((List.getElem?_eq_getElem h).symm.trans h7)
 have hp := ratP_zS
 rw [e2,← e1,← ho] at hF
 obtain ⟨⟨sx,sy,sz⟩,hs⟩ : ∃ v,v = acrossZ (nx,ny,nz) (bx,by',bz) := ⟨_,rfl⟩
 rw [← hs] at hF
 simp only [foldM,evFold,evName,zero32,← hC,List.cons_append,List.nil_append] at hF
 have hF1 := fun env0 h => (hF env0 h).1
 have hG9 := fun env0 h => (hF env0 h).2.1
 have hG6 := fun env0 h => (hF env0 h).2.2
 clear hF
 have t3 : ((K1 : Nat) : Int).tmod 3 = ((K1 % 3 : Nat) : Int) := rfl
 obtain ⟨x,hx⟩ : ∃ x,x = K1 % 3 := ⟨_,rfl⟩
 rw [← hx] at t3 c3 hF1 hG9 hG6
 have w13 : IntKind.i64.wrap (x : Int) = (x : Int) := wrap_sm (by omega) (by omega)
 have w14 : IntKind.i64.wrap (1 + (x : Int)) = ((1 + x : Nat) : Int) := by rw [wrap_sm (by omega) (by omega)]; omega
 obtain ⟨c,hc⟩ : ∃ c,c = 1 + x := ⟨_,rfl⟩
 rw [← hc] at w14 hF1 hG9 hG6
 have c1 := w14
 have w1 : IntKind.i64.wrap 1 = 1 := rfl
 have w2 : IntKind.i64.wrap 2 = 2 := rfl
 have w3 : IntKind.i64.wrap 3 = 3 := rfl
 have w4 : IntKind.i64.wrap 4 = 4 := rfl
 have w5 : IntKind.i64.wrap 5 = 5 := rfl
 have w0 : IntKind.i64.wrap 0 = 0 := rfl
 have u12 : IntKind.i64.wrap (1 + 1) = 2 := rfl
 have u13 : IntKind.i64.wrap (1 + 2) = 3 := rfl
 have u14 : IntKind.i64.wrap (1 + 3) = 4 := rfl
 have u15 : IntKind.i64.wrap (1 + 4) = 5 := rfl
 have hip := zS_len (n := (i : Int)) (by omega)
 have hip' : (zS (i : Int)).length + 1 ≤ 9223372036854775807 := by unfold zS; omega
 have hip2 : 1 + (zS (i : Int)).length ≤ 9223372036854775807 := by omega
 have h : callFn (tyOf Tryz.prog) (fun _ => [122,122]) (fnOf Tryz.prog) (Tryz.deO ⟨kd,(A1,A2,A3),(B1,B2,B3),N,(K1,K2,K3,K4)⟩) 9 29 [.agg [.slice 0 0 n none,.slice 1 0 k none],.agg C,.int .i64 i] [.absent,.absent] = some ⟨(.agg (evFold (evName i) (normalZ (A1,A2,A3)) (.slice 2 0 (1 + K1 % 3) none) (acrossZ (normalZ (A1,A2,A3)) (mod3 (B1,B2,B3))))),some [.absent,.absent],[.cells true 2 (pC (knotsL ⟨kd,(A1,A2,A3),(B1,B2,B3),N,(K1,K2,K3,K4)⟩ (1 + K1 % 3)))]⟩ := by
  rw [e2,← e1,← hs,← hx,← hc]
  simp [callFn,hG,Tryz.f29,Tryz.deO,pureO,Tryz.dlF3,zA,l0,r0,o0,j8,j0,j4,j5,j6,j7,h1,hA,← e1,hC',tk,hkt,wN,wB1,wB2,wB3,← ho,← hbx,← hby,← hbz,go,gi,g1',g2',g3',hp,n1,m2,w0,w1,w2,w3,w4,w5,u12,u13,u14,u15,hip',hip2,maxInt,aBuild,fieldPlaces,-runDraw,runDraw_shy hb0,runDraw_shy hb1,runDraw_shy hb3,runDrawN,shyAll,shyAt,shyRec,quietR,isAbs,bef,a08,a110,a321,Nat.testBit,hF1,hG9,hG6,← hs,c1,t3,w13,evFold,evName,dikeName,pC_refs,pC_ren]
 have := (callFn_sound Tryz.mixed (tyOf_ok _) okd (fnOf_ok _) h).1
 rw [← hC]
 simpa [CallRes.mem] using this
end Go.Proofs
