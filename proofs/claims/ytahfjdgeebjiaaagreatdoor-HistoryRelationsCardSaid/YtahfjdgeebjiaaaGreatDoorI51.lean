/- See I57. -/
import Derived.Test.YtahfjdgeebjiaaaGreatDoorI46
import Derived.Test.YtahfjdgeebjiaaaGreatDoorI48
set_option linter.all false
namespace Go.Proofs
open Go.Eng
set_option maxRecDepth 16384 in
set_option maxHeartbeats 16000000 in
theorem Tryz.make1_2 (O : Oracle) (s : Sheet) (d : Deed) (w1 w2 : Slot) (ev : List AV) (x1 x2 x3 x4 x5 : Slot) (hev : ev.length = 32) (fev : ∀ x ∈ ev,x.cellOk = true) (rev : ∀ k,14 ≤ k → AV.refsOkL (fun b => decide (b < k)) ev = true) (ax1 : ownAbs x1 = true) (ax2 : ownAbs x2 = true) (ax3 : ownAbs x3 = true) (ax4 : ownAbs x4 = true) (ax5 : ownAbs x5 = true) (qx : ∀ k,14 ≤ k → x1.refsOk (fun b => decide (b < k)) = true ∧ x2.refsOk (fun b => decide (b < k)) = true ∧ x3.refsOk (fun b => decide (b < k)) = true ∧ x4.refsOk (fun b => decide (b < k)) = true ∧ x5.refsOk (fun b => decide (b < k)) = true)
  (hD0 : O (.fn 29) [shB s 5 6,.agg d.cells,.int .i64 0] [.cells false 12 d.cells,w1,w2,.cells true 0 [.int .u8 s.kind,.int .i8 s.sx,.int .i8 s.sy,.bool s.half,.slice 0 0 1 none],.cells true 0 [.nilslice,.nilslice,.str [],.nilslice],.cells true 2 (pC s.P),.cells true 3 (tC s.T),.cells true 0 [.slice 5 0 s.P.length none,.slice 6 0 s.T.length none,.str [98,97,115,101],.nilslice],.cells true 0 d.cells] = some ⟨.agg ev,none,[x1,x2,x3,x4,x5]⟩)
  (hMk : ∀ M,O (.fn 28) [.agg [.int .u8 s.kind,.int .i8 s.sx,.int .i8 s.sy,.bool s.half]] M = some ⟨shB s M.length (M.length + 1),none,[.cells true 2 (pC s.P),.cells true 3 (tC s.T)]⟩)
  : callRaw (tyOf Tryz.prog) Tryz.mkLv (fnOf Tryz.prog) O 5 8 [.agg [.int .u8 s.kind,.int .i8 s.sx,.int .i8 s.sy,.bool s.half,.slice 0 0 1 none]] [.cells false 12 d.cells,w1,w2] = some (.agg [.slice 5 0 s.P.length none,.slice 6 0 s.T.length none,.str [98,97,115,101],.slice 15 0 1 none],[.cells false 12 d.cells,w1,w2,.cells true 0 [.int .u8 s.kind,.int .i8 s.sx,.int .i8 s.sy,.bool s.half,.slice 0 0 1 none],.cells true 0 [.slice 5 0 s.P.length none,.slice 6 0 s.T.length none,.str [98,97,115,101],.slice 15 0 1 none],.cells true 2 (pC s.P),.cells true 3 (tC s.T),.cells true 0 [.slice 5 0 s.P.length none,.slice 6 0 s.T.length none,.str [98,97,115,101],.slice 15 0 1 none],.cells true 0 d.cells,x1,x2,x3,x4,x5,.cells true 32 ev,.cells true 32 (ev)]) := by
 have hG : fnOf Tryz.prog 8 = some Tryz.f8 := by kernel_rfl
 obtain ⟨os,hops⟩ : ∃ os,drawsF Tryz.f8 = os := ⟨_,rfl⟩
 have hbs := draws_map hops (ls := [[0,1,0,4,0,0,60,124,255,511,1023]]) (by kernel_rfl)
 simp only [drawsF,drawsC,Tryz.f8,List.nil_append,List.append_nil,List.cons_append] at hops
 subst hops
 simp only [List.map_cons,List.map_nil,List.cons.injEq,and_true] at hbs
 have k6 : aftAll [0,1,0,4,0,0,60,124,255,511,1023] 11 6 = true := by decide
 have k7 : aftAll [0,1,0,4,0,0,60,124,255,511,1023] 11 7 = true := by decide
 have k8 : aftAll [0,1,0,4,0,0,60,124,255,511,1023] 11 8 = true := by decide
 have k10 : aftAll [0,1,0,4,0,0,60,124,255,511,1023] 11 10 = true := by decide
 have j10 : allBef [0,1,0,4,0,0,60,124,255,511,1023] 10 = true := by decide
 have j8 : allBef [0,1,0,4,0,0,60,124,255,511,1023] 8 = true := by decide
 have sa : ∀ f,Slot.refsOk f Slot.absent = true := fun _ => rfl
 have w1 : IntKind.i64.wrap 1 = 1 := rfl
 have w2 : IntKind.i64.wrap 2 = 2 := rfl
 have w3 : IntKind.i64.wrap 3 = 3 := rfl
 have g0 : (∀ x : AV,x ∈ ev → x.cellOk = true) = True := eq_true fev
 have t0 : List.take 32 ev = ev := List.take_of_length_le (by omega)
 obtain ⟨kd0,⟨A10,A20,A30⟩,⟨B10,B20,B30⟩,N0,⟨K10,K20,K30,K40⟩⟩ := d
 simp [shB,Deed.cells] at hD0 hMk
 simp [-AV.cellOk,ck_slice,ck_str,ck_int,ck_bool,ck_nil,ck_ptr,g0,t0,callRaw,hG,Tryz.f8,hMk,hD0,hev,rev,qx,ownAbs_cells,ownAbs_absent,slotOk_cells,-Slot.refsOk,ax1,ax2,ax3,ax4,ax5,Deed.cells,shB,aBuild,fieldPlaces,-runDraw,runDraw_mak hbs,runDrawM,makAll,makRec_own,quietR,k6,k7,k8,k10,j8,sa,j10,Nat.testBit,execC_loop,iter,Tryz.mkLv,w1,w2,w3,maxInt,pC_refs,tC_refs,pC_ok,tC_ok]
set_option maxRecDepth 16384 in
set_option maxHeartbeats 16000000 in
theorem Tryz.make2_2 (O : Oracle) (s : Sheet) (d e : Deed) (w1 w2 : Slot) (ev : List AV) (x1 x2 x3 x4 x5 : Slot) (hev : ev.length = 32) (fev : ∀ x ∈ ev,x.cellOk = true) (rev : ∀ k,14 ≤ k → AV.refsOkL (fun b => decide (b < k)) ev = true) (ax1 : ownAbs x1 = true) (ax2 : ownAbs x2 = true) (ax3 : ownAbs x3 = true) (ax4 : ownAbs x4 = true) (ax5 : ownAbs x5 = true) (qx : ∀ k,14 ≤ k → x1.refsOk (fun b => decide (b < k)) = true ∧ x2.refsOk (fun b => decide (b < k)) = true ∧ x3.refsOk (fun b => decide (b < k)) = true ∧ x4.refsOk (fun b => decide (b < k)) = true ∧ x5.refsOk (fun b => decide (b < k)) = true) (ew : List AV) (y1 y2 y3 y4 y5 : Slot) (hew : ew.length = 32) (few : ∀ x ∈ ew,x.cellOk = true) (rew : ∀ k,22 ≤ k → AV.refsOkL (fun b => decide (b < k)) ew = true) (ay1 : ownAbs y1 = true) (ay2 : ownAbs y2 = true) (ay3 : ownAbs y3 = true) (ay4 : ownAbs y4 = true) (ay5 : ownAbs y5 = true) (qy : ∀ k,22 ≤ k → y1.refsOk (fun b => decide (b < k)) = true ∧ y2.refsOk (fun b => decide (b < k)) = true ∧ y3.refsOk (fun b => decide (b < k)) = true ∧ y4.refsOk (fun b => decide (b < k)) = true ∧ y5.refsOk (fun b => decide (b < k)) = true)
  (hD0 : O (.fn 29) [shB s 5 6,.agg d.cells,.int .i64 0] [.cells false 12 (d.cells ++ e.cells),w1,w2,.cells true 0 [.int .u8 s.kind,.int .i8 s.sx,.int .i8 s.sy,.bool s.half,.slice 0 0 2 none],.cells true 0 [.nilslice,.nilslice,.str [],.nilslice],.cells true 2 (pC s.P),.cells true 3 (tC s.T),.cells true 0 [.slice 5 0 s.P.length none,.slice 6 0 s.T.length none,.str [98,97,115,101],.nilslice],.cells true 0 d.cells] = some ⟨.agg ev,none,[x1,x2,x3,x4,x5]⟩)
  (hD1 : O (.fn 29) [shB s 5 6,.agg e.cells,.int .i64 1] [.cells false 12 (d.cells ++ e.cells),w1,w2,.cells true 0 [.int .u8 s.kind,.int .i8 s.sx,.int .i8 s.sy,.bool s.half,.slice 0 0 2 none],.cells true 0 [.nilslice,.nilslice,.str [],.nilslice],.cells true 2 (pC s.P),.cells true 3 (tC s.T),.cells true 0 [.slice 5 0 s.P.length none,.slice 6 0 s.T.length none,.str [98,97,115,101],.slice 15 0 1 none],.cells true 0 d.cells,x1,x2,x3,x4,x5,.cells true 32 ev,.cells true 32 (ev),.cells true 0 e.cells] = some ⟨.agg ew,none,[y1,y2,y3,y4,y5]⟩)
  (hMk : ∀ M,O (.fn 28) [.agg [.int .u8 s.kind,.int .i8 s.sx,.int .i8 s.sy,.bool s.half]] M = some ⟨shB s M.length (M.length + 1),none,[.cells true 2 (pC s.P),.cells true 3 (tC s.T)]⟩)
  : callRaw (tyOf Tryz.prog) Tryz.mkLv (fnOf Tryz.prog) O 5 8 [.agg [.int .u8 s.kind,.int .i8 s.sx,.int .i8 s.sy,.bool s.half,.slice 0 0 2 none]] [.cells false 12 (d.cells ++ e.cells),w1,w2] = some (.agg [.slice 5 0 s.P.length none,.slice 6 0 s.T.length none,.str [98,97,115,101],.slice 23 0 2 none],[.cells false 12 (d.cells ++ e.cells),w1,w2,.cells true 0 [.int .u8 s.kind,.int .i8 s.sx,.int .i8 s.sy,.bool s.half,.slice 0 0 2 none],.cells true 0 [.slice 5 0 s.P.length none,.slice 6 0 s.T.length none,.str [98,97,115,101],.slice 23 0 2 none],.cells true 2 (pC s.P),.cells true 3 (tC s.T),.cells true 0 [.slice 5 0 s.P.length none,.slice 6 0 s.T.length none,.str [98,97,115,101],.slice 23 0 2 none],.cells true 0 d.cells,x1,x2,x3,x4,x5,.cells true 32 ev,.absent,.cells true 0 e.cells,y1,y2,y3,y4,y5,.cells true 32 ew,.cells true 32 (ev ++ ew)]) := by
 have hG : fnOf Tryz.prog 8 = some Tryz.f8 := by kernel_rfl
 obtain ⟨os,hops⟩ : ∃ os,drawsF Tryz.f8 = os := ⟨_,rfl⟩
 have hbs := draws_map hops (ls := [[0,1,0,4,0,0,60,124,255,511,1023]]) (by kernel_rfl)
 simp only [drawsF,drawsC,Tryz.f8,List.nil_append,List.append_nil,List.cons_append] at hops
 subst hops
 simp only [List.map_cons,List.map_nil,List.cons.injEq,and_true] at hbs
 have k6 : aftAll [0,1,0,4,0,0,60,124,255,511,1023] 11 6 = true := by decide
 have k7 : aftAll [0,1,0,4,0,0,60,124,255,511,1023] 11 7 = true := by decide
 have k8 : aftAll [0,1,0,4,0,0,60,124,255,511,1023] 11 8 = true := by decide
 have k10 : aftAll [0,1,0,4,0,0,60,124,255,511,1023] 11 10 = true := by decide
 have j10 : allBef [0,1,0,4,0,0,60,124,255,511,1023] 10 = true := by decide
 have j8 : allBef [0,1,0,4,0,0,60,124,255,511,1023] 8 = true := by decide
 have sa : ∀ f,Slot.refsOk f Slot.absent = true := fun _ => rfl
 have w1 : IntKind.i64.wrap 1 = 1 := rfl
 have w2 : IntKind.i64.wrap 2 = 2 := rfl
 have w3 : IntKind.i64.wrap 3 = 3 := rfl
 have g0 : (∀ x : AV,x ∈ ev → x.cellOk = true) = True := eq_true fev
 have t0 : List.take 32 ev = ev := List.take_of_length_le (by omega)
 have g1 : (∀ x : AV,x ∈ ew → x.cellOk = true) = True := eq_true few
 have t1 : List.take 32 ew = ew := List.take_of_length_le (by omega)
 obtain ⟨kd0,⟨A10,A20,A30⟩,⟨B10,B20,B30⟩,N0,⟨K10,K20,K30,K40⟩⟩ := d
 obtain ⟨kd1,⟨A11,A21,A31⟩,⟨B11,B21,B31⟩,N1,⟨K11,K21,K31,K41⟩⟩ := e
 simp [shB,Deed.cells] at hD0 hD1 hMk
 simp [-AV.cellOk,ck_slice,ck_str,ck_int,ck_bool,ck_nil,ck_ptr,g0,t0,g1,t1,callRaw,hG,Tryz.f8,hMk,hD0,hD1,hev,hew,rev,rew,qx,qy,ownAbs_cells,ownAbs_absent,slotOk_cells,-Slot.refsOk,ax1,ax2,ax3,ax4,ax5,ay1,ay2,ay3,ay4,ay5,Deed.cells,shB,aBuild,fieldPlaces,-runDraw,runDraw_mak hbs,runDrawM,makAll,makRec_own,quietR,k6,k7,k8,k10,j8,sa,j10,Nat.testBit,execC_loop,iter,Tryz.mkLv,w1,w2,w3,maxInt,pC_refs,tC_refs,pC_ok,tC_ok]
set_option maxRecDepth 16384 in
set_option maxHeartbeats 16000000 in
theorem Tryz.make3_2 (O : Oracle) (s : Sheet) (d e f : Deed) (R : List AV) (k : Nat) (h3 : 3 ≤ k) (hk : k ≤ 1000000) (hR : R.length + 36 = k * 12) (w1 w2 : Slot) (ev : List AV) (x1 x2 x3 x4 x5 : Slot) (hev : ev.length = 32) (fev : ∀ x ∈ ev,x.cellOk = true) (rev : ∀ k,14 ≤ k → AV.refsOkL (fun b => decide (b < k)) ev = true) (ax1 : ownAbs x1 = true) (ax2 : ownAbs x2 = true) (ax3 : ownAbs x3 = true) (ax4 : ownAbs x4 = true) (ax5 : ownAbs x5 = true) (qx : ∀ k,14 ≤ k → x1.refsOk (fun b => decide (b < k)) = true ∧ x2.refsOk (fun b => decide (b < k)) = true ∧ x3.refsOk (fun b => decide (b < k)) = true ∧ x4.refsOk (fun b => decide (b < k)) = true ∧ x5.refsOk (fun b => decide (b < k)) = true) (ew : List AV) (y1 y2 y3 y4 y5 : Slot) (hew : ew.length = 32) (few : ∀ x ∈ ew,x.cellOk = true) (rew : ∀ k,22 ≤ k → AV.refsOkL (fun b => decide (b < k)) ew = true) (ay1 : ownAbs y1 = true) (ay2 : ownAbs y2 = true) (ay3 : ownAbs y3 = true) (ay4 : ownAbs y4 = true) (ay5 : ownAbs y5 = true) (qy : ∀ k,22 ≤ k → y1.refsOk (fun b => decide (b < k)) = true ∧ y2.refsOk (fun b => decide (b < k)) = true ∧ y3.refsOk (fun b => decide (b < k)) = true ∧ y4.refsOk (fun b => decide (b < k)) = true ∧ y5.refsOk (fun b => decide (b < k)) = true) (eu : List AV) (z1 z2 z3 z4 z5 : Slot) (heu : eu.length = 32) (feu : ∀ x ∈ eu,x.cellOk = true) (reu : ∀ k,30 ≤ k → AV.refsOkL (fun b => decide (b < k)) eu = true) (az1 : ownAbs z1 = true) (az2 : ownAbs z2 = true) (az3 : ownAbs z3 = true) (az4 : ownAbs z4 = true) (az5 : ownAbs z5 = true) (qz : ∀ k,30 ≤ k → z1.refsOk (fun b => decide (b < k)) = true ∧ z2.refsOk (fun b => decide (b < k)) = true ∧ z3.refsOk (fun b => decide (b < k)) = true ∧ z4.refsOk (fun b => decide (b < k)) = true ∧ z5.refsOk (fun b => decide (b < k)) = true)
  (hD0 : O (.fn 29) [shB s 5 6,.agg d.cells,.int .i64 0] [.cells false 12 (d.cells ++ (e.cells ++ (f.cells ++ R))),w1,w2,.cells true 0 [.int .u8 s.kind,.int .i8 s.sx,.int .i8 s.sy,.bool s.half,.slice 0 0 k none],.cells true 0 [.nilslice,.nilslice,.str [],.nilslice],.cells true 2 (pC s.P),.cells true 3 (tC s.T),.cells true 0 [.slice 5 0 s.P.length none,.slice 6 0 s.T.length none,.str [98,97,115,101],.nilslice],.cells true 0 d.cells] = some ⟨.agg ev,none,[x1,x2,x3,x4,x5]⟩)
  (hD1 : O (.fn 29) [shB s 5 6,.agg e.cells,.int .i64 1] [.cells false 12 (d.cells ++ (e.cells ++ (f.cells ++ R))),w1,w2,.cells true 0 [.int .u8 s.kind,.int .i8 s.sx,.int .i8 s.sy,.bool s.half,.slice 0 0 k none],.cells true 0 [.nilslice,.nilslice,.str [],.nilslice],.cells true 2 (pC s.P),.cells true 3 (tC s.T),.cells true 0 [.slice 5 0 s.P.length none,.slice 6 0 s.T.length none,.str [98,97,115,101],.slice 15 0 1 none],.cells true 0 d.cells,x1,x2,x3,x4,x5,.cells true 32 ev,.cells true 32 (ev),.cells true 0 e.cells] = some ⟨.agg ew,none,[y1,y2,y3,y4,y5]⟩)
  (hD2 : O (.fn 29) [shB s 5 6,.agg f.cells,.int .i64 2] [.cells false 12 (d.cells ++ (e.cells ++ (f.cells ++ R))),w1,w2,.cells true 0 [.int .u8 s.kind,.int .i8 s.sx,.int .i8 s.sy,.bool s.half,.slice 0 0 k none],.cells true 0 [.nilslice,.nilslice,.str [],.nilslice],.cells true 2 (pC s.P),.cells true 3 (tC s.T),.cells true 0 [.slice 5 0 s.P.length none,.slice 6 0 s.T.length none,.str [98,97,115,101],.slice 23 0 2 none],.cells true 0 d.cells,x1,x2,x3,x4,x5,.cells true 32 ev,.absent,.cells true 0 e.cells,y1,y2,y3,y4,y5,.cells true 32 ew,.cells true 32 (ev ++ ew),.cells true 0 f.cells] = some ⟨.agg eu,none,[z1,z2,z3,z4,z5]⟩)
  (hMk : ∀ M,O (.fn 28) [.agg [.int .u8 s.kind,.int .i8 s.sx,.int .i8 s.sy,.bool s.half]] M = some ⟨shB s M.length (M.length + 1),none,[.cells true 2 (pC s.P),.cells true 3 (tC s.T)]⟩)
  : callRaw (tyOf Tryz.prog) Tryz.mkLv (fnOf Tryz.prog) O 5 8 [.agg [.int .u8 s.kind,.int .i8 s.sx,.int .i8 s.sy,.bool s.half,.slice 0 0 k none]] [.cells false 12 (d.cells ++ (e.cells ++ (f.cells ++ R))),w1,w2] = some (.agg [.slice 5 0 s.P.length none,.slice 6 0 s.T.length none,.str [98,97,115,101],.slice 31 0 3 none],[.cells false 12 (d.cells ++ (e.cells ++ (f.cells ++ R))),w1,w2,.cells true 0 [.int .u8 s.kind,.int .i8 s.sx,.int .i8 s.sy,.bool s.half,.slice 0 0 k none],.cells true 0 [.slice 5 0 s.P.length none,.slice 6 0 s.T.length none,.str [98,97,115,101],.slice 31 0 3 none],.cells true 2 (pC s.P),.cells true 3 (tC s.T),.cells true 0 [.slice 5 0 s.P.length none,.slice 6 0 s.T.length none,.str [98,97,115,101],.slice 31 0 3 none],.cells true 0 d.cells,x1,x2,x3,x4,x5,.cells true 32 ev,.absent,.cells true 0 e.cells,y1,y2,y3,y4,y5,.cells true 32 ew,.absent,.cells true 0 f.cells,z1,z2,z3,z4,z5,.cells true 32 eu,.cells true 32 (ev ++ ew ++ eu)]) := by
 have hG : fnOf Tryz.prog 8 = some Tryz.f8 := by kernel_rfl
 obtain ⟨os,hops⟩ : ∃ os,drawsF Tryz.f8 = os := ⟨_,rfl⟩
 have hbs := draws_map hops (ls := [[0,1,0,4,0,0,60,124,255,511,1023]]) (by kernel_rfl)
 simp only [drawsF,drawsC,Tryz.f8,List.nil_append,List.append_nil,List.cons_append] at hops
 subst hops
 simp only [List.map_cons,List.map_nil,List.cons.injEq,and_true] at hbs
 have k6 : aftAll [0,1,0,4,0,0,60,124,255,511,1023] 11 6 = true := by decide
 have k7 : aftAll [0,1,0,4,0,0,60,124,255,511,1023] 11 7 = true := by decide
 have k8 : aftAll [0,1,0,4,0,0,60,124,255,511,1023] 11 8 = true := by decide
 have k10 : aftAll [0,1,0,4,0,0,60,124,255,511,1023] 11 10 = true := by decide
 have j10 : allBef [0,1,0,4,0,0,60,124,255,511,1023] 10 = true := by decide
 have j8 : allBef [0,1,0,4,0,0,60,124,255,511,1023] 8 = true := by decide
 have sa : ∀ f,Slot.refsOk f Slot.absent = true := fun _ => rfl
 have w1 : IntKind.i64.wrap 1 = 1 := rfl
 have w2 : IntKind.i64.wrap 2 = 2 := rfl
 have w3 : IntKind.i64.wrap 3 = 3 := rfl
 have g0 : (∀ x : AV,x ∈ ev → x.cellOk = true) = True := eq_true fev
 have t0 : List.take 32 ev = ev := List.take_of_length_le (by omega)
 have g1 : (∀ x : AV,x ∈ ew → x.cellOk = true) = True := eq_true few
 have t1 : List.take 32 ew = ew := List.take_of_length_le (by omega)
 have g2 : (∀ x : AV,x ∈ eu → x.cellOk = true) = True := eq_true feu
 have t2 : List.take 32 eu = eu := List.take_of_length_le (by omega)
 have i1 : (3 : Int) ≤ k := by omega
 have i3 : k * 12 ≤ R.length + 36 := by omega
 have i6 : 0 < k := by omega
 have i7 : (if (3 : Int) < k then (3 : Int) else k) = 3 := by split <;> omega
 have r4 : AV.refsOkL (fun b => decide (b < 32)) (ev ++ ew) = true := by rw [refsOkL_append,rev 32 (by decide),rew 32 (by decide)]; rfl
 have t4 : List.take 64 (ev ++ ew) = ev ++ ew := List.take_of_length_le (by rw [List.length_append]; omega)
 obtain ⟨kd0,⟨A10,A20,A30⟩,⟨B10,B20,B30⟩,N0,⟨K10,K20,K30,K40⟩⟩ := d
 obtain ⟨kd1,⟨A11,A21,A31⟩,⟨B11,B21,B31⟩,N1,⟨K11,K21,K31,K41⟩⟩ := e
 obtain ⟨kd2,⟨A12,A22,A32⟩,⟨B12,B22,B32⟩,N2,⟨K12,K22,K32,K42⟩⟩ := f
 simp [shB,Deed.cells] at hD0 hD1 hD2 hMk
 simp [-AV.cellOk,ck_slice,ck_str,ck_int,ck_bool,ck_nil,ck_ptr,g0,t0,g1,t1,g2,t2,callRaw,hG,Tryz.f8,hMk,hD0,hD1,hD2,hev,hew,heu,rev,rew,reu,qx,qy,qz,ownAbs_cells,ownAbs_absent,slotOk_cells,-Slot.refsOk,ax1,ax2,ax3,ax4,ax5,ay1,ay2,ay3,ay4,ay5,az1,az2,az3,az4,az5,i1,i3,i6,i7,r4,t4,Deed.cells,shB,aBuild,fieldPlaces,-runDraw,runDraw_mak hbs,runDrawM,makAll,makRec_own,quietR,k6,k7,k8,k10,j8,sa,j10,Nat.testBit,execC_loop,iter,Tryz.mkLv,w1,w2,w3,maxInt,pC_refs,tC_refs,pC_ok,tC_ok]
theorem Tryz.aMk0_2 (s : Sheet) (hs : s.Ok) (x : Slot) (w1 w2 : Slot) : ∃ p t q evs us new,ACallsTo Tryz.prog 8 [.agg [.int .u8 s.kind,.int .i8 s.sx,.int .i8 s.sy,.bool s.half,.nilslice]] [x,w1,w2] (.agg (hist4 s p t q evs.length)) ([x,w1,w2] ++ new) ∧ Tryz.HstAt s p t q evs us ([x,w1,w2] ++ new) := by
 have hG : fnOf Tryz.prog 8 = some Tryz.f8 := by kernel_rfl
 have w0 : IntKind.i64.wrap 0 = 0 := rfl
 have hMk := fun M => Tryz.mkO_at s M
 simp only [shB] at hMk
 have h : callRaw (tyOf Tryz.prog) Tryz.mkLv (fnOf Tryz.prog) (Tryz.mkO s) 5 8 [.agg [.int .u8 s.kind,.int .i8 s.sx,.int .i8 s.sy,.bool s.half,.nilslice]] [x,w1,w2] = some (.agg [.slice 5 0 s.P.length none,.slice 6 0 s.T.length none,.str [98,97,115,101],.nilslice],[x,w1,w2] ++ [.cells true 0 [.int .u8 s.kind,.int .i8 s.sx,.int .i8 s.sy,.bool s.half,.nilslice],.cells true 0 [.slice 5 0 s.P.length none,.slice 6 0 s.T.length none,.str [98,97,115,101],.nilslice],.cells true 2 (pC s.P),.cells true 3 (tC s.T),.cells true 0 [.slice 5 0 s.P.length none,.slice 6 0 s.T.length none,.str [98,97,115,101],.nilslice]]) := by
  simp [callRaw,hG,Tryz.f8,hMk,aBuild,fieldPlaces,execC_loop,iter,Tryz.mkLv,w0]
 refine ⟨5,6,0,[],[],[.cells true 0 [.int .u8 s.kind,.int .i8 s.sx,.int .i8 s.sy,.bool s.half,.nilslice],.cells true 0 [.slice 5 0 s.P.length none,.slice 6 0 s.T.length none,.str [98,97,115,101],.nilslice],.cells true 2 (pC s.P),.cells true 3 (tC s.T),.cells true 0 [.slice 5 0 s.P.length none,.slice 6 0 s.T.length none,.str [98,97,115,101],.nilslice]],callRaw_sound Tryz.mixed (tyOf_ok _) (Tryz.mkO_ok s hs) (fnOf_ok _) h,?_⟩
 exact { hp := ⟨true,rfl⟩,ht := ⟨true,rfl⟩,hq := fun h => absurd rfl h,len := rfl,small := by simp,l32 := by simp,cok := by simp,ulen := by simp,ndU := by simp,nd := by simp,chk := by simp,un := by simp }
theorem Tryz.aMke_2 (s : Sheet) (hs : s.Ok)  (w1 w2 : Slot) : ∃ p t q evs us new,ACallsTo Tryz.prog 8 [.agg [.int .u8 s.kind,.int .i8 s.sx,.int .i8 s.sy,.bool s.half,.slice 0 0 0 none]] [.cells false 12 [],w1,w2] (.agg (hist4 s p t q evs.length)) ([.cells false 12 [],w1,w2] ++ new) ∧ Tryz.HstAt s p t q evs us ([.cells false 12 [],w1,w2] ++ new) := by
 have hG : fnOf Tryz.prog 8 = some Tryz.f8 := by kernel_rfl
 have w0 : IntKind.i64.wrap 0 = 0 := rfl
 have hMk := fun M => Tryz.mkO_at s M
 simp only [shB] at hMk
 have h : callRaw (tyOf Tryz.prog) Tryz.mkLv (fnOf Tryz.prog) (Tryz.mkO s) 5 8 [.agg [.int .u8 s.kind,.int .i8 s.sx,.int .i8 s.sy,.bool s.half,.slice 0 0 0 none]] [.cells false 12 [],w1,w2] = some (.agg [.slice 5 0 s.P.length none,.slice 6 0 s.T.length none,.str [98,97,115,101],.nilslice],[.cells false 12 [],w1,w2] ++ [.cells true 0 [.int .u8 s.kind,.int .i8 s.sx,.int .i8 s.sy,.bool s.half,.slice 0 0 0 none],.cells true 0 [.slice 5 0 s.P.length none,.slice 6 0 s.T.length none,.str [98,97,115,101],.nilslice],.cells true 2 (pC s.P),.cells true 3 (tC s.T),.cells true 0 [.slice 5 0 s.P.length none,.slice 6 0 s.T.length none,.str [98,97,115,101],.nilslice]]) := by
  simp [callRaw,hG,Tryz.f8,hMk,aBuild,fieldPlaces,execC_loop,iter,Tryz.mkLv,w0]
 refine ⟨5,6,0,[],[],[.cells true 0 [.int .u8 s.kind,.int .i8 s.sx,.int .i8 s.sy,.bool s.half,.slice 0 0 0 none],.cells true 0 [.slice 5 0 s.P.length none,.slice 6 0 s.T.length none,.str [98,97,115,101],.nilslice],.cells true 2 (pC s.P),.cells true 3 (tC s.T),.cells true 0 [.slice 5 0 s.P.length none,.slice 6 0 s.T.length none,.str [98,97,115,101],.nilslice]],callRaw_sound Tryz.mixed (tyOf_ok _) (Tryz.mkO_ok s hs) (fnOf_ok _) h,?_⟩
 exact { hp := ⟨true,rfl⟩,ht := ⟨true,rfl⟩,hq := fun h => absurd rfl h,len := rfl,small := by simp,l32 := by simp,cok := by simp,ulen := by simp,ndU := by simp,nd := by simp,chk := by simp,un := by simp }
set_option maxHeartbeats 4000000 in
theorem Tryz.aMk1_2 (s : Sheet) (hs : s.Ok) (d : Deed) (od : d.Ok) (w1 w2 : Slot) : ∃ p t q evs us new,ACallsTo Tryz.prog 8 [.agg [.int .u8 s.kind,.int .i8 s.sx,.int .i8 s.sy,.bool s.half,.slice 0 0 1 none]] [.cells false 12 d.cells,w1,w2] (.agg (hist4 s p t q evs.length)) ([.cells false 12 d.cells,w1,w2] ++ new) ∧ Tryz.HstAt s p t q evs us ([.cells false 12 d.cells,w1,w2] ++ new) := by
 obtain ⟨ev,x1,x2,x3,x4,x5,c01,c02,c03,⟨c04,c08⟩,c05,c06,⟨ax1,ax2,ax3,ax4,ax5⟩,c07⟩ := Tryz.dealt6 s d od 0 (by decide) [.cells false 12 d.cells,w1,w2,.cells true 0 [.int .u8 s.kind,.int .i8 s.sx,.int .i8 s.sy,.bool s.half,.slice 0 0 1 none],.cells true 0 [.nilslice,.nilslice,.str [],.nilslice],.cells true 2 (pC s.P),.cells true 3 (tC s.T),.cells true 0 [.slice 5 0 s.P.length none,.slice 6 0 s.T.length none,.str [98,97,115,101],.nilslice],.cells true 0 d.cells] 5 6 true true rfl rfl
 have hF : OracleOk Tryz.prog (factC [(29,[shB s 5 6,.agg d.cells,.int .i64 0],[.cells false 12 d.cells,w1,w2,.cells true 0 [.int .u8 s.kind,.int .i8 s.sx,.int .i8 s.sy,.bool s.half,.slice 0 0 1 none],.cells true 0 [.nilslice,.nilslice,.str [],.nilslice],.cells true 2 (pC s.P),.cells true 3 (tC s.T),.cells true 0 [.slice 5 0 s.P.length none,.slice 6 0 s.T.length none,.str [98,97,115,101],.nilslice],.cells true 0 d.cells],⟨.agg ev,none,[x1,x2,x3,x4,x5]⟩)]) := factC_ok fun y hy => by
  simp only [List.mem_cons,List.not_mem_nil,or_false] at hy
  subst hy
  exact ⟨by simpa [CallRes.mem] using c01,by simp⟩
 obtain ⟨FO,hFO⟩ : ∃ FO,FO = factC [(29,[shB s 5 6,.agg d.cells,.int .i64 0],[.cells false 12 d.cells,w1,w2,.cells true 0 [.int .u8 s.kind,.int .i8 s.sx,.int .i8 s.sy,.bool s.half,.slice 0 0 1 none],.cells true 0 [.nilslice,.nilslice,.str [],.nilslice],.cells true 2 (pC s.P),.cells true 3 (tC s.T),.cells true 0 [.slice 5 0 s.P.length none,.slice 6 0 s.T.length none,.str [98,97,115,101],.nilslice],.cells true 0 d.cells],⟨.agg ev,none,[x1,x2,x3,x4,x5]⟩)] := ⟨_,rfl⟩
 have g0 : FO (.fn 29) [shB s 5 6,.agg d.cells,.int .i64 0] [.cells false 12 d.cells,w1,w2,.cells true 0 [.int .u8 s.kind,.int .i8 s.sx,.int .i8 s.sy,.bool s.half,.slice 0 0 1 none],.cells true 0 [.nilslice,.nilslice,.str [],.nilslice],.cells true 2 (pC s.P),.cells true 3 (tC s.T),.cells true 0 [.slice 5 0 s.P.length none,.slice 6 0 s.T.length none,.str [98,97,115,101],.nilslice],.cells true 0 d.cells] = some ⟨.agg ev,none,[x1,x2,x3,x4,x5]⟩ := by
  rw [hFO]; exact factC_hd
 have gM : ∀ a M,FO (.fn 28) a M = none := fun a M => by rw [hFO]; simp [factC]
 rw [← hFO] at hF
 have hr := callRaw_sound Tryz.mixed (tyOf_ok _) (OracleOk.or hF (Tryz.mkO_ok s hs)) (fnOf_ok _) (Tryz.make1_2 (Oracle.or FO (Tryz.mkO s)) s d w1 w2 ev x1 x2 x3 x4 x5 c04 c05 (fun k hk => c06 k hk) ax1 ax2 ax3 ax4 ax5 (fun k hk => c07 k hk) (or_some g0) (fun M => (or_none (gM _ _)).trans (Tryz.mkO_at s M)))
 clear hF gM g0
 clear hFO
 refine ⟨5,6,15,[ev],[unitsD d 0],[.cells true 0 [.int .u8 s.kind,.int .i8 s.sx,.int .i8 s.sy,.bool s.half,.slice 0 0 1 none],.cells true 0 [.slice 5 0 s.P.length none,.slice 6 0 s.T.length none,.str [98,97,115,101],.slice 15 0 1 none],.cells true 2 (pC s.P),.cells true 3 (tC s.T),.cells true 0 [.slice 5 0 s.P.length none,.slice 6 0 s.T.length none,.str [98,97,115,101],.slice 15 0 1 none],.cells true 0 d.cells,x1,x2,x3,x4,x5,.cells true 32 ev,.cells true 32 (ev)],hr,?_⟩
 exact {
  hp := ⟨true,rfl⟩
  ht := ⟨true,rfl⟩
  hq := fun _ => ⟨true,by simp⟩
  len := rfl
  small := by simp
  l32 := fun e he => by
   simp only [List.mem_cons,List.not_mem_nil,or_false] at he
   rcases he with rfl
   ·exact c04
  cok := fun e he => by
   simp only [List.mem_cons,List.not_mem_nil,or_false] at he
   rcases he with rfl
   ·exact c05
  ulen := fun U hU => by
   simp only [List.mem_cons,List.not_mem_nil,or_false] at hU
   rcases hU with rfl
   ·exact unitsD_le _ (by decide)
  ndU := by simpa using units_nodup1 d
  nd := fun i j e h1 h2 => by
   have key : ∀ (i : Nat) e',[ev][i]? = some e' → e'[1]? = some (.str (evName i)) ∧ i < 1 := fun i e' h => by
    match i,h with
    | 0,h => simp at h; subst h; exact ⟨c08,by decide⟩
    | i + 1,h => simp at h
   obtain ⟨k1,k2⟩ := key i e h1
   obtain ⟨k3,k4⟩ := key j e h2
   rw [k1] at k3
   exact evName_inj (by omega) (by omega) (AV.str.inj (Option.some.inj k3))
  chk := fun e he Z => by
   simp only [List.mem_cons,List.not_mem_nil,or_false] at he
   rcases he with rfl
   ·exact c02 _ _ _ rfl rfl (keeps5 rfl rfl rfl rfl rfl)
  un := fun i e U h1 h2 Z => by
   match i,h1,h2 with
   | 0,h1,h2 => simp at h1 h2; subst h1; subst h2; exact c03 _ (keeps5 rfl rfl rfl rfl rfl)
   | i + 1,h1,h2 => simp at h1 }
set_option maxHeartbeats 4000000 in
theorem Tryz.aMk2_2 (s : Sheet) (hs : s.Ok) (d e : Deed) (od : d.Ok) (oe : e.Ok) (w1 w2 : Slot) : ∃ p t q evs us new,ACallsTo Tryz.prog 8 [.agg [.int .u8 s.kind,.int .i8 s.sx,.int .i8 s.sy,.bool s.half,.slice 0 0 2 none]] [.cells false 12 (d.cells ++ e.cells),w1,w2] (.agg (hist4 s p t q evs.length)) ([.cells false 12 (d.cells ++ e.cells),w1,w2] ++ new) ∧ Tryz.HstAt s p t q evs us ([.cells false 12 (d.cells ++ e.cells),w1,w2] ++ new) := by
 obtain ⟨ev,x1,x2,x3,x4,x5,c01,c02,c03,⟨c04,c08⟩,c05,c06,⟨ax1,ax2,ax3,ax4,ax5⟩,c07⟩ := Tryz.dealt6 s d od 0 (by decide) [.cells false 12 (d.cells ++ e.cells),w1,w2,.cells true 0 [.int .u8 s.kind,.int .i8 s.sx,.int .i8 s.sy,.bool s.half,.slice 0 0 2 none],.cells true 0 [.nilslice,.nilslice,.str [],.nilslice],.cells true 2 (pC s.P),.cells true 3 (tC s.T),.cells true 0 [.slice 5 0 s.P.length none,.slice 6 0 s.T.length none,.str [98,97,115,101],.nilslice],.cells true 0 d.cells] 5 6 true true rfl rfl
 obtain ⟨ew,y1,y2,y3,y4,y5,c11,c12,c13,⟨c14,c18⟩,c15,c16,⟨ay1,ay2,ay3,ay4,ay5⟩,c17⟩ := Tryz.dealt6 s e oe 1 (by decide) [.cells false 12 (d.cells ++ e.cells),w1,w2,.cells true 0 [.int .u8 s.kind,.int .i8 s.sx,.int .i8 s.sy,.bool s.half,.slice 0 0 2 none],.cells true 0 [.nilslice,.nilslice,.str [],.nilslice],.cells true 2 (pC s.P),.cells true 3 (tC s.T),.cells true 0 [.slice 5 0 s.P.length none,.slice 6 0 s.T.length none,.str [98,97,115,101],.slice 15 0 1 none],.cells true 0 d.cells,x1,x2,x3,x4,x5,.cells true 32 ev,.cells true 32 (ev),.cells true 0 e.cells] 5 6 true true rfl rfl
 have hF : OracleOk Tryz.prog (factC [(29,[shB s 5 6,.agg d.cells,.int .i64 0],[.cells false 12 (d.cells ++ e.cells),w1,w2,.cells true 0 [.int .u8 s.kind,.int .i8 s.sx,.int .i8 s.sy,.bool s.half,.slice 0 0 2 none],.cells true 0 [.nilslice,.nilslice,.str [],.nilslice],.cells true 2 (pC s.P),.cells true 3 (tC s.T),.cells true 0 [.slice 5 0 s.P.length none,.slice 6 0 s.T.length none,.str [98,97,115,101],.nilslice],.cells true 0 d.cells],⟨.agg ev,none,[x1,x2,x3,x4,x5]⟩),(29,[shB s 5 6,.agg e.cells,.int .i64 1],[.cells false 12 (d.cells ++ e.cells),w1,w2,.cells true 0 [.int .u8 s.kind,.int .i8 s.sx,.int .i8 s.sy,.bool s.half,.slice 0 0 2 none],.cells true 0 [.nilslice,.nilslice,.str [],.nilslice],.cells true 2 (pC s.P),.cells true 3 (tC s.T),.cells true 0 [.slice 5 0 s.P.length none,.slice 6 0 s.T.length none,.str [98,97,115,101],.slice 15 0 1 none],.cells true 0 d.cells,x1,x2,x3,x4,x5,.cells true 32 ev,.cells true 32 (ev),.cells true 0 e.cells],⟨.agg ew,none,[y1,y2,y3,y4,y5]⟩)]) := factC_ok fun y hy => by
  simp only [List.mem_cons,List.not_mem_nil,or_false] at hy
  rcases hy with rfl | rfl
  ·exact ⟨by simpa [CallRes.mem] using c01,by simp⟩
  ·exact ⟨by simpa [CallRes.mem] using c11,by simp⟩
 obtain ⟨FO,hFO⟩ : ∃ FO,FO = factC [(29,[shB s 5 6,.agg d.cells,.int .i64 0],[.cells false 12 (d.cells ++ e.cells),w1,w2,.cells true 0 [.int .u8 s.kind,.int .i8 s.sx,.int .i8 s.sy,.bool s.half,.slice 0 0 2 none],.cells true 0 [.nilslice,.nilslice,.str [],.nilslice],.cells true 2 (pC s.P),.cells true 3 (tC s.T),.cells true 0 [.slice 5 0 s.P.length none,.slice 6 0 s.T.length none,.str [98,97,115,101],.nilslice],.cells true 0 d.cells],⟨.agg ev,none,[x1,x2,x3,x4,x5]⟩),(29,[shB s 5 6,.agg e.cells,.int .i64 1],[.cells false 12 (d.cells ++ e.cells),w1,w2,.cells true 0 [.int .u8 s.kind,.int .i8 s.sx,.int .i8 s.sy,.bool s.half,.slice 0 0 2 none],.cells true 0 [.nilslice,.nilslice,.str [],.nilslice],.cells true 2 (pC s.P),.cells true 3 (tC s.T),.cells true 0 [.slice 5 0 s.P.length none,.slice 6 0 s.T.length none,.str [98,97,115,101],.slice 15 0 1 none],.cells true 0 d.cells,x1,x2,x3,x4,x5,.cells true 32 ev,.cells true 32 (ev),.cells true 0 e.cells],⟨.agg ew,none,[y1,y2,y3,y4,y5]⟩)] := ⟨_,rfl⟩
 have g0 : FO (.fn 29) [shB s 5 6,.agg d.cells,.int .i64 0] [.cells false 12 (d.cells ++ e.cells),w1,w2,.cells true 0 [.int .u8 s.kind,.int .i8 s.sx,.int .i8 s.sy,.bool s.half,.slice 0 0 2 none],.cells true 0 [.nilslice,.nilslice,.str [],.nilslice],.cells true 2 (pC s.P),.cells true 3 (tC s.T),.cells true 0 [.slice 5 0 s.P.length none,.slice 6 0 s.T.length none,.str [98,97,115,101],.nilslice],.cells true 0 d.cells] = some ⟨.agg ev,none,[x1,x2,x3,x4,x5]⟩ := by
  rw [hFO]; exact factC_hd
 have g1 : FO (.fn 29) [shB s 5 6,.agg e.cells,.int .i64 1] [.cells false 12 (d.cells ++ e.cells),w1,w2,.cells true 0 [.int .u8 s.kind,.int .i8 s.sx,.int .i8 s.sy,.bool s.half,.slice 0 0 2 none],.cells true 0 [.nilslice,.nilslice,.str [],.nilslice],.cells true 2 (pC s.P),.cells true 3 (tC s.T),.cells true 0 [.slice 5 0 s.P.length none,.slice 6 0 s.T.length none,.str [98,97,115,101],.slice 15 0 1 none],.cells true 0 d.cells,x1,x2,x3,x4,x5,.cells true 32 ev,.cells true 32 (ev),.cells true 0 e.cells] = some ⟨.agg ew,none,[y1,y2,y3,y4,y5]⟩ := by
  rw [hFO]; rw [factC_tl (by intro e; simp at e)]; exact factC_hd
 have gM : ∀ a M,FO (.fn 28) a M = none := fun a M => by rw [hFO]; simp [factC]
 rw [← hFO] at hF
 have hr := callRaw_sound Tryz.mixed (tyOf_ok _) (OracleOk.or hF (Tryz.mkO_ok s hs)) (fnOf_ok _) (Tryz.make2_2 (Oracle.or FO (Tryz.mkO s)) s d e w1 w2 ev x1 x2 x3 x4 x5 c04 c05 (fun k hk => c06 k hk) ax1 ax2 ax3 ax4 ax5 (fun k hk => c07 k hk) ew y1 y2 y3 y4 y5 c14 c15 (fun k hk => c16 k hk) ay1 ay2 ay3 ay4 ay5 (fun k hk => c17 k hk) (or_some g0) (or_some g1) (fun M => (or_none (gM _ _)).trans (Tryz.mkO_at s M)))
 clear hF gM g0 g1
 clear hFO
 refine ⟨5,6,23,[ev,ew],[unitsD d 0,unitsD e 1],[.cells true 0 [.int .u8 s.kind,.int .i8 s.sx,.int .i8 s.sy,.bool s.half,.slice 0 0 2 none],.cells true 0 [.slice 5 0 s.P.length none,.slice 6 0 s.T.length none,.str [98,97,115,101],.slice 23 0 2 none],.cells true 2 (pC s.P),.cells true 3 (tC s.T),.cells true 0 [.slice 5 0 s.P.length none,.slice 6 0 s.T.length none,.str [98,97,115,101],.slice 23 0 2 none],.cells true 0 d.cells,x1,x2,x3,x4,x5,.cells true 32 ev,.absent,.cells true 0 e.cells,y1,y2,y3,y4,y5,.cells true 32 ew,.cells true 32 (ev ++ ew)],hr,?_⟩
 exact {
  hp := ⟨true,rfl⟩
  ht := ⟨true,rfl⟩
  hq := fun _ => ⟨true,by simp⟩
  len := rfl
  small := by simp
  l32 := fun e he => by
   simp only [List.mem_cons,List.not_mem_nil,or_false] at he
   rcases he with rfl | rfl
   ·exact c04
   ·exact c14
  cok := fun e he => by
   simp only [List.mem_cons,List.not_mem_nil,or_false] at he
   rcases he with rfl | rfl
   ·exact c05
   ·exact c15
  ulen := fun U hU => by
   simp only [List.mem_cons,List.not_mem_nil,or_false] at hU
   rcases hU with rfl | rfl
   ·exact unitsD_le _ (by decide)
   ·exact unitsD_le _ (by decide)
  ndU := by simpa using units_nodup2 d e
  nd := fun i j e h1 h2 => by
   have key : ∀ (i : Nat) e',[ev,ew][i]? = some e' → e'[1]? = some (.str (evName i)) ∧ i < 2 := fun i e' h => by
    match i,h with
    | 0,h => simp at h; subst h; exact ⟨c08,by decide⟩
    | 1,h => simp at h; subst h; exact ⟨c18,by decide⟩
    | i + 2,h => simp at h
   obtain ⟨k1,k2⟩ := key i e h1
   obtain ⟨k3,k4⟩ := key j e h2
   rw [k1] at k3
   exact evName_inj (by omega) (by omega) (AV.str.inj (Option.some.inj k3))
  chk := fun e he Z => by
   simp only [List.mem_cons,List.not_mem_nil,or_false] at he
   rcases he with rfl | rfl
   ·exact c02 _ _ _ rfl rfl (keeps5 rfl rfl rfl rfl rfl)
   ·exact c12 _ _ _ rfl rfl (keeps5 rfl rfl rfl rfl rfl)
  un := fun i e U h1 h2 Z => by
   match i,h1,h2 with
   | 0,h1,h2 => simp at h1 h2; subst h1; subst h2; exact c03 _ (keeps5 rfl rfl rfl rfl rfl)
   | 1,h1,h2 => simp at h1 h2; subst h1; subst h2; exact c13 _ (keeps5 rfl rfl rfl rfl rfl)
   | i + 2,h1,h2 => simp at h1 }
set_option maxHeartbeats 4000000 in
theorem Tryz.aMk3_2 (s : Sheet) (hs : s.Ok) (d e f : Deed) (od : d.Ok) (oe : e.Ok) (of : f.Ok) (w1 w2 : Slot) : ∃ p t q evs us new,ACallsTo Tryz.prog 8 [.agg [.int .u8 s.kind,.int .i8 s.sx,.int .i8 s.sy,.bool s.half,.slice 0 0 3 none]] [.cells false 12 (d.cells ++ (e.cells ++ (f.cells ++ []))),w1,w2] (.agg (hist4 s p t q evs.length)) ([.cells false 12 (d.cells ++ (e.cells ++ (f.cells ++ []))),w1,w2] ++ new) ∧ Tryz.HstAt s p t q evs us ([.cells false 12 (d.cells ++ (e.cells ++ (f.cells ++ []))),w1,w2] ++ new) := by
 obtain ⟨ev,x1,x2,x3,x4,x5,c01,c02,c03,⟨c04,c08⟩,c05,c06,⟨ax1,ax2,ax3,ax4,ax5⟩,c07⟩ := Tryz.dealt6 s d od 0 (by decide) [.cells false 12 (d.cells ++ (e.cells ++ (f.cells ++ []))),w1,w2,.cells true 0 [.int .u8 s.kind,.int .i8 s.sx,.int .i8 s.sy,.bool s.half,.slice 0 0 3 none],.cells true 0 [.nilslice,.nilslice,.str [],.nilslice],.cells true 2 (pC s.P),.cells true 3 (tC s.T),.cells true 0 [.slice 5 0 s.P.length none,.slice 6 0 s.T.length none,.str [98,97,115,101],.nilslice],.cells true 0 d.cells] 5 6 true true rfl rfl
 obtain ⟨ew,y1,y2,y3,y4,y5,c11,c12,c13,⟨c14,c18⟩,c15,c16,⟨ay1,ay2,ay3,ay4,ay5⟩,c17⟩ := Tryz.dealt6 s e oe 1 (by decide) [.cells false 12 (d.cells ++ (e.cells ++ (f.cells ++ []))),w1,w2,.cells true 0 [.int .u8 s.kind,.int .i8 s.sx,.int .i8 s.sy,.bool s.half,.slice 0 0 3 none],.cells true 0 [.nilslice,.nilslice,.str [],.nilslice],.cells true 2 (pC s.P),.cells true 3 (tC s.T),.cells true 0 [.slice 5 0 s.P.length none,.slice 6 0 s.T.length none,.str [98,97,115,101],.slice 15 0 1 none],.cells true 0 d.cells,x1,x2,x3,x4,x5,.cells true 32 ev,.cells true 32 (ev),.cells true 0 e.cells] 5 6 true true rfl rfl
 obtain ⟨eu,z1,z2,z3,z4,z5,c21,c22,c23,⟨c24,c28⟩,c25,c26,⟨az1,az2,az3,az4,az5⟩,c27⟩ := Tryz.dealt6 s f of 2 (by decide) [.cells false 12 (d.cells ++ (e.cells ++ (f.cells ++ []))),w1,w2,.cells true 0 [.int .u8 s.kind,.int .i8 s.sx,.int .i8 s.sy,.bool s.half,.slice 0 0 3 none],.cells true 0 [.nilslice,.nilslice,.str [],.nilslice],.cells true 2 (pC s.P),.cells true 3 (tC s.T),.cells true 0 [.slice 5 0 s.P.length none,.slice 6 0 s.T.length none,.str [98,97,115,101],.slice 23 0 2 none],.cells true 0 d.cells,x1,x2,x3,x4,x5,.cells true 32 ev,.absent,.cells true 0 e.cells,y1,y2,y3,y4,y5,.cells true 32 ew,.cells true 32 (ev ++ ew),.cells true 0 f.cells] 5 6 true true rfl rfl
 have hF : OracleOk Tryz.prog (factC [(29,[shB s 5 6,.agg d.cells,.int .i64 0],[.cells false 12 (d.cells ++ (e.cells ++ (f.cells ++ []))),w1,w2,.cells true 0 [.int .u8 s.kind,.int .i8 s.sx,.int .i8 s.sy,.bool s.half,.slice 0 0 3 none],.cells true 0 [.nilslice,.nilslice,.str [],.nilslice],.cells true 2 (pC s.P),.cells true 3 (tC s.T),.cells true 0 [.slice 5 0 s.P.length none,.slice 6 0 s.T.length none,.str [98,97,115,101],.nilslice],.cells true 0 d.cells],⟨.agg ev,none,[x1,x2,x3,x4,x5]⟩),(29,[shB s 5 6,.agg e.cells,.int .i64 1],[.cells false 12 (d.cells ++ (e.cells ++ (f.cells ++ []))),w1,w2,.cells true 0 [.int .u8 s.kind,.int .i8 s.sx,.int .i8 s.sy,.bool s.half,.slice 0 0 3 none],.cells true 0 [.nilslice,.nilslice,.str [],.nilslice],.cells true 2 (pC s.P),.cells true 3 (tC s.T),.cells true 0 [.slice 5 0 s.P.length none,.slice 6 0 s.T.length none,.str [98,97,115,101],.slice 15 0 1 none],.cells true 0 d.cells,x1,x2,x3,x4,x5,.cells true 32 ev,.cells true 32 (ev),.cells true 0 e.cells],⟨.agg ew,none,[y1,y2,y3,y4,y5]⟩),(29,[shB s 5 6,.agg f.cells,.int .i64 2],[.cells false 12 (d.cells ++ (e.cells ++ (f.cells ++ []))),w1,w2,.cells true 0 [.int .u8 s.kind,.int .i8 s.sx,.int .i8 s.sy,.bool s.half,.slice 0 0 3 none],.cells true 0 [.nilslice,.nilslice,.str [],.nilslice],.cells true 2 (pC s.P),.cells true 3 (tC s.T),.cells true 0 [.slice 5 0 s.P.length none,.slice 6 0 s.T.length none,.str [98,97,115,101],.slice 23 0 2 none],.cells true 0 d.cells,x1,x2,x3,x4,x5,.cells true 32 ev,.absent,.cells true 0 e.cells,y1,y2,y3,y4,y5,.cells true 32 ew,.cells true 32 (ev ++ ew),.cells true 0 f.cells],⟨.agg eu,none,[z1,z2,z3,z4,z5]⟩)]) := factC_ok fun y hy => by
  simp only [List.mem_cons,List.not_mem_nil,or_false] at hy
  rcases hy with rfl | rfl | rfl
  ·exact ⟨by simpa [CallRes.mem] using c01,by simp⟩
  ·exact ⟨by simpa [CallRes.mem] using c11,by simp⟩
  ·exact ⟨by simpa [CallRes.mem] using c21,by simp⟩
 obtain ⟨FO,hFO⟩ : ∃ FO,FO = factC [(29,[shB s 5 6,.agg d.cells,.int .i64 0],[.cells false 12 (d.cells ++ (e.cells ++ (f.cells ++ []))),w1,w2,.cells true 0 [.int .u8 s.kind,.int .i8 s.sx,.int .i8 s.sy,.bool s.half,.slice 0 0 3 none],.cells true 0 [.nilslice,.nilslice,.str [],.nilslice],.cells true 2 (pC s.P),.cells true 3 (tC s.T),.cells true 0 [.slice 5 0 s.P.length none,.slice 6 0 s.T.length none,.str [98,97,115,101],.nilslice],.cells true 0 d.cells],⟨.agg ev,none,[x1,x2,x3,x4,x5]⟩),(29,[shB s 5 6,.agg e.cells,.int .i64 1],[.cells false 12 (d.cells ++ (e.cells ++ (f.cells ++ []))),w1,w2,.cells true 0 [.int .u8 s.kind,.int .i8 s.sx,.int .i8 s.sy,.bool s.half,.slice 0 0 3 none],.cells true 0 [.nilslice,.nilslice,.str [],.nilslice],.cells true 2 (pC s.P),.cells true 3 (tC s.T),.cells true 0 [.slice 5 0 s.P.length none,.slice 6 0 s.T.length none,.str [98,97,115,101],.slice 15 0 1 none],.cells true 0 d.cells,x1,x2,x3,x4,x5,.cells true 32 ev,.cells true 32 (ev),.cells true 0 e.cells],⟨.agg ew,none,[y1,y2,y3,y4,y5]⟩),(29,[shB s 5 6,.agg f.cells,.int .i64 2],[.cells false 12 (d.cells ++ (e.cells ++ (f.cells ++ []))),w1,w2,.cells true 0 [.int .u8 s.kind,.int .i8 s.sx,.int .i8 s.sy,.bool s.half,.slice 0 0 3 none],.cells true 0 [.nilslice,.nilslice,.str [],.nilslice],.cells true 2 (pC s.P),.cells true 3 (tC s.T),.cells true 0 [.slice 5 0 s.P.length none,.slice 6 0 s.T.length none,.str [98,97,115,101],.slice 23 0 2 none],.cells true 0 d.cells,x1,x2,x3,x4,x5,.cells true 32 ev,.absent,.cells true 0 e.cells,y1,y2,y3,y4,y5,.cells true 32 ew,.cells true 32 (ev ++ ew),.cells true 0 f.cells],⟨.agg eu,none,[z1,z2,z3,z4,z5]⟩)] := ⟨_,rfl⟩
 have g0 : FO (.fn 29) [shB s 5 6,.agg d.cells,.int .i64 0] [.cells false 12 (d.cells ++ (e.cells ++ (f.cells ++ []))),w1,w2,.cells true 0 [.int .u8 s.kind,.int .i8 s.sx,.int .i8 s.sy,.bool s.half,.slice 0 0 3 none],.cells true 0 [.nilslice,.nilslice,.str [],.nilslice],.cells true 2 (pC s.P),.cells true 3 (tC s.T),.cells true 0 [.slice 5 0 s.P.length none,.slice 6 0 s.T.length none,.str [98,97,115,101],.nilslice],.cells true 0 d.cells] = some ⟨.agg ev,none,[x1,x2,x3,x4,x5]⟩ := by
  rw [hFO]; exact factC_hd
 have g1 : FO (.fn 29) [shB s 5 6,.agg e.cells,.int .i64 1] [.cells false 12 (d.cells ++ (e.cells ++ (f.cells ++ []))),w1,w2,.cells true 0 [.int .u8 s.kind,.int .i8 s.sx,.int .i8 s.sy,.bool s.half,.slice 0 0 3 none],.cells true 0 [.nilslice,.nilslice,.str [],.nilslice],.cells true 2 (pC s.P),.cells true 3 (tC s.T),.cells true 0 [.slice 5 0 s.P.length none,.slice 6 0 s.T.length none,.str [98,97,115,101],.slice 15 0 1 none],.cells true 0 d.cells,x1,x2,x3,x4,x5,.cells true 32 ev,.cells true 32 (ev),.cells true 0 e.cells] = some ⟨.agg ew,none,[y1,y2,y3,y4,y5]⟩ := by
  rw [hFO]; rw [factC_tl (by intro e; simp at e)]; exact factC_hd
 have g2 : FO (.fn 29) [shB s 5 6,.agg f.cells,.int .i64 2] [.cells false 12 (d.cells ++ (e.cells ++ (f.cells ++ []))),w1,w2,.cells true 0 [.int .u8 s.kind,.int .i8 s.sx,.int .i8 s.sy,.bool s.half,.slice 0 0 3 none],.cells true 0 [.nilslice,.nilslice,.str [],.nilslice],.cells true 2 (pC s.P),.cells true 3 (tC s.T),.cells true 0 [.slice 5 0 s.P.length none,.slice 6 0 s.T.length none,.str [98,97,115,101],.slice 23 0 2 none],.cells true 0 d.cells,x1,x2,x3,x4,x5,.cells true 32 ev,.absent,.cells true 0 e.cells,y1,y2,y3,y4,y5,.cells true 32 ew,.cells true 32 (ev ++ ew),.cells true 0 f.cells] = some ⟨.agg eu,none,[z1,z2,z3,z4,z5]⟩ := by
  rw [hFO]; rw [factC_tl (by intro e; simp at e)]; rw [factC_tl (by intro e; simp at e)]; exact factC_hd
 have gM : ∀ a M,FO (.fn 28) a M = none := fun a M => by rw [hFO]; simp [factC]
 rw [← hFO] at hF
 have hr := callRaw_sound Tryz.mixed (tyOf_ok _) (OracleOk.or hF (Tryz.mkO_ok s hs)) (fnOf_ok _) (Tryz.make3_2 (Oracle.or FO (Tryz.mkO s)) s d e f [] 3 (by decide) (by decide) (by simp) w1 w2 ev x1 x2 x3 x4 x5 c04 c05 (fun k hk => c06 k hk) ax1 ax2 ax3 ax4 ax5 (fun k hk => c07 k hk) ew y1 y2 y3 y4 y5 c14 c15 (fun k hk => c16 k hk) ay1 ay2 ay3 ay4 ay5 (fun k hk => c17 k hk) eu z1 z2 z3 z4 z5 c24 c25 (fun k hk => c26 k hk) az1 az2 az3 az4 az5 (fun k hk => c27 k hk) (or_some g0) (or_some g1) (or_some g2) (fun M => (or_none (gM _ _)).trans (Tryz.mkO_at s M)))
 clear hF gM g0 g1 g2
 clear hFO
 refine ⟨5,6,31,[ev,ew,eu],[unitsD d 0,unitsD e 1,unitsD f 2],[.cells true 0 [.int .u8 s.kind,.int .i8 s.sx,.int .i8 s.sy,.bool s.half,.slice 0 0 3 none],.cells true 0 [.slice 5 0 s.P.length none,.slice 6 0 s.T.length none,.str [98,97,115,101],.slice 31 0 3 none],.cells true 2 (pC s.P),.cells true 3 (tC s.T),.cells true 0 [.slice 5 0 s.P.length none,.slice 6 0 s.T.length none,.str [98,97,115,101],.slice 31 0 3 none],.cells true 0 d.cells,x1,x2,x3,x4,x5,.cells true 32 ev,.absent,.cells true 0 e.cells,y1,y2,y3,y4,y5,.cells true 32 ew,.absent,.cells true 0 f.cells,z1,z2,z3,z4,z5,.cells true 32 eu,.cells true 32 (ev ++ ew ++ eu)],hr,?_⟩
 exact {
  hp := ⟨true,rfl⟩
  ht := ⟨true,rfl⟩
  hq := fun _ => ⟨true,by simp⟩
  len := rfl
  small := by simp
  l32 := fun e he => by
   simp only [List.mem_cons,List.not_mem_nil,or_false] at he
   rcases he with rfl | rfl | rfl
   ·exact c04
   ·exact c14
   ·exact c24
  cok := fun e he => by
   simp only [List.mem_cons,List.not_mem_nil,or_false] at he
   rcases he with rfl | rfl | rfl
   ·exact c05
   ·exact c15
   ·exact c25
  ulen := fun U hU => by
   simp only [List.mem_cons,List.not_mem_nil,or_false] at hU
   rcases hU with rfl | rfl | rfl
   ·exact unitsD_le _ (by decide)
   ·exact unitsD_le _ (by decide)
   ·exact unitsD_le _ (by decide)
  ndU := by simpa using units_nodup3 d e f
  nd := fun i j e h1 h2 => by
   have key : ∀ (i : Nat) e',[ev,ew,eu][i]? = some e' → e'[1]? = some (.str (evName i)) ∧ i < 3 := fun i e' h => by
    match i,h with
    | 0,h => simp at h; subst h; exact ⟨c08,by decide⟩
    | 1,h => simp at h; subst h; exact ⟨c18,by decide⟩
    | 2,h => simp at h; subst h; exact ⟨c28,by decide⟩
    | i + 3,h => simp at h
   obtain ⟨k1,k2⟩ := key i e h1
   obtain ⟨k3,k4⟩ := key j e h2
   rw [k1] at k3
   exact evName_inj (by omega) (by omega) (AV.str.inj (Option.some.inj k3))
  chk := fun e he Z => by
   simp only [List.mem_cons,List.not_mem_nil,or_false] at he
   rcases he with rfl | rfl | rfl
   ·exact c02 _ _ _ rfl rfl (keeps5 rfl rfl rfl rfl rfl)
   ·exact c12 _ _ _ rfl rfl (keeps5 rfl rfl rfl rfl rfl)
   ·exact c22 _ _ _ rfl rfl (keeps5 rfl rfl rfl rfl rfl)
  un := fun i e U h1 h2 Z => by
   match i,h1,h2 with
   | 0,h1,h2 => simp at h1 h2; subst h1; subst h2; exact c03 _ (keeps5 rfl rfl rfl rfl rfl)
   | 1,h1,h2 => simp at h1 h2; subst h1; subst h2; exact c13 _ (keeps5 rfl rfl rfl rfl rfl)
   | 2,h1,h2 => simp at h1 h2; subst h1; subst h2; exact c23 _ (keeps5 rfl rfl rfl rfl rfl)
   | i + 3,h1,h2 => simp at h1 }
theorem Tryz.aMake_2 (s : Sheet) (hs : s.Ok) (ds : List Deed) (hd : ∀ d ∈ ds,d.Ok) (h3 : ds.length ≤ 3) (x : Slot) (a : AV) (w1 w2 : Slot) (hx : PlanAt ds x a) : ∃ p t q evs us new,ACallsTo Tryz.prog 8 [.agg [.int .u8 s.kind,.int .i8 s.sx,.int .i8 s.sy,.bool s.half,a]] [x,w1,w2] (.agg (hist4 s p t q evs.length)) ([x,w1,w2] ++ new) ∧ Tryz.HstAt s p t q evs us ([x,w1,w2] ++ new) := by
 rcases hx with ⟨rfl,rfl⟩ | ⟨rfl,rfl⟩
 ·exact Tryz.aMk0_2 s hs x w1 w2
 ·match ds,hd,h3 with
  | [],_,_ => exact Tryz.aMke_2 s hs w1 w2
  | [d],hd,_ => have := Tryz.aMk1_2 s hs d (hd d (by simp)) w1 w2; simpa [deedsC] using this
  | [d,e],hd,_ => have := Tryz.aMk2_2 s hs d e (hd d (by simp)) (hd e (by simp)) w1 w2; simpa [deedsC] using this
  | [d,e,f],hd,_ => have := Tryz.aMk3_2 s hs d e f (hd d (by simp)) (hd e (by simp)) (hd f (by simp)) w1 w2; simpa [deedsC] using this
  | _ :: _ :: _ :: _ :: _,_,h3 => simp at h3
end Go.Proofs
