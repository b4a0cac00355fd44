/- See H55. -/
import Derived.Test.YtahfjdgeebjiaaaGreatDoorH33
import Derived.Test.YtahfjdgeebjiaaaGreatDoorH09
set_option linter.all false
namespace Go.Proofs
open Go.Eng
theorem Tryz.aLShape (k : Nat) (hk : k < 256) (M : Mem) : ACallsTo Tryz.prog 48 [.int .u8 (k : Int)] M (.tuple [.slice M.length 0 (shapeP (k % 8)).length none,.slice (M.length + 1) 0 (shapeT (k % 8)).length none]) (M ++ [.cells true 2 (iP (shapeP (k % 8))),.cells true 3 (tC (shapeT (k % 8)))]) := by
 have := ACallsTo.frame (M := M) (new := [.cells true 2 (iP (shapeP (k % 8))),.cells true 3 (tC (shapeT (k % 8)))]) (args := [.int .u8 (k : Int)]) [] (m := []) rfl (by simp) (by rfl) (fun i s hs => by simp at hs) rfl (Tryz.aLShape0 k hk)
 simpa [AV.ren,AV.rens,back,Slot.ren,iP_ren,tC_ren] using this
noncomputable def Tryz.lmO (s : Sheet) : Oracle := fun c args M => match c,args with
 | .fn 48,[.int .u8 k] => if k = (s.kind : Int) then some ⟨.tuple [.slice M.length 0 (shapeP (s.kind % 8)).length none,.slice (M.length + 1) 0 (shapeT (s.kind % 8)).length none],none,[.cells true 2 (iP (shapeP (s.kind % 8))),.cells true 3 (tC (shapeT (s.kind % 8)))]⟩ else none
 | .fn 49,[.agg [.int .u8 k,.int .i8 sx,.int .i8 sy,.bool h],.agg [.int .i8 x,.int .i8 y],.int .i64 n] => if k = (s.kind : Int) ∧ sx = s.sx ∧ sy = s.sy ∧ h = s.half ∧ 0 ≤ x ∧ x ≤ 6 ∧ 0 ≤ y ∧ y ≤ 6 ∧ n = 1 then some ⟨pA (s.pt 1 x y),none,[]⟩ else none
 | _,_ => none
theorem Tryz.lmO_ok (s : Sheet) (hs : s.Ok) : OracleOk Tryz.prog (Tryz.lmO s) := by
 refine oracleOk_of fun c args M r h => ?_
 unfold Tryz.lmO at h
 split at h
 ·split at h
  ·rename_i hc
   subst hc
   cases h
   exact soundAt_call (Tryz.aLShape s.kind hs.kind M)
  ·cases h
 ·split at h
  ·rename_i hc
   obtain ⟨rfl,rfl,rfl,rfl,h1,h2,h3,h4,rfl⟩ := hc
   cases h
   refine soundAt_call ?_
   rw [List.append_nil]
   exact Tryz.aLPlace s hs _ _ h1 h2 h3 h4 M
  ·cases h
 ·cases h
def smallP (L : List (Int × Int)) : Prop := ∀ p ∈ L,0 ≤ p.1 ∧ p.1 ≤ 6 ∧ 0 ≤ p.2 ∧ p.2 ≤ 6
theorem shapeP_small (k : Nat) (hk : k < 8) : smallP (shapeP k) := by
 have hjj : k = 0 ∨ k = 1 ∨ k = 2 ∨ k = 3 ∨ k = 4 ∨ k = 5 ∨ k = 6 ∨ k = 7 := by omega
 rcases hjj with rfl | rfl | rfl | rfl | rfl | rfl | rfl | rfl <;> (unfold smallP; decide)
def lmOut (n : Nat) : AV := match n with
 | 0 => .nilslice
 | n + 1 => .slice 5 0 (n + 1) none
def lmMem (s : Sheet) (SP : List (Int × Int)) (TS : List Tr) (n : Nat) : Mem :=
 [.cells true 0 [.int .u8 s.kind,.int .i8 s.sx,.int .i8 s.sy,.bool s.half],.cells true 0 [.nilslice,.nilslice],.cells true 2 (iP SP),.cells true 3 (tC TS),.cells true 0 [lmOut n,.slice 3 0 TS.length none]] ++
  (match n with
  | 0 => []
  | n + 1 => [.cells true 2 (pC ((SP.take (n + 1)).map fun p => s.pt 1 p.1 p.2))])
theorem lmMem_pos {s : Sheet} {SP : List (Int × Int)} {TS : List Tr} {n : Nat} (h : 0 < n) : lmMem s SP TS n =
  [.cells true 0 [.int .u8 s.kind,.int .i8 s.sx,.int .i8 s.sy,.bool s.half],.cells true 0 [.nilslice,.nilslice],.cells true 2 (iP SP),.cells true 3 (tC TS),.cells true 0 [.slice 5 0 n none,.slice 3 0 TS.length none],.cells true 2 (pC ((SP.take n).map fun p => s.pt 1 p.1 p.2))] := by
 cases n with
 | zero => omega
 | succ n => rfl
set_option maxRecDepth 8192 in
set_option maxHeartbeats 12800000 in
theorem Tryz.lmake_loop {K : Nat} (s : Sheet) (SP : List (Int × Int)) (TS : List Tr) (hsm : smallP SP) (hl : SP.length ≤ 1000000) (hK : SP.length < K) {b : Code} (hb : loopsF Tryz.f28 = [b]) :
  ∃ F : Env → Env,∀ env0,(Eng.look env0 1 = .ptr 0 0 ∧ Eng.look env0 3 = .slice 2 0 SP.length none ∧ Eng.look env0 5 = .ptr 4 0 ∧ Eng.look env0 6 = .int .i64 0 ∧ Eng.look env0 2 = .ptr 1 0) →
   execC (tyOf Tryz.prog) (fun _ => [6,6]) (Tryz.lmO s) K 42 0 true (.loop b) ⟨env0,lmMem s SP TS 0,false⟩ = some (.exit 0,⟨F env0,lmMem s SP TS SP.length,decide (0 < SP.length)⟩) ∧ Eng.look (F env0) 5 = .ptr 4 0 ∧ Eng.look (F env0) 2 = .ptr 1 0 := by
 refine loop_rule_d (L := [6,6]) rfl false _ (fun env0 => Eng.look env0 1 = .ptr 0 0 ∧ Eng.look env0 3 = .slice 2 0 SP.length none ∧ Eng.look env0 5 = .ptr 4 0 ∧ Eng.look env0 6 = .int .i64 0 ∧ Eng.look env0 2 = .ptr 1 0) (fun _ env' => Eng.look env' 5 = .ptr 4 0 ∧ Eng.look env' 2 = .ptr 1 0) ?_
 rintro env0 ⟨h1,h3,h5,h6,h2⟩
 obtain ⟨ops,hops⟩ : ∃ ops,drawsF Tryz.f28 = [ops] := ⟨_,rfl⟩
 have hbs := draws_one hops (l := [0,1,0,0,0,24,56,120,248,0,0,1536,3584,7680,15872,32760,65532,131068,262143,524287,1048575]) (by kernel_rfl)
 have k17 : aftAll [0,1,0,0,0,24,56,120,248,0,0,1536,3584,7680,15872,32760,65532,131068,262143,524287,1048575] 21 17 = true := by decide
 have k18 : aftAll [0,1,0,0,0,24,56,120,248,0,0,1536,3584,7680,15872,32760,65532,131068,262143,524287,1048575] 21 18 = true := by decide
 have k20 : aftAll [0,1,0,0,0,24,56,120,248,0,0,1536,3584,7680,15872,32760,65532,131068,262143,524287,1048575] 21 20 = true := by decide
 have j18 : allBef [0,1,0,0,0,24,56,120,248,0,0,1536,3584,7680,15872,32760,65532,131068,262143,524287,1048575] 18 = true := by decide
 have j20 : allBef [0,1,0,0,0,24,56,120,248,0,0,1536,3584,7680,15872,32760,65532,131068,262143,524287,1048575] 20 = true := by decide
 simp [drawsF,drawsC,Tryz.f28] at hops
 simp [loopsF,loopsC,Tryz.f28] at hb
 have hn0 : normE [6,6] (writesC b) env0 ((6,.int .i64 ((0 : Nat) : Int)) :: env0) = normE [6,6] (writesC b) env0 env0 := by simp [normE,h6]
 rw [← hn0]
 refine iter_ind (α := Nat) (fun n => ⟨normE [6,6] (writesC b) env0 ((6,.int .i64 (n : Int)) :: env0),lmMem s SP TS n,decide (0 < n)⟩) (fun n => SP.length - n) (fun n => n ≤ SP.length) (.exit 0) _ _ _ (by simp) ?_ K 0 (by omega) (by omega)
 intro n hn1
 clear hn0
 subst hb
 subst hops
 by_cases hlt : n < SP.length
 ·left
  obtain ⟨p,hp⟩ : ∃ q,SP[n]? = some q := ⟨SP[n],List.getElem?_eq_getElem hlt⟩
  obtain ⟨q1,q2,q3⟩ := iP_at hp
  obtain ⟨x0,x1,y0,y1⟩ := hsm p (List.mem_of_getElem? hp)
  obtain ⟨px,py⟩ := p
  simp only at q1 q2 x0 x1 y0 y1
  have ht : (SP.take (n + 1)).map (fun p => s.pt 1 p.1 p.2) = (SP.take n).map (fun p => s.pt 1 p.1 p.2) ++ [s.pt 1 px py] := by rw [List.take_add_one,hp]; simp
  have v1 : IntKind.i8.wrap px = px := wrap_i8 (by omega) (by omega)
  have v2 : IntKind.i8.wrap py = py := wrap_i8 (by omega) (by omega)
  have c1 : 0 ≤ px := by omega
  have c2 : px ≤ 6 := by omega
  have c3 : 0 ≤ py := by omega
  have c4 : py ≤ 6 := by omega
  have w1 : IntKind.i64.wrap ((n : Int) + 1) = ((n + 1 : Nat) : Int) := by rw [wrap_i64 (by omega) (by omega)]; omega
  obtain ⟨P,hP⟩ : ∃ P,P = (SP.take n).map (fun p => s.pt 1 p.1 p.2) := ⟨_,rfl⟩
  have hPl : P.length = n := by rw [hP,List.length_map,List.length_take]; omega
  obtain ⟨z,hz⟩ : ∃ z,z = s.pt 1 px py := ⟨_,rfl⟩
  rw [← hP,← hz] at ht
  have hpc : pC (P ++ [z]) = pC P ++ [.str (ratS z.1),.str (ratS z.2)] := by rw [pC_append]; rfl
  have hpl := pC_length P
  rw [hPl] at hpl
  obtain ⟨m,hm⟩ : ∃ m,m = n + 1 := ⟨_,rfl⟩
  refine ⟨m,?_⟩
  by_cases hn0 : n = 0
  ·subst hn0
   have hm1 : m = 1 := by omega
   subst hm1
   have hP0 : P = [] := List.eq_nil_of_length_eq_zero hPl
   rw [hP0] at ht hpc
   simp at ht hpc
   have w0 : IntKind.i64.wrap 1 = 1 := rfl
   simp [lmMem,lmOut,h1,h3,h5,hlt,q1,q2,v1,v2,c1,c2,c3,c4,w0,Tryz.lmO,← hz,pA,-runDraw,runDraw_mak hbs,runDrawM,makAll,makRec,quietR,k17,k18,k20,j18,j20,ht,hpc,iP_refs,tC_refs,iP_ren,tC_ren,pC_nil,aBuild,Nat.testBit]
   omega
  ·have hpos : 0 < n := by omega
   rw [← hm] at w1 ht
   have hmp : 0 < m := by omega
   have hd1 : decide (0 < n) = true := by simpa using hpos
   rw [lmMem_pos hpos,lmMem_pos hmp,hd1,← hP,ht,hpc]
   clear hP ht hpc
   have g1 : m * 32 ≤ 140737488355328 := by omega
   have g2 : n ≤ 140737488355327 := by omega
   have g5 : (lmMem s SP TS 0).length = 5 := rfl
   have g4 : m ≤ 140737488355328 := by omega
   have g3 : (pC P).take (n * 2) = pC P := List.take_of_length_le (by omega)
   simp [h1,h3,h5,hlt,q1,q2,v1,v2,c1,c2,c3,c4,w1,Tryz.lmO,← hz,pA,-runDraw,runDraw_mak hbs,runDrawM,makAll,makRec,quietR,k17,k18,k20,j18,j20,hpl,hmp,← hm,g1,g2,g4,g3,g5,pC_ok,iP_refs,tC_refs,pC_refs,iP_ren,tC_ren,pC_ren,aBuild,Nat.testBit]
   omega
 ·right
  have e : n = SP.length := by omega
  subst e
  simp [h3,h5,h2,hlt]
theorem shapeP_pos (k : Nat) : 0 < (shapeP k).length := by
 unfold shapeP
 split <;> simp [sqI]
theorem shapeP_len (k : Nat) : (shapeP k).length ≤ 6 := by
 unfold shapeP
 split <;> simp [sqI]
theorem Sheet.P_length (s : Sheet) : s.P.length = (shapeP (s.kind % 8)).length := by simp [Sheet.P]
set_option maxRecDepth 8192 in
set_option maxHeartbeats 6400000 in
theorem Tryz.aLMake0 (s : Sheet) (hs : s.Ok) : ACallsTo Tryz.prog 28 [s.av] [] (.agg [.slice 0 0 s.P.length none,.slice 1 0 s.T.length none]) [.cells true 2 (pC s.P),.cells true 3 (tC s.T)] := by
 have hG : fnOf Tryz.prog 28 = some Tryz.f28 := by kernel_rfl
 have hpos := shapeP_pos (s.kind % 8)
 have hle := shapeP_len (s.kind % 8)
 obtain ⟨b,hb⟩ : ∃ b,loopsF Tryz.f28 = [b] := ⟨_,rfl⟩
 obtain ⟨F,hF⟩ := Tryz.lmake_loop (K := 10) s (shapeP (s.kind % 8)) (shapeT (s.kind % 8)) (shapeP_small _ (Nat.mod_lt _ (by omega))) (by omega) (by omega) hb
 simp [loopsF,loopsC,Tryz.f28] at hb
 subst hb
 have hd : decide (0 < (shapeP (s.kind % 8)).length) = true := by simpa using hpos
 rw [lmMem_pos hpos,hd,List.take_length] at hF
 have hF1 := fun env0 h => (hF env0 h).1
 have hG1 := fun env0 h => (hF env0 h).2.1
 have hG2 := fun env0 h => (hF env0 h).2.2
 clear hF
 have hm0 : lmMem s (shapeP (s.kind % 8)) (shapeT (s.kind % 8)) 0 = [.cells true 0 [.int .u8 s.kind,.int .i8 s.sx,.int .i8 s.sy,.bool s.half],.cells true 0 [.nilslice,.nilslice],.cells true 2 (iP (shapeP (s.kind % 8))),.cells true 3 (tC (shapeT (s.kind % 8))),.cells true 0 [.nilslice,.slice 3 0 (shapeT (s.kind % 8)).length none]] := rfl
 rw [hm0] at hF1
 rw [Sheet.P_length]
 unfold Sheet.P Sheet.T
 obtain ⟨SP,hSP⟩ : ∃ SP,SP = shapeP (s.kind % 8) := ⟨_,rfl⟩
 obtain ⟨ST,hST⟩ : ∃ SP,SP = shapeT (s.kind % 8) := ⟨_,rfl⟩
 rw [← hSP,← hST] at hF1
 rw [← hSP] at hG1 hG2
 rw [← hSP,← hST]
 have h : callFn (tyOf Tryz.prog) (fun _ => [6,6]) (fnOf Tryz.prog) (Tryz.lmO s) 10 28 [s.av] [] = some ⟨.agg [.slice 0 0 SP.length none,.slice 1 0 ST.length none],some [],[.cells true 2 (pC (SP.map fun p => s.pt 1 p.1 p.2)),.cells true 3 (tC ST)]⟩ := by
  simp [callFn,hG,Tryz.f28,Sheet.av,hF1,hG1,hG2,Tryz.lmO,← hSP,← hST,iP_refs,tC_refs,pC_refs,iP_ren,tC_ren,pC_ren,aBuild,fieldPlaces]
  exact ⟨rfl,rfl⟩
 have := (callFn_sound Tryz.mixed (tyOf_ok _) (Tryz.lmO_ok s hs) (fnOf_ok _) h).1
 simpa [CallRes.mem] using this
theorem Tryz.aLMake (s : Sheet) (hs : s.Ok) (M : Mem) : ACallsTo Tryz.prog 28 [s.av] M (.agg [.slice M.length 0 s.P.length none,.slice (M.length + 1) 0 s.T.length none]) (M ++ [.cells true 2 (pC s.P),.cells true 3 (tC s.T)]) := by
 have := ACallsTo.frame (M := M) (new := [.cells true 2 (pC s.P),.cells true 3 (tC s.T)]) (args := [s.av]) [] (m := []) rfl (by simp) (by rfl) (fun i s hs => by simp at hs) rfl (Tryz.aLMake0 s hs)
 simpa [AV.ren,AV.rens,back,Slot.ren,pC_ren,tC_ren,Sheet.av] using this
end Go.Proofs
