/- See L55. -/
import Derived.Test.YtiopbpbcgccngaaGreatDoorL37
set_option linter.all false
namespace Go.Proofs
open Go.Eng
theorem draws_map {f : Func} {os : List (Array Oper)} {ls : List (List Nat)} (h : drawsF f = os) (hm : (drawsF f).map (fun o => befores o.toList) = ls) : os.map (fun o => befores o.toList) = ls := by rw [← h]; exact hm
theorem runDraw_plain {T : TypeId → Option TyI} {O : Oracle} {N m0 : Nat} {ops : Array Oper} {bs : List Nat} (hbs : befores ops.toList = bs) (s : XS) :
  runDraw T O N m0 ops s = match runRecs T O N ops bs 0 ops.toList s.env s.mem [] with
   | none => none
   | some (R,env,mem) => if (numbered 0 R).all fun f => checkRec bs (numbered 0 R) f.1 f.2 then some ⟨env,mem,s.dirty || R.any fun r => r.wr.any fun b => decide (b < m0)⟩ else none := by
 subst hbs; rfl
def Tryz.wcLv (c : Code) : List Nat := if (writesC c).contains 11 then [11,12,14] else [18]
def wcM (s0 s1 s2 s3 s4 : Slot) (E : List Rat) : Mem := [s0,s1,s2,s3,s4,.cells true 1 (stC (E.map ratS))]
set_option maxRecDepth 8192 in
set_option maxHeartbeats 12800000 in
theorem Tryz.wc_round {O : Oracle} {K : Nat} (s0 s1 s2 s3 s4 : Slot) (h0 : s0.refs 6 = []) (h1 : s1.refs 6 = []) (h2 : s2.refs 6 = []) (h3 : s3.refs 6 = []) (h4 : s4.refs 6 = []) (va vb : AV) (ra : va.refs 6 = []) (rb : vb.refs 6 = []) (f : Rat → List UInt8 × List UInt8) (E : List Rat) (hE : ∀ x ∈ E,fine x) (hn : E.length ≤ 100000)
  (hua : ∀ e,fine e → ∀ r,O (.fn 14) [va,.str (ratS e)] (s0 :: s1 :: s2 :: s3 :: s4 :: r) = some ⟨.str (f e).1,none,[]⟩)
  (hub : ∀ e,fine e → ∀ r,O (.fn 14) [vb,.str (ratS e)] (s0 :: s1 :: s2 :: s3 :: s4 :: r) = some ⟨.str (f e).2,none,[]⟩)
  (hsub : ∀ args M,O (.fn 16) args M = pureO Tryz.w5F (.fn 16) args M) (hadd : ∀ args M,O (.fn 15) args M = pureO Tryz.w5F (.fn 15) args M)
  (j : Nat) (hj : j + 1 < E.length) (hag : fine (agJ f E j)) (hst : fine (E.getD (j + 1) 0 - E.getD j 0)) (hlen : ∀ acc z,stJ f E j = some (acc,z) → acc.length ≤ 100000)
  {b b2 : Code} (hb : loopsF Tryz.f4 = [b,b2]) (env env0 : Env) (wr : List Nat) (hw11 : 11 ∈ wr) (hw12 : 12 ∈ wr) (hw14 : 14 ∈ wr) (d : Bool)
  (g5 : Eng.look env 5 = va) (g6 : Eng.look env 6 = vb) (g11 : Eng.look env 11 = ocV 6 (stJ f E j)) (g12 : Eng.look env 12 = .str (ratS (agJ f E j))) (g13 : Eng.look env 13 = .slice 5 0 E.length none) (g14 : Eng.look env 14 = .int .i64 (j : Int)) :
  ∃ s,execC (tyOf Tryz.prog) Tryz.wcLv O K 182 2 true b ⟨env,wcM s0 s1 s2 s3 s4 E ++ ocE (stJ f E j),d⟩ = some (.normal,s) ∧
   normS [11,12,14] wr env0 6 s = ⟨normE [11,12,14] wr env0 ((11,ocV 6 (stJ f E (j + 1))) :: (12,.str (ratS (agJ f E (j + 1)))) :: (14,.int .i64 ((j + 1 : Nat) : Int)) :: env0),wcM s0 s1 s2 s3 s4 E ++ ocE (stJ f E (j + 1)),d⟩ := by
 obtain ⟨op1,op2,op3,op4,op5,hops⟩ : ∃ a b c e g,drawsF Tryz.f4 = [a,b,c,e,g] := ⟨_,_,_,_,_,rfl⟩
 have hbs := draws_map hops (ls := [[0,0,0,6,14,31,0,0,0,384,896,2047,4095,8191],[0,0,0,4,14,30,0,0,192,448,1022,2047,4095],[0,1,3,7,7,23,63,127,255,7,7,1543,3591,8191,16383,32767,65535,65535,196607,524287,1048575,2097151,65535,8388607,16777215,33554431,67108863,67108863,201326591,536870911,1073741823,2147483647,67108863,8589934591,17179869183],[0,0,0,6,14,0,0,64,224,480,0,0,4094,8190,16383,32767],[0,0,3,7,0,0,48,112,255]]) (by kernel_rfl)
 simp only [List.map_cons,List.map_nil,List.cons.injEq,and_true] at hbs
 obtain ⟨d1,d2,d3,d4,d5⟩ := hbs
 simp [drawsF,drawsC,Tryz.f4] at hops
 obtain ⟨rfl,rfl,rfl,rfl,rfl⟩ := hops
 have a1 : allBef [0,0,0,6,14,31,0,0,0,384,896,2047,4095,8191] 13 = true := by decide
 have a2 : allBef [0,0,0,4,14,30,0,0,192,448,1022,2047,4095] 12 = true := by decide
 have a3 : allBef [0,1,3,7,7,23,63,127,255,7,7,1543,3591,8191,16383,32767,65535,65535,196607,524287,1048575,2097151,65535,8388607,16777215,33554431,67108863,67108863,201326591,536870911,1073741823,2147483647,67108863,8589934591,17179869183] 34 = true := by decide
 simp [loopsF,loopsC,Tryz.f4] at hb
 have hb := hb.1
 subst hb
 have m0 : ∀ ks,s0.ren (rho 6 ks) = s0 := fun ks => Slot.ren_refs h0
 have m1 : ∀ ks,s1.ren (rho 6 ks) = s1 := fun ks => Slot.ren_refs h1
 have m2 : ∀ ks,s2.ren (rho 6 ks) = s2 := fun ks => Slot.ren_refs h2
 have m3 : ∀ ks,s3.ren (rho 6 ks) = s3 := fun ks => Slot.ren_refs h3
 have m4 : ∀ ks,s4.ren (rho 6 ks) = s4 := fun ks => Slot.ren_refs h4
 have va6 := refsOk_of ra
 have vb6 := refsOk_of rb
 have va7 := refsOk_of (refs_mono (show 6 ≤ 7 by omega) ra)
 have vb7 := refsOk_of (refs_mono (show 6 ≤ 7 by omega) rb)
 have hjl : j < E.length := by omega
 have hxf : fine (E.getD j 0) := by rw [getD_get hjl]; exact hE _ (List.getElem_mem hjl)
 have hyf : fine (E.getD (j + 1) 0) := by rw [getD_get hj]; exact hE _ (List.getElem_mem hj)
 have q1 : (stC (E.map ratS))[j]? = some (.str (ratS (E.getD j 0))) := stC_at (by have := getD_map (Z := []) hjl; simpa using this)
 have q2 : (stC (E.map ratS))[j + 1]? = some (.str (ratS (E.getD (j + 1) 0))) := stC_at (by have := getD_map (Z := []) hj; simpa using this)
 have hX : ∀ n,AV.refsL n (stC (E.map ratS)) = [] := fun n => stC_refs n _
 have hXr : ∀ f,AV.rens f (stC (E.map ratS)) = stC (E.map ratS) := fun f => stC_ren f _
 have hXl : (stC (E.map ratS)).length = E.length := by rw [stC_length,List.length_map]
 have ua := hua _ hxf
 have ub := hub _ hxf
 clear hua hub
 obtain ⟨n,hnd⟩ : ∃ n,n = E.length := ⟨_,rfl⟩
 obtain ⟨X,hXd⟩ : ∃ X,X = stC (E.map ratS) := ⟨_,rfl⟩
 have hs1 : stJ f E (j + 1) = cmStep (stJ f E j) (dfJ f E j) := rfl
 have hs2 : agJ f E (j + 1) = agS (agJ f E j) (E.getD j 0) (E.getD (j + 1) 0) (f (E.getD j 0)).1 (f (E.getD j 0)).2 := agJ_succ f E j
 rw [hs1,hs2]
 unfold dfJ wcM
 rw [← hXd] at q1 q2 hX hXr hXl ⊢
 rw [← hnd] at g13 hXl hj hn
 obtain ⟨x,hx⟩ : ∃ x,x = E.getD j 0 := ⟨_,rfl⟩
 obtain ⟨y,hy⟩ : ∃ y,y = E.getD (j + 1) 0 := ⟨_,rfl⟩
 rw [← hx] at q1 hxf hst ua ub ⊢
 rw [← hy] at q2 hyf hst ⊢
 obtain ⟨u,hu⟩ : ∃ u,u = (f x).1 := ⟨_,rfl⟩
 obtain ⟨w,hw⟩ : ∃ w,w = (f x).2 := ⟨_,rfl⟩
 rw [← hu] at ua ⊢
 rw [← hw] at ub ⊢
 obtain ⟨s,hsd⟩ : ∃ s,s = agJ f E j := ⟨_,rfl⟩
 rw [← hsd] at g12 hag ⊢
 obtain ⟨st,hstd⟩ : ∃ st,st = stJ f E j := ⟨_,rfl⟩
 rw [← hstd] at g11 hlen ⊢
 clear hs1 hs2 hx hy hu hw hsd hstd hXd hnd hE
 obtain ⟨x1,x2⟩ := hxf
 obtain ⟨y1,y2⟩ := hyf
 obtain ⟨t1,t2⟩ := hst
 obtain ⟨c1,c2⟩ := hag
 have jE : ∀ h,X[j]'h = .str (ratS x) := fun h => by rw [List.getElem?_eq_getElem h] at q1; exact Option.some.inj q1
 have jE1 : ∀ h,X[j + 1]'h = .str (ratS y) := fun h => by rw [List.getElem?_eq_getElem h] at q2; exact Option.some.inj q2
 have hj0 : j < n := by omega
 have jI : (j : Int) < (n : Int) := by omega
 have jI1 : (j : Int) + 1 < (n : Int) := by omega
 have w1 : IntKind.i64.wrap ((j : Int) + 1) = (j : Int) + 1 := wrap_i64 (by omega) (by omega)
 have jp : (0 : Int) ≤ (j : Int) + 1 := by omega
 have e11 : (11 : Nat) ≠ 12 := by decide
 unfold agS cmStep
 by_cases huw : u = w
 ·subst huw
  simp only [if_true,true_and]
  by_cases hu : u = [45]
  ·subst hu
   cases st with
   | none =>
    simp only [ocV,ocE,List.append_nil] at g11 ⊢
    simp [-Slot.refs,-Slot.ren,refs_cells,ren_cells,refs_absent,ren_absent,-runDraw,runDraw_light d1,runDraw_light d2,runDraw_light d3,runDrawL,lightAll,lightRec,a1,a2,a3,g5,g6,g11,g12,g13,g14,ua,ub,jE,jE1,hXl,hj,hj0,jI,jI1,w1,jp,va6,vb6,va7,vb7,h0,h1,h2,h3,h4,m0,m1,m2,m3,m4,hX,hXr,hw11,hw12,hw14,Nat.testBit]
   | some st =>
    obtain ⟨acc,z⟩ := st
    simp only [ocV,ocE] at g11 ⊢
    have hR1 : ∀ f,AV.rens f (dfC (acc ++ [z])) = dfC (acc ++ [z]) := fun f => dfC_ren f _
    have hR2 : ∀ n,AV.refsL n (dfC (acc ++ [z])) = [] := fun n => dfC_refs n _
    obtain ⟨R,hR⟩ : ∃ R,R = dfC (acc ++ [z]) := ⟨_,rfl⟩
    rw [← hR] at hR1 hR2 ⊢
    simp [-Slot.refs,-Slot.ren,refs_cells,ren_cells,refs_absent,ren_absent,-runDraw,runDraw_light d1,runDraw_light d2,runDraw_light d3,runDrawL,lightAll,lightRec,a1,a2,a3,g5,g6,g11,g12,g13,g14,ua,ub,jE,jE1,hXl,hj,hj0,jI,jI1,w1,jp,va6,vb6,va7,vb7,h0,h1,h2,h3,h4,m0,m1,m2,m3,m4,hX,hXr,hw11,hw12,hw14,Nat.testBit,hR1,hR2]
  ·have hub : (u == [45]) = false := by simpa using hu
   cases st with
   | none =>
    simp only [ocV,ocE,List.append_nil] at g11 ⊢
    simp [-Slot.refs,-Slot.ren,refs_cells,ren_cells,refs_absent,ren_absent,-runDraw,runDraw_light d1,runDraw_light d2,runDraw_light d3,runDrawL,lightAll,lightRec,a1,a2,a3,g5,g6,g11,g12,g13,g14,ua,ub,jE,jE1,hXl,hj,hj0,jI,jI1,w1,jp,va6,vb6,va7,vb7,h0,h1,h2,h3,h4,m0,m1,m2,m3,m4,hX,hXr,hw11,hw12,hw14,Nat.testBit,hub,hsub,hadd,pureO,Tryz.w5F,Tryz.ratF4,Tryz.ratF3,ratP_ratS,x1,x2,y1,y2,t1,t2,c1,c2,hu]
   | some st =>
    obtain ⟨acc,z⟩ := st
    simp only [ocV,ocE] at g11 ⊢
    have hR1 : ∀ f,AV.rens f (dfC (acc ++ [z])) = dfC (acc ++ [z]) := fun f => dfC_ren f _
    have hR2 : ∀ n,AV.refsL n (dfC (acc ++ [z])) = [] := fun n => dfC_refs n _
    obtain ⟨R,hR⟩ : ∃ R,R = dfC (acc ++ [z]) := ⟨_,rfl⟩
    rw [← hR] at hR1 hR2 ⊢
    simp [-Slot.refs,-Slot.ren,refs_cells,ren_cells,refs_absent,ren_absent,-runDraw,runDraw_light d1,runDraw_light d2,runDraw_light d3,runDrawL,lightAll,lightRec,a1,a2,a3,g5,g6,g11,g12,g13,g14,ua,ub,jE,jE1,hXl,hj,hj0,jI,jI1,w1,jp,va6,vb6,va7,vb7,h0,h1,h2,h3,h4,m0,m1,m2,m3,m4,hX,hXr,hw11,hw12,hw14,Nat.testBit,hub,hsub,hadd,pureO,Tryz.w5F,Tryz.ratF4,Tryz.ratF3,ratP_ratS,x1,x2,y1,y2,t1,t2,c1,c2,hR1,hR2,hu]
 ·have hub : (u == w) = false := by simpa using huw
  simp only [huw,if_false,false_and]
  cases st with
  | none =>
   simp only [ocV,ocE,List.append_nil] at g11 ⊢
   simp [-Slot.refs,-Slot.ren,refs_cells,ren_cells,refs_absent,ren_absent,-runDraw,runDraw_light d1,runDraw_light d2,runDraw_light d3,runDrawL,lightAll,lightRec,a1,a2,a3,g5,g6,g11,g12,g13,g14,ua,ub,jE,jE1,hXl,hj,hj0,jI,jI1,w1,jp,va6,vb6,va7,vb7,h0,h1,h2,h3,h4,m0,m1,m2,m3,m4,hX,hXr,hw11,hw12,hw14,hub,dfC,aBuild,fieldPlaces,runDraw_plain d4,checkRec,numbered,isBound,okRef,mergeBy,Nat.testBit]
  | some st =>
   obtain ⟨acc,z⟩ := st
   obtain ⟨a,ha⟩ : ∃ a,a = acc.length := ⟨_,rfl⟩
   have hal := hlen acc z rfl
   rw [← ha] at hal
   obtain ⟨R,hR⟩ : ∃ R,R = dfC (acc ++ [z]) := ⟨_,rfl⟩
   have hR1 : ∀ f,AV.rens f R = R := fun f => by rw [hR]; exact dfC_ren f _
   have hR2 : ∀ n,AV.refsL n R = [] := fun n => by rw [hR]; exact dfC_refs n _
   have hR3 : ∀ ok,AV.refsOkL ok R = true := fun ok => closeds_refsOk ok (by rw [hR]; exact dfC_closed _)
   have cl : (dfC acc).length = a * 4 := by rw [dfC_length,ha]
   have rl : R.length = (a + 1) * 4 := by rw [hR,dfC_length,ha]; simp
   have hRe : R = dfC acc ++ [.str z.1,.str z.2.1,.str z.2.2.1,.str z.2.2.2] := by rw [hR,dfC_append]; rfl
   have q1' : R[a * 4 + 1]? = some (.str z.2.1) := by rw [hRe,List.getElem?_append_right (by omega),cl,show a * 4 + 1 - a * 4 = 1 by omega]; rfl
   have q2' : R[a * 4 + 2]? = some (.str z.2.2.1) := by rw [hRe,List.getElem?_append_right (by omega),cl,show a * 4 + 2 - a * 4 = 2 by omega]; rfl
   have q3' : R[a * 4 + 3]? = some (.str z.2.2.2) := by rw [hRe,List.getElem?_append_right (by omega),cl,show a * 4 + 3 - a * 4 = 3 by omega]; rfl
   have j1 : ∀ h,R[a * 4 + 1]'h = .str z.2.1 := fun h => by rw [List.getElem?_eq_getElem h] at q1'; exact Option.some.inj q1'
   have j2 : ∀ h,R[a * 4 + 2]'h = .str z.2.2.1 := fun h => by rw [List.getElem?_eq_getElem h] at q2'; exact Option.some.inj q2'
   have j3 : ∀ h,R[a * 4 + 3]'h = .str z.2.2.2 := fun h => by rw [List.getElem?_eq_getElem h] at q3'; exact Option.some.inj q3'
   have k1 : a * 4 + 1 < (a + 1) * 4 := by omega
   have k2 : a * 4 + 2 < (a + 1) * 4 := by omega
   have k3 : a * 4 + 3 < (a + 1) * 4 := by omega
   have k4 : a * 4 + 1 + 1 ≤ (a + 1) * 4 := by omega
   have hRt : R.take ((a + 1) * 4) = R := List.take_of_length_le (by omega)
   have wa : IntKind.i64.wrap (a : Int) = (a : Int) := wrap_i64 (by omega) (by omega)
   have wa1 : IntKind.i64.wrap ((a : Int) + 1 - 1) = (a : Int) := by rw [wrap_i64 (by omega) (by omega)]; omega
   have hai : (a : Int) < (a : Int) + 1 := by omega
   have hap : (0 : Int) < (a : Int) + 1 := by omega
   have b1 : (a + 1 + 1) * 64 ≤ 140737488355328 := by omega
   have b2 : a + 1 + 1 ≤ 140737488355328 := by omega
   have b3 : a ≤ 140737488355326 := by omega
   by_cases hz : z.2.1 = ratS x ∧ z.2.2.1 = u ∧ z.2.2.2 = w
   ·obtain ⟨z1,z2,z3⟩ := hz
    have hz : z.2.1 = ratS x ∧ z.2.2.1 = u ∧ z.2.2.2 = w := ⟨z1,z2,z3⟩
    have e : dfC (acc ++ [(z.1,ratS y,z.2.2.1,z.2.2.2)]) = R.take (a * 4 + 1) ++ .str (ratS y) :: R.drop (a * 4 + 1 + 1) := by
     rw [hRe,dfC_append,List.take_append,cl,List.take_of_length_le (by omega),show a * 4 + 1 - a * 4 = 1 by omega,List.drop_append,cl,List.drop_of_length_le (by omega),show a * 4 + 1 + 1 - a * 4 = 2 by omega]
     simp [dfC]
    have hT1 : ∀ f,AV.rens f (R.take (a * 4 + 1)) = R.take (a * 4 + 1) := fun f => rens_closeds (closeds_take _ _ (by rw [hR]; exact dfC_closed _))
    have hT2 : ∀ n,AV.refsL n (R.take (a * 4 + 1)) = [] := fun n => refsL_take n _ _ (hR2 n)
    have hDd : R.drop (a * 4 + 1 + 1) = [.str z.2.2.1,.str z.2.2.2] := by
     rw [hRe,List.drop_append,cl,List.drop_of_length_le (by omega),show a * 4 + 1 + 1 - a * 4 = 2 by omega]; rfl
    rw [hDd] at e
    simp only []
    rw [if_pos hz]
    simp only [ocV,ocE,← hR,← ha,e] at g11 ⊢
    clear e hRe hR hz
    simp [-Slot.refs,-Slot.ren,refs_cells,ren_cells,refs_absent,ren_absent,-runDraw,runDraw_light d1,runDraw_light d3,runDrawL,lightAll,lightRec,a1,a3,g5,g6,g11,g12,g13,g14,ua,ub,jE,jE1,hXl,hj,hj0,jI,jI1,w1,jp,va6,vb6,va7,vb7,h0,h1,h2,h3,h4,m0,m1,m2,m3,m4,hX,hXr,hw11,hw12,hw14,hub,z1,z2,z3,hT1,hT2,hDd,rl,j1,j2,j3,k1,k2,k3,k4,wa,wa1,hai,hap,Nat.testBit]
   ·simp only []
    rw [if_neg hz]
    have e : dfC (acc ++ [z] ++ [(ratS x,ratS y,u,w)]) = R ++ [.str (ratS x),.str (ratS y),.str u,.str w] := by rw [dfC_append,hR]; rfl
    have el : (acc ++ [z]).length = a + 1 := by rw [List.length_append,ha]; rfl
    simp only [ocV,ocE,← hR,← ha,e,el] at g11 ⊢
    clear e hRe hR
    by_cases z1 : z.2.1 = ratS x
    ·have e1 : (z.2.1 == ratS x) = true := by simpa using z1
     by_cases z2 : z.2.2.1 = u
     ·have e2 : (z.2.2.1 == u) = true := by simpa using z2
      have e3 : (z.2.2.2 == w) = false := by simpa using fun e => hz ⟨z1,z2,e⟩
      simp [-Slot.refs,-Slot.ren,refs_cells,ren_cells,refs_absent,ren_absent,-runDraw,runDraw_light d1,runDraw_light d3,runDrawL,lightAll,lightRec,a1,a3,g5,g6,g11,g12,g13,g14,ua,ub,jE,jE1,hXl,hj,hj0,jI,jI1,w1,jp,va6,vb6,va7,vb7,h0,h1,h2,h3,h4,m0,m1,m2,m3,m4,hX,hXr,hw11,hw12,hw14,hub,e1,e2,e3,rl,j1,j2,j3,k1,k2,k3,k4,wa,wa1,hai,hap,b1,b2,b3,hRt,hR1,hR2,hR3,refsL_append,rens_append,aBuild,fieldPlaces,runDraw_plain d4,checkRec,numbered,isBound,okRef,mergeBy,Nat.testBit]
     ·have e2 : (z.2.2.1 == u) = false := by simpa using z2
      simp [-Slot.refs,-Slot.ren,refs_cells,ren_cells,refs_absent,ren_absent,-runDraw,runDraw_light d1,runDraw_light d3,runDrawL,lightAll,lightRec,a1,a3,g5,g6,g11,g12,g13,g14,ua,ub,jE,jE1,hXl,hj,hj0,jI,jI1,w1,jp,va6,vb6,va7,vb7,h0,h1,h2,h3,h4,m0,m1,m2,m3,m4,hX,hXr,hw11,hw12,hw14,hub,e1,e2,rl,j1,j2,j3,k1,k2,k3,k4,wa,wa1,hai,hap,b1,b2,b3,hRt,hR1,hR2,hR3,refsL_append,rens_append,aBuild,fieldPlaces,runDraw_plain d4,checkRec,numbered,isBound,okRef,mergeBy,Nat.testBit]
    ·have e1 : (z.2.1 == ratS x) = false := by simpa using z1
     simp [-Slot.refs,-Slot.ren,refs_cells,ren_cells,refs_absent,ren_absent,-runDraw,runDraw_light d1,runDraw_light d3,runDrawL,lightAll,lightRec,a1,a3,g5,g6,g11,g12,g13,g14,ua,ub,jE,jE1,hXl,hj,hj0,jI,jI1,w1,jp,va6,vb6,va7,vb7,h0,h1,h2,h3,h4,m0,m1,m2,m3,m4,hX,hXr,hw11,hw12,hw14,hub,e1,rl,j1,j2,j3,k1,k2,k3,k4,wa,wa1,hai,hap,b1,b2,b3,hRt,hR1,hR2,hR3,refsL_append,rens_append,aBuild,fieldPlaces,runDraw_plain d4,checkRec,numbered,isBound,okRef,mergeBy,Nat.testBit]
end Go.Proofs
