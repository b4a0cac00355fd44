/- See L55. -/
import Derived.Test.YtiopbpbcgccngaaGreatDoorL48
set_option linter.all false
namespace Go.Proofs
open Go.Eng
theorem mergeBy_maskA (f : Nat → Bool) : ∀ (i : Nat) (M N : Mem),mergeBy [] i M (maskBy f i M ++ N) = M ++ N
 | _,[],N => by cases N <;> rfl
 | i,s :: M,N => by simp [maskBy,mergeBy,mergeBy_maskA f (i + 1) M N]
theorem mergeBy_maskB (f : Nat → Bool) (v : Slot) : ∀ (i b : Nat) (M N : Mem),b < M.length → mergeBy [i + b] i M ((maskBy f i M).set b v ++ N) = M.set b v ++ N
 | _,_,[],_,h => by simp at h
 | i,0,s :: M,N,_ => by
  simp only [maskBy,mergeBy,List.set_cons_zero,List.cons_append,Nat.add_zero,List.contains_cons,BEq.rfl,Bool.true_or,if_true]
  congr 1
  have : ∀ (j : Nat) (M N : Mem),i < j → mergeBy [i] j M (maskBy f j M ++ N) = M ++ N := by
   intro j M
   induction M generalizing j with
   | nil => intro N _; cases N <;> rfl
   | cons s M ih =>
    intro N hj
    have hne : ¬ j = i := by omega
    simp [maskBy,mergeBy,ih (j + 1) N (by omega),hne]
  exact this (i + 1) M N (by omega)
 | i,b + 1,s :: M,N,h => by
  have hne : ¬ i = i + (b + 1) := by omega
  have ih := mergeBy_maskB f v (i + 1) b M N (by simpa using h)
  rw [show i + 1 + b = i + (b + 1) by omega] at ih
  simp [maskBy,mergeBy,ih]
theorem mergeBy_maskB0 (f : Nat → Bool) (v : Slot) (b : Nat) (M N : Mem) (h : b < M.length) : mergeBy [b] 0 M ((maskBy f 0 M).set b v ++ N) = M.set b v ++ N := by
 have := mergeBy_maskB f v 0 b M N h
 rwa [Nat.zero_add] at this
theorem maskBy_drop (f : Nat → Bool) : ∀ (i n : Nat) (M : Mem),(maskBy f i M).drop n = maskBy f (i + n) (M.drop n)
 | _,0,_ => rfl
 | _,_ + 1,[] => rfl
 | i,n + 1,s :: M => by simp [maskBy,maskBy_drop f (i + 1) n M,Nat.add_assoc,Nat.add_comm 1 n]
theorem get_app0 (M l : Mem) : (M ++ l)[M.length]? = l[0]? := by rw [List.getElem?_append_right (Nat.le_refl _),Nat.sub_self]
theorem get_app (M l : Mem) (k : Nat) : (M ++ l)[M.length + k]? = l[k]? := by
 rw [List.getElem?_append_right (by omega)]; congr 1; omega
theorem gete_app (M l : Mem) (k : Nat) (h : M.length + k < (M ++ l).length) : (M ++ l)[M.length + k]'h = l[k]'(by rw [List.length_append] at h; omega) := by
 rw [List.getElem_append_right (by omega)]; congr 1; omega
theorem gete_app0 (M l : Mem) (s : Slot) (h : M.length < (M ++ s :: l).length) : (M ++ s :: l)[M.length]'h = s := by
 rw [List.getElem_append_right (Nat.le_refl _)]; simp
theorem get_low {M : Mem} {k : Nat} (h : k < M.length) (l : Mem) : (M ++ l)[k]? = M[k]? := List.getElem?_append_left h
theorem gete_low {M : Mem} {k : Nat} (h : k < M.length) (l : Mem) (h' : k < (M ++ l).length) : (M ++ l)[k]'h' = M[k]'h := List.getElem_append_left h
theorem set_app0 (M l : Mem) (v : Slot) : (M ++ l).set M.length v = M ++ l.set 0 v := by
 rw [List.set_append_right _ _ (Nat.le_refl _),Nat.sub_self]
theorem set_app (M l : Mem) (k : Nat) (v : Slot) : (M ++ l).set (M.length + k) v = M ++ l.set k v := by
 rw [List.set_append_right _ _ (by omega)]; congr 2; omega
def OutAt (M : Mem) (o : AV) (D : List Rat) : Prop := (o = .nilslice ∧ D = []) ∨ ∃ k ow,o = .slice k 0 D.length none ∧ M[k]? = some (.cells ow 1 (stC (D.map ratS))) ∧ D ≠ []
def sameN (env0 env' : Env) : Prop := ∀ t ∈ [5,11,13,15,16,17,21,22,23,31,32,33],Eng.look env' t = Eng.look env0 t
set_option maxHeartbeats 3200000 in
theorem Tryz.en_scan {K : Nat} (M : Mem) (o : AV) (D : List Rat) (ho : OutAt M o D) (hD : ∀ x ∈ D,fine x) (q : Rat) (hq : fine q) (hl : D.length ≤ 1000000) (hK : D.length < K) {lv : Code → List Nat} {b0 b1 b2 b3 : Code} (hb : loopsF Tryz.f13 = [b0,b1,b2,b3]) (hlv : lv b3 = [12]) :
  ∃ F : Env → Bool → Env,∀ env0 d,(Eng.look env0 5 = o ∧ Eng.look env0 11 = .str (ratS q) ∧ Eng.look env0 12 = .int .i64 D.length) →
   execC (tyOf Tryz.prog) lv (pureO Tryz.ratF3) K 80 2 true (.loop b3) ⟨env0,M,d⟩ = some (.exit 6,⟨F env0 d,M,d⟩) ∧
    (Eng.look (F env0 d) 12 = .int .i64 (dnI q D D.length) ∧ sameN env0 (F env0 d)) := by
 refine loop_rule hlv (fun env0 => Eng.look env0 5 = o ∧ Eng.look env0 11 = .str (ratS q) ∧ Eng.look env0 12 = .int .i64 D.length) (fun env0 env' => Eng.look env' 12 = .int .i64 (dnI q D D.length) ∧ sameN env0 env') ?_
 rintro env0 d ⟨h5,h11,h12⟩
 simp [loopsF,loopsC,Tryz.f13] at hb
 have hb' := hb.2.2.2
 clear hb hlv
 have hn : normE [12] (writesC b3) env0 ((12,.int .i64 (D.length : Int)) :: env0) = normE [12] (writesC b3) env0 env0 := by simp [normE,h12]
 rw [← hn]
 refine iter_ind (α := Nat) (fun i => ⟨normE [12] (writesC b3) env0 ((12,.int .i64 (i : Int)) :: env0),M,d⟩) id (fun i => i ≤ D.length ∧ dnI q D D.length = dnI q D i) (.exit 6) _ d _ (by simp) ?_ K D.length ⟨Nat.le_refl _,rfl⟩ hK
 rintro i ⟨i1,i2⟩
 clear hn
 subst hb'
 cases i with
 | zero =>
  right
  rw [dnI] at i2
  rw [i2]
  simp [sameN]
 | succ i =>
  rcases ho with ⟨_,rfl⟩ | ⟨k,ow,rfl,hk,hne⟩
  ·simp at i1
  ·have hil : i < D.length := by omega
   obtain ⟨x,hx⟩ : ∃ x,D[i]? = some x := ⟨_,List.getElem?_eq_getElem hil⟩
   have hxg : D.getD i 0 = x := by simp [List.getD,hx]
   have hx1 : (stC (D.map ratS))[i]? = some (.str (ratS x)) := stC_at (by rw [List.getElem?_map,hx]; rfl)
   have hxf := hD x (List.mem_of_getElem? hx)
   obtain ⟨x1,x2⟩ := hxf
   obtain ⟨q1,q2⟩ := hq
   have w1 : IntKind.i64.wrap ((i : Int) + 1 - 1) = (i : Int) := by rw [wrap_i64 (by omega) (by omega)]; omega
   have w2 : IntKind.i64.wrap (i : Int) = (i : Int) := wrap_i64 (by omega) (by omega)
   have hp : (0 : Int) < (i : Int) + 1 := by omega
   have hkl : k < M.length := (List.getElem?_eq_some_iff.1 hk).1
   rw [dnI,hxg] at i2
   by_cases hlt : q < x
   ·left
    rw [if_pos hlt] at i2
    have c := cmpQ_lt.2 hlt
    refine ⟨i,?_⟩
    refine exists_and_fin (show (i ≤ D.length ∧ dnI q D D.length = dnI q D i) ∧ i < i + 1 from ⟨⟨by omega,i2⟩,by omega⟩) ?_
    simp [h5,h11,hk,hx1,hil,hp,w1,w2,pureO,Tryz.ratF3,ratP_ratS,x1,x2,q1,q2,c]
   ·right
    rw [if_neg hlt] at i2
    have c : ¬ cmpQ q x < 0 := fun h => hlt (cmpQ_lt.1 h)
    rw [i2]
    simp [h5,h11,hk,hx1,hil,hp,w1,w2,pureO,Tryz.ratF3,ratP_ratS,x1,x2,q1,q2,c,sameN]
def enG (r : Nat) (D : List Rat) (q : Rat) : Mem := if r = 4 then [.absent,.absent,.cells true 1 [.str (ratS q)],.absent,.cells true 1 (stC ((insN D q).map ratS))] else [.absent,.absent,.cells true 1 [.str (ratS q)],.absent,.absent,.cells true 1 (stC ((insN D q).map ratS))]
def enIns (D : List Rat) (q : Rat) : Prop := dnI q D D.length = 0 ∨ D.getD (dnI q D D.length - 1) 0 ≠ q
theorem insN_ins {D : List Rat} {q : Rat} (h : enIns D q) : (insN D q).length = D.length + 1 ∧ stC ((insN D q).map ratS) = (stC (D.map ratS)).take (dnI q D D.length) ++ .str (ratS q) :: (stC (D.map ratS)).drop (dnI q D D.length) := by
 have hp := (dnI_spec q D D.length).1
 unfold enIns at h
 unfold insN
 rw [if_pos h]
 constructor
 ·simp only [List.length_append,List.length_take,List.length_cons,List.length_drop]; omega
 ·simp [stC,List.map_append,List.map_take,List.map_drop]
theorem insN_same {D : List Rat} {q : Rat} (h : ¬ enIns D q) : insN D q = D := by unfold enIns at h; unfold insN; rw [if_neg h]
def sameE (env0 env' : Env) : Prop := ∀ t ∈ [13,15,16,17,21,22,23,31,32],Eng.look env' t = Eng.look env0 t
def Tryz.enLv (c : Code) : List Nat := if (writesC c).contains 17 then [5,17] else if (writesC c).contains 23 then [5,23] else if (writesC c).contains 33 then [5,33] else [12]
set_option maxRecDepth 8192 in
set_option maxHeartbeats 12800000 in
theorem Tryz.en_body0 {K : Nat} (M : Mem) (hM2 : 2 ≤ M.length) (q : Rat) (hq : fine q) (e : Nat) (we : List AV) (hw : M[e]? = some (.cells true 1 we)) (i : Nat) (hi : i < 2) (hwi : we[i]? = some (.str (ratS q))) (hwl : we.length = 2) (hK : 0 < K)
  {b0 b1 b2 b3 : Code} (hb : loopsF Tryz.f13 = [b0,b1,b2,b3]) (hlv : Tryz.enLv b3 = [12]) (env : Env) (d : Bool)
  (h5 : Eng.look env 5 = .nilslice) (h31 : Eng.look env 31 = .slice e 0 2 none) (h32 : Eng.look env 32 = .int .i64 2) (h33 : Eng.look env 33 = .int .i64 (i : Int)) :
  ∃ env',execC (tyOf Tryz.prog) Tryz.enLv (pureO Tryz.ratF3) K 80 2 true b2 ⟨env,M,d⟩ = some (.normal,⟨env',M ++ enG 4 [] q,d⟩) ∧ Eng.look env' 5 = .slice (M.length + 4) 0 1 none ∧ Eng.look env' 33 = .int .i64 ((i + 1 : Nat) : Int) ∧ sameE env env' := by
 obtain ⟨F,hF⟩ := Tryz.en_scan (K := K) M .nilslice [] (.inl ⟨rfl,rfl⟩) (by simp) q hq (by simp) (by simpa using hK) hb hlv
 have hF1 := fun env0 d h => (hF env0 d h).1
 have hF2 := fun env0 d h => (hF env0 d h).2.1
 have hF3 := fun env0 d h t ht => (hF env0 d h).2.2 t ht
 clear hF
 obtain ⟨ops,hops⟩ : ∃ ops,drawsF Tryz.f13 = [ops] := ⟨_,rfl⟩
 have hbs := draws_one hops (l := [0,0,0,6,15,0,32,127,0,0,768,2047,4095]) (by kernel_rfl)
 simp [drawsF,drawsC,Tryz.f13] at hops
 subst hops
 simp [loopsF,loopsC,Tryz.f13] at hb
 obtain ⟨_,_,hb2,hb3⟩ := hb
 clear hlv
 subst hb3
 subst hb2
 have w1 : IntKind.i64.wrap ((i : Int) + 1) = (i : Int) + 1 := wrap_i64 (by omega) (by omega)
 have hiI : (i : Int) < 2 := by omega
 have hel : e < M.length := (List.getElem?_eq_some_iff.1 hw).1
 have hd0 : dnI q [] 0 = 0 := rfl
 have hwE : ∀ h,we[i]'h = .str (ratS q) := fun h => by rw [List.getElem?_eq_getElem h] at hwi; exact Option.some.inj hwi
 have e1 : insN [] q = [q] := by simp [insN,dnI]
 have m0 : ¬ M.length < 2 := by omega
 have m1 : ¬ M.length + 1 < 2 := by omega
 have m3 : ¬ M.length + 3 < 2 := by omega
 simp only [List.length_nil,Int.natCast_zero] at hF1 hF2 hF3
 unfold enG
 rw [if_pos rfl,e1]
 simp [h5,h31,h32,h33,m0,m1,m3,hw,hwi,hwE,hwl,hi,hiI,w1,hF1,hF2,hF3,hd0,mergeBy_mask,mergeBy_maskA,mergeBy_maskB0,maskBy_get,maskBy_getElem,gete_app,gete_app0,maskBy_drop,maskBy_length,get_app0,get_app,set_app0,set_app,stC,sameE,Nat.testBit]
set_option maxRecDepth 8192 in
set_option maxHeartbeats 12800000 in
theorem Tryz.en_ins {K : Nat} (D : List Rat) (hD : ∀ x ∈ D,fine x) (hDl : D.length ≤ 1000000) (hne : D ≠ []) (k : Nat) (ow : Bool) (M : Mem) (hk : M[k]? = some (.cells ow 1 (stC (D.map ratS)))) (hM2 : 2 ≤ M.length) (q : Rat) (hq : fine q) (e : Nat) (we : List AV) (hw : M[e]? = some (.cells true 1 we)) (i : Nat) (hi : i < 2) (hwi : we[i]? = some (.str (ratS q))) (hwl : we.length = 2) (hK : D.length < K)
  {b0 b1 b2 b3 : Code} (hb : loopsF Tryz.f13 = [b0,b1,b2,b3]) (hlv : Tryz.enLv b3 = [12]) (hi0 : enIns D q) (env : Env) (d : Bool)
  (h5 : Eng.look env 5 = .slice k 0 D.length none) (h31 : Eng.look env 31 = .slice e 0 2 none) (h32 : Eng.look env 32 = .int .i64 2) (h33 : Eng.look env 33 = .int .i64 (i : Int)) :
  ∃ r,(r = 4 ∨ r = 5) ∧ ∃ env',execC (tyOf Tryz.prog) Tryz.enLv (pureO Tryz.ratF3) K 80 2 true b2 ⟨env,M,d⟩ = some (.normal,⟨env',M ++ enG r D q,d⟩) ∧ Eng.look env' 5 = .slice (M.length + r) 0 (D.length + 1) none ∧ Eng.look env' 33 = .int .i64 ((i + 1 : Nat) : Int) ∧ sameE env env' := by
 obtain ⟨F,hF⟩ := Tryz.en_scan (K := K) M (.slice k 0 D.length none) D (.inr ⟨k,ow,rfl,hk,hne⟩) hD q hq hDl hK hb hlv
 have hF1 := fun env0 d h => (hF env0 d h).1
 have hF2 := fun env0 d h => (hF env0 d h).2.1
 have hF3 := fun env0 d h t ht => (hF env0 d h).2.2 t ht
 clear hF
 obtain ⟨ops,hops⟩ : ∃ ops,drawsF Tryz.f13 = [ops] := ⟨_,rfl⟩
 have hbs := draws_one hops (l := [0,0,0,6,15,0,32,127,0,0,768,2047,4095]) (by kernel_rfl)
 simp [drawsF,drawsC,Tryz.f13] at hops
 subst hops
 simp [loopsF,loopsC,Tryz.f13] at hb
 obtain ⟨_,_,hb2,hb3⟩ := hb
 clear hlv
 subst hb3
 subst hb2
 have w1 : IntKind.i64.wrap ((i : Int) + 1) = (i : Int) + 1 := wrap_i64 (by omega) (by omega)
 have hiI : (i : Int) < 2 := by omega
 have hel : e < M.length := (List.getElem?_eq_some_iff.1 hw).1
 have hwE : ∀ h,we[i]'h = .str (ratS q) := fun h => by rw [List.getElem?_eq_getElem h] at hwi; exact Option.some.inj hwi
 have m0 : ¬ M.length < 2 := by omega
 have m1 : ¬ M.length + 1 < 2 := by omega
 have m3 : ¬ M.length + 3 < 2 := by omega
 have hkl : k < M.length := (List.getElem?_eq_some_iff.1 hk).1
 have hkE : ∀ h,M[k]'h = .cells ow 1 (stC (D.map ratS)) := fun h => by rw [List.getElem?_eq_getElem h] at hk; exact Option.some.inj hk
 have x0 : ¬ k = M.length := by omega
 have x1 : ¬ k = M.length + 1 := by omega
 have x2 : ¬ k = M.length + 2 := by omega
 have x3 : ¬ k = M.length + 3 := by omega
 have y0 : ¬ M.length = k := by omega
 have y1 : ¬ M.length + 1 = k := by omega
 have y2 : ¬ M.length + 2 = k := by omega
 have y3 : ¬ M.length + 3 = k := by omega
 have z0 : ¬ M.length ≤ k := by omega
 have z1 : ¬ M.length + 1 ≤ k := by omega
 have z2 : ¬ M.length + 2 ≤ k := by omega
 have z3 : ¬ M.length + 3 ≤ k := by omega
 have v0 : k < M.length + 1 := by omega
 have v1 : k < M.length + 2 := by omega
 have v2 : k < M.length + 3 := by omega
 have v3 : k < M.length + 4 := by omega
 obtain ⟨hp,_,_⟩ := dnI_spec q D D.length
 obtain ⟨p,hpd⟩ : ∃ p,p = dnI q D D.length := ⟨_,rfl⟩
 obtain ⟨n,hn⟩ : ∃ n,n = D.length := ⟨_,rfl⟩
 have hp' : p ≤ n := by rw [hpd,hn]; exact hp
 obtain ⟨R,hR⟩ : ∃ R,R = stC (D.map ratS) := ⟨_,rfl⟩
 have hRl : R.length = n := by rw [hR,stC_length,List.length_map,hn]
 have hRc : AV.closeds R = true := by rw [hR]; exact stC_closed _
 have hTl : (R.take p).length = p := by rw [List.length_take]; omega
 have hTc : ∀ l,AV.closeds (R.take l) = true := fun l => closeds_take _ _ hRc
 obtain ⟨g1,g2⟩ := insN_ins hi0
 unfold enG
 rw [g2]
 have hcase : p = 0 ∨ (0 < p ∧ ∃ x,D[p - 1]? = some x ∧ x ≠ q) := by
  rcases Nat.eq_zero_or_pos p with h | h
  ·exact .inl h
  ·have hpl : p - 1 < D.length := by omega
   refine .inr ⟨h,D[p - 1],List.getElem?_eq_getElem hpl,?_⟩
   unfold enIns at hi0
   rw [← hpd] at hi0
   rcases hi0 with h0 | h0
   ·omega
   ·rw [getD_get hpl] at h0; exact h0
 rw [← hpd] at hF2 ⊢
 rw [← hn] at hF1 hF2 hF3 h5 hp hDl ⊢
 rw [← hR] at hk hkE ⊢
 have c1 : ∀ l,AV.refsL l (R.take p) = [] := fun l => refsL_closeds (hTc p)
 have cl : ∀ l : List (List UInt8),(stC l).all AV.cellOk = true := fun l => by
  induction l with
  | nil => rfl
  | cons a l ih => simp only [stC,List.map_cons,List.all_cons,AV.cellOk,Bool.true_and]; exact ih
 have ca : (R.take p).all AV.cellOk = true := by rw [hR,stC,← List.map_take]; exact cl _
 have ra : R.all AV.cellOk = true := by rw [hR]; exact cl _
 have tn : R.take n = R := List.take_of_length_le (by omega)
 have rR : ∀ ok,AV.refsOkL ok R = true := fun ok => closeds_refsOk ok hRc
 have lR : ∀ l,AV.refsL l R = [] := fun l => refsL_closeds hRc
 have hDc : AV.closeds (R.drop p) = true := by rw [hR,stC,← List.map_drop]; exact stC_closed _
 have cd : (R.drop p).all AV.cellOk = true := by rw [hR,stC,← List.map_drop]; exact cl _
 have hDt : (R.drop p).take (n - p) = R.drop p := List.take_of_length_le (by rw [List.length_drop]; omega)
 have hDl2 : (R.drop p).length = n - p := by rw [List.length_drop]; omega
 have s1 : p ≤ n := by omega
 have s2 : p + (n - p) = n := by omega
 have b8 : (1 + n) * 16 ≤ 140737488355328 := by omega
 have b9 : 1 + n ≤ 140737488355328 := by omega
 have b10 : 1 + n = n + 1 := by omega
 have b11 : (n + 1) * 16 ≤ 140737488355328 := by omega
 have b12 : n ≤ 140737488355327 := by omega
 have b13 : p ≤ 140737488355327 := by omega
 have tpx : (R.take p ++ [AV.str (ratS q)]).take (p + 1) = R.take p ++ [AV.str (ratS q)] := List.take_of_length_le (by rw [List.length_append,List.length_take]; simp; omega)
 have tnx : (R ++ [AV.str (ratS q)]).take (n + 1) = R ++ [AV.str (ratS q)] := List.take_of_length_le (by rw [List.length_append]; simp; omega)
 have hkm : k < M.length + 5 := by omega
 have mx4 : ¬ M.length + 4 < 2 := by omega
 have x4 : ¬ k = M.length + 4 := by omega
 have y4 : ¬ M.length + 4 = k := by omega
 have z4 : ¬ M.length + 4 ≤ k := by omega
 have tt : (R.take p).take p = R.take p := by rw [List.take_take,Nat.min_self]
 have b1 : p ≤ 140737488355328 := by omega
 have b2 : (p + 1) ≤ 140737488355328 := by omega
 have b3 : (p + 1 + (n - p)) ≤ 140737488355328 := by omega
 have b4 : p * 16 ≤ 140737488355328 := by omega
 have b5 : (p + 1) * 16 ≤ 140737488355328 := by omega
 have b6 : (p + 1 + (n - p)) * 16 ≤ 140737488355328 := by omega
 have b7 : p + 1 + (n - p) = n + 1 := by omega
 have rT : ∀ ok,AV.refsOkL ok (R.take p) = true := fun ok => closeds_refsOk ok (hTc p)
 have rD : ∀ ok,AV.refsOkL ok (R.drop p) = true := fun ok => closeds_refsOk ok hDc
 rcases hcase with h0 | ⟨h0,x,hx,hxq⟩
 ·subst h0
  refine ⟨4,.inl rfl,?_⟩
  rw [if_pos rfl]
  simp [h5,h31,h32,h33,m0,m1,m3,hw,hwi,hwE,hwl,hi,hiI,w1,hF1,hF2,hF3,mergeBy_mask,mergeBy_maskA,mergeBy_maskB0,maskBy_get,maskBy_getElem,gete_app,gete_app0,maskBy_drop,maskBy_length,get_app0,get_app,set_app0,set_app,get_low hkl,gete_low hkl,hk,hkE,x0,x1,x2,x3,y0,y1,y2,y3,z0,z1,z2,z3,v0,v1,v2,v3,hRl,hTl,c1,ca,cd,hDt,hDl2,s1,s2,b8,b9,b10,b11,b12,b13,tpx,tnx,refsOkL_append,hkm,mx4,x4,y4,z4,ra,tn,rR,lR,tt,b1,b2,b3,b4,b5,b6,b7,rT,rD,sameE,Nat.testBit]
 ·have hx1 : R[p - 1]? = some (.str (ratS x)) := by rw [hR]; exact stC_at (by rw [List.getElem?_map,hx]; rfl)
  have hpn : p - 1 < n := by omega
  have hxE : ∀ h,R[p - 1]'h = .str (ratS x) := fun h => by rw [List.getElem?_eq_getElem h] at hx1; exact Option.some.inj hx1
  have hne2 : (ratS x == ratS q) = false := by simpa using fun e => hxq (ratS_inj e)
  have hpI : ¬ (p : Int) = 0 := by omega
  have hpN : ¬ p = 0 := by omega
  have wp : IntKind.i64.wrap ((p : Int) - 1) = ((p - 1 : Nat) : Int) := by rw [wrap_i64 (by omega) (by omega)]; omega
  by_cases hpn' : p < n
  ·refine ⟨4,.inl rfl,?_⟩
   rw [if_pos rfl]
   simp [hpn',h5,h31,h32,h33,m0,m1,m3,hw,hwi,hwE,hwl,hi,hiI,w1,hF1,hF2,hF3,mergeBy_mask,mergeBy_maskA,mergeBy_maskB0,maskBy_get,maskBy_getElem,gete_app,gete_app0,maskBy_drop,maskBy_length,get_app0,get_app,set_app0,set_app,get_low hkl,gete_low hkl,hk,hkE,x0,x1,x2,x3,y0,y1,y2,y3,z0,z1,z2,z3,v0,v1,v2,v3,hRl,hx1,hxE,hpn,hne2,hpI,hpN,wp,hTl,c1,ca,cd,hDt,hDl2,s1,s2,b8,b9,b10,b11,b12,b13,tpx,tnx,refsOkL_append,hkm,mx4,x4,y4,z4,ra,tn,rR,lR,tt,b1,b2,b3,b4,b5,b6,b7,rT,rD,sameE,Nat.testBit]
  ·have hpe : p = n := by omega
   have hn0 : 0 < n := by omega
   have hD0 : R.drop n = [] := List.drop_of_length_le (by omega)
   subst hpe
   refine ⟨5,.inr rfl,?_⟩
   rw [if_neg (by decide)]
   simp [hn0,hD0,h5,h31,h32,h33,m0,m1,m3,hw,hwi,hwE,hwl,hi,hiI,w1,hF1,hF2,hF3,mergeBy_mask,mergeBy_maskA,mergeBy_maskB0,maskBy_get,maskBy_getElem,gete_app,gete_app0,maskBy_drop,maskBy_length,get_app0,get_app,set_app0,set_app,get_low hkl,gete_low hkl,hk,hkE,x0,x1,x2,x3,y0,y1,y2,y3,z0,z1,z2,z3,v0,v1,v2,v3,hRl,hx1,hxE,hpn,hne2,hpI,hpN,wp,hTl,c1,ca,cd,hDt,hDl2,s1,s2,b8,b9,b10,b11,b12,b13,tpx,tnx,refsOkL_append,hkm,mx4,x4,y4,z4,ra,tn,rR,lR,tt,b1,b2,b3,b4,b5,b6,b7,rT,rD,sameE,Nat.testBit]
set_option maxRecDepth 8192 in
set_option maxHeartbeats 12800000 in
theorem Tryz.en_same {K : Nat} (D : List Rat) (hD : ∀ x ∈ D,fine x) (hDl : D.length ≤ 1000000) (hne : D ≠ []) (k : Nat) (ow : Bool) (M : Mem) (hk : M[k]? = some (.cells ow 1 (stC (D.map ratS)))) (hM2 : 2 ≤ M.length) (q : Rat) (hq : fine q) (e : Nat) (we : List AV) (hw : M[e]? = some (.cells true 1 we)) (i : Nat) (hi : i < 2) (hwi : we[i]? = some (.str (ratS q))) (hwl : we.length = 2) (hK : D.length < K)
  {b0 b1 b2 b3 : Code} (hb : loopsF Tryz.f13 = [b0,b1,b2,b3]) (hlv : Tryz.enLv b3 = [12]) (hi0 : ¬ enIns D q) (env : Env) (d : Bool)
  (h5 : Eng.look env 5 = .slice k 0 D.length none) (h31 : Eng.look env 31 = .slice e 0 2 none) (h32 : Eng.look env 32 = .int .i64 2) (h33 : Eng.look env 33 = .int .i64 (i : Int)) :
  ∃ env',execC (tyOf Tryz.prog) Tryz.enLv (pureO Tryz.ratF3) K 80 2 true b2 ⟨env,M,d⟩ = some (.normal,⟨env',M,d⟩) ∧ Eng.look env' 5 = .slice k 0 D.length none ∧ Eng.look env' 33 = .int .i64 ((i + 1 : Nat) : Int) ∧ sameE env env' := by
 obtain ⟨F,hF⟩ := Tryz.en_scan (K := K) M (.slice k 0 D.length none) D (.inr ⟨k,ow,rfl,hk,hne⟩) hD q hq hDl hK hb hlv
 have hF1 := fun env0 d h => (hF env0 d h).1
 have hF2 := fun env0 d h => (hF env0 d h).2.1
 have hF3 := fun env0 d h t ht => (hF env0 d h).2.2 t ht
 clear hF
 obtain ⟨ops,hops⟩ : ∃ ops,drawsF Tryz.f13 = [ops] := ⟨_,rfl⟩
 have hbs := draws_one hops (l := [0,0,0,6,15,0,32,127,0,0,768,2047,4095]) (by kernel_rfl)
 simp [drawsF,drawsC,Tryz.f13] at hops
 subst hops
 simp [loopsF,loopsC,Tryz.f13] at hb
 obtain ⟨_,_,hb2,hb3⟩ := hb
 clear hlv
 subst hb3
 subst hb2
 have w1 : IntKind.i64.wrap ((i : Int) + 1) = (i : Int) + 1 := wrap_i64 (by omega) (by omega)
 have hiI : (i : Int) < 2 := by omega
 have hel : e < M.length := (List.getElem?_eq_some_iff.1 hw).1
 have hwE : ∀ h,we[i]'h = .str (ratS q) := fun h => by rw [List.getElem?_eq_getElem h] at hwi; exact Option.some.inj hwi
 have m0 : ¬ M.length < 2 := by omega
 have m1 : ¬ M.length + 1 < 2 := by omega
 have m3 : ¬ M.length + 3 < 2 := by omega
 have hkl : k < M.length := (List.getElem?_eq_some_iff.1 hk).1
 have hkE : ∀ h,M[k]'h = .cells ow 1 (stC (D.map ratS)) := fun h => by rw [List.getElem?_eq_getElem h] at hk; exact Option.some.inj hk
 have x0 : ¬ k = M.length := by omega
 have x1 : ¬ k = M.length + 1 := by omega
 have x2 : ¬ k = M.length + 2 := by omega
 have x3 : ¬ k = M.length + 3 := by omega
 have y0 : ¬ M.length = k := by omega
 have y1 : ¬ M.length + 1 = k := by omega
 have y2 : ¬ M.length + 2 = k := by omega
 have y3 : ¬ M.length + 3 = k := by omega
 have z0 : ¬ M.length ≤ k := by omega
 have z1 : ¬ M.length + 1 ≤ k := by omega
 have z2 : ¬ M.length + 2 ≤ k := by omega
 have z3 : ¬ M.length + 3 ≤ k := by omega
 have v0 : k < M.length + 1 := by omega
 have v1 : k < M.length + 2 := by omega
 have v2 : k < M.length + 3 := by omega
 have v3 : k < M.length + 4 := by omega
 obtain ⟨hp,_,_⟩ := dnI_spec q D D.length
 obtain ⟨p,hpd⟩ : ∃ p,p = dnI q D D.length := ⟨_,rfl⟩
 obtain ⟨n,hn⟩ : ∃ n,n = D.length := ⟨_,rfl⟩
 have hp' : p ≤ n := by rw [hpd,hn]; exact hp
 obtain ⟨R,hR⟩ : ∃ R,R = stC (D.map ratS) := ⟨_,rfl⟩
 have hRl : R.length = n := by rw [hR,stC_length,List.length_map,hn]
 have hRc : AV.closeds R = true := by rw [hR]; exact stC_closed _
 have hTl : (R.take p).length = p := by rw [List.length_take]; omega
 have hTc : ∀ l,AV.closeds (R.take l) = true := fun l => closeds_take _ _ hRc
 have hcase : 0 < p ∧ ∃ x,D[p - 1]? = some x ∧ x = q := by
  unfold enIns at hi0
  rw [← hpd] at hi0
  have h : 0 < p := Nat.pos_of_ne_zero fun e => hi0 (.inl e)
  have hpl : p - 1 < D.length := by omega
  refine ⟨h,D[p - 1],List.getElem?_eq_getElem hpl,?_⟩
  have h0 : D.getD (p - 1) 0 = q := by
   by_cases e : D.getD (p - 1) 0 = q
   ·exact e
   ·exact absurd (.inr e) hi0
  rw [getD_get hpl] at h0; exact h0
 rw [← hpd] at hF2
 rw [← hn] at hF1 hF2 hF3 h5 hp hDl ⊢
 rw [← hR] at hk hkE
 obtain ⟨h0,x,hx,rfl⟩ := hcase
 have hx1 : R[p - 1]? = some (.str (ratS x)) := by rw [hR]; exact stC_at (by rw [List.getElem?_map,hx]; rfl)
 have hpn : p - 1 < n := by omega
 have hxE : ∀ h,R[p - 1]'h = .str (ratS x) := fun h => by rw [List.getElem?_eq_getElem h] at hx1; exact Option.some.inj hx1
 have hpI : ¬ (p : Int) = 0 := by omega
 have hpN : ¬ p = 0 := by omega
 have wp : IntKind.i64.wrap ((p : Int) - 1) = ((p - 1 : Nat) : Int) := by rw [wrap_i64 (by omega) (by omega)]; omega
 simp [h5,h31,h32,h33,m0,m1,m3,hw,hwi,hwE,hwl,hi,hiI,w1,hF1,hF2,hF3,mergeBy_mask,mergeBy_maskA,mergeBy_maskB0,maskBy_get,maskBy_getElem,gete_app,gete_app0,maskBy_drop,maskBy_length,get_app0,get_app,set_app0,set_app,get_low hkl,gete_low hkl,hk,hkE,x0,x1,x2,x3,y0,y1,y2,y3,z0,z1,z2,z3,v0,v1,v2,v3,hRl,hx1,hxE,hpn,hpI,hpN,wp,sameE,Nat.testBit]
def frT (D0 D : List Rat) : Mem := if D = D0 then [] else [.cells true 1 (stC (D.map ratS))]
def frO (m : Nat) (o0 : AV) (D0 D : List Rat) : AV := if D = D0 then o0 else .slice m 0 D.length none
theorem insN_len {D : List Rat} {q : Rat} : (enIns D q ∧ (insN D q).length = D.length + 1) ∨ (¬ enIns D q ∧ insN D q = D) := by
 by_cases h : enIns D q
 ·exact .inl ⟨h,(insN_ins h).1⟩
 ·exact .inr ⟨h,insN_same h⟩
def one1 (M : Mem) (D : List Rat) (q : Rat) (o : AV) (g : Mem) (o' : AV) : Prop :=
 (g = [] ∧ o' = o ∧ insN D q = D) ∨ ∃ r,(r = 4 ∨ r = 5) ∧ g = enG r D q ∧ o' = .slice (M.length + r) 0 (insN D q).length none ∧ (insN D q).length = D.length + 1
theorem Tryz.en_one {K : Nat} (M : Mem) (o : AV) (D : List Rat) (ho : OutAt M o D) (hD : ∀ x ∈ D,fine x) (hDl : D.length ≤ 1000000) (hM2 : 2 ≤ M.length) (q : Rat) (hq : fine q) (e : Nat) (we : List AV) (hw : M[e]? = some (.cells true 1 we)) (i : Nat) (hi : i < 2) (hwi : we[i]? = some (.str (ratS q))) (hwl : we.length = 2) (hK : D.length < K)
  {b0 b1 b2 b3 : Code} (hb : loopsF Tryz.f13 = [b0,b1,b2,b3]) (hlv : Tryz.enLv b3 = [12]) (env : Env) (d : Bool)
  (h5 : Eng.look env 5 = o) (h31 : Eng.look env 31 = .slice e 0 2 none) (h32 : Eng.look env 32 = .int .i64 2) (h33 : Eng.look env 33 = .int .i64 (i : Int)) :
  ∃ env' g o',execC (tyOf Tryz.prog) Tryz.enLv (pureO Tryz.ratF3) K 80 2 true b2 ⟨env,M,d⟩ = some (.normal,⟨env',M ++ g,d⟩) ∧ Eng.look env' 5 = o' ∧ Eng.look env' 33 = .int .i64 ((i + 1 : Nat) : Int) ∧ sameE env env' ∧ one1 M D q o g o' := by
 rcases ho with ⟨rfl,rfl⟩ | ⟨k,ow,rfl,hk,hne⟩
 ·obtain ⟨env',h1,h2,h3,h4⟩ := Tryz.en_body0 (K := K) M hM2 q hq e we hw i hi hwi hwl (by simpa using hK) hb hlv env d h5 h31 h32 h33
  have e1 : insN [] q = [q] := by simp [insN,dnI]
  exact ⟨env',_,_,h1,h2,h3,h4,.inr ⟨4,.inl rfl,rfl,by rw [e1]; rfl,by rw [e1]; rfl⟩⟩
 ·by_cases hi0 : enIns D q
  ·obtain ⟨r,hr,env',h1,h2,h3,h4⟩ := Tryz.en_ins (K := K) D hD hDl hne k ow M hk hM2 q hq e we hw i hi hwi hwl hK hb hlv hi0 env d h5 h31 h32 h33
   have hl := (insN_ins hi0).1
   exact ⟨env',_,_,h1,h2,h3,h4,.inr ⟨r,hr,rfl,by rw [hl],hl⟩⟩
  ·obtain ⟨env',h1,h2,h3,h4⟩ := Tryz.en_same (K := K) D hD hDl hne k ow M hk hM2 q hq e we hw i hi hwi hwl hK hb hlv hi0 env d h5 h31 h32 h33
   exact ⟨env',[],_,by rw [List.append_nil]; exact h1,h2,h3,h4,.inl ⟨rfl,rfl,insN_same hi0⟩⟩
theorem en_normA (M t : Mem) (hMr : ∀ s ∈ M,s.refs M.length = []) (r n x : Nat) (ow : Bool) (R : List AV) (hR : AV.closeds R = true) (ht : t[r]? = some (.cells ow 1 R)) (wr : List Nat) (h5w : 5 ∈ wr) (hxw : x ∈ wr) (env0 env' : Env) (v : Int) (d : Bool)
  (h5 : Eng.look env' 5 = .slice (M.length + r) 0 n none) (hx : Eng.look env' x = .int .i64 v) :
  normS [5,x] wr env0 M.length ⟨env',M ++ t,d⟩ = ⟨normE [5,x] wr env0 ((5,.slice M.length 0 n none) :: (x,.int .i64 v) :: env0),M ++ [.cells ow 1 R],d⟩ := by
 have hrt : r < t.length := (List.getElem?_eq_some_iff.1 ht).1
 have hgt : (M ++ t).getD (M.length + r) .absent = .cells ow 1 R := by
  simp only [List.getD]
  rw [get_app,ht]; rfl
 have htE : ∀ h,t[r]'h = .cells ow 1 R := fun h => by rw [List.getElem?_eq_getElem h] at ht; exact Option.some.inj ht
 have ix : List.idxOf? (M.length + r) [M.length + r] = some 0 := by simp [List.idxOf?,List.findIdx?_cons]
 have hg2 : (M ++ t)[M.length + r]? = some (.cells ow 1 R) := by rw [get_app,ht]
 have hall : (M.all fun s => (s.refs M.length).isEmpty) = true := List.all_eq_true.2 fun s hs => by rw [hMr s hs]; rfl
 have hx5 : x ≠ 5 → True := fun _ => trivial
 by_cases h : x = 5
 ·subst h; rw [h5] at hx; cases hx
 ·have hl : ¬ (M ++ t).length ≤ M.length := by rw [List.length_append]; omega
  have hlt : ¬ M.length + r < M.length := by omega
  have hlt2 : M.length + r < M.length + t.length := by omega
  have hd : ¬ 5 = x := fun e => h e.symm
  unfold normS
  simp only [hl,if_false]
  simp [-Slot.refs,-Slot.ren,refs_cells,ren_cells,h5,hx,hg2,htE,ix,hlt,hall,refsL_closeds hR,rens_closeds hR,hlt2,h5w,hxw,h,hd,hrt]
theorem en_normB (M t : Mem) (hMr : ∀ s ∈ M,s.refs M.length = []) (x : Nat) (wr : List Nat) (h5w : 5 ∈ wr) (hxw : x ∈ wr) (env0 env' : Env) (v : Int) (d : Bool) (o : AV) (ho : o.refs M.length = [])
  (h5 : Eng.look env' 5 = o) (hx : Eng.look env' x = .int .i64 v) (hx5 : x ≠ 5) :
  normS [5,x] wr env0 M.length ⟨env',M ++ t,d⟩ = ⟨normE [5,x] wr env0 ((5,o) :: (x,.int .i64 v) :: env0),M,d⟩ := by
 have hall : (M.all fun s => (s.refs M.length).isEmpty) = true := List.all_eq_true.2 fun s hs => by rw [hMr s hs]; rfl
 have hd : ¬ 5 = x := fun e => hx5 e.symm
 have hn : ∀ ks,o.ren (rho M.length ks) = o := fun ks => AV.ren_refs ho
 cases t with
 | nil => simp [h5,hx,hx5,hd]
 | cons s t =>
  simp [-Slot.refs,-Slot.ren,h5,hx,hall,ho,hn,h5w,hxw,hx5,hd]
theorem en_head (M : Mem) (hMr : ∀ s ∈ M,s.refs M.length = []) (o : AV) (D : List Rat) (ho : o.refs M.length = []) (X Y : List Rat) (hX : X = D ∨ D.length < X.length) (mid mem' : Mem) (o' : AV)
  (hc : (Y = X ∧ o' = frO M.length o D X ∧ mem' = M ++ (frT D X ++ mid)) ∨ (X.length < Y.length ∧ ∃ t r,mem' = M ++ t ∧ t[r]? = some (.cells true 1 (stC (Y.map ratS))) ∧ o' = .slice (M.length + r) 0 Y.length none))
  (x : Nat) (wr : List Nat) (h5w : 5 ∈ wr) (hxw : x ∈ wr) (hx5 : x ≠ 5) (env0 env' : Env) (v : Int) (d : Bool) (h5 : Eng.look env' 5 = o') (hx : Eng.look env' x = .int .i64 v) :
  normS [5,x] wr env0 M.length ⟨env',mem',d⟩ = ⟨normE [5,x] wr env0 ((5,frO M.length o D Y) :: (x,.int .i64 v) :: env0),M ++ frT D Y,d⟩ := by
 rcases hc with ⟨rfl,rfl,rfl⟩ | ⟨hl,t,r,rfl,ht,rfl⟩
 ·by_cases hd : Y = D
  ·unfold frO at h5
   rw [if_pos hd] at h5
   unfold frT frO
   rw [if_pos hd,if_pos hd,List.nil_append,List.append_nil]
   exact en_normB M mid hMr x wr h5w hxw env0 env' v d o ho h5 hx hx5
  ·unfold frO at h5
   rw [if_neg hd] at h5
   unfold frT frO
   rw [if_neg hd,if_neg hd]
   exact en_normA M _ hMr 0 Y.length x true (stC (Y.map ratS)) (stC_closed _) (by simp) wr h5w hxw env0 env' v d (by rw [h5,Nat.add_zero]) hx
 ·have hd : ¬ Y = D := by
   rintro rfl
   rcases hX with rfl | h
   ·omega
   ·omega
  unfold frT frO
  rw [if_neg hd,if_neg hd]
  exact en_normA M t hMr r Y.length x true (stC (Y.map ratS)) (stC_closed _) ht wr h5w hxw env0 env' v d h5 hx
theorem outAt_refs {M : Mem} {o : AV} {D : List Rat} (h : OutAt M o D) : o.refs M.length = [] := by
 rcases h with ⟨rfl,_⟩ | ⟨k,ow,rfl,hk,_⟩
 ·rfl
 ·have := (List.getElem?_eq_some_iff.1 hk).1
  simp [AV.refs,this]
theorem outAt_more {M N : Mem} {o : AV} {D : List Rat} (h : OutAt M o D) : OutAt (M ++ N) o D := by
 rcases h with ⟨rfl,rfl⟩ | ⟨k,ow,rfl,hk,hne⟩
 ·exact .inl ⟨rfl,rfl⟩
 ·exact .inr ⟨k,ow,rfl,by rw [get_low (List.getElem?_eq_some_iff.1 hk).1]; exact hk,hne⟩
theorem outAt_fr {M : Mem} {o : AV} {D X : List Rat} (h : OutAt M o D) (hX : X = D ∨ D.length < X.length) : OutAt (M ++ frT D X) (frO M.length o D X) X := by
 unfold frT frO
 by_cases hd : X = D
 ·rw [if_pos hd,if_pos hd,List.append_nil,hd]; exact h
 ·rw [if_neg hd,if_neg hd]
  refine .inr ⟨M.length,true,rfl,get_app0 _ _,?_⟩
  rintro rfl
  rcases hX with h1 | h1
  ·exact hd h1
  ·simp at h1
theorem insN_mono {D X : List Rat} {q : Rat} (hX : X = D ∨ D.length < X.length) : insN X q = D ∨ D.length < (insN X q).length := by
 rcases insN_len (D := X) (q := q) with ⟨_,h⟩ | ⟨_,h⟩
 ·right
  rcases hX with rfl | h1 <;> omega
 ·rw [h]; exact hX
theorem one_head {M : Mem} {o : AV} {D X : List Rat} {q : Rat} {g : Mem} {o' : AV} (h : one1 (M ++ frT D X) X q (frO M.length o D X) g o') :
  (insN X q = X ∧ o' = frO M.length o D X ∧ (M ++ frT D X) ++ g = M ++ (frT D X ++ [])) ∨ (X.length < (insN X q).length ∧ ∃ t r,(M ++ frT D X) ++ g = M ++ t ∧ t[r]? = some (.cells true 1 (stC ((insN X q).map ratS))) ∧ o' = .slice (M.length + r) 0 (insN X q).length none) := by
 rcases h with ⟨rfl,rfl,h⟩ | ⟨r,hr,rfl,rfl,hl⟩
 ·exact .inl ⟨h,rfl,by simp⟩
 ·refine .inr ⟨by omega,frT D X ++ enG r X q,(frT D X).length + r,by simp,?_,by rw [List.length_append,Nat.add_assoc]⟩
  rw [get_app]
  rcases hr with rfl | rfl
  ·unfold enG; rw [if_pos rfl]; rfl
  ·unfold enG; rw [if_neg (by decide)]; rfl
def djL (D : List Rat) (q0 q1 : Rat) : Nat → List Rat
 | 0 => D
 | 1 => insN D q0
 | _ => insN (insN D q0) q1
theorem insN_sub {D : List Rat} {q : Rat} (hD : ∀ x ∈ D,fine x) (hq : fine q) : ∀ x ∈ insN D q,fine x := by
 intro x hx
 unfold insN at hx
 split at hx
 ·rcases List.mem_append.1 hx with h | h
  ·exact hD x (List.mem_of_mem_take h)
  ·rcases List.mem_cons.1 h with rfl | h
   ·exact hq
   ·exact hD x (List.mem_of_mem_drop h)
 ·exact hD x hx
theorem insN_le {D : List Rat} {q : Rat} : (insN D q).length ≤ D.length + 1 := by
 rcases insN_len (D := D) (q := q) with ⟨_,h⟩ | ⟨_,h⟩
 ·omega
 ·rw [h]; omega
theorem Tryz.en_b2 {b0 b1 b2 b3 : Code} (hb : loopsF Tryz.f13 = [b0,b1,b2,b3]) : 5 ∈ writesC b2 ∧ 33 ∈ writesC b2 ∧ ∀ env0 u v,Eng.look (normE [5,33] (writesC b2) env0 ((5,u) :: (33,v) :: env0)) 5 = u ∧ Eng.look (normE [5,33] (writesC b2) env0 ((5,u) :: (33,v) :: env0)) 33 = v ∧
  ∀ t ∈ [13,15,16,17,21,22,23,31,32],Eng.look (normE [5,33] (writesC b2) env0 ((5,u) :: (33,v) :: env0)) t = Eng.look env0 t := by
 simp [loopsF,loopsC,Tryz.f13] at hb
 obtain ⟨_,_,rfl,_⟩ := hb
 simp
theorem Tryz.en_exit2 {O : Oracle} {K : Nat} {lv : Code → List Nat} {b0 b1 b2 b3 : Code} (hb : loopsF Tryz.f13 = [b0,b1,b2,b3]) (env : Env) (M : Mem) (d : Bool) (h32 : Eng.look env 32 = .int .i64 2) (h33 : Eng.look env 33 = .int .i64 2) :
  ∃ env',execC (tyOf Tryz.prog) lv O K 80 2 true b2 ⟨env,M,d⟩ = some (.exit 4,⟨env',M,d⟩) ∧ Eng.look env' 5 = Eng.look env 5 ∧ sameE env env' := by
 simp [loopsF,loopsC,Tryz.f13] at hb
 obtain ⟨_,_,rfl,_⟩ := hb
 simp [h32,h33,sameE]
theorem Tryz.en_loop2 {K : Nat} (M : Mem) (o : AV) (D : List Rat) (ho : OutAt M o D) (hMr : ∀ s ∈ M,s.refs M.length = []) (hD : ∀ x ∈ D,fine x) (hDl : D.length ≤ 900000) (hM2 : 2 ≤ M.length) (q0 q1 : Rat) (hq0 : fine q0) (hq1 : fine q1) (e : Nat) (hw : M[e]? = some (.cells true 1 [.str (ratS q0),.str (ratS q1)])) (hK : D.length + 2 < K)
  {b0 b1 b2 b3 : Code} (hb : loopsF Tryz.f13 = [b0,b1,b2,b3]) (hlv2 : Tryz.enLv b2 = [5,33]) (hlv : Tryz.enLv b3 = [12]) :
  ∃ F : Env → Bool → Env,∀ env0 d,(Eng.look env0 5 = o ∧ Eng.look env0 31 = .slice e 0 2 none ∧ Eng.look env0 32 = .int .i64 2 ∧ Eng.look env0 33 = .int .i64 0) →
   execC (tyOf Tryz.prog) Tryz.enLv (pureO Tryz.ratF3) K 80 2 true (.loop b2) ⟨env0,M,d⟩ = some (.exit 4,⟨F env0 d,M ++ frT D (insN (insN D q0) q1),d⟩) ∧
    (Eng.look (F env0 d) 5 = frO M.length o D (insN (insN D q0) q1) ∧ sameE env0 (F env0 d)) := by
 refine loop_rule hlv2 (fun env0 => Eng.look env0 5 = o ∧ Eng.look env0 31 = .slice e 0 2 none ∧ Eng.look env0 32 = .int .i64 2 ∧ Eng.look env0 33 = .int .i64 0) (fun env0 env' => Eng.look env' 5 = frO M.length o D (insN (insN D q0) q1) ∧ sameE env0 env') ?_
 rintro env0 d ⟨h5,h31,h32,h33⟩
 obtain ⟨w5,w33,hlook⟩ := Tryz.en_b2 hb
 have hn : normE [5,33] (writesC b2) env0 ((5,frO M.length o D (djL D q0 q1 0)) :: (33,.int .i64 ((0 : Nat) : Int)) :: env0) = normE [5,33] (writesC b2) env0 env0 := by simp [normE,h5,h33,djL,frO]
 rw [← hn]
 have hm : (⟨normE [5,33] (writesC b2) env0 ((5,frO M.length o D (djL D q0 q1 0)) :: (33,.int .i64 ((0 : Nat) : Int)) :: env0),M,d⟩ : XS) = ⟨normE [5,33] (writesC b2) env0 ((5,frO M.length o D (djL D q0 q1 0)) :: (33,.int .i64 ((0 : Nat) : Int)) :: env0),M ++ frT D (djL D q0 q1 0),d⟩ := by simp [djL,frT]
 rw [hm]
 refine iter_ind (α := Nat) (fun j => ⟨normE [5,33] (writesC b2) env0 ((5,frO M.length o D (djL D q0 q1 j)) :: (33,.int .i64 (j : Int)) :: env0),M ++ frT D (djL D q0 q1 j),d⟩) (fun j => 2 - j) (fun j => j ≤ 2) (.exit 4) _ d _ (by simp) ?_ K 0 (by omega) (by omega)
 intro j hj
 clear hn hm
 obtain ⟨g5,g33,gt⟩ := hlook env0 (frO M.length o D (djL D q0 q1 j)) (.int .i64 (j : Int))
 have hX : djL D q0 q1 j = D ∨ D.length < (djL D q0 q1 j).length := by
  match j,hj with
  | 0,_ => exact .inl rfl
  | 1,_ => exact insN_mono (.inl rfl)
  | 2,_ => exact insN_mono (insN_mono (.inl rfl))
 by_cases hlt : j < 2
 ·left
  have hq : ∃ q,fine q ∧ ([.str (ratS q0),.str (ratS q1)] : List AV)[j]? = some (.str (ratS q)) ∧ djL D q0 q1 (j + 1) = insN (djL D q0 q1 j) q := by
   match j,hlt with
   | 0,_ => exact ⟨q0,hq0,rfl,rfl⟩
   | 1,_ => exact ⟨q1,hq1,rfl,rfl⟩
  obtain ⟨q,hqf,hqi,hqs⟩ := hq
  have hXf : ∀ x ∈ djL D q0 q1 j,fine x := by
   match j,hj with
   | 0,_ => exact hD
   | 1,_ => exact insN_sub hD hq0
   | 2,_ => exact insN_sub (insN_sub hD hq0) hq1
  have hXl : (djL D q0 q1 j).length ≤ D.length + 2 := by
   match j,hj with
   | 0,_ => show D.length ≤ _; omega
   | 1,_ => have := insN_le (D := D) (q := q0); show (insN D q0).length ≤ _; omega
   | 2,_ => have := insN_le (D := D) (q := q0); have := insN_le (D := insN D q0) (q := q1); show (insN (insN D q0) q1).length ≤ _; omega
  obtain ⟨env',g,o',k1,k2,k3,k4,k5⟩ := Tryz.en_one (K := K) (M ++ frT D (djL D q0 q1 j)) _ _ (outAt_fr ho hX) hXf (by omega) (by rw [List.length_append]; omega) q hqf e _ (by rw [get_low (List.getElem?_eq_some_iff.1 hw).1]; exact hw) j hlt hqi rfl (by omega) hb hlv _ d g5 ((gt 31 (by simp)).trans h31) ((gt 32 (by simp)).trans h32) g33
  refine ⟨j + 1,_,k1,?_,by omega,by omega⟩
  rw [hqs]
  exact en_head M hMr o D (outAt_refs ho) (djL D q0 q1 j) _ hX [] _ o' (one_head k5) 33 (writesC b2) w5 w33 (by decide) env0 env' _ d k2 k3
 ·right
  have hj2 : j = 2 := by omega
  subst hj2
  obtain ⟨env',k1,k2,k3⟩ := Tryz.en_exit2 (O := pureO Tryz.ratF3) (K := K) (lv := Tryz.enLv) hb _ (M ++ frT D (djL D q0 q1 2)) d ((gt 32 (by simp)).trans h32) g33
  exact ⟨env',k1,k2.trans g5,fun t ht => (k3 t ht).trans (gt t ht)⟩
def still2 (M : Mem) : Prop := ∀ s ∈ M,∀ m,2 ≤ m → s.refs m = []
theorem still2_app {M N : Mem} (h : still2 M) (h' : still2 N) : still2 (M ++ N) := fun s hs => by
 rcases List.mem_append.1 hs with h1 | h1
 ·exact h s h1
 ·exact h' s h1
theorem still2_one {o : Bool} {e : Nat} {cs : List AV} (h : AV.closeds cs = true) : still2 [.cells o e cs] := fun s hs m _ => by
 simp only [List.mem_singleton] at hs
 subst hs
 exact refsL_closeds h
theorem still2_fr {D X : List Rat} : still2 (frT D X) := by
 unfold frT
 split
 ·intro s hs; cases hs
 ·exact still2_one (stC_closed _)
def sameL (env0 env' : Env) : Prop := ∀ t ∈ [13,15,16,17],Eng.look env' t = Eng.look env0 t
theorem insN_mono2 {X : List Rat} {a b : Rat} : insN (insN X a) b = X ∨ X.length < (insN (insN X a) b).length := insN_mono (insN_mono (.inl rfl))
set_option maxHeartbeats 3200000 in
theorem Tryz.en_body1 {K : Nat} (M : Mem) (o : AV) (X : List Rat) (ho : OutAt M o X) (hMs : still2 M) (hX : ∀ x ∈ X,fine x) (hXl : X.length ≤ 900000) (hM2 : 2 ≤ M.length) (i : Nat) (L : List Iv) (hrow : M[i]? = some (.cells false 3 (ivC L))) (n : Nat) (hn : n < L.length) (hl : L.length ≤ 100000) (u : List UInt8) (a b : Rat) (hk : L[n]? = some (u,ratS a,ratS b)) (ha : fine a) (hb' : fine b) (hK : X.length + 2 < K)
  {b0 b1 b2 b3 : Code} (hb : loopsF Tryz.f13 = [b0,b1,b2,b3]) (hlv2 : Tryz.enLv b2 = [5,33]) (hlv : Tryz.enLv b3 = [12]) (env : Env) (d : Bool)
  (h5 : Eng.look env 5 = o) (h21 : Eng.look env 21 = .slice i 0 L.length none) (h22 : Eng.look env 22 = .int .i64 L.length) (h23 : Eng.look env 23 = .int .i64 (n : Int)) :
  ∃ env' N,execC (tyOf Tryz.prog) Tryz.enLv (pureO Tryz.ratF3) K 80 2 true b1 ⟨env,M,d⟩ = some (.normal,⟨env',(M ++ N) ++ frT X (insN (insN X a) b),d⟩) ∧ N.length = 2 ∧ Eng.look env' 5 = frO (M.length + 2) o X (insN (insN X a) b) ∧ Eng.look env' 23 = .int .i64 ((n + 1 : Nat) : Int) ∧
   (Eng.look env' 21 = .slice i 0 L.length none ∧ Eng.look env' 22 = .int .i64 L.length ∧ sameL env env') := by
 obtain ⟨N,hN⟩ : ∃ N : Mem,N = [.cells true 0 [.str u,.str (ratS a),.str (ratS b)],.cells true 1 [.str (ratS a),.str (ratS b)]] := ⟨_,rfl⟩
 have hNs : still2 N := by
  rw [hN]
  exact still2_app (M := [.cells true 0 [.str u,.str (ratS a),.str (ratS b)]]) (N := [.cells true 1 [.str (ratS a),.str (ratS b)]]) (still2_one rfl) (still2_one rfl)
 have hNl : (M ++ N).length = M.length + 2 := by rw [hN]; simp
 obtain ⟨F,hF⟩ := Tryz.en_loop2 (K := K) (M ++ N) o X (outAt_more ho) (fun s hs => (still2_app hMs hNs) s hs _ (by omega)) hX hXl (by omega) a b ha hb' (M.length + 1) (by rw [hN,get_app]; rfl) hK hb hlv2 hlv
 have hF1 := fun env0 d h => (hF env0 d h).1
 have hF2 := fun env0 d h => (hF env0 d h).2.1
 have hF3 := fun env0 d h t ht => (hF env0 d h).2.2 t ht
 clear hF
 rw [hNl] at hF2
 suffices h : ∃ env',execC (tyOf Tryz.prog) Tryz.enLv (pureO Tryz.ratF3) K 80 2 true b1 ⟨env,M,d⟩ = some (.normal,⟨env',(M ++ N) ++ frT X (insN (insN X a) b),d⟩) ∧ Eng.look env' 5 = frO (M.length + 2) o X (insN (insN X a) b) ∧ Eng.look env' 23 = .int .i64 ((n + 1 : Nat) : Int) ∧ (Eng.look env' 21 = .slice i 0 L.length none ∧ Eng.look env' 22 = .int .i64 L.length ∧ sameL env env') by
  obtain ⟨env',g1,g2,g3,g4⟩ := h
  exact ⟨env',N,g1,by rw [hN]; rfl,g2,g3,g4⟩
 obtain ⟨k1,_,_,_⟩ := ivC_at hk
 have kl : (ivC L).length = L.length * 3 := ivC_length L
 have k5 : n * 3 + 3 ≤ (ivC L).length := by omega
 have w1 : IntKind.i64.wrap ((n : Int) + 1) = (n : Int) + 1 := wrap_i64 (by omega) (by omega)
 have hnI : (n : Int) < L.length := by omega
 have hil : i < M.length := (List.getElem?_eq_some_iff.1 hrow).1
 have hrE : ∀ h,M[i]'h = .cells false 3 (ivC L) := fun h => by rw [List.getElem?_eq_getElem h] at hrow; exact Option.some.inj hrow
 obtain ⟨R,hR⟩ : ∃ R,R = frT X (insN (insN X a) b) := ⟨_,rfl⟩
 obtain ⟨V,hV⟩ : ∃ V,V = frO (M.length + 2) o X (insN (insN X a) b) := ⟨_,rfl⟩
 rw [← hR] at hF1 ⊢
 rw [← hV] at hF2 ⊢
 simp only [loopsF,loopsC,Tryz.f13] at hb
 simp at hb
 obtain ⟨_,hb1,hb2,hb3⟩ := hb
 clear hlv hlv2
 subst hb3
 subst hb2
 subst hb1
 subst hN
 simp only at k1
 have m0 : ¬ M.length < 2 := by omega
 simp [h5,h21,h22,h23,m0,hn,hnI,hrow,hrE,k1,k5,w1,hF1,hF2,hF3,get_app0,get_app,gete_app,gete_app0,set_app0,set_app,sameL]
theorem Tryz.en_b1 {b0 b1 b2 b3 : Code} (hb : loopsF Tryz.f13 = [b0,b1,b2,b3]) : 5 ∈ writesC b1 ∧ 23 ∈ writesC b1 ∧ ∀ env0 u v,Eng.look (normE [5,23] (writesC b1) env0 ((5,u) :: (23,v) :: env0)) 5 = u ∧ Eng.look (normE [5,23] (writesC b1) env0 ((5,u) :: (23,v) :: env0)) 23 = v ∧
  ∀ t ∈ [13,15,16,17,21,22],Eng.look (normE [5,23] (writesC b1) env0 ((5,u) :: (23,v) :: env0)) t = Eng.look env0 t := by
 simp [loopsF,loopsC,Tryz.f13] at hb
 obtain ⟨_,rfl,_⟩ := hb
 simp
theorem Tryz.en_exit1 {O : Oracle} {K : Nat} {lv : Code → List Nat} {b0 b1 b2 b3 : Code} (hb : loopsF Tryz.f13 = [b0,b1,b2,b3]) (env : Env) (M : Mem) (d : Bool) (n : Nat) (h22 : Eng.look env 22 = .int .i64 (n : Int)) (h23 : Eng.look env 23 = .int .i64 (n : Int)) :
  ∃ env',execC (tyOf Tryz.prog) lv O K 80 2 true b1 ⟨env,M,d⟩ = some (.exit 2,⟨env',M,d⟩) ∧ Eng.look env' 5 = Eng.look env 5 ∧ sameL env env' := by
 simp [loopsF,loopsC,Tryz.f13] at hb
 obtain ⟨_,rfl,_⟩ := hb
 simp [h22,h23,sameL]
def enX (D : List Rat) (L : List Iv) (n : Nat) : List Rat := (endsQ (L.take n)).foldl insN D
theorem enX_succ {D : List Rat} {L : List Iv} {n : Nat} {x : Iv} {a b : Rat} (hx : L[n]? = some x) (hab : ivN x = some (a,b)) : enX D L (n + 1) = insN (insN (enX D L n) a) b := by
 unfold enX
 rw [take_snoc hx,endsQ,List.flatMap_append,List.foldl_append]
 simp [endsQ,ivE2,hab]
theorem enX_mono {D : List Rat} {L : List Iv} (hL : ∀ x ∈ L,rightIv x) : ∀ n,n ≤ L.length → (enX D L n = D ∨ D.length < (enX D L n).length) ∧ (enX D L n).length ≤ D.length + 2 * n
 | 0,_ => ⟨.inl rfl,by simp [enX,endsQ]⟩
 | n + 1,h => by
  obtain ⟨h1,h2⟩ := enX_mono hL n (by omega)
  obtain ⟨x,hx⟩ : ∃ x,L[n]? = some x := ⟨_,List.getElem?_eq_getElem (by omega)⟩
  obtain ⟨a,b,hab⟩ := hL x (List.mem_of_getElem? hx)
  rw [enX_succ hx hab]
  refine ⟨insN_mono (insN_mono h1),?_⟩
  have e1 := insN_le (D := enX D L n) (q := a)
  have e2 := insN_le (D := insN (enX D L n) a) (q := b)
  omega
theorem enX_fine {D : List Rat} {L : List Iv} (hD : ∀ x ∈ D,fine x) (hL : ∀ x ∈ L,rightIv x) : ∀ n,n ≤ L.length → ∀ x ∈ enX D L n,fine x
 | 0,_ => hD
 | n + 1,h => by
  obtain ⟨x,hx⟩ : ∃ x,L[n]? = some x := ⟨_,List.getElem?_eq_getElem (by omega)⟩
  obtain ⟨a,b,hab⟩ := hL x (List.mem_of_getElem? hx)
  obtain ⟨_,_,fa,fb⟩ := ivN_some hab
  rw [enX_succ hx hab]
  exact insN_sub (insN_sub (enX_fine hD hL n (by omega)) fa) fb
theorem Tryz.en_loop1 {K : Nat} (M : Mem) (o : AV) (D : List Rat) (ho : OutAt M o D) (hMs : still2 M) (hD : ∀ x ∈ D,fine x) (hDl : D.length ≤ 100000) (hM2 : 2 ≤ M.length) (p : Bool) (i : Nat) (L : List Iv) (hp : rowOk p L) (hrow : M[i]? = some (rowS p L)) (hL : ∀ x ∈ L,rightIv x) (hl : L.length ≤ 100000) (hK : D.length + 2 * L.length + 2 < K)
  {b0 b1 b2 b3 : Code} (hb : loopsF Tryz.f13 = [b0,b1,b2,b3]) (hlv1 : Tryz.enLv b1 = [5,23]) (hlv2 : Tryz.enLv b2 = [5,33]) (hlv : Tryz.enLv b3 = [12]) :
  ∃ F : Env → Bool → Env,∀ env0 d,(Eng.look env0 5 = o ∧ Eng.look env0 21 = rowV p i L ∧ Eng.look env0 22 = .int .i64 L.length ∧ Eng.look env0 23 = .int .i64 0) →
   execC (tyOf Tryz.prog) Tryz.enLv (pureO Tryz.ratF3) K 80 2 true (.loop b1) ⟨env0,M,d⟩ = some (.exit 2,⟨F env0 d,M ++ frT D (enX D L L.length),d⟩) ∧
    (Eng.look (F env0 d) 5 = frO M.length o D (enX D L L.length) ∧ sameL env0 (F env0 d)) := by
 refine loop_rule hlv1 (fun env0 => Eng.look env0 5 = o ∧ Eng.look env0 21 = rowV p i L ∧ Eng.look env0 22 = .int .i64 L.length ∧ Eng.look env0 23 = .int .i64 0) (fun env0 env' => Eng.look env' 5 = frO M.length o D (enX D L L.length) ∧ sameL env0 env') ?_
 rintro env0 d ⟨h5,h21,h22,h23⟩
 obtain ⟨w5,w23,hlook⟩ := Tryz.en_b1 hb
 have hx0 : enX D L 0 = D := by simp [enX,endsQ]
 have hn : normE [5,23] (writesC b1) env0 ((5,frO M.length o D (enX D L 0)) :: (23,.int .i64 ((0 : Nat) : Int)) :: env0) = normE [5,23] (writesC b1) env0 env0 := by simp [normE,h5,h23,hx0,frO]
 rw [← hn]
 have hm : (⟨normE [5,23] (writesC b1) env0 ((5,frO M.length o D (enX D L 0)) :: (23,.int .i64 ((0 : Nat) : Int)) :: env0),M,d⟩ : XS) = ⟨normE [5,23] (writesC b1) env0 ((5,frO M.length o D (enX D L 0)) :: (23,.int .i64 ((0 : Nat) : Int)) :: env0),M ++ frT D (enX D L 0),d⟩ := by simp [hx0,frT]
 rw [hm]
 refine iter_ind (α := Nat) (fun n => ⟨normE [5,23] (writesC b1) env0 ((5,frO M.length o D (enX D L n)) :: (23,.int .i64 (n : Int)) :: env0),M ++ frT D (enX D L n),d⟩) (fun n => L.length - n) (fun n => n ≤ L.length) (.exit 2) _ d _ (by simp) ?_ K 0 (by omega) (by omega)
 intro n hn1
 clear hn hm
 obtain ⟨g5,g23,gt⟩ := hlook env0 (frO M.length o D (enX D L n)) (.int .i64 (n : Int))
 obtain ⟨hX,hXl⟩ := enX_mono (D := D) hL n hn1
 by_cases hlt : n < L.length
 ·left
  obtain ⟨x,hx⟩ : ∃ x,L[n]? = some x := ⟨_,List.getElem?_eq_getElem hlt⟩
  obtain ⟨a,b,hab⟩ := hL x (List.mem_of_getElem? hx)
  obtain ⟨e1,e2,fa,fb⟩ := ivN_some hab
  have hp1 : p = true := by
   cases p with
   | true => rfl
   | false => rw [hp rfl] at hlt; simp at hlt
  have hrow' : (M ++ frT D (enX D L n))[i]? = some (.cells false 3 (ivC L)) := by
   rw [get_low (List.getElem?_eq_some_iff.1 hrow).1,hrow,hp1]; rfl
  have h21' : Eng.look env0 21 = .slice i 0 L.length none := by rw [h21,hp1]; rfl
  obtain ⟨u,s,t⟩ := x
  simp only at e1 e2
  subst e1 e2
  obtain ⟨env',N,k1,k2,k3,k4,k5⟩ := Tryz.en_body1 (K := K) (M ++ frT D (enX D L n)) _ _ (outAt_fr ho hX) (still2_app hMs still2_fr) (enX_fine hD hL n hn1) (by omega) (by rw [List.length_append]; omega) i L hrow' n hlt hl u a b hx fa fb (by omega) hb hlv2 hlv _ d g5 ((gt 21 (by simp)).trans h21') ((gt 22 (by simp)).trans h22) g23
  refine ⟨n + 1,_,k1,?_,by omega,by omega⟩
  rw [enX_succ hx hab]
  obtain ⟨Y,hY⟩ : ∃ Y,Y = insN (insN (enX D L n) a) b := ⟨_,rfl⟩
  rw [← hY] at k3 ⊢
  refine en_head M (fun s hs => hMs s hs _ hM2) o D (outAt_refs ho) (enX D L n) Y hX N _ _ ?_ 23 (writesC b1) w5 w23 (by decide) env0 env' _ d k3 k4
  rcases insN_mono2 (X := enX D L n) (a := a) (b := b) with h | h
  ·rw [← hY] at h
   left
   refine ⟨h,?_,?_⟩
   ·unfold frO
    rw [if_pos h]
   ·unfold frT
    rw [if_pos h]
    simp
  ·rw [← hY] at h
   have hne : ¬ Y = enX D L n := fun e => by rw [e] at h; omega
   right
   refine ⟨h,frT D (enX D L n) ++ N ++ frT (enX D L n) Y,(frT D (enX D L n)).length + 2,by simp,?_,?_⟩
   ·rw [List.append_assoc,get_app,List.getElem?_append_right (by omega),k2]
    unfold frT
    rw [if_neg hne]; rfl
   ·unfold frO
    rw [if_neg hne,List.length_append,Nat.add_assoc]
 ·right
  have hne : n = L.length := by omega
  subst hne
  obtain ⟨env',k1,k2,k3⟩ := Tryz.en_exit1 (O := pureO Tryz.ratF3) (K := K) (lv := Tryz.enLv) hb _ (M ++ frT D (enX D L L.length)) d L.length ((gt 22 (by simp)).trans h22) g23
  exact ⟨env',k1,k2.trans g5,fun t ht => (k3 t ht).trans (gt t (by simp at ht ⊢; omega))⟩
theorem Tryz.aLen_row (mem : Mem) (p : Bool) (i : Nat) {A : List Iv} (hp : rowOk p A) : aLen (tyOf Tryz.prog) 24 mem (rowV p i A) = some (.int .i64 A.length) := by
 cases p with
 | true => simp [rowV]
 | false => rw [hp rfl]; simp [rowV]
theorem Tryz.aLen_rows (mem : Mem) (b o n : Nat) (c : Option Nat) : aLen (tyOf Tryz.prog) 85 mem (.slice b o n c) = some (.int .i64 n) := by simp
theorem Tryz.aLen_rat (mem : Mem) (b o n : Nat) (c : Option Nat) : aLen (tyOf Tryz.prog) 27 mem (.slice b o n c) = some (.int .i64 n) := by simp
def raV (i : Nat) (D : List Rat) : AV := match D with
 | [] => .nilslice
 | _ :: _ => .slice i 0 D.length none
def raM (D : List Rat) : Mem := match D with
 | [] => []
 | _ :: _ => [.cells true 1 (stC (D.map ratS))]
theorem raM_ne {D : List Rat} (h : D ≠ []) : raM D = [.cells true 1 (stC (D.map ratS))] := by cases D with | nil => exact absurd rfl h | cons a D => rfl
theorem raV_ne {D : List Rat} (h : D ≠ []) (i : Nat) : raV i D = .slice i 0 D.length none := by cases D with | nil => exact absurd rfl h | cons a D => rfl
set_option maxHeartbeats 6400000 in
theorem Tryz.aEnds (p q : Bool) (A B : List Iv) (hp : rowOk p A) (hq : rowOk q B) (hA : ∀ x ∈ A,rightIv x) (hB : ∀ x ∈ B,rightIv x) (lA : A.length ≤ 10000) (lB : B.length ≤ 10000) :
  ACallsTo Tryz.prog 13 [rowV p 0 A,rowV q 1 B] [rowS p A,rowS q B] (raV 2 (cutsQ A B)) ([rowS p A,rowS q B] ++ raM (cutsQ A B)) := by
 have hG : fnOf Tryz.prog 13 = some Tryz.f13 := by kernel_rfl
 obtain ⟨b0,b1,b2,b3,hb,hlv1,hlv2,hlv3⟩ : ∃ b0 b1 b2 b3,loopsF Tryz.f13 = [b0,b1,b2,b3] ∧ Tryz.enLv b1 = [5,23] ∧ Tryz.enLv b2 = [5,33] ∧ Tryz.enLv b3 = [12] := ⟨_,_,_,_,rfl,by decide,by decide,by decide⟩
 obtain ⟨K,hK⟩ : ∃ K,100000 ≤ K := ⟨100000,Nat.le_refl _⟩
 obtain ⟨D1,hD1⟩ : ∃ D1,D1 = enX [] A A.length := ⟨_,rfl⟩
 obtain ⟨D2,hD2⟩ : ∃ D2,D2 = enX D1 B B.length := ⟨_,rfl⟩
 obtain ⟨m1,l1⟩ := enX_mono (D := []) hA A.length (Nat.le_refl _)
 have f1 := enX_fine (D := []) (by simp) hA A.length (Nat.le_refl _)
 rw [← hD1] at m1 l1 f1
 obtain ⟨m2,l2⟩ := enX_mono (D := D1) hB B.length (Nat.le_refl _)
 rw [← hD2] at m2 l2
 have hcut : cutsQ A B = D2 := by
  rw [← endsN_cuts,hD2,hD1,endsN,enX,enX,List.take_length,List.take_length,List.foldl_append]
 rw [hcut]
 simp only [List.length_nil] at l1
 obtain ⟨M3,hM3⟩ : ∃ M3 : Mem,M3 = [rowS p A,rowS q B,.cells true 1 [rowV p 0 A,rowV q 1 B]] := ⟨_,rfl⟩
 have s3 : still2 M3 := by
  intro s hs m hm
  rw [hM3] at hs
  simp only [List.mem_cons,List.not_mem_nil,or_false] at hs
  rcases hs with rfl | rfl | rfl
  ·exact rowS_refs _ _ _
  ·exact rowS_refs _ _ _
  ·rw [refs_cells]; simp [AV.refsL,rowV_refs (show 0 < m by omega),rowV_refs (show 1 < m by omega)]
 have o0 : OutAt M3 .nilslice [] := .inl ⟨rfl,rfl⟩
 have o1 := outAt_fr o0 m1
 have hl3 : M3.length = 3 := by rw [hM3]; rfl
 obtain ⟨F1,hF1⟩ := Tryz.en_loop1 (K := K + 3) M3 .nilslice [] o0 s3 (by simp) (by simp) (by omega) p 0 A hp (by rw [hM3]; rfl) hA (by omega) (by simp; omega) hb hlv1 hlv2 hlv3
 obtain ⟨F2,hF2⟩ := Tryz.en_loop1 (K := K + 3) (M3 ++ frT [] D1) _ D1 o1 (still2_app s3 still2_fr) f1 (by omega) (by rw [List.length_append]; omega) q 1 B hq (by rw [get_low (by omega),hM3]; rfl) hB (by omega) (by omega) hb hlv1 hlv2 hlv3
 rw [← hD1] at hF1
 rw [← hD2] at hF2
 have a1 := fun env0 d h => (hF1 env0 d h).1
 have a2 := fun env0 d h => (hF1 env0 d h).2.1
 have a3 := fun env0 d h t ht => (hF1 env0 d h).2.2 t ht
 have c1 := fun env0 d h => (hF2 env0 d h).1
 have c2 := fun env0 d h => (hF2 env0 d h).2.1
 have c3 := fun env0 d h t ht => (hF2 env0 d h).2.2 t ht
 clear hF1 hF2
 have v0 : (rowV p 0 A).known = true := rowV_known _ _ _
 have v1 : (rowV q 1 B).known = true := rowV_known _ _ _
 have v2 : (rowV p 0 A).cellOk = true := rowV_cellOk _ _ _
 have v3 : (rowV q 1 B).cellOk = true := rowV_cellOk _ _ _
 have y0 : AV.nilslice.cells = [AV.nilslice] := rfl
 have y1 : AV.nilslice.known = true := rfl
 have y2 : AV.nilslice.cellOk = true := rfl
 have r0 : AV.refs 3 (rowV p 0 A) = [] := rowV_refs (by omega) p A
 have r1 : AV.refs 3 (rowV q 1 B) = [] := rowV_refs (by omega) q B
 have n0 : ∀ ks,AV.ren (rho 3 ks) (rowV p 0 A) = rowV p 0 A := fun ks => rowV_ren (by omega) ks p A
 have n1 : ∀ ks,AV.ren (rho 3 ks) (rowV q 1 B) = rowV q 1 B := fun ks => rowV_ren (by omega) ks q B
 have w1 : IntKind.i64.wrap 1 = 1 := rfl
 have w2 : IntKind.i64.wrap 2 = 2 := rfl
 have eA := fun mem => Tryz.aLen_row mem p 0 hp
 have eB := fun mem => Tryz.aLen_row mem q 1 hq
 simp only [loopsF,loopsC,Tryz.f13] at hb
 simp at hb
 obtain ⟨hb0,hb1,hb2,hb3⟩ := hb
 clear hlv1 hlv2 hlv3
 subst hb3
 subst hb2
 subst hb1
 subst hb0
 have h : callFn (tyOf Tryz.prog) Tryz.enLv (fnOf Tryz.prog) (pureO Tryz.ratF3) (K + 3) 13 [rowV p 0 A,rowV q 1 B] [rowS p A,rowS q B] = some ⟨raV 2 D2,none,raM D2⟩ := by
  by_cases e1 : D1 = []
  ·rw [e1] at a1 a2 c1 c2 c3 m2
   simp only [frT,frO,if_true,List.append_nil] at a1 a2 c1 c2 c3
   by_cases e2 : D2 = []
   ·rw [e2] at c1 c2 ⊢
    simp only [if_true,List.append_nil] at c1 c2
    subst hM3
    simp [-aLen,-AV.known,-AV.cells,-AV.cellOk,-Slot.refs,-Slot.ren,refs_cells,ren_cells,rowS_refs,rowS_ren,rowV_cells,Tryz.aLen_rows,Tryz.aLen_rat,eA,eB,callFn,hG,Tryz.f13,execC_loop,iter,a1,a2,a3,c1,c2,c3,v0,v1,v2,v3,y0,y1,y2,r0,r1,n0,n1,w1,w2,raV,raM,Tryz.enLv]
   ·have e2' : ¬ D2 = [] := e2
    simp only [e2',if_false] at c1 c2
    rw [raM_ne e2,raV_ne e2]
    subst hM3
    obtain ⟨R,hR⟩ : ∃ R,R = stC (D2.map ratS) := ⟨_,rfl⟩
    have hR1 : ∀ f,AV.rens f R = R := fun f => by rw [hR]; exact stC_ren f _
    have hR2 : ∀ n,AV.refsL n R = [] := fun n => by rw [hR]; exact stC_refs n _
    rw [← hR] at c1 ⊢
    simp [-aLen,-AV.known,-AV.cells,-AV.cellOk,-Slot.refs,-Slot.ren,refs_cells,ren_cells,rowS_refs,rowS_ren,rowV_cells,Tryz.aLen_rows,Tryz.aLen_rat,eA,eB,callFn,hG,Tryz.f13,execC_loop,iter,a1,a2,a3,c1,c2,c3,v0,v1,v2,v3,y0,y1,y2,r0,r1,n0,n1,w1,w2,hR1,hR2,raV,raM,Tryz.enLv]
  ·have g1 : frT [] D1 = [.cells true 1 (stC (D1.map ratS))] := by unfold frT; rw [if_neg e1]
   have g2 : ∀ m o,frO m o [] D1 = .slice m 0 D1.length none := fun m o => by unfold frO; rw [if_neg e1]
   try rw [g1] at a1
   try rw [g1] at c1
   try rw [g1] at c2
   try rw [g1] at c3
   try rw [g2] at a2
   try rw [g2] at c1
   try rw [g2] at c2
   try rw [g2] at c3
   have e2 : D2 ≠ [] := by
    rintro rfl
    rcases m2 with h | h
    ·exact e1 h.symm
    ·simp at h
   rw [raM_ne e2,raV_ne e2]
   obtain ⟨Q,hQ⟩ : ∃ Q,Q = stC (D1.map ratS) := ⟨_,rfl⟩
   have hQ1 : ∀ f,AV.rens f Q = Q := fun f => by rw [hQ]; exact stC_ren f _
   have hQ2 : ∀ n,AV.refsL n Q = [] := fun n => by rw [hQ]; exact stC_refs n _
   by_cases e3 : D2 = D1
   ·have g3 : frT D1 D2 = [] := by unfold frT; rw [if_pos e3]
    have g4 : ∀ m o,frO m o D1 D2 = o := fun m o => by unfold frO; rw [if_pos e3]
    try rw [g3,List.append_nil] at c1
    try rw [g4] at c2
    rw [e3]
    try rw [← hQ] at a1
    try rw [← hQ] at c1
    try rw [← hQ] at c2
    try rw [← hQ] at c3
    try rw [← hQ]
    try rw [hl3] at a2
    try rw [hl3] at c1
    try rw [hl3] at c2
    try rw [hl3] at c3
    subst hM3
    simp only [List.cons_append,List.nil_append] at c1 c2 c3
    simp [-aLen,-AV.known,-AV.cells,-AV.cellOk,-Slot.refs,-Slot.ren,refs_cells,ren_cells,rowS_refs,rowS_ren,rowV_cells,Tryz.aLen_rows,Tryz.aLen_rat,eA,eB,callFn,hG,Tryz.f13,execC_loop,iter,a1,a2,a3,c1,c2,c3,v0,v1,v2,v3,y0,y1,y2,r0,r1,n0,n1,w1,w2,hQ1,hQ2,raV,raM,Tryz.enLv]
   ·have g3 : frT D1 D2 = [.cells true 1 (stC (D2.map ratS))] := by unfold frT; rw [if_neg e3]
    have g4 : ∀ m o,frO m o D1 D2 = .slice m 0 D2.length none := fun m o => by unfold frO; rw [if_neg e3]
    obtain ⟨R,hR⟩ : ∃ R,R = stC (D2.map ratS) := ⟨_,rfl⟩
    have hR1 : ∀ f,AV.rens f R = R := fun f => by rw [hR]; exact stC_ren f _
    have hR2 : ∀ n,AV.refsL n R = [] := fun n => by rw [hR]; exact stC_refs n _
    try rw [g3] at c1
    try rw [g4] at c2
    try rw [← hR] at c1
    try rw [← hR]
    try rw [← hQ] at a1
    try rw [← hQ] at c1
    try rw [← hQ] at c2
    try rw [← hQ] at c3
    try rw [hl3] at a2
    try rw [hl3] at c1
    try rw [hl3] at c2
    try rw [hl3] at c3
    have hl4 : (M3 ++ [Slot.cells true 1 Q]).length = 4 := by rw [List.length_append,hl3]; rfl
    try rw [hl4] at c2
    subst hM3
    simp only [List.cons_append,List.nil_append] at c1 c2 c3
    simp [-aLen,-AV.known,-AV.cells,-AV.cellOk,-Slot.refs,-Slot.ren,refs_cells,ren_cells,rowS_refs,rowS_ren,rowV_cells,Tryz.aLen_rows,Tryz.aLen_rat,eA,eB,callFn,hG,Tryz.f13,execC_loop,iter,a1,a2,a3,c1,c2,c3,v0,v1,v2,v3,y0,y1,y2,r0,r1,n0,n1,w1,w2,hQ1,hQ2,hR1,hR2,raV,raM,Tryz.enLv]
 have := (callFn_sound Tryz.mixed (tyOf_ok _) Tryz.rat3_ok (fnOf_ok _) h).1
 simpa [CallRes.mem] using this
end Go.Proofs
