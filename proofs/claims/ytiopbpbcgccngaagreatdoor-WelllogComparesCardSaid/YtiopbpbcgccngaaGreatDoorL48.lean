/- See L55. -/
import Derived.Test.YtiopbpbcgccngaaGreatDoorL37
set_option linter.all false
namespace Go.Proofs
open Go.Eng
def rowS (p : Bool) (A : List Iv) : Slot := match p with
 | true => .cells false 3 (ivC A)
 | false => .absent
def rowV (p : Bool) (i : Nat) (A : List Iv) : AV := match p with
 | true => .slice i 0 A.length none
 | false => .nilslice
def rowOk (p : Bool) (A : List Iv) : Prop := p = false → A = []
theorem rowS_refs (n : Nat) (p : Bool) (A : List Iv) : Slot.refs n (rowS p A) = [] := by cases p <;> simp [rowS,Slot.refs,ivC_refs]
theorem rowS_ren (f : Nat → Option Nat) (p : Bool) (A : List Iv) : Slot.ren f (rowS p A) = rowS p A := by cases p <;> simp [rowS,Slot.ren,ivC_ren]
theorem rowV_refs {n i : Nat} (h : i < n) (p : Bool) (A : List Iv) : AV.refs n (rowV p i A) = [] := by cases p <;> simp [rowV,AV.refs,h]
theorem rowV_ren {n i : Nat} (h : i < n) (ks : List Nat) (p : Bool) (A : List Iv) : AV.ren (rho n ks) (rowV p i A) = rowV p i A := by
 rw [AV.ren_refs (rowV_refs h p A)]
theorem rowV_cellOk (p : Bool) (i : Nat) (A : List Iv) : (rowV p i A).cellOk = true := by cases p <;> rfl
theorem rowV_known (p : Bool) (i : Nat) (A : List Iv) : (rowV p i A).known = true := by cases p <;> rfl
theorem rowV_cells (p : Bool) (i : Nat) (A : List Iv) : (rowV p i A).cells = [rowV p i A] := by cases p <;> rfl
theorem ivs_row0 {p : Bool} {A : List Iv} (h : rowOk p A) (r : Mem) : ivs (rowS p A :: r) (rowV p 0 A) = some A := by
 cases p with
 | true => exact ivs_at rfl rfl (ivC_take A)
 | false => rw [h rfl]; rfl
theorem ivs_row1 {q : Bool} {B : List Iv} (h : rowOk q B) (s : Slot) (r : Mem) : ivs (s :: rowS q B :: r) (rowV q 1 B) = some B := by
 cases q with
 | true => exact ivs_at rfl rfl (ivC_take B)
 | false => rw [h rfl]; rfl
theorem ivC_all : ∀ l : List Iv,(ivC l).all AV.cellOk = true
 | [] => rfl
 | x :: l => by simp [ivC,AV.cellOk,ivC_all l]
mutual
theorem closed_refs {n : Nat} : ∀ {v : AV},v.closed = true → v.refs n = []
 | .undef,_ => rfl
 | .bool _,_ => rfl
 | .int _ _,_ => rfl
 | .str _,_ => rfl
 | .nilptr,_ => rfl
 | .nilslice,_ => rfl
 | .nilmap,_ => rfl
 | .nilFunc,_ => rfl
 | .nilIface,_ => rfl
 | .ptr _ _,h => by simp [AV.closed] at h
 | .slice _ _ _ _,h => by simp [AV.closed] at h
 | .map _,h => by simp [AV.closed] at h
 | .yield _,h => by simp [AV.closed] at h
 | .func _ cs,h => by simp only [AV.closed] at h; simp only [AV.refs]; exact refsL_closeds h
 | .iface _ v,h => by simp only [AV.closed] at h; simp only [AV.refs]; exact closed_refs h
 | .agg cs,h => by simp only [AV.closed] at h; simp only [AV.refs]; exact refsL_closeds h
 | .tuple cs,h => by simp only [AV.closed] at h; simp only [AV.refs]; exact refsL_closeds h
theorem refsL_closeds {n : Nat} : ∀ {vs : List AV},AV.closeds vs = true → AV.refsL n vs = []
 | [],_ => rfl
 | v :: vs,h => by
  simp only [AV.closeds,Bool.and_eq_true] at h
  simp only [AV.refsL,List.append_eq_nil_iff]
  exact ⟨closed_refs h.1,refsL_closeds h.2⟩
end
set_option maxHeartbeats 1600000 in
theorem Tryz.aGrow1 (n : Nat) (h0 : 0 < n) (hn : n ≤ 1000000) : ∃ Z,∀ M,ACallsTo Tryz.prog 108 [.nilslice,.int .i64 n] M (.slice M.length 0 0 none) (M ++ [.cells true 3 Z]) := by
 have hG : fnOf Tryz.prog 108 = some Tryz.f108 := by kernel_rfl
 have w0 : IntKind.i64.wrap 0 = 0 := rfl
 have w1 : IntKind.i64.wrap (n : Int) = (n : Int) := wrap_i64 (by omega) (by omega)
 have c1 : ¬ (n : Int) < 0 := by omega
 have c2 : (0 : Int) < (n : Int) := by omega
 have c3 : (n : Int) * 48 ≤ 140737488355328 := by omega
 have c4 : (n : Int) ≤ 140737488355328 := by omega
 have zl : (zcells [AV.str [],AV.str [],AV.str []] n).length = n * 3 := by rw [zcells_length]; rfl
 have hz : AV.closeds (zcells [AV.str [],AV.str [],AV.str []] n) = true := by
  clear zl c1 c2 c3 c4 w1 h0 hn
  induction n with
  | zero => rfl
  | succ n ih => simpa [zcells,AV.closeds,AV.closed] using ih
 have h : ∃ Z,callFn (tyOf Tryz.prog) (fun _ => []) (fnOf Tryz.prog) noOracle 1 108 [.nilslice,.int .i64 n] [] = some ⟨.slice 0 0 0 none,none,[.cells true 3 Z]⟩ ∧ AV.closeds Z = true := by
  refine ⟨zcells [.str [],.str [],.str []] n,?_,hz⟩
  simp [callFn,hG,Tryz.f108,w0,w1,h0,c1,c2,c3,c4,aAppendZ,zl,-zcells,rens_closeds hz,refsL_closeds hz]
 obtain ⟨Z,h,hzc⟩ := h
 refine ⟨Z,fun M => ?_⟩
 have h1 := (callFn_sound Tryz.mixed (tyOf_ok _) (noOracle_ok _) (fnOf_ok _) h).1
 simp only [CallRes.mem,Option.getD_none] at h1
 have h2 := ACallsTo.frame (M := M) [] (m := []) (new := [.cells true 3 Z]) rfl (by simp) (by simp [AV.unders,AV.under]) (fun i s hs => by simp at hs) (by simp [Slot.own]) h1
 simpa [AV.rens,AV.ren,back,Slot.ren,rens_closeds hzc] using h2
theorem Tryz.aConcatP (p q : Bool) (A B : List Iv) (hp : rowOk p A) (hq : rowOk q B) (o : Bool) (hne : A ++ B ≠ []) (hA : A.length ≤ 100000) (hB : B.length ≤ 100000) :
  ACallsTo Tryz.prog 73 [.slice 2 0 2 none] [rowS p A,rowS q B,.cells o 1 [rowV p 0 A,rowV q 1 B]] (.slice 3 0 (A ++ B).length none) [rowS p A,rowS q B,.cells o 1 [rowV p 0 A,rowV q 1 B],.cells true 3 (ivC (A ++ B))] := by
 have hG : fnOf Tryz.prog 73 = some Tryz.f73 := by kernel_rfl
 have hn0 : 0 < A.length + B.length := by
  have : (A ++ B).length ≠ 0 := fun e => hne (List.eq_nil_of_length_eq_zero e)
  rw [List.length_append] at this; omega
 obtain ⟨Z,hZ⟩ := Tryz.aGrow1 (A.length + B.length) hn0 (by omega)
 have hgr : ACallsTo Tryz.prog 108 [.nilslice,.int .i64 ((A.length + B.length : Nat) : Int)] [rowS p A,rowS q B,.cells o 1 [rowV p 0 A,rowV q 1 B]] (.slice 3 0 0 none) ([rowS p A,rowS q B,.cells o 1 [rowV p 0 A,rowV q 1 B]] ++ [.cells true 3 Z]) := hZ _
 have hO := oneO_ok hgr
 obtain ⟨O,hOd⟩ : ∃ O,O = oneO 108 [.nilslice,.int .i64 ((A.length + B.length : Nat) : Int)] [rowS p A,rowS q B,.cells o 1 [rowV p 0 A,rowV q 1 B]] ⟨.slice 3 0 0 none,none,[.cells true 3 Z]⟩ := ⟨_,rfl⟩
 rw [← hOd] at hO
 obtain ⟨a,ha⟩ : ∃ a,a = A.length := ⟨_,rfl⟩
 obtain ⟨b,hb⟩ : ∃ b,b = B.length := ⟨_,rfl⟩
 have o1 : O (.fn 108) [.nilslice,.int .i64 ((a : Int) + (b : Int))] [rowS p A,rowS q B,.cells o 1 [rowV p 0 A,rowV q 1 B]] = some ⟨.slice 3 0 0 none,none,[.cells true 3 Z]⟩ := by
  have : ((A.length + B.length : Nat) : Int) = (a : Int) + (b : Int) := by rw [ha,hb]; push_cast; rfl
  rw [hOd,this]; simp [oneO_at]
 clear hOd hgr hZ
 have w0 : IntKind.i64.wrap 0 = 0 := rfl
 have w1 : IntKind.i64.wrap 1 = 1 := rfl
 have w2 : IntKind.i64.wrap 2 = 2 := rfl
 have wa : IntKind.i64.wrap (a : Int) = (a : Int) := wrap_i64 (by omega) (by omega)
 have wb : IntKind.i64.wrap (b : Int) = (b : Int) := wrap_i64 (by omega) (by omega)
 have wab : IntKind.i64.wrap ((a : Int) + (b : Int)) = (a : Int) + (b : Int) := wrap_i64 (by omega) (by omega)
 have na : ¬ (a : Int) < 0 := by omega
 have nb : ¬ (b : Int) < 0 := by omega
 have nab : ¬ (a : Int) + (b : Int) < 0 := by omega
 have la : (ivC A).length = a * 3 := by rw [ha]; exact ivC_length A
 have lb : (ivC B).length = b * 3 := by rw [hb]; exact ivC_length B
 have ta : (ivC A).take (a * 3) = ivC A := List.take_of_length_le (by omega)
 have tb : (ivC B).take (b * 3) = ivC B := List.take_of_length_le (by omega)
 have b1 : a * 48 ≤ 140737488355328 := by omega
 have b2 : a ≤ 140737488355328 := by omega
 have b3 : (a + b) * 48 ≤ 140737488355328 := by omega
 have b4 : a + b ≤ 140737488355328 := by omega
 have b5 : b * 48 ≤ 140737488355328 := by omega
 have b6 : b ≤ 140737488355328 := by omega
 have h : callFn (tyOf Tryz.prog) (fun _ => [3,6,11,27]) (fnOf Tryz.prog) O 3 73 [.slice 2 0 2 none] [rowS p A,rowS q B,.cells o 1 [rowV p 0 A,rowV q 1 B]] = some ⟨.slice 3 0 (a + b) none,none,[.cells true 3 (ivC A ++ ivC B)]⟩ := by
  cases p with
  | true =>
   cases q with
   | true =>
    simp only [rowS,rowV,← ha,← hb] at o1 ⊢
    simp [callFn,hG,Tryz.f73,execC_loop,iter,w0,w1,w2,wa,wb,wab,na,nb,nab,o1,la,lb,ta,tb,b1,b2,b3,b4,b5,b6,ivC_all,ivC_refs,ivC_ren,refsL_append,rens_append]
   | false =>
    have hB0 : B = [] := hq rfl
    have hb0 : b = 0 := by rw [hb,hB0]; rfl
    subst hB0 hb0
    simp only [rowS,rowV,← ha] at o1 ⊢
    simp at o1
    simp [callFn,hG,Tryz.f73,execC_loop,iter,w0,w1,w2,wa,na,o1,la,ta,b1,b2,ivC_all,ivC_refs,ivC_ren,ivC]
  | false =>
   have hA0 : A = [] := hp rfl
   have ha0 : a = 0 := by rw [ha,hA0]; rfl
   subst hA0 ha0
   cases q with
   | true =>
    simp only [rowS,rowV,← hb] at o1 ⊢
    simp at o1
    simp [callFn,hG,Tryz.f73,execC_loop,iter,w0,w1,w2,wb,nb,o1,lb,tb,b5,b6,ivC_all,ivC_refs,ivC_ren,ivC]
   | false =>
    have hB0 : B = [] := hq rfl
    subst hB0
    exact absurd rfl hne
 have := (callFn_sound Tryz.mixed (tyOf_ok _) hO (fnOf_ok _) h).1
 rw [List.length_append,← ha,← hb,ivC_append]
 simpa [CallRes.mem] using this
theorem mergeBy_mask (f : Nat → Bool) : ∀ (i : Nat) (M : Mem),mergeBy [] i M (maskBy f i M) = M
 | _,[] => rfl
 | i,s :: M => by simp [maskBy,mergeBy,mergeBy_mask f (i + 1) M]
theorem maskBy_get (f : Nat → Bool) : ∀ (i : Nat) (M : Mem) (b : Nat),(maskBy f i M)[b]? = (M[b]?).map fun s => if f (i + b) then s else .absent
 | _,[],_ => by simp [maskBy]
 | i,s :: M,0 => by simp [maskBy]
 | i,s :: M,b + 1 => by simp [maskBy,maskBy_get f (i + 1) M b,Nat.add_assoc,Nat.add_comm 1 b]
theorem draws_two {f : Func} {o o' : Array Oper} {l l' : List Nat} (h : drawsF f = [o,o']) (hm : (drawsF f).map (fun o => befores o.toList) = [l,l']) : befores o.toList = l ∧ befores o'.toList = l' := by
 rw [h] at hm
 simpa using hm
theorem maskBy_length (f : Nat → Bool) : ∀ (i : Nat) (M : Mem),(maskBy f i M).length = M.length
 | _,[] => rfl
 | i,s :: M => by simp [maskBy,maskBy_length f (i + 1) M]
theorem maskBy_getElem (f : Nat → Bool) (i : Nat) (M : Mem) (b : Nat) (h : b < (maskBy f i M).length) : (maskBy f i M)[b]'h = if f (i + b) then M[b]'(by rw [maskBy_length] at h; exact h) else .absent := by
 have h' : b < M.length := by rw [maskBy_length] at h; exact h
 have := maskBy_get f i M b
 rw [List.getElem?_eq_getElem h,List.getElem?_eq_getElem h'] at this
 simpa using this
theorem take_snoc {α : Type} {l : List α} {i : Nat} {x : α} (h : l[i]? = some x) : l.take (i + 1) = l.take i ++ [x] := by
 rw [List.take_add_one,h]; rfl
theorem take_last {α : Type} {l : List α} {i : Nat} {x : α} (h : l[i]? = some x) : (l.take (i + 1)).getLast? = some x := by
 rw [take_snoc h]; simp
def pkL (D : List (List UInt8)) (n : Nat) : List (List UInt8) := dedS (D.take n) ++ D.drop (dedS (D.take n)).length
theorem pkL_get {D : List (List UInt8)} {n i : Nat} (h : (dedS (D.take n)).length ≤ i) : (pkL D n)[i]? = D[i]? := by
 unfold pkL
 rw [List.getElem?_append_right h,List.getElem?_drop]
 congr 1; omega
theorem pkL_len {D : List (List UInt8)} {n : Nat} : (pkL D n).length = D.length := by
 unfold pkL
 have h1 := dedS_len (D.take n)
 rw [List.length_append,List.length_drop]
 rw [List.length_take] at h1
 omega
theorem pkL_same {D : List (List UInt8)} {n : Nat} {x : List UInt8} (hx : D[n]? = some x) (h : (D.take n).getLast? = some x) : pkL D (n + 1) = pkL D n ∧ dedS (D.take (n + 1)) = dedS (D.take n) := by
 have e : dedS (D.take (n + 1)) = dedS (D.take n) := by rw [take_snoc hx,dedS_snoc,dedS_last,if_pos h]
 exact ⟨by unfold pkL; rw [e],e⟩
theorem pkL_more {D : List (List UInt8)} {n : Nat} {x : List UInt8} (hx : D[n]? = some x) (h : (D.take n).getLast? ≠ some x) :
  (stC (pkL D n)).take (dedS (D.take n)).length ++ AV.str x :: (stC (pkL D n)).drop ((dedS (D.take n)).length + 1) = stC (pkL D (n + 1)) ∧ dedS (D.take (n + 1)) = dedS (D.take n) ++ [x] := by
 have e : dedS (D.take (n + 1)) = dedS (D.take n) ++ [x] := by rw [take_snoc hx,dedS_snoc,dedS_last,if_neg h]
 refine ⟨?_,e⟩
 unfold pkL
 rw [e,stC_append,stC_append,stC_append]
 have hl : (stC (dedS (D.take n))).length = (dedS (D.take n)).length := stC_length _
 rw [List.take_left' hl,List.append_assoc]
 congr 1
 rw [List.drop_append,hl,List.drop_of_length_le (by omega),List.nil_append]
 simp only [stC,List.map_cons,List.map_nil,List.singleton_append,List.length_append,List.length_singleton]
 congr 1
 rw [← List.map_drop,List.drop_drop]
 congr 2
 omega
set_option maxHeartbeats 3200000 in
theorem Tryz.compact_inner {O : Oracle} {K : Nat} (D : List (List UInt8)) (M : Mem) (bk : Nat) (hb1 : bk < M.length) (k : Nat) (hk : k < D.length) (hl : D.length ≤ 1000000) (hK : D.length < K) {b1 b2 : Code} (hbb : loopsF Tryz.f75 = [b1,b2])
  (hfirst : dedS (D.take (k + 1)) = D.take k) :
  ∃ F : Env → Env,∀ env0,(Eng.look env0 0 = .slice bk 0 D.length none ∧ Eng.look env0 3 = .int .i64 k ∧ Eng.look env0 4 = .slice bk k (D.length - k) none ∧ Eng.look env0 5 = .int .i64 1) →
   execC (tyOf Tryz.prog) (fun _ => [3,5]) O K 61 M.length true (.loop b2) ⟨env0,M.set bk (.cells true 1 (stC (pkL D (k + 1)))),false⟩ = some (.exit 2,⟨F env0,M.set bk (.cells true 1 (stC (pkL D D.length))),decide (k < (dedS D).length)⟩) ∧
    (Eng.look (F env0) 0 = .slice bk 0 D.length none ∧ Eng.look (F env0) 3 = .int .i64 (dedS D).length) := by
 refine loop_rule_d rfl false (decide (k < (dedS D).length)) (fun env0 => Eng.look env0 0 = .slice bk 0 D.length none ∧ Eng.look env0 3 = .int .i64 k ∧ Eng.look env0 4 = .slice bk k (D.length - k) none ∧ Eng.look env0 5 = .int .i64 1) (fun _ env' => Eng.look env' 0 = .slice bk 0 D.length none ∧ Eng.look env' 3 = .int .i64 (dedS D).length) ?_
 rintro env0 ⟨h0,h3,h4,h5⟩
 have hfl : (dedS (D.take (k + 1))).length = k := by rw [hfirst,List.length_take]; omega
 simp [loopsF,loopsC,Tryz.f75] at hbb
 have hb := hbb.2
 clear hbb
 have hn : normE [3,5] (writesC b2) env0 ((3,.int .i64 ((dedS (D.take (k + 1))).length : Int)) :: (5,.int .i64 ((1 : Nat) : Int)) :: env0) = normE [3,5] (writesC b2) env0 env0 := by simp [normE,h3,h5,hfl]
 rw [← hn]
 have e0 : (⟨normE [3,5] (writesC b2) env0 ((3,.int .i64 ((dedS (D.take (k + 1))).length : Int)) :: (5,.int .i64 ((1 : Nat) : Int)) :: env0),M.set bk (.cells true 1 (stC (pkL D (k + 1)))),false⟩ : XS) = ⟨normE [3,5] (writesC b2) env0 ((3,.int .i64 ((dedS (D.take (k + 1))).length : Int)) :: (5,.int .i64 ((1 : Nat) : Int)) :: env0),M.set bk (.cells true 1 (stC (pkL D (k + 1)))),decide (k < (dedS (D.take (k + 1))).length)⟩ := by
  rw [hfl]; simp
 rw [e0]
 refine iter_ind (α := Nat) (fun j => ⟨normE [3,5] (writesC b2) env0 ((3,.int .i64 ((dedS (D.take (k + j))).length : Int)) :: (5,.int .i64 (j : Int)) :: env0),M.set bk (.cells true 1 (stC (pkL D (k + j)))),decide (k < (dedS (D.take (k + j))).length)⟩) (fun j => D.length - j) (fun j => 1 ≤ j ∧ k + j ≤ D.length ∧ (dedS (D.take (k + j))).length + 1 ≤ k + j ∧ k ≤ (dedS (D.take (k + j))).length) (.exit 2) _ _ _ (by simp) ?_ K 1 ⟨by omega,by omega,by omega,by omega⟩ (by omega)
 rintro j ⟨j1,j2,j3,j4⟩
 clear hn e0
 obtain ⟨E,hE⟩ : ∃ E,E = (dedS (D.take (k + j))).length := ⟨_,rfl⟩
 rw [← hE] at j3 j4
 obtain ⟨op1,op2,hops⟩ : ∃ op1 op2,drawsF Tryz.f75 = [op1,op2] := ⟨_,_,rfl⟩
 have hbs := draws_two hops (l := [0,0,3,7,0,0,32,112,240,511]) (l' := [0,0,3,7,0,0,32,112,240,511]) (by kernel_rfl)
 have hbs2 := hbs.2
 clear hbs
 have hab : allBef [0,0,3,7,0,0,32,112,240,511] 9 = true := by decide
 simp [drawsF,drawsC,Tryz.f75] at hops
 have hops2 := hops.2
 clear hops
 subst hops2
 have hget : ∀ s,(M.set bk s)[bk]? = some s := fun s => List.getElem?_set_self hb1
 have hset : ∀ s s',(M.set bk s).set bk s' = M.set bk s' := fun s s' => List.set_set ..
 have pl : (stC (pkL D (k + j))).length = D.length := by rw [stC_length,pkL_len]
 subst hb
 by_cases hlt : j < D.length - k
 ·left
  have hkj : k + j < D.length := by omega
  obtain ⟨x,hx⟩ : ∃ x,D[k + j]? = some x := ⟨_,List.getElem?_eq_getElem hkj⟩
  obtain ⟨y,hy⟩ : ∃ y,D[k + (j - 1)]? = some y := ⟨_,List.getElem?_eq_getElem (by omega)⟩
  have hx1 : (stC (pkL D (k + j)))[k + j]? = some (.str x) := stC_at (by rw [pkL_get (by omega)]; exact hx)
  have hy1 : (stC (pkL D (k + j)))[k + (j - 1)]? = some (.str y) := stC_at (by rw [pkL_get (by omega)]; exact hy)
  have hlast : (D.take (k + j)).getLast? = some y := by
   have := take_last hy
   rw [show k + (j - 1) + 1 = k + j by omega] at this
   exact this
  have w1 : IntKind.i64.wrap ((j : Int) + 1) = ((j + 1 : Nat) : Int) := by rw [wrap_i64 (by omega) (by omega)]; omega
  have w2 : IntKind.i64.wrap ((j : Int) - 1) = ((j - 1 : Nat) : Int) := by rw [wrap_i64 (by omega) (by omega)]; omega
  have w3 : IntKind.i64.wrap ((E : Int) + 1) = ((E + 1 : Nat) : Int) := by rw [wrap_i64 (by omega) (by omega)]; omega
  have hjI : (j : Int) < ((D.length - k : Nat) : Int) := by omega
  have hj1 : ((j - 1 : Nat) : Int) < ((D.length - k : Nat) : Int) := by omega
  have hjN : j - 1 < D.length - k := by omega
  have hED : E < D.length := by omega
  have hED1 : E + 1 ≤ D.length := by omega
  by_cases hxy : x = y
  ·subst hxy
   obtain ⟨p1,p2⟩ := pkL_same hx hlast
   refine ⟨j + 1,?_⟩
   refine exists_and_fin (show (1 ≤ j + 1 ∧ k + (j + 1) ≤ D.length ∧ (dedS (D.take (k + (j + 1)))).length + 1 ≤ k + (j + 1) ∧ k ≤ (dedS (D.take (k + (j + 1)))).length) ∧ D.length - (j + 1) < D.length - j from ⟨⟨by omega,by omega,by rw [← Nat.add_assoc,p2,← hE]; omega,by rw [← Nat.add_assoc,p2,← hE]; exact j4⟩,by omega⟩) ?_
   rw [← Nat.add_assoc,p1,p2,← hE]
   have hxx : (x != x) = false := by simp
   simp [-runDraw,runDraw_light hbs2,runDrawL,lightAll,lightRec,hab,h0,h4,hlt,hjI,hj1,hjN,w1,w2,hget,hx1,hy1,hb1,hxx,mergeBy_mask,maskBy_get,maskBy_getElem,maskBy_length,Nat.testBit]
  ·obtain ⟨p1,p2⟩ := pkL_more hx (by rw [hlast]; exact fun e => hxy (Option.some.inj e).symm)
   refine ⟨j + 1,?_⟩
   have pl2 : (dedS (D.take (k + (j + 1)))).length = E + 1 := by rw [← Nat.add_assoc,p2,List.length_append,← hE]; rfl
   refine exists_and_fin (show (1 ≤ j + 1 ∧ k + (j + 1) ≤ D.length ∧ (dedS (D.take (k + (j + 1)))).length + 1 ≤ k + (j + 1) ∧ k ≤ (dedS (D.take (k + (j + 1)))).length) ∧ D.length - (j + 1) < D.length - j from ⟨⟨by omega,by omega,by omega,by omega⟩,by omega⟩) ?_
   rw [pl2,← Nat.add_assoc,← p1,← hE]
   have hxb : (x == y) = false := by simpa using hxy
   have hke : k < E + 1 := by omega
   simp [-runDraw,runDraw_light hbs2,runDrawL,lightAll,lightRec,hab,h0,h4,hlt,hjI,hj1,hjN,w1,w2,w3,hget,hset,hx1,hy1,hxb,hED,hED1,pl,hb1,hke,mergeBy_mask,maskBy_get,maskBy_getElem,maskBy_length,Nat.testBit]
 ·right
  have hkj : k + j = D.length := by omega
  have hjI : ¬ (j : Int) < ((D.length - k : Nat) : Int) := by omega
  rw [hkj,List.take_length] at hE ⊢
  rw [← hE]
  simp [h0,h4,hlt,hjI]
theorem dup_ne {D : List (List UInt8)} {i : Nat} {x : List UInt8} (hx : D[i + 1]? = some x) (hy : D[i]? = some x) : dedS D ≠ D := by
 have hi : i + 1 < D.length := (List.getElem?_eq_some_iff.1 hx).1
 have key : ∀ m,i + 2 + m ≤ D.length → (dedS (D.take (i + 2 + m))).length + 1 ≤ i + 2 + m := by
  intro m
  induction m with
  | zero =>
   intro _
   have e : dedS (D.take (i + 1 + 1)) = dedS (D.take (i + 1)) := (pkL_same hx (take_last hy)).2
   have h1 := dedS_len (D.take (i + 1))
   rw [List.length_take] at h1
   rw [show i + 2 + 0 = i + 1 + 1 by omega,e]; omega
  | succ m ih =>
   intro hm
   have ih := ih (by omega)
   obtain ⟨z,hz⟩ : ∃ z,D[i + 2 + m]? = some z := ⟨_,List.getElem?_eq_getElem (by omega)⟩
   rw [show i + 2 + (m + 1) = i + 2 + m + 1 by omega,take_snoc hz,dedS_snoc]
   split
   ·omega
   ·rw [List.length_append,List.length_singleton]; omega
 intro e
 have := key (D.length - (i + 2)) (by omega)
 rw [show i + 2 + (D.length - (i + 2)) = D.length by omega,List.take_length,e] at this
 omega
theorem Tryz.compact_draws : ∃ op1 op2,drawsF Tryz.f75 = [op1,op2] ∧ befores op1.toList = [0,0,3,7,0,0,32,112,240,511] := by
 obtain ⟨op1,op2,hops⟩ : ∃ op1 op2,drawsF Tryz.f75 = [op1,op2] := ⟨_,_,rfl⟩
 exact ⟨op1,op2,hops,(draws_two hops (l := [0,0,3,7,0,0,32,112,240,511]) (l' := [0,0,3,7,0,0,32,112,240,511]) (by kernel_rfl)).1⟩
set_option maxHeartbeats 3200000 in
theorem Tryz.compact_loop0 {O : Oracle} {K : Nat} (D : List (List UInt8)) (M : Mem) (bk : Nat) (hb1 : bk < M.length) (hM : M[bk]? = some (.cells true 1 (stC D))) (hl : D.length ≤ 1000000) (hK : D.length < K) (h2 : 2 ≤ D.length) (hD : dedS D = D) {b1 b2 : Code} (hbb : loopsF Tryz.f75 = [b1,b2]) :
  ∃ F : Env → Bool → Env,∀ env0 d,(Eng.look env0 0 = .slice bk 0 D.length none ∧ Eng.look env0 3 = .int .i64 1) →
   execC (tyOf Tryz.prog) (fun _ => [3,5]) O K 61 M.length true (.loop b1) ⟨env0,M,d⟩ = some (.exit 0,⟨F env0 d,M,d⟩) ∧ Eng.look (F env0 d) 0 = .slice bk 0 D.length none := by
 refine loop_rule rfl (fun env0 => Eng.look env0 0 = .slice bk 0 D.length none ∧ Eng.look env0 3 = .int .i64 1) (fun _ env' => Eng.look env' 0 = .slice bk 0 D.length none) ?_
 rintro env0 d ⟨h0,h3⟩
 obtain ⟨op1,op2,hops,hbs⟩ := Tryz.compact_draws
 have hab : allBef [0,0,3,7,0,0,32,112,240,511] 9 = true := by decide
 simp [drawsF,drawsC,Tryz.f75] at hops
 have hops1 := hops.1
 clear hops
 subst hops1
 have hME : ∀ h,M[bk]'h = .cells true 1 (stC D) := fun h => by rw [List.getElem?_eq_getElem h] at hM; exact Option.some.inj hM
 simp [loopsF,loopsC,Tryz.f75] at hbb
 have hb := hbb.1
 clear hbb
 obtain ⟨u5,hu5⟩ : ∃ u5,u5 = Eng.look env0 5 := ⟨_,rfl⟩
 have hn : normE [3,5] (writesC b1) env0 ((3,.int .i64 ((1 : Nat) : Int)) :: (5,u5) :: env0) = normE [3,5] (writesC b1) env0 env0 := by simp [normE,h3,hu5]
 rw [← hn]
 refine iter_ind (α := Nat) (fun i => ⟨normE [3,5] (writesC b1) env0 ((3,.int .i64 (i : Int)) :: (5,u5) :: env0),M,d⟩) (fun i => D.length - i) (fun i => 1 ≤ i ∧ i ≤ D.length) (.exit 0) _ _ _ (by simp) ?_ K 1 ⟨by omega,by omega⟩ (by omega)
 rintro i ⟨i1,i2⟩
 clear hn
 subst hb
 by_cases hlt : i < D.length
 ·left
  obtain ⟨x,hx⟩ : ∃ x,D[i]? = some x := ⟨_,List.getElem?_eq_getElem hlt⟩
  obtain ⟨y,hy⟩ : ∃ y,D[i - 1]? = some y := ⟨_,List.getElem?_eq_getElem (by omega)⟩
  have hx1 := stC_at hx
  have hy1 := stC_at hy
  have hne : (x == y) = false := by
   have : x ≠ y := by
    rintro rfl
    exact dup_ne (i := i - 1) (by rw [show i - 1 + 1 = i by omega]; exact hx) hy hD
   simpa using this
  have w1 : IntKind.i64.wrap ((i : Int) + 1) = ((i + 1 : Nat) : Int) := by rw [wrap_i64 (by omega) (by omega)]; omega
  have w2 : IntKind.i64.wrap ((i : Int) - 1) = ((i - 1 : Nat) : Int) := by rw [wrap_i64 (by omega) (by omega)]; omega
  have hi1 : i - 1 < D.length := by omega
  refine ⟨i + 1,?_⟩
  refine exists_and_fin (show (1 ≤ i + 1 ∧ i + 1 ≤ D.length) ∧ D.length - (i + 1) < D.length - i from ⟨⟨by omega,by omega⟩,by omega⟩) ?_
  simp [-runDraw,runDraw_light hbs,runDrawL,lightAll,lightRec,hab,hb1,h0,hlt,hi1,w1,w2,hM,hME,hx1,hy1,hne,mergeBy_mask,maskBy_get,maskBy_getElem,maskBy_length,Nat.testBit]
 ·right
  simp [h0,hlt]
set_option maxHeartbeats 3200000 in
theorem Tryz.compact_loop1 {O : Oracle} {K : Nat} (D : List (List UInt8)) (M : Mem) (bk : Nat) (hb1 : bk < M.length) (hM : M[bk]? = some (.cells true 1 (stC D))) (hl : D.length ≤ 1000000) (hK : D.length < K) (h2 : 2 ≤ D.length) (hD : dedS D ≠ D) {b1 b2 : Code} (hbb : loopsF Tryz.f75 = [b1,b2]) :
  ∃ F : Env → Env,∀ env0,(Eng.look env0 0 = .slice bk 0 D.length none ∧ Eng.look env0 3 = .int .i64 1) →
   execC (tyOf Tryz.prog) (fun _ => [3,5]) O K 61 M.length true (.loop b1) ⟨env0,M,false⟩ = some (.ret,⟨F env0,M.set bk (.cells true 1 (stC (dedS D ++ List.replicate (D.length - (dedS D).length) []))),true⟩) ∧ Eng.look (F env0) 2 = .slice bk 0 (dedS D).length none := by
 refine loop_rule_d rfl false true (fun env0 => Eng.look env0 0 = .slice bk 0 D.length none ∧ Eng.look env0 3 = .int .i64 1) (fun _ env' => Eng.look env' 2 = .slice bk 0 (dedS D).length none) ?_
 rintro env0 ⟨h0,h3⟩
 obtain ⟨op1,op2,hops,hbs⟩ := Tryz.compact_draws
 have hab : allBef [0,0,3,7,0,0,32,112,240,511] 9 = true := by decide
 simp [drawsF,drawsC,Tryz.f75] at hops
 have hops1 := hops.1
 clear hops
 subst hops1
 have hME : ∀ h,M[bk]'h = .cells true 1 (stC D) := fun h => by rw [List.getElem?_eq_getElem h] at hM; exact Option.some.inj hM
 have hin := fun k (hk : k < D.length) hf => Tryz.compact_inner (O := O) (K := K) D M bk hb1 k hk hl hK hbb hf
 simp [loopsF,loopsC,Tryz.f75] at hbb
 obtain ⟨hb,hb2⟩ := hbb
 obtain ⟨u5,hu5⟩ : ∃ u5,u5 = Eng.look env0 5 := ⟨_,rfl⟩
 have hn : normE [3,5] (writesC b1) env0 ((3,.int .i64 ((1 : Nat) : Int)) :: (5,u5) :: env0) = normE [3,5] (writesC b1) env0 env0 := by simp [normE,h3,hu5]
 rw [← hn]
 have hd1 : dedS (D.take 1) = D.take 1 := by
  cases D with
  | nil => simp at h2
  | cons a D => simp [dedS]
 have hlen := dedS_len D
 have hlen2 : (dedS D).length < D.length := by
  rcases Nat.lt_or_ge (dedS D).length D.length with h | h
  ·exact h
  ·exfalso
   have key : ∀ m,m ≤ D.length → (D.length - m + (dedS (D.take m)).length ≥ D.length → dedS (D.take m) = D.take m) ∧ D.length - m + (dedS (D.take m)).length ≤ D.length := by
    intro m hm
    have := dedS_len (D.take m)
    rw [List.length_take] at this
    refine ⟨fun h1 => ?_,by omega⟩
    have hs : (dedS (D.take m)).length = m := by omega
    clear h1 this
    induction m with
    | zero => rfl
    | succ m ih =>
     obtain ⟨z,hz⟩ : ∃ z,D[m]? = some z := ⟨_,List.getElem?_eq_getElem (by omega)⟩
     rw [take_snoc hz,dedS_snoc] at hs ⊢
     have l1 := dedS_len (D.take m)
     rw [List.length_take] at l1
     split at hs
     ·omega
     ·rename_i hne
      rw [if_neg hne]
      rw [List.length_append,List.length_singleton] at hs
      rw [ih (by omega) (by omega)]
   have := (key D.length (Nat.le_refl _)).1 (by rw [List.take_length]; omega)
   rw [List.take_length] at this
   exact hD this
 refine iter_ind (α := Nat) (fun i => ⟨normE [3,5] (writesC b1) env0 ((3,.int .i64 (i : Int)) :: (5,u5) :: env0),M,false⟩) (fun i => D.length - i) (fun i => 1 ≤ i ∧ i ≤ D.length ∧ dedS (D.take i) = D.take i) .ret _ _ _ (by simp) ?_ K 1 ⟨by omega,by omega,hd1⟩ (by omega)
 rintro i ⟨i1,i2,i3⟩
 clear hn
 by_cases hlt : i < D.length
 ·obtain ⟨x,hx⟩ : ∃ x,D[i]? = some x := ⟨_,List.getElem?_eq_getElem hlt⟩
  obtain ⟨y,hy⟩ : ∃ y,D[i - 1]? = some y := ⟨_,List.getElem?_eq_getElem (by omega)⟩
  have hx1 := stC_at hx
  have hy1 := stC_at hy
  have hlast : (D.take i).getLast? = some y := by
   have := take_last hy
   rw [show i - 1 + 1 = i by omega] at this
   exact this
  have w1 : IntKind.i64.wrap ((i : Int) + 1) = ((i + 1 : Nat) : Int) := by rw [wrap_i64 (by omega) (by omega)]; omega
  have w2 : IntKind.i64.wrap ((i : Int) - 1) = ((i - 1 : Nat) : Int) := by rw [wrap_i64 (by omega) (by omega)]; omega
  have hi1 : i - 1 < D.length := by omega
  by_cases hxy : x = y
  ·right
   subst hxy
   have hf : dedS (D.take (i + 1)) = D.take i := by rw [(pkL_same hx hlast).2,i3]
   obtain ⟨F,hF⟩ := hin i hlt hf
   have hm1 : M.set bk (.cells true 1 (stC (pkL D (i + 1)))) = M := by
    have : pkL D (i + 1) = D := by
     unfold pkL
     rw [hf,List.length_take,Nat.min_eq_left i2,List.take_append_drop]
    rw [this]
    refine List.ext_getElem? fun q => ?_
    by_cases hq : bk = q
    ·subst hq; rw [List.getElem?_set_self hb1,hM]
    ·rw [List.getElem?_set_ne hq]
   rw [hm1] at hF
   have hF1 := fun env0 h => (hF env0 h).1
   have hF2 := fun env0 h => (hF env0 h).2.1
   have hF3 := fun env0 h => (hF env0 h).2.2
   clear hF hin
   obtain ⟨n,hn⟩ : ∃ n,n = (dedS D).length := ⟨_,rfl⟩
   obtain ⟨R,hR⟩ : ∃ R,R = pkL D D.length := ⟨_,rfl⟩
   have hRl : (stC R).length = D.length := by rw [stC_length,hR,pkL_len]
   have hRt : (stC R).take n = stC (dedS D) := by
    rw [hR]; unfold pkL
    rw [List.take_length,stC_append,List.take_left' (by rw [stC_length,hn])]
   have hget : ∀ s,(M.set bk s)[bk]? = some s := fun s => List.getElem?_set_self hb1
   have hset : ∀ s s',(M.set bk s).set bk s' = M.set bk s' := fun s s' => List.set_set ..
   rw [← hn] at hlen2 ⊢
   rw [← hn,← hR] at hF1
   rw [← hn] at hF3
   have hz : ∀ m,zcells [AV.str []] m = stC (List.replicate m []) := by
    intro m
    induction m with
    | zero => rfl
    | succ m ih => rw [List.replicate_succ,stC,List.map_cons,← stC,← ih]; rfl
   have hza : ∀ m,(stC (List.replicate m [])).all AV.cellOk = true := by
    intro m; simp [stC,AV.cellOk]
   have hnn : ¬ D.length - n = 0 := by omega
   have hsl : D.length ≤ (stC (dedS D)).length + (stC (List.replicate (D.length - n) ([] : List UInt8))).length := by rw [stC_length,stC_length,List.length_replicate]; omega
   have sDl : D.length ≤ (stC D).length := by rw [stC_length]; exact Nat.le_refl _
   have hnl : n ≤ D.length := by omega
   have hdr : (stC R).drop D.length = [] := List.drop_of_length_le (by omega)
   have hsum : n + (D.length - n) = D.length := by omega
   subst hb hb2
   simp only [stC_append]
   simp [-runDraw,runDraw_light hbs,runDrawL,lightAll,lightRec,hab,hb1,h0,hlt,hi1,w1,w2,hM,hME,hx1,hy1,hF1,hF2,hF3,hget,hset,hRl,hRt,hz,hza,i2,sDl,hsl,hlen2,hnn,hnl,hdr,hsum,aClear,-zcells,mergeBy_mask,maskBy_get,maskBy_getElem,maskBy_length,Nat.testBit]
  ·left
   have hne : (x == y) = false := by simpa using hxy
   refine ⟨i + 1,?_⟩
   refine exists_and_fin (show (1 ≤ i + 1 ∧ i + 1 ≤ D.length ∧ dedS (D.take (i + 1)) = D.take (i + 1)) ∧ D.length - (i + 1) < D.length - i from ⟨⟨by omega,by omega,by rw [take_snoc hx,dedS_snoc,dedS_last,hlast,if_neg (by simpa using fun e => hxy e.symm),i3]⟩,by omega⟩) ?_
   clear hin
   subst hb
   simp [-runDraw,runDraw_light hbs,runDrawL,lightAll,lightRec,hab,hb1,h0,hlt,hi1,w1,w2,hM,hME,hx1,hy1,hne,mergeBy_mask,maskBy_get,maskBy_getElem,maskBy_length,Nat.testBit]
 ·exfalso
  have : i = D.length := by omega
  rw [this,List.take_length] at i3
  exact hD i3
theorem Tryz.aCompact (D : List (List UInt8)) (M : Mem) (bk : Nat) (hM : M[bk]? = some (.cells true 1 (stC D))) (hr : ∀ s ∈ M,s.refs M.length = []) (hl : D.length ≤ 1000000) :
  ACallsTo Tryz.prog 75 [.slice bk 0 D.length none] M (.slice bk 0 (dedS D).length none) (M.set bk (.cells true 1 (stC (dedS D ++ List.replicate (D.length - (dedS D).length) [])))) := by
 have hG : fnOf Tryz.prog 75 = some Tryz.f75 := by kernel_rfl
 have hb1 : bk < M.length := (List.getElem?_eq_some_iff.1 hM).1
 obtain ⟨b1,b2,hbb⟩ : ∃ b1 b2,loopsF Tryz.f75 = [b1,b2] := ⟨_,_,rfl⟩
 by_cases hD : dedS D = D
 ·have hs : M.set bk (.cells true 1 (stC D)) = M := by
   refine List.ext_getElem? fun q => ?_
   by_cases hq : bk = q
   ·subst hq; rw [List.getElem?_set_self hb1,hM]
   ·rw [List.getElem?_set_ne hq]
  rw [hD,Nat.sub_self,List.replicate_zero,List.append_nil,hs]
  by_cases h2 : D.length < 2
  ·have h2I : (D.length : Int) < 2 := by omega
   have h : callFn (tyOf Tryz.prog) (fun _ => [3,5]) (fnOf Tryz.prog) noOracle 1 75 [.slice bk 0 D.length none] M = some ⟨.slice bk 0 D.length none,none,[]⟩ := by
    simp [callFn,hG,Tryz.f75,h2I,h2,hb1]
   have := (callFn_sound Tryz.mixed (tyOf_ok _) (noOracle_ok _) (fnOf_ok _) h).1
   simpa [CallRes.mem] using this
  ·have h2I : ¬ (D.length : Int) < 2 := by omega
   obtain ⟨F,hF⟩ := Tryz.compact_loop0 (O := noOracle) (K := D.length + 1) D M bk hb1 hM hl (by omega) (by omega) hD hbb
   have hF1 := fun env0 d h => (hF env0 d h).1
   have hF2 := fun env0 d h => (hF env0 d h).2
   clear hF
   simp [loopsF,loopsC,Tryz.f75] at hbb
   obtain ⟨hb,hb2⟩ := hbb
   subst hb hb2
   have h : callFn (tyOf Tryz.prog) (fun _ => [3,5]) (fnOf Tryz.prog) noOracle (D.length + 1) 75 [.slice bk 0 D.length none] M = some ⟨.slice bk 0 D.length none,none,[]⟩ := by
    simp [callFn,hG,Tryz.f75,h2I,h2,hb1,hF1,hF2]
   have := (callFn_sound Tryz.mixed (tyOf_ok _) (noOracle_ok _) (fnOf_ok _) h).1
   simpa [CallRes.mem] using this
 ·have h2 : ¬ D.length < 2 := by
   intro h
   apply hD
   match D,h with
   | [],_ => rfl
   | [x],_ => rfl
  have h2I : ¬ (D.length : Int) < 2 := by omega
  obtain ⟨F,hF⟩ := Tryz.compact_loop1 (O := noOracle) (K := D.length + 1) D M bk hb1 hM hl (by omega) (by omega) hD hbb
  have hF1 := fun env0 h => (hF env0 h).1
  have hF2 := fun env0 h => (hF env0 h).2
  clear hF
  obtain ⟨R,hR⟩ : ∃ R,R = stC (dedS D ++ List.replicate (D.length - (dedS D).length) []) := ⟨_,rfl⟩
  rw [← hR] at hF1 ⊢
  simp [loopsF,loopsC,Tryz.f75] at hbb
  obtain ⟨hb,hb2⟩ := hbb
  subst hb hb2
  have hc : ∃ env',execC (tyOf Tryz.prog) (fun _ => [3,5]) noOracle (D.length + 1) Tryz.f75.ntmps M.length true (Tryz.f75.body.getD .skip) ⟨entryEnv 0 [.slice bk 0 D.length none],M,false⟩ = some (.ret,⟨env',M.set bk (.cells true 1 R),true⟩) ∧ Eng.look env' 2 = .slice bk 0 (dedS D).length none := by
   simp [Tryz.f75,h2I,h2,hF1,hF2]
  obtain ⟨env',hc,hv⟩ := hc
  have := callFn_plain (T := tyOf Tryz.prog) (G := fnOf Tryz.prog) (v := .slice bk 0 (dedS D).length none) hG rfl (by simp [Tryz.f75]) (.inr rfl) hc (by simp [Tryz.f75,hv]) (by simp) (by simp [hb1]) (fun s hs => by
   rcases List.mem_or_eq_of_mem_set hs with h | rfl
   ·exact hr s h
   ·simp [hR,stC_refs])
  have h2 := (callFn_sound Tryz.mixed (tyOf_ok _) (noOracle_ok _) (fnOf_ok _) this).1
  simpa [CallRes.mem] using h2
end Go.Proofs
