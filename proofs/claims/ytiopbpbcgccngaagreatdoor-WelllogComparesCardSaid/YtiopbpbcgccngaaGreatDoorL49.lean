/- See L55. -/
import Derived.Test.YtiopbpbcgccngaaGreatDoorL48
import Derived.Test.YtiopbpbcgccngaaGreatDoorL34
import Derived.Test.YtiopbpbcgccngaaGreatDoorL10
set_option linter.all false
namespace Go.Proofs
open Go.Eng Go.Shelf
theorem cmpQ_not {a b : Rat} {ha : fine a} {hb : fine b} : ltOf (fun x y : {q : Rat // fine q} => cmpQ x.1 y.1) ⟨a,ha⟩ ⟨b,hb⟩ = false ↔ b ≤ a := by
 unfold ltOf
 rw [decide_eq_false_iff_not]
 show ¬ cmpQ a b < 0 ↔ b ≤ a
 rw [cmpQ_lt]; exact Rat.not_lt
theorem cmpQ_swo : Sort.SWO (ltOf (fun x y : {q : Rat // fine q} => cmpQ x.1 y.1)) where
 irrefl x := by
  obtain ⟨x,hx⟩ := x
  rw [cmpQ_not]; exact Rat.le_refl
 trans x y z h1 h2 := by
  unfold ltOf at *
  rw [decide_eq_true_eq] at *
  simp only [cmpQ_lt] at *
  exact rat_lt_le h1 (Rat.le_of_lt h2)
 ntrans x y z h1 h2 := by
  obtain ⟨x,hx⟩ := x
  obtain ⟨y,hy⟩ := y
  obtain ⟨z,hz⟩ := z
  rw [cmpQ_not] at *
  exact Rat.le_trans h2 h1
theorem lift_sub {α : Type} {p : α → Prop} : ∀ d : List α,(∀ x ∈ d,p x) → ∃ e : List {x // p x},e.map Subtype.val = d
 | [],_ => ⟨[],rfl⟩
 | x :: d,h => by
  obtain ⟨e,he⟩ := lift_sub d fun y hy => h y (by simp [hy])
  exact ⟨⟨x,h x (by simp)⟩ :: e,by rw [List.map_cons,he]⟩
theorem fine0 : fine 0 := ⟨by decide,by decide⟩
instance : Inhabited {q : Rat // fine q} := ⟨⟨0,fine0⟩⟩
theorem sorted_le_unique {l r : List Rat} (hp : l.Perm r) (hl : l.Pairwise (· ≤ ·)) (hr : r.Pairwise (· ≤ ·)) : l = r :=
 List.Perm.eq_of_pairwise (le := fun x y => x ≤ y) (fun _ _ _ _ h1 h2 => Rat.le_antisymm h1 h2) hl hr hp
theorem Tryz.aSortEnds (d : List Rat) (hd : ∀ x ∈ d,fine x) (hl : d.length ≤ 1000000) (M : Mem) (b : Nat) (hb : M[b]? = some (.cells true 1 (stC (d.map ratS)))) :
  ACallsTo Tryz.prog 74 [.slice b 0 d.length none,.func 24 []] M (.tuple []) (M.set b (.cells true 1 (stC ((sortQ d).map ratS)))) := by
 obtain ⟨e,he⟩ := lift_sub d hd
 have hel : e.length = d.length := by rw [← he,List.length_map]
 have hm : stC (d.map ratS) = e.map fun x => AV.str (ratS x.1) := by rw [← he,stC,List.map_map,List.map_map]; rfl
 have key := aSort1 Tryz.laysSortR (f := 74) rfl (Tryz.funOk _ Tryz.func74 (by kernel_rfl) (by kernel_rfl))
  (fun x : {q : Rat // fine q} => AV.str (ratS x.1)) (fun x => Value.string ⟨(ratS x.1).toArray⟩) (fun μ n x V => by simp [VRel]) (fun x => rfl) (fun x y => cmpQ x.1 y.1) cmpQ_swo (g := 24) (enters_of Tryz.func24 (by kernel_rfl) rfl) (fun x y => Tryz.aCompareR x.1 y.1 x.2 y.2 []) hb e
  (by rw [List.take_of_length_le (by rw [stC_length,List.length_map,hel]; exact Nat.le_refl _),hm]) (by rw [stC_length,List.length_map,hel]; exact Nat.le_refl _) (by omega)
 rw [hel] at key
 refine key.mono ?_
 rintro v m ⟨rfl,d',p1,p2,rfl⟩
 have hs : d'.map Subtype.val = sortQ d := by
  refine sorted_le_unique ((p1.map Subtype.val).trans ?_) ?_ (sortQ_sorted d)
  ·rw [he]; exact (sortQ_perm d).symm
  ·rw [List.pairwise_map]
   exact p2.imp fun {x y} h => by
    obtain ⟨x,hx⟩ := x
    obtain ⟨y,hy⟩ := y
    exact cmpQ_not.1 h
 refine ⟨rfl,?_⟩
 have hdr : (stC (d.map ratS)).drop d.length = [] := List.drop_of_length_le (by rw [stC_length,List.length_map]; exact Nat.le_refl _)
 rw [hdr,List.append_nil,← hs]
 congr 2
 rw [stC,List.map_map,List.map_map]; rfl
end Go.Proofs
namespace Go.Proofs
open Go.Eng
theorem refs_lp (n : Nat) (r : LoopA) : Slot.refs n (.loop r) = r.env.flatMap fun e => e.2.refs n := rfl
theorem ren_lp (f : Nat → Option Nat) (r : LoopA) : Slot.ren f (.loop r) = .loop { r with env := renEnv f r.env } := rfl
theorem Tryz.aBoth (p q : Bool) (A B : List Iv) (s2 : Slot) :
  ACallsTo Tryz.prog 39 [rowV p 0 A,rowV q 1 B] [rowS p A,rowS q B,s2] (.func 72 [.ptr 3 0,.ptr 4 0]) ([rowS p A,rowS q B,s2] ++ [.cells true 0 [rowV p 0 A],.cells true 0 [rowV q 1 B]]) := by
 have hG : fnOf Tryz.prog 39 = some Tryz.f39 := by kernel_rfl
 have h : callFn (tyOf Tryz.prog) (fun _ => []) (fnOf Tryz.prog) noOracle 1 39 [rowV p 0 A,rowV q 1 B] [rowS p A,rowS q B,s2] = some ⟨.func 72 [.ptr 3 0,.ptr 4 0],none,[.cells true 0 [rowV p 0 A],.cells true 0 [rowV q 1 B]]⟩ := by
  have i3 : List.idxOf? 3 [3,4] = some 0 := by decide
  have i4 : List.idxOf? 4 [3,4] = some 1 := by decide
  have r0 : AV.refs 3 (rowV p 0 A) = [] := rowV_refs (by omega) p A
  have r1 : AV.refs 3 (rowV q 1 B) = [] := rowV_refs (by omega) q B
  have n0 : ∀ ks,AV.ren (rho 3 ks) (rowV p 0 A) = rowV p 0 A := fun ks => rowV_ren (by omega) ks p A
  have n1 : ∀ ks,AV.ren (rho 3 ks) (rowV q 1 B) = rowV q 1 B := fun ks => rowV_ren (by omega) ks q B
  simp [-AV.known,-AV.cells,-AV.cellOk,callFn,hG,Tryz.f39,rowV_cellOk,rowV_known,rowV_cells,r0,r1,n0,n1,i3,i4]
 have := (callFn_sound Tryz.mixed (tyOf_ok _) (noOracle_ok _) (fnOf_ok _) h).1
 simpa [CallRes.mem] using this
def eS (C : List Iv) : List (List UInt8) := C.flatMap fun x => [x.2.1,x.2.2]
theorem eS_snoc (C : List Iv) (x : Iv) : eS (C ++ [x]) = eS C ++ [x.2.1,x.2.2] := by simp [eS,List.flatMap_append]
theorem eS_len (C : List Iv) : (eS C).length = C.length * 2 := by
 induction C with
 | nil => rfl
 | cons x C ih => simp only [eS,List.flatMap_cons,List.length_append,List.length_cons,List.length_nil] at *; omega
def enM (C : List Iv) : Nat → Mem
 | 0 => []
 | n + 1 => [.cells true 1 (stC (eS (C.take (n + 1))))]
def enV (i : Nat) : Nat → AV
 | 0 => .nilslice
 | n + 1 => .slice i 0 ((n + 1) * 2) none
def Tryz.boLv (c : Code) : List Nat := if (writesC c).contains 13 then [4,13] else [7,7]
def sameB (env0 env' : Env) : Prop := ∀ t ∈ [0,1,2],Eng.look env' t = Eng.look env0 t
set_option maxHeartbeats 6400000 in
theorem Tryz.bo_loop1 {O : Oracle} {K : Nat} (a0 a1 a2 a3 a4 a5 a6 : Slot) (r0 : a0.refs 8 = []) (r1 : a1.refs 8 = []) (r2 : a2.refs 8 = []) (r3 : a3.refs 8 = []) (r4 : a4.refs 8 = []) (r5 : a5.refs 8 = []) (r6 : a6.refs 8 = [])
  (C : List Iv) (hl : C.length ≤ 1000000) (hK : C.length < K) {b1 b2 : Code} (hbb : loopsF Tryz.f72 = [b1,b2]) (hlv : Tryz.boLv b1 = [4,13]) :
  ∃ F : Env → Bool → Env,∀ env0 d,(Eng.look env0 4 = .nilslice ∧ Eng.look env0 11 = .slice 7 0 C.length none ∧ Eng.look env0 12 = .int .i64 C.length ∧ Eng.look env0 13 = .int .i64 0) →
   execC (tyOf Tryz.prog) Tryz.boLv O K 62 6 true (.loop b1) ⟨env0,[a0,a1,a2,a3,a4,a5,a6,.cells true 3 (ivC C)],d⟩ = some (.exit 0,⟨F env0 d,[a0,a1,a2,a3,a4,a5,a6,.cells true 3 (ivC C)] ++ enM C C.length,d⟩) ∧
    (Eng.look (F env0 d) 4 = enV 8 C.length ∧ sameB env0 (F env0 d)) := by
 refine loop_rule hlv (fun env0 => Eng.look env0 4 = .nilslice ∧ Eng.look env0 11 = .slice 7 0 C.length none ∧ Eng.look env0 12 = .int .i64 C.length ∧ Eng.look env0 13 = .int .i64 0) (fun env0 env' => Eng.look env' 4 = enV 8 C.length ∧ sameB env0 env') ?_
 rintro env0 d ⟨h4,h11,h12,h13⟩
 simp [loopsF,loopsC,Tryz.f72] at hbb
 have hb := hbb.1
 clear hbb hlv
 have hn : normE [4,13] (writesC b1) env0 ((4,enV 8 0) :: (13,.int .i64 ((0 : Nat) : Int)) :: env0) = normE [4,13] (writesC b1) env0 env0 := by simp [normE,h4,h13,enV]
 rw [← hn]
 have kl : (ivC C).length = C.length * 3 := ivC_length C
 have es0 : ([a0,a1,a2,a3,a4,a5,a6,.cells true 3 (ivC C)] : Mem) = [a0,a1,a2,a3,a4,a5,a6,.cells true 3 (ivC C)] ++ enM C 0 := rfl
 rw [show (⟨normE [4,13] (writesC b1) env0 ((4,enV 8 0) :: (13,.int .i64 ((0 : Nat) : Int)) :: env0),[a0,a1,a2,a3,a4,a5,a6,.cells true 3 (ivC C)],d⟩ : XS) = ⟨normE [4,13] (writesC b1) env0 ((4,enV 8 0) :: (13,.int .i64 ((0 : Nat) : Int)) :: env0),[a0,a1,a2,a3,a4,a5,a6,.cells true 3 (ivC C)] ++ enM C 0,d⟩ from rfl]
 refine iter_ind (α := Nat) (fun n => ⟨normE [4,13] (writesC b1) env0 ((4,enV 8 n) :: (13,.int .i64 (n : Int)) :: env0),[a0,a1,a2,a3,a4,a5,a6,.cells true 3 (ivC C)] ++ enM C n,d⟩) (fun n => C.length - n) (fun n => n ≤ C.length) (.exit 0) _ d _ (by simp) ?_ K 0 (by omega) (by omega)
 intro n hn1
 clear hn
 by_cases hlt : n < C.length
 ·left
  obtain ⟨k,hk⟩ : ∃ k,C[n]? = some k := ⟨C[n],List.getElem?_eq_getElem hlt⟩
  obtain ⟨k1,_,_,_⟩ := ivC_at hk
  have w1 : IntKind.i64.wrap ((n : Int) + 1) = ((n + 1 : Nat) : Int) := by rw [wrap_i64 (by omega) (by omega)]; omega
  have k5 : n * 3 + 3 ≤ (ivC C).length := by omega
  have hts := take_snoc hk
  obtain ⟨u,f,t⟩ := k
  simp only at k1
  refine ⟨n + 1,?_⟩
  refine exists_and_fin (show n + 1 ≤ C.length ∧ C.length - (n + 1) < C.length - n from ⟨by omega,by omega⟩) ?_
  have hm : enM C (n + 1) = [.cells true 1 (stC (eS (C.take n) ++ [f,t]))] := by rw [enM,hts,eS_snoc]
  rw [hm]
  subst hb
  cases n with
  | zero =>
   have hp0 : 0 < C.length := by omega
   have wz : IntKind.i64.wrap 1 = 1 := rfl
   simp at k1 k5
   simp [-Slot.refs,-Slot.ren,refs_cells,ren_cells,h11,h12,hp0,k1,k5,wz,enM,enV,eS,stC,r0,r1,r2,r3,r4,r5,r6,ivC_refs]
  | succ n =>
   have el : (stC (eS (C.take (n + 1)))).length = (n + 1) * 2 := by rw [stC_length,eS_len,List.length_take]; omega
   have et : (stC (eS (C.take (n + 1)))).take ((n + 1) * 2) = stC (eS (C.take (n + 1))) := List.take_of_length_le (by omega)
   have hst : stC (eS (C.take (n + 1)) ++ [f,t]) = stC (eS (C.take (n + 1))) ++ [.str f,.str t] := by rw [stC_append]; rfl
   obtain ⟨R,hR⟩ : ∃ R,R = stC (eS (C.take (n + 1))) := ⟨_,rfl⟩
   have hR1 : ∀ f,AV.rens f R = R := fun f => by rw [hR]; exact stC_ren f _
   have hR2 : ∀ n,AV.refsL n R = [] := fun n => by rw [hR]; exact stC_refs n _
   have b1 : ((n + 1) * 2 + 2) * 16 ≤ 140737488355328 := by omega
   have b2 : (n + 1) * 2 + 2 ≤ 140737488355328 := by omega
   have w1' : IntKind.i64.wrap ((n : Int) + 1 + 1) = (n : Int) + 1 + 1 := wrap_i64 (by omega) (by omega)
   have hnn : (0 : Int) ≤ (n : Int) + 1 := by omega
   have hltI : (n : Int) + 1 < C.length := by omega
   have ev : enV 8 (n + 1 + 1) = .slice 8 0 ((n + 1) * 2 + 2) none := by rw [enV]; congr 1; omega
   have e0 : enV 8 (n + 1) = .slice 8 0 ((n + 1) * 2) none := rfl
   have em : enM C (n + 1) = [.cells true 1 R] := by rw [hR]; rfl
   rw [hst,ev,e0,em,← hR]
   rw [← hR] at el et
   clear hst ev e0 em hm hts hR
   obtain ⟨m,hm⟩ : ∃ m,m = (n + 1) * 2 := ⟨_,rfl⟩
   rw [← hm] at el et b1 b2 ⊢
   simp [-Slot.refs,-Slot.ren,refs_cells,ren_cells,h11,h12,hlt,hltI,hnn,k1,k5,w1',el,et,b1,b2,r0,r1,r2,r3,r4,r5,r6,hR1,hR2,rens_append,refsL_append,ivC_refs]
 ·right
  have : n = C.length := by omega
  subst this
  subst hb
  simp [h12,sameB]
def dfA (d : Df) : AV := .agg [.str d.1,.str d.2.1,.str d.2.2.1,.str d.2.2.2]
def rdOk (v w : AV) (e e' g : Mem) : Prop :=
 (e = [] ∧ e' = [] ∧ g = [] ∧ (∀ ok,v.refsOk ok = true) ∧ (∀ ok,w.refsOk ok = true)) ∨
 (∃ R n,e = [] ∧ e' = [] ∧ g = [.cells true 4 R] ∧ (∀ ok,v.refsOk ok = true) ∧ w = .slice 9 0 n none ∧ AV.closeds R = true) ∨
 (∃ R R' n n',e = [.cells true 4 R] ∧ e' = [.cells true 4 R'] ∧ g = [] ∧ v = .slice 9 0 n none ∧ w = .slice 9 0 n' none ∧ AV.closeds R = true ∧ AV.closeds R' = true) ∨
 (∃ R R' n n',e = [.cells true 4 R] ∧ e' = [.absent] ∧ g = [.cells true 4 R'] ∧ v = .slice 9 0 n none ∧ w = .slice 10 0 n' none ∧ AV.closeds R = true ∧ AV.closeds R' = true)
theorem env_mono {n m : Nat} (h : n ≤ m) {env : Env} (he : env.flatMap (fun e => e.2.refs n) = []) : env.flatMap (fun e => e.2.refs m) = [] := by
 rw [List.flatMap_eq_nil_iff] at he ⊢
 exact fun e hx => refs_mono h (he e hx)
theorem env_all {n : Nat} {env : Env} (he : env.flatMap (fun e => e.2.refs n) = []) : (env.all fun e => e.2.refsOk fun b => decide (b < n)) = true := by
 rw [List.flatMap_eq_nil_iff] at he
 exact List.all_eq_true.2 fun e hx => refsOk_of (he e hx)
set_option maxHeartbeats 12800000 in
theorem Tryz.bo_step {O : Oracle} {K : Nat} (p q : Bool) (A B : List Iv) (v w : AV) (e e' g : Mem) (hpq : p = true ∨ q = true) (hrd : rdOk v w e e' g) (lp : LoopA) (C6 : List AV) (hlp : lp.env.flatMap (fun e => e.2.refs 6) = []) (c6 : AV.refsL 6 C6 = []) (C7 : List AV) (c7 : AV.closeds C7 = true) (D : List (List UInt8)) (n : Nat) (hn : n ≤ 1000000) (s t a b : List UInt8) (j : Nat) (hj : j + 1 < n) (hs : D[j]? = some s) (ht : D[j + 1]? = some t)
  (hua : ∀ r,O (.fn 76) [rowV p 0 A,.str s] (rowS p A :: rowS q B :: r) = some ⟨.str a,none,[]⟩)
  (hub : ∀ r,O (.fn 76) [rowV q 1 B,.str s] (rowS p A :: rowS q B :: r) = some ⟨.str b,none,[]⟩)
  (hy : O (.yld 5) [dfA (s,t,a,b)] ([rowS p A,rowS q B,.cells true 0 [v],.cells true 0 [rowV p 0 A],.cells true 0 [rowV q 1 B],.loop lp,.cells true 1 C6,.cells true 3 C7,.cells true 1 (stC D)] ++ e) =
   some ⟨.bool true,some ([rowS p A,rowS q B,.cells true 0 [w],.cells true 0 [rowV p 0 A],.cells true 0 [rowV q 1 B],.loop lp,.cells true 1 C6,.cells true 3 C7,.cells true 1 (stC D)] ++ e'),g⟩)
  {b1 b2 : Code} (hbb : loopsF Tryz.f72 = [b1,b2]) (env : Env) (d : Bool) (h0 : Eng.look env 0 = .yield 5) (h1 : Eng.look env 1 = .ptr 3 0) (h2 : Eng.look env 2 = .ptr 4 0) (h4 : Eng.look env 4 = .slice 8 0 n none) (h7 : Eng.look env 7 = .int .i64 ((j + 1 : Nat) : Int)) :
  ∃ env',execC (tyOf Tryz.prog) Tryz.boLv O K 62 6 true b2 ⟨env,[rowS p A,rowS q B,.cells true 0 [v],.cells true 0 [rowV p 0 A],.cells true 0 [rowV q 1 B],.loop lp,.cells true 1 C6,.cells true 3 C7,.cells true 1 (stC D)] ++ e,d⟩ =
   some (.normal,⟨env',[rowS p A,rowS q B,.cells true 0 [w],.cells true 0 [rowV p 0 A],.cells true 0 [rowV q 1 B],.loop lp,.cells true 1 C6,.cells true 3 C7,.cells true 1 (stC D)] ++ e' ++ g,true⟩) ∧ Eng.look env' 7 = .int .i64 ((j + 1 + 1 : Nat) : Int) := by
 obtain ⟨ops,hops⟩ : ∃ ops,drawsF Tryz.f72 = [ops] := ⟨_,rfl⟩
 have hbs := draws_one hops (l := [0,0,0,4,14,30,0,0,192,448,0,0,0,4096,14336,30720,64512,0,0,0,524288,1835008,3932160,8387584,16777214,33554431,67108863]) (by kernel_rfl)
 have hba : barAt [0,0,0,4,14,30,0,0,192,448,0,0,0,4096,14336,30720,64512,0,0,0,524288,1835008,3932160,8387584,16777214,33554431,67108863] 27 25 = true := by decide
 simp [drawsF,drawsC,Tryz.f72] at hops
 subst hops
 simp [loopsF,loopsC,Tryz.f72] at hbb
 have hb := hbb.2
 clear hbb
 subst hb
 have hs1 := stC_at hs
 have ht1 := stC_at ht
 have w1 : IntKind.i64.wrap ((j : Int) + 1 + 1) = (j : Int) + 1 + 1 := wrap_i64 (by omega) (by omega)
 have w2 : IntKind.i64.wrap ((j : Int) + 1 - 1) = (j : Int) := by rw [wrap_i64 (by omega) (by omega)]; omega
 have w3 : IntKind.i64.wrap (j : Int) = (j : Int) := wrap_i64 (by omega) (by omega)
 have hjI : (j : Int) + 1 < (n : Int) := by omega
 have hjI0 : (j : Int) < (n : Int) := by omega
 have hj0 : j < n := by omega
 have hjp : (0 : Int) ≤ (j : Int) + 1 := by omega
 simp only [dfA] at hy
 have l9 := env_all (env_mono (show 6 ≤ 9 by omega) hlp)
 have l10 := env_all (env_mono (show 6 ≤ 10 by omega) hlp)
 have l11 := env_all (env_mono (show 6 ≤ 11 by omega) hlp)
 have k9 := refsOkL_of (refsL_mono (show 6 ≤ 9 by omega) c6)
 have k10 := refsOkL_of (refsL_mono (show 6 ≤ 10 by omega) c6)
 have k11 := refsOkL_of (refsL_mono (show 6 ≤ 11 by omega) c6)
 have k7 := fun ok => closeds_refsOk ok c7
 have kD := fun ok => stC_refsOk ok D
 rcases hrd with ⟨rfl,rfl,rfl,hv,hw⟩ | ⟨R,m,rfl,rfl,rfl,hv,rfl,hR⟩ | ⟨R,R',m,m',rfl,rfl,rfl,rfl,rfl,hR,hR'⟩ | ⟨R,R',m,m',rfl,rfl,rfl,rfl,rfl,hR,hR'⟩
 ·simp only [List.append_nil] at hy ⊢
  cases p <;> cases q <;> simp only [rowS,rowV,reduceCtorEq,or_self,or_true,true_or,or_false,false_or] at hua hub hy hpq ⊢ <;>
   simp [-runDraw,runDraw_bar hbs,runDrawB,barAll,barRec,quietR,hba,h0,h1,h2,h4,h7,hs1,ht1,hua,hub,hy,w1,w2,w3,hjI,hjI0,hj,hj0,hjp,l9,l10,l11,k9,k10,k11,k7,kD,hv,hw,ivC_refsOk,aBuild,fieldPlaces,Nat.testBit,presentIds,mergeBy,resWr]
 ·have kR := fun ok => closeds_refsOk ok hR
  simp only [List.append_nil] at hy ⊢
  cases p <;> cases q <;> simp only [rowS,rowV,reduceCtorEq,or_self,or_true,true_or,or_false,false_or] at hua hub hy hpq ⊢ <;>
   simp [-runDraw,runDraw_bar hbs,runDrawB,barAll,barRec,quietR,hba,h0,h1,h2,h4,h7,hs1,ht1,hua,hub,hy,w1,w2,w3,hjI,hjI0,hj,hj0,hjp,l9,l10,l11,k9,k10,k11,k7,kD,hv,kR,ivC_refsOk,aBuild,fieldPlaces,Nat.testBit,presentIds,mergeBy,resWr]
 ·have kR := fun ok => closeds_refsOk ok hR
  have kR' := fun ok => closeds_refsOk ok hR'
  simp only [List.append_nil,List.cons_append,List.nil_append] at hy ⊢
  cases p <;> cases q <;> simp only [rowS,rowV,reduceCtorEq,or_self,or_true,true_or,or_false,false_or] at hua hub hy hpq ⊢ <;>
   simp [-runDraw,runDraw_bar hbs,runDrawB,barAll,barRec,quietR,hba,h0,h1,h2,h4,h7,hs1,ht1,hua,hub,hy,w1,w2,w3,hjI,hjI0,hj,hj0,hjp,l9,l10,l11,k9,k10,k11,k7,kD,kR,kR',ivC_refsOk,aBuild,fieldPlaces,Nat.testBit,presentIds,mergeBy,resWr]
 ·have kR := fun ok => closeds_refsOk ok hR
  have kR' := fun ok => closeds_refsOk ok hR'
  simp only [List.append_nil,List.cons_append,List.nil_append] at hy ⊢
  cases p <;> cases q <;> simp only [rowS,rowV,reduceCtorEq,or_self,or_true,true_or,or_false,false_or] at hua hub hy hpq ⊢ <;>
   simp [-runDraw,runDraw_bar hbs,runDrawB,barAll,barRec,quietR,hba,h0,h1,h2,h4,h7,hs1,ht1,hua,hub,hy,w1,w2,w3,hjI,hjI0,hj,hj0,hjp,l9,l10,l11,k9,k10,k11,k7,kD,kR,kR',ivC_refsOk,aBuild,fieldPlaces,Nat.testBit,presentIds,mergeBy,resWr]
def cmW (st : Option (List Df × Df)) (d : Df) : AV × Mem × Mem :=
 if d.2.2.1 = d.2.2.2 then (ocV 9 st,ocE st,[]) else
 match st with
 | none => (.slice 9 0 1 none,[],[.cells true 4 (dfC [d])])
 | some (acc,z) => if z.2.1 = d.1 ∧ z.2.2.1 = d.2.2.1 ∧ z.2.2.2 = d.2.2.2 then (.slice 9 0 (acc.length + 1) none,[.cells true 4 (dfC (acc ++ [(z.1,d.2.1,z.2.2.1,z.2.2.2)]))],[])
  else (.slice 10 0 (acc.length + 1 + 1) none,[.absent],[.cells true 4 (dfC (acc ++ [z]) ++ [.str d.1,.str d.2.1,.str d.2.2.1,.str d.2.2.2])])
def stillS (s : Slot) : Prop := s.refs 9 = [] ∧ s.refs 10 = []
set_option maxHeartbeats 12800000 in
theorem Tryz.cm_round (S0 S1 S3 S4 S6 S7 S8 : Slot) (hS0 : stillS S0) (hS1 : stillS S1) (hS3 : stillS S3) (hS4 : stillS S4) (hS6 : stillS S6) (hS7 : stillS S7) (hS8 : stillS S8)
  (st : Option (List Df × Df)) (hst : ∀ acc z,st = some (acc,z) → acc.length ≤ 100000) (d : Df) {ps : Array Tmp} {asg body : Code} (hb : rangesF Tryz.f11 = [(ps,asg,body)])
  (env0 : Env) (h7 : Eng.look env0 7 = .ptr 2 0) (he9 : env0.flatMap (fun e => e.2.refs 9) = []) (he10 : env0.flatMap (fun e => e.2.refs 10) = []) :
  callYld (tyOf Tryz.prog) (fun _ => []) noOracle 1 5 [dfA d] ([S0,S1,.cells true 0 [ocV 9 st],S3,S4,.loop ⟨.ready,none,env0,74,ps,asg,body⟩,S6,S7,S8] ++ ocE st) =
   some ⟨.bool true,some ([S0,S1,.cells true 0 [(cmW st d).1],S3,S4,.loop ⟨.ready,none,env0,74,ps,asg,body⟩,S6,S7,S8] ++ (cmW st d).2.1),(cmW st d).2.2⟩ := by
 have hst' : staticC asg = true ∧ staticC body = true ∧ ps = #[19] := by
  simp [rangesF,rangesC,Tryz.f11] at hb
  obtain ⟨rfl,rfl,rfl⟩ := hb
  exact ⟨by kernel_rfl,by kernel_rfl,rfl⟩
 obtain ⟨hst1,hst2,rfl⟩ := hst'
 obtain ⟨ops,hops⟩ : ∃ ops,drawsF Tryz.f11 = [ops] := ⟨_,rfl⟩
 have hbs := draws_one hops (l := [0,1,3,7,7,23,63,127,255,7,519,2047,4095,8191,16383,16383,49151,131071,262143,524287,16383,1064959,4194303,8388607,16777215,33554431,33554431,100663295,268435455,536870911,1073741823,33554431,2181038079,8589934591,17179869183]) (by kernel_rfl)
 have hab : allBef [0,1,3,7,7,23,63,127,255,7,519,2047,4095,8191,16383,16383,49151,131071,262143,524287,16383,1064959,4194303,8388607,16777215,33554431,33554431,100663295,268435455,536870911,1073741823,33554431,2181038079,8589934591,17179869183] 34 = true := by decide
 simp [drawsF,drawsC,Tryz.f11] at hops
 subst hops
 have hn9 : ∀ ks,renEnv (rho 9 ks) env0 = env0 := fun ks => renEnv_refs he9
 have hn10 : ∀ ks,renEnv (rho 10 ks) env0 = env0 := fun ks => renEnv_refs he10
 have q0 := hS0.1
 have q1 := hS1.1
 have q3 := hS3.1
 have q4 := hS4.1
 have q6 := hS6.1
 have q7 := hS7.1
 have q8 := hS8.1
 have p0 := hS0.2
 have p1 := hS1.2
 have p3 := hS3.2
 have p4 := hS4.2
 have p6 := hS6.2
 have p7 := hS7.2
 have p8 := hS8.2
 have m0 : ∀ ks,S0.ren (rho 9 ks) = S0 := fun ks => Slot.ren_refs q0
 have m1 : ∀ ks,S1.ren (rho 9 ks) = S1 := fun ks => Slot.ren_refs q1
 have m3 : ∀ ks,S3.ren (rho 9 ks) = S3 := fun ks => Slot.ren_refs q3
 have m4 : ∀ ks,S4.ren (rho 9 ks) = S4 := fun ks => Slot.ren_refs q4
 have m6 : ∀ ks,S6.ren (rho 9 ks) = S6 := fun ks => Slot.ren_refs q6
 have m7 : ∀ ks,S7.ren (rho 9 ks) = S7 := fun ks => Slot.ren_refs q7
 have m8 : ∀ ks,S8.ren (rho 9 ks) = S8 := fun ks => Slot.ren_refs q8
 have k0 : ∀ ks,S0.ren (rho 10 ks) = S0 := fun ks => Slot.ren_refs p0
 have k1 : ∀ ks,S1.ren (rho 10 ks) = S1 := fun ks => Slot.ren_refs p1
 have k3 : ∀ ks,S3.ren (rho 10 ks) = S3 := fun ks => Slot.ren_refs p3
 have k4 : ∀ ks,S4.ren (rho 10 ks) = S4 := fun ks => Slot.ren_refs p4
 have k6 : ∀ ks,S6.ren (rho 10 ks) = S6 := fun ks => Slot.ren_refs p6
 have k7 : ∀ ks,S7.ren (rho 10 ks) = S7 := fun ks => Slot.ren_refs p7
 have k8 : ∀ ks,S8.ren (rho 10 ks) = S8 := fun ks => Slot.ren_refs p8
 clear hS0 hS1 hS3 hS4 hS6 hS7 hS8
 obtain ⟨x,y,u,w⟩ := d
 cases st with
 | none =>
  by_cases huw : u = w
  ·subst huw
   have e : cmW none (x,y,u,u) = (.nilslice,[],[]) := by unfold cmW; rw [if_pos rfl]; rfl
   rw [e]
   simp only [ocV,ocE,dfA,List.append_nil]
   simp [callYld,hst1,hst2]
   simp [rangesF,rangesC,Tryz.f11] at hb
   obtain ⟨rfl,rfl⟩ := hb
   clear hst1 hst2
   simp [-Slot.refs,-Slot.ren,refs_cells,ren_cells,refs_lp,ren_lp,refs_absent,ren_absent,h7,he9,hn9,q0,q1,q3,q4,q6,q7,q8,m0,m1,m3,m4,m6,m7,m8,jumpOf,endSt]
  ·have e : cmW none (x,y,u,w) = (.slice 9 0 1 none,[],[.cells true 4 (dfC [(x,y,u,w)])]) := by unfold cmW; rw [if_neg huw]
   rw [e]
   have hub : (u == w) = false := by simpa using huw
   simp only [ocV,ocE,dfA,List.append_nil]
   simp [callYld,hst1,hst2]
   simp [rangesF,rangesC,Tryz.f11] at hb
   obtain ⟨rfl,rfl⟩ := hb
   clear hst1 hst2
   simp [-Slot.refs,-Slot.ren,refs_cells,ren_cells,refs_lp,ren_lp,refs_absent,ren_absent,-runDraw,runDraw_light hbs,runDrawL,lightAll,lightRec,hab,h7,hub,he9,hn9,q0,q1,q3,q4,q6,q7,q8,m0,m1,m3,m4,m6,m7,m8,jumpOf,endSt,dfC,Nat.testBit]
 | some st =>
  obtain ⟨acc,z⟩ := st
  obtain ⟨a,ha⟩ : ∃ a,a = acc.length := ⟨_,rfl⟩
  have hal := hst acc z rfl
  rw [← ha] at hal
  obtain ⟨R,hR⟩ : ∃ R,R = dfC (acc ++ [z]) := ⟨_,rfl⟩
  have hR1 : ∀ f,AV.rens f R = R := fun f => by rw [hR]; exact dfC_ren f _
  have hR2 : ∀ n,AV.refsL n R = [] := fun n => by rw [hR]; exact dfC_refs n _
  have cl : (dfC acc).length = a * 4 := by rw [dfC_length,ha]
  have rl : R.length = (a + 1) * 4 := by rw [hR,dfC_length,ha]; simp
  have hRe : R = dfC acc ++ [.str z.1,.str z.2.1,.str z.2.2.1,.str z.2.2.2] := by rw [hR,dfC_append]; rfl
  by_cases huw : u = w
  ·subst huw
   have e : cmW (some (acc,z)) (x,y,u,u) = (.slice 9 0 (a + 1) none,[.cells true 4 R],[]) := by unfold cmW; rw [if_pos rfl,hR,ha]; rfl
   rw [e]
   simp only [ocV,ocE,dfA,← hR,← ha]
   simp [callYld,hst1,hst2]
   simp [rangesF,rangesC,Tryz.f11] at hb
   obtain ⟨rfl,rfl⟩ := hb
   clear hst1 hst2
   simp [-Slot.refs,-Slot.ren,refs_cells,ren_cells,refs_lp,ren_lp,refs_absent,ren_absent,h7,he10,hn10,p0,p1,p3,p4,p6,p7,p8,k0,k1,k3,k4,k6,k7,k8,hR1,hR2,jumpOf,endSt]
  ·have hub : (u == w) = false := by simpa using huw
   have q1' : R[a * 4 + 1]? = some (.str z.2.1) := by rw [hRe,List.getElem?_append_right (by omega),cl,show a * 4 + 1 - a * 4 = 1 by omega]; rfl
   have q2' : R[a * 4 + 2]? = some (.str z.2.2.1) := by rw [hRe,List.getElem?_append_right (by omega),cl,show a * 4 + 2 - a * 4 = 2 by omega]; rfl
   have q3' : R[a * 4 + 3]? = some (.str z.2.2.2) := by rw [hRe,List.getElem?_append_right (by omega),cl,show a * 4 + 3 - a * 4 = 3 by omega]; rfl
   have j1 : ∀ h,R[a * 4 + 1]'h = .str z.2.1 := fun h => by rw [List.getElem?_eq_getElem h] at q1'; exact Option.some.inj q1'
   have j2 : ∀ h,R[a * 4 + 2]'h = .str z.2.2.1 := fun h => by rw [List.getElem?_eq_getElem h] at q2'; exact Option.some.inj q2'
   have j3 : ∀ h,R[a * 4 + 3]'h = .str z.2.2.2 := fun h => by rw [List.getElem?_eq_getElem h] at q3'; exact Option.some.inj q3'
   have c1 : a * 4 + 1 < (a + 1) * 4 := by omega
   have c2 : a * 4 + 2 < (a + 1) * 4 := by omega
   have c3 : a * 4 + 3 < (a + 1) * 4 := by omega
   have c4 : a * 4 + 1 + 1 ≤ (a + 1) * 4 := by omega
   have hRt : R.take ((a + 1) * 4) = R := List.take_of_length_le (by omega)
   have wa : IntKind.i64.wrap (a : Int) = (a : Int) := wrap_i64 (by omega) (by omega)
   have wa1 : IntKind.i64.wrap ((a : Int) + 1 - 1) = (a : Int) := by rw [wrap_i64 (by omega) (by omega)]; omega
   have hai : (a : Int) < (a : Int) + 1 := by omega
   have hap : (0 : Int) < (a : Int) + 1 := by omega
   have b1 : (a + 1 + 1) * 64 ≤ 140737488355328 := by omega
   have b2 : a + 1 + 1 ≤ 140737488355328 := by omega
   have b3 : a ≤ 140737488355326 := by omega
   by_cases hz : z.2.1 = x ∧ z.2.2.1 = u ∧ z.2.2.2 = w
   ·obtain ⟨z1,z2,z3⟩ := hz
    have e : cmW (some (acc,z)) (x,y,u,w) = (.slice 9 0 (a + 1) none,[.cells true 4 (R.take (a * 4 + 1) ++ .str y :: R.drop (a * 4 + 1 + 1))],[]) := by
     have : R.take (a * 4 + 1) ++ .str y :: R.drop (a * 4 + 1 + 1) = dfC (acc ++ [(z.1,y,z.2.2.1,z.2.2.2)]) := by
      rw [hRe,dfC_append,List.take_append,cl,List.take_of_length_le (by omega),show a * 4 + 1 - a * 4 = 1 by omega,List.drop_append,cl,List.drop_of_length_le (by omega),show a * 4 + 1 + 1 - a * 4 = 2 by omega]
      simp [dfC]
     rw [this]
     unfold cmW; rw [if_neg huw]; simp only; rw [if_pos ⟨z1,z2,z3⟩,ha]
    rw [e]
    have hT1 : ∀ f,AV.rens f (R.take (a * 4 + 1)) = R.take (a * 4 + 1) := fun f => rens_closeds (closeds_take _ _ (by rw [hR]; exact dfC_closed _))
    have hT2 : ∀ n,AV.refsL n (R.take (a * 4 + 1)) = [] := fun n => refsL_take n _ _ (hR2 n)
    have hDd : R.drop (a * 4 + 1 + 1) = [.str z.2.2.1,.str z.2.2.2] := by
     rw [hRe,List.drop_append,cl,List.drop_of_length_le (by omega),show a * 4 + 1 + 1 - a * 4 = 2 by omega]; rfl
    rw [hDd]
    simp only [ocV,ocE,dfA,← hR,← ha]
    clear e hRe hR
    simp [callYld,hst1,hst2]
    simp [rangesF,rangesC,Tryz.f11] at hb
    obtain ⟨rfl,rfl⟩ := hb
    clear hst1 hst2
    simp [-Slot.refs,-Slot.ren,refs_cells,ren_cells,refs_lp,ren_lp,refs_absent,ren_absent,-runDraw,runDraw_light hbs,runDrawL,lightAll,lightRec,hab,h7,hub,z1,z2,z3,he10,hn10,p0,p1,p3,p4,p6,p7,p8,k0,k1,k3,k4,k6,k7,k8,rl,j1,j2,j3,c1,c2,c3,c4,wa,wa1,hai,hap,hT1,hT2,hDd,jumpOf,endSt,Nat.testBit]
   ·have e : cmW (some (acc,z)) (x,y,u,w) = (.slice 10 0 (a + 1 + 1) none,[.absent],[.cells true 4 (R ++ [.str x,.str y,.str u,.str w])]) := by
     unfold cmW; rw [if_neg huw]; simp only; rw [if_neg hz,ha,hR]
    rw [e]
    simp only [ocV,ocE,dfA,← hR,← ha]
    clear e hRe hR
    simp [callYld,hst1,hst2]
    simp [rangesF,rangesC,Tryz.f11] at hb
    obtain ⟨rfl,rfl⟩ := hb
    clear hst1 hst2
    by_cases z1 : z.2.1 = x
    ·have e1 : (z.2.1 == x) = true := by simpa using z1
     by_cases z2 : z.2.2.1 = u
     ·have e2 : (z.2.2.1 == u) = true := by simpa using z2
      have e3 : (z.2.2.2 == w) = false := by simpa using fun e => hz ⟨z1,z2,e⟩
      simp [-Slot.refs,-Slot.ren,refs_cells,ren_cells,refs_lp,ren_lp,refs_absent,ren_absent,-runDraw,runDraw_light hbs,runDrawL,lightAll,lightRec,hab,h7,hub,e1,e2,e3,he10,hn10,p0,p1,p3,p4,p6,p7,p8,k0,k1,k3,k4,k6,k7,k8,rl,j1,j2,j3,c1,c2,c3,c4,wa,wa1,hai,hap,b1,b2,b3,hRt,hR1,hR2,refsL_append,rens_append,jumpOf,endSt,Nat.testBit]
     ·have e2 : (z.2.2.1 == u) = false := by simpa using z2
      simp [-Slot.refs,-Slot.ren,refs_cells,ren_cells,refs_lp,ren_lp,refs_absent,ren_absent,-runDraw,runDraw_light hbs,runDrawL,lightAll,lightRec,hab,h7,hub,e1,e2,he10,hn10,p0,p1,p3,p4,p6,p7,p8,k0,k1,k3,k4,k6,k7,k8,rl,j1,j2,j3,c1,c2,c3,c4,wa,wa1,hai,hap,b1,b2,b3,hRt,hR1,hR2,refsL_append,rens_append,jumpOf,endSt,Nat.testBit]
    ·have e1 : (z.2.1 == x) = false := by simpa using z1
     simp [-Slot.refs,-Slot.ren,refs_cells,ren_cells,refs_lp,ren_lp,refs_absent,ren_absent,-runDraw,runDraw_light hbs,runDrawL,lightAll,lightRec,hab,h7,hub,e1,he10,hn10,p0,p1,p3,p4,p6,p7,p8,k0,k1,k3,k4,k6,k7,k8,rl,j1,j2,j3,c1,c2,c3,c4,wa,wa1,hai,hap,b1,b2,b3,hRt,hR1,hR2,refsL_append,rens_append,jumpOf,endSt,Nat.testBit]
end Go.Proofs
