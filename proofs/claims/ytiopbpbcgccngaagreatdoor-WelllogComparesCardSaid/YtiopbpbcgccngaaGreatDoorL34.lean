/- See L55. -/
import Derived.Test.YtiopbpbcgccngaaGreatDoorL17
import Derived.Test.YtiopbpbcgccngaaGreatDoorL08
import Derived.Test.YtiopbpbcgccngaaGreatDoorL25
import Derived.Test.YtiopbpbcgccngaaGreatDoorL09
import Derived.Test.YtiopbpbcgccngaaGreatDoorL33
import Derived.Ground.SlsfProg
set_option linter.all false
namespace Go.Proofs
open Go.Eng
def cmpZ (a b : Int) : Int := if a < b then -1 else if b < a then 1 else 0
def cmp2 (x y : Int × Int) : Int := if x.1 < y.1 then -1 else if y.1 < x.1 then 1 else cmpZ x.2 y.2
theorem Tryz.aNaN (a : Int) (mem : Mem) : ACallsTo Tryz.prog 332 [.int .i64 a] mem (.bool false) mem := by
 have hG : fnOf Tryz.prog 332 = some Tryz.f332 := by kernel_rfl
 refine Tryz.run (noOracle_ok _) (lv := fun _ => []) (K := 1) rfl rfl ?_ mem
 simp [callFn,hG,Tryz.f332]
noncomputable def Tryz.soF1 (f : FuncId) (args : List AV) : Option AV :=
 match f,args with
 | 332,[.int .i64 _] => some (.bool false)
 | _,_ => none
theorem Tryz.so1_ok : OracleOk Tryz.prog (pureO Tryz.soF1) := pureO_ok fun f args v h mem => by
 unfold Tryz.soF1 at h
 split at h
 ·cases h; exact Tryz.aNaN _ mem
 ·cases h
theorem Tryz.aCmpInt (a b : Int) (mem : Mem) : ACallsTo Tryz.prog 312 [.int .i64 a,.int .i64 b] mem (.int .i64 (cmpZ a b)) mem := by
 have hG : fnOf Tryz.prog 312 = some Tryz.f312 := by kernel_rfl
 refine Tryz.run Tryz.so1_ok (lv := fun _ => []) (K := 1) rfl rfl ?_ mem
 unfold cmpZ
 by_cases h1 : a < b
 ·simp [callFn,hG,Tryz.f312,pureO,Tryz.soF1,h1]
 ·by_cases h2 : b < a
  ·simp [callFn,hG,Tryz.f312,pureO,Tryz.soF1,h1,h2]
  ·simp [callFn,hG,Tryz.f312,pureO,Tryz.soF1,h1,h2]
noncomputable def Tryz.soF2 (f : FuncId) (args : List AV) : Option AV :=
 match f,args with
 | 312,[.int .i64 a,.int .i64 b] => some (.int .i64 (cmpZ a b))
 | _,_ => none
theorem Tryz.so2_ok : OracleOk Tryz.prog (pureO Tryz.soF2) := pureO_ok fun f args v h mem => by
 unfold Tryz.soF2 at h
 split at h
 ·cases h; exact Tryz.aCmpInt _ _ mem
 ·cases h
theorem Tryz.cmp_run (x y : Int × Int) (o1 o2 : Bool) (e1 e2 : Nat) : callFn (tyOf Tryz.prog) (fun _ => [11]) (fnOf Tryz.prog) (pureO Tryz.soF2) 3 289 [.slice 0 0 2 (some 2),.slice 1 0 2 (some 2)] [.cells o1 e1 [.int .i64 x.1,.int .i64 x.2],.cells o2 e2 [.int .i64 y.1,.int .i64 y.2]] = some ⟨.int .i64 (cmp2 x y),none,[]⟩ := by
 have hG : fnOf Tryz.prog 289 = some Tryz.f289 := by kernel_rfl
 have w1 : IntKind.i64.wrap 1 = 1 := rfl
 have w2 : IntKind.i64.wrap 2 = 2 := rfl
 obtain ⟨a,b⟩ := x
 obtain ⟨c,d⟩ := y
 unfold cmp2 cmpZ
 by_cases h1 : a < c
 ·simp [callFn,hG,Tryz.f289,execC_loop,iter,pureO,Tryz.soF2,cmpZ,h1,w1,w2]
 ·by_cases h2 : c < a
  ·simp [callFn,hG,Tryz.f289,execC_loop,iter,pureO,Tryz.soF2,cmpZ,h1,h2,w1,w2]
  ·by_cases h3 : b < d
   ·simp [callFn,hG,Tryz.f289,execC_loop,iter,pureO,Tryz.soF2,cmpZ,h1,h2,h3,w1,w2]
   ·by_cases h4 : d < b
    ·simp [callFn,hG,Tryz.f289,execC_loop,iter,pureO,Tryz.soF2,cmpZ,h1,h2,h3,h4,w1,w2]
    ·simp [callFn,hG,Tryz.f289,execC_loop,iter,pureO,Tryz.soF2,cmpZ,h1,h2,h3,h4,w1,w2]
end Go.Proofs
namespace Go.Proofs
open Go.Eng Go.Shelf
noncomputable def Tryz.soO : Oracle := fun c args M => match c,args,M with
 | .fn 289,[.slice 0 0 2 (some 2),.slice 1 0 2 (some 2)],[.cells _ _ [.int .i64 a,.int .i64 b],.cells _ _ [.int .i64 c,.int .i64 d]] => some ⟨.int .i64 (cmp2 (a,b) (c,d)),none,[]⟩
 | _,_,_ => none
theorem Tryz.soO_ok : OracleOk Tryz.prog Tryz.soO := by
 refine oracleOk_of fun c args M r h => ?_
 unfold Tryz.soO at h
 split at h
 ·rename_i o1 e1 a b o2 e2 c d
  cases h
  refine soundAt_call ?_
  have := (callFn_sound Tryz.mixed (tyOf_ok _) Tryz.so2_ok (fnOf_ok _) (Tryz.cmp_run (a,b) (c,d) o1 o2 e1 e2)).1
  simpa [CallRes.mem] using this
 ·cases h
def prA (x : Int × Int) : List AV := [.int .i64 x.1,.int .i64 x.2]
def prV (x : Int × Int) : List Value := [.int .i64 x.1,.int .i64 x.2]
theorem Tryz.aEdgesCmp (x y : Int × Int) : ACallsTo Tryz.prog 288 [.agg (prA x),.agg (prA y)] [] (.int .i64 (cmp2 x y)) [] := by
 have hG : fnOf Tryz.prog 288 = some Tryz.f288 := by kernel_rfl
 refine Tryz.run Tryz.soO_ok (lv := fun _ => []) (K := 1) rfl rfl ?_ []
 simp [callFn,hG,Tryz.f288,Tryz.soO,prA]
theorem cmp2_lt {x y : Int × Int} : cmp2 x y < 0 ↔ x.1 < y.1 ∨ (x.1 = y.1 ∧ x.2 < y.2) := by
 unfold cmp2 cmpZ
 split
 ·simp [*]
 ·split
  ·constructor
   ·intro h; omega
   ·intro h; omega
  ·split
   ·constructor
    ·intro h; omega
    ·intro h; omega
   ·split
    ·constructor
     ·intro h; omega
     ·intro h; omega
    ·constructor
     ·intro h; omega
     ·intro h; omega
theorem lt2_iff {x y : Int × Int} : ltOf cmp2 x y = true ↔ x.1 < y.1 ∨ (x.1 = y.1 ∧ x.2 < y.2) := by
 unfold ltOf; rw [decide_eq_true_eq]; exact cmp2_lt
theorem lt2_not {x y : Int × Int} : ltOf cmp2 x y = false ↔ ¬ (x.1 < y.1 ∨ (x.1 = y.1 ∧ x.2 < y.2)) := by
 unfold ltOf; rw [decide_eq_false_iff_not]; exact not_congr cmp2_lt
theorem cmp2_swo : Sort.SWO (ltOf cmp2) where
 irrefl x := by rw [lt2_not]; omega
 trans x y z h1 h2 := by rw [lt2_iff] at *; omega
 ntrans x y z h1 h2 := by rw [lt2_not] at *; omega
theorem cmp2_anti {x y : Int × Int} (h1 : ltOf cmp2 x y = false) (h2 : ltOf cmp2 y x = false) : x = y := by
 rw [lt2_not] at h1 h2
 have : x.1 = y.1 ∧ x.2 = y.2 := by omega
 exact Prod.ext this.1 this.2
theorem sorted_unique {α : Type} {lt : α → α → Bool} (ha : ∀ {x y},lt x y = false → lt y x = false → x = y) : ∀ {l r : List α},l.Perm r → (l.Pairwise fun x y => lt y x = false) → (r.Pairwise fun x y => lt y x = false) → l = r := by
 intro l r hp hl hr
 exact List.Perm.eq_of_pairwise (le := fun x y => lt y x = false) (fun a b _ _ h1 h2 => ha h2 h1) hl hr hp
def Tryz.laysSortP_ren : Go.Shelf.Ren := ⟨fun | 6 => 287 | 15 => 110 | 14 => 311 | 28 => 157 | 29 => 158 | 20 => 324 | 21 => 325 | 22 => 326 | 23 => 327 | 24 => 328 | 25 => 329 | 26 => 330 | 27 => 331 | 46 => 341 | 47 => 201 | 48 => 202 | 49 => 342 | 50 => 343 | 57 => 346 | n => n,fun | 22 => 315 | 24 => 307 | 25 => 355 | 3 => 3 | 39 => 181 | 0 => 0 | 53 => 241 | 55 => 187 | 4 => 4 | 46 => 235 | 45 => 234 | 50 => 148 | 5 => 5 | 9 => 9 | 66 => 281 | 70 => 285 | 76 => 329 | 77 => 330 | n => n,fun | n => n⟩
theorem Tryz.laysSortP : Go.Proofs.SlLaysF0.n6 Tryz.prog Tryz.laysSortP_ren := {
 mixed := by kernel_rfl
 f6 := ⟨Tryz.f287.name,by decide,Tryz.func287.trans (congrArg some (by kernel_rfl))⟩
 f14 := ⟨Tryz.f311.name,by decide,Tryz.func311.trans (congrArg some (by kernel_rfl))⟩
 f15 := Tryz.func110.trans (congrArg some (by kernel_rfl))
 f20 := ⟨Tryz.f324.name,by decide,Tryz.func324.trans (congrArg some (by kernel_rfl))⟩
 f21 := ⟨Tryz.f325.name,by decide,Tryz.func325.trans (congrArg some (by kernel_rfl))⟩
 f22 := ⟨Tryz.f326.name,by decide,Tryz.func326.trans (congrArg some (by kernel_rfl))⟩
 f23 := ⟨Tryz.f327.name,by decide,Tryz.func327.trans (congrArg some (by kernel_rfl))⟩
 f24 := ⟨Tryz.f328.name,by decide,Tryz.func328.trans (congrArg some (by kernel_rfl))⟩
 f25 := ⟨Tryz.f329.name,by decide,Tryz.func329.trans (congrArg some (by kernel_rfl))⟩
 f26 := ⟨Tryz.f330.name,by decide,Tryz.func330.trans (congrArg some (by kernel_rfl))⟩
 f27 := ⟨Tryz.f331.name,by decide,Tryz.func331.trans (congrArg some (by kernel_rfl))⟩
 f28 := Tryz.func157.trans (congrArg some (by kernel_rfl))
 f29 := Tryz.func158.trans (congrArg some (by kernel_rfl))
 f46 := ⟨Tryz.f341.name,by decide,Tryz.func341.trans (congrArg some (by kernel_rfl))⟩
 f47 := Tryz.func201.trans (congrArg some (by kernel_rfl))
 f48 := Tryz.func202.trans (congrArg some (by kernel_rfl))
 f49 := ⟨Tryz.f342.name,by decide,Tryz.func342.trans (congrArg some (by kernel_rfl))⟩
 f50 := ⟨Tryz.f343.name,by decide,Tryz.func343.trans (congrArg some (by kernel_rfl))⟩
 f57 := ⟨Tryz.f346.name,by decide,Tryz.func346.trans (congrArg some (by kernel_rfl))⟩
 t0 := Tryz.underlying0
 a0 := Tryz.isAgg0
 z0 := Tryz.sizeOf0
 v0 := Tryz.zeroValue0
 t3 := Tryz.underlying3
 a3 := Tryz.isAgg3
 z3 := Tryz.sizeOf3
 v3 := Tryz.zeroValue3
 t4 := Tryz.underlying4
 a4 := Tryz.isAgg4
 z4 := Tryz.sizeOf4
 v4 := Tryz.zeroValue4
 t5 := Tryz.underlying5
 a5 := Tryz.isAgg5
 z5 := Tryz.sizeOf5
 v5 := Tryz.zeroValue5
 t9 := Tryz.underlying9
 a9 := Tryz.isAgg9
 z9 := Tryz.sizeOf9
 v9 := Tryz.zeroValue9
 t22 := Tryz.underlying315
 a22 := Tryz.isAgg315
 z22 := Tryz.sizeOf315
 v22 := Tryz.zeroValue315
 t25 := Tryz.underlying355
 a25 := Tryz.isAgg355
 z25 := Tryz.sizeOf355
 v25 := Tryz.zeroValue355
 t39 := Tryz.underlying181
 a39 := Tryz.isAgg181
 z39 := Tryz.sizeOf181
 v39 := Tryz.zeroValue181
 t45 := Tryz.underlying234
 a45 := Tryz.isAgg234
 z45 := Tryz.sizeOf234
 v45 := Tryz.zeroValue234
 t46 := Tryz.underlying235
 a46 := Tryz.isAgg235
 z46 := Tryz.sizeOf235
 v46 := Tryz.zeroValue235
 t50 := Tryz.underlying148
 a50 := Tryz.isAgg148
 z50 := Tryz.sizeOf148
 v50 := Tryz.zeroValue148
 t53 := Tryz.underlying241
 a53 := Tryz.isAgg241
 z53 := Tryz.sizeOf241
 v53 := Tryz.zeroValue241
 t55 := Tryz.underlying187
 a55 := Tryz.isAgg187
 z55 := Tryz.sizeOf187
 v55 := Tryz.zeroValue187
 t66 := Tryz.underlying281
 a66 := Tryz.isAgg281
 z66 := Tryz.sizeOf281
 v66 := Tryz.zeroValue281
 t70 := Tryz.underlying285
 a70 := Tryz.isAgg285
 z70 := Tryz.sizeOf285
 v70 := Tryz.zeroValue285
 t76 := Tryz.underlying329
 a76 := Tryz.isAgg329
 z76 := Tryz.sizeOf329
 v76 := Tryz.zeroValue329
 t77 := Tryz.underlying330
 a77 := Tryz.isAgg330
 z77 := Tryz.sizeOf330
 v77 := Tryz.zeroValue330 }
def Tryz.laysSortR_ren : Go.Shelf.Ren := ⟨fun | 6 => 74 | 15 => 110 | 14 => 109 | 28 => 157 | 29 => 158 | 20 => 149 | 21 => 150 | 22 => 151 | 23 => 152 | 24 => 153 | 25 => 154 | 26 => 155 | 27 => 156 | 46 => 200 | 47 => 201 | 48 => 202 | 49 => 203 | 50 => 204 | 57 => 268 | n => n,fun | 22 => 27 | 24 => 31 | 25 => 56 | 3 => 3 | 39 => 181 | 0 => 0 | 53 => 241 | 55 => 187 | 4 => 4 | 46 => 235 | 45 => 234 | 50 => 148 | 5 => 5 | 9 => 9 | 66 => 281 | 70 => 285 | 76 => 329 | 77 => 330 | n => n,fun | n => n⟩
theorem Tryz.laysSortR : Go.Proofs.SlLaysF.n6 Tryz.prog Tryz.laysSortR_ren := {
 mixed := by kernel_rfl
 f6 := ⟨Tryz.f74.name,by decide,Tryz.func74.trans (congrArg some (by kernel_rfl))⟩
 f14 := ⟨Tryz.f109.name,by decide,Tryz.func109.trans (congrArg some (by kernel_rfl))⟩
 f15 := Tryz.func110.trans (congrArg some (by kernel_rfl))
 f20 := ⟨Tryz.f149.name,by decide,Tryz.func149.trans (congrArg some (by kernel_rfl))⟩
 f21 := ⟨Tryz.f150.name,by decide,Tryz.func150.trans (congrArg some (by kernel_rfl))⟩
 f22 := ⟨Tryz.f151.name,by decide,Tryz.func151.trans (congrArg some (by kernel_rfl))⟩
 f23 := ⟨Tryz.f152.name,by decide,Tryz.func152.trans (congrArg some (by kernel_rfl))⟩
 f24 := ⟨Tryz.f153.name,by decide,Tryz.func153.trans (congrArg some (by kernel_rfl))⟩
 f25 := ⟨Tryz.f154.name,by decide,Tryz.func154.trans (congrArg some (by kernel_rfl))⟩
 f26 := ⟨Tryz.f155.name,by decide,Tryz.func155.trans (congrArg some (by kernel_rfl))⟩
 f27 := ⟨Tryz.f156.name,by decide,Tryz.func156.trans (congrArg some (by kernel_rfl))⟩
 f28 := Tryz.func157.trans (congrArg some (by kernel_rfl))
 f29 := Tryz.func158.trans (congrArg some (by kernel_rfl))
 f46 := ⟨Tryz.f200.name,by decide,Tryz.func200.trans (congrArg some (by kernel_rfl))⟩
 f47 := Tryz.func201.trans (congrArg some (by kernel_rfl))
 f48 := Tryz.func202.trans (congrArg some (by kernel_rfl))
 f49 := ⟨Tryz.f203.name,by decide,Tryz.func203.trans (congrArg some (by kernel_rfl))⟩
 f50 := ⟨Tryz.f204.name,by decide,Tryz.func204.trans (congrArg some (by kernel_rfl))⟩
 f57 := ⟨Tryz.f268.name,by decide,Tryz.func268.trans (congrArg some (by kernel_rfl))⟩
 t0 := Tryz.underlying0
 a0 := Tryz.isAgg0
 z0 := Tryz.sizeOf0
 v0 := Tryz.zeroValue0
 t3 := Tryz.underlying3
 a3 := Tryz.isAgg3
 z3 := Tryz.sizeOf3
 v3 := Tryz.zeroValue3
 t4 := Tryz.underlying4
 a4 := Tryz.isAgg4
 z4 := Tryz.sizeOf4
 v4 := Tryz.zeroValue4
 t5 := Tryz.underlying5
 a5 := Tryz.isAgg5
 z5 := Tryz.sizeOf5
 v5 := Tryz.zeroValue5
 t9 := Tryz.underlying9
 a9 := Tryz.isAgg9
 z9 := Tryz.sizeOf9
 v9 := Tryz.zeroValue9
 t22 := Tryz.underlying27
 a22 := Tryz.isAgg27
 z22 := Tryz.sizeOf27
 v22 := Tryz.zeroValue27
 a24 := Tryz.isAgg31
 z24 := Tryz.sizeOf31
 t25 := Tryz.underlying56
 a25 := Tryz.isAgg56
 z25 := Tryz.sizeOf56
 v25 := Tryz.zeroValue56
 t39 := Tryz.underlying181
 a39 := Tryz.isAgg181
 z39 := Tryz.sizeOf181
 v39 := Tryz.zeroValue181
 t45 := Tryz.underlying234
 a45 := Tryz.isAgg234
 z45 := Tryz.sizeOf234
 v45 := Tryz.zeroValue234
 t46 := Tryz.underlying235
 a46 := Tryz.isAgg235
 z46 := Tryz.sizeOf235
 v46 := Tryz.zeroValue235
 t50 := Tryz.underlying148
 a50 := Tryz.isAgg148
 z50 := Tryz.sizeOf148
 v50 := Tryz.zeroValue148
 t53 := Tryz.underlying241
 a53 := Tryz.isAgg241
 z53 := Tryz.sizeOf241
 v53 := Tryz.zeroValue241
 t55 := Tryz.underlying187
 a55 := Tryz.isAgg187
 z55 := Tryz.sizeOf187
 v55 := Tryz.zeroValue187
 t66 := Tryz.underlying281
 a66 := Tryz.isAgg281
 z66 := Tryz.sizeOf281
 v66 := Tryz.zeroValue281
 t70 := Tryz.underlying285
 a70 := Tryz.isAgg285
 z70 := Tryz.sizeOf285
 v70 := Tryz.zeroValue285
 t76 := Tryz.underlying329
 a76 := Tryz.isAgg329
 z76 := Tryz.sizeOf329
 v76 := Tryz.zeroValue329
 t77 := Tryz.underlying330
 a77 := Tryz.isAgg330
 z77 := Tryz.sizeOf330
 v77 := Tryz.zeroValue330 }
end Go.Proofs
