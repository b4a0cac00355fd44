/- See I57. -/
import Derived.Test.YtahfjdgeebjiaaaGreatDoorI32
import Derived.Test.YtahfjdgeebjiaaaGreatDoorI24
import Derived.Test.YtahfjdgeebjiaaaGreatDoorI28
import Derived.Test.YtahfjdgeebjiaaaGreatDoorI08
import Derived.KernelRfl
set_option linter.all false
namespace Go.Proofs
open Go.Eng
def sqP : List AV := [.str [48],.str [48],.str [52],.str [48],.str [52],.str [52],.str [48],.str [52]]
def sqT : List AV := [.int .i64 0,.int .i64 1,.int .i64 2,.int .i64 0,.int .i64 2,.int .i64 3]
theorem Tryz.check_square : callF (tyOf Tryz.prog) writesC (fnOf Tryz.prog) Tryz.knO 60 10 (.fn 54) [.agg [.slice 0 0 4 none,.slice 1 0 2 none]] [.cells false 2 sqP,.cells false 3 sqT] = some ⟨.int .i64 0,some [.cells false 2 sqP,.cells false 3 sqT],[]⟩ := by
 kernel_rfl
theorem Tryz.aCheckSqP : ACallsTo Tryz.prog 54 [.agg [.slice 0 0 4 none,.slice 1 0 2 none]] [.cells false 2 sqP,.cells false 3 sqT] (.int .i64 0) [.cells false 2 sqP,.cells false 3 sqT] := by
 have := (callF_sound Tryz.mixed (tyOf_ok _) (fnOf_ok _) Tryz.knO_ok 10).fn _ _ _ _ Tryz.check_square
 simpa [CallRes.mem] using this
def sameC : List AV → List AV → Bool
 | [],[] => true
 | .str a :: l,.str b :: r => (a == b) && sameC l r
 | .int .i64 a :: l,.int .i64 b :: r => decide (a = b) && sameC l r
 | _,_ => false
theorem sameC_eq : ∀ {l r : List AV},sameC l r = true → l = r
 | [],r,h => by cases r <;> first | rfl | (unfold sameC at h; cases h)
 | v :: l,r,h => by
  unfold sameC at h
  split at h
  ·rename_i h1; cases h1
  ·rename_i h1
   cases h1
   simp only [Bool.and_eq_true,beq_iff_eq] at h
   rw [h.1,sameC_eq h.2]
  ·rename_i h1
   cases h1
   simp only [Bool.and_eq_true,decide_eq_true_eq] at h
   rw [h.1,sameC_eq h.2]
  ·cases h
def rowIs (M : Mem) (b e : Nat) (cs : List AV) : Bool := match M[b]? with
 | some (.cells _ es l) => decide (es = e) && sameC (l.take cs.length) cs
 | _ => false
theorem rowIs_sub {M : Mem} {b e : Nat} {cs : List AV} {ks : List Nat} (h : rowIs M b e cs = true) (hu : AV.closeds cs = true) : b < M.length ∧ SubSlot ks M b (.cells false e cs) := by
 unfold rowIs at h
 split at h
 ·rename_i o es l hb
  simp only [Bool.and_eq_true,decide_eq_true_eq] at h
  obtain ⟨rfl,h2⟩ := h
  have h2 := sameC_eq h2
  refine ⟨(List.getElem?_eq_some_iff.1 hb).1,closeds_unders hu,o,l,hb,fun j v hv => ?_⟩
  have hj := (List.getElem?_eq_some_iff.1 hv).1
  have : l[j]? = cs[j]? := by
   rw [← List.getElem?_take_of_lt hj,h2]
  have hr := rens_closeds (ρ := back ks M.length) hu
  rw [rens_eq_map] at hr
  have hr2 : (cs.map (AV.ren (back ks M.length)))[j]? = cs[j]? := by rw [hr]
  rw [List.getElem?_map,hv] at hr2
  rw [this,hv]; exact hr2.symm
 ·cases h
theorem Tryz.aCheckSqM (M : Mem) (b c : Nat) (h1 : rowIs M b 2 sqP = true) (h2 : rowIs M c 3 sqT = true) : ACallsTo Tryz.prog 54 [.agg [.slice b 0 4 none,.slice c 0 2 none]] M (.int .i64 0) M := by
 have k1 := rowIs_sub (ks := [b,c]) h1 (by rfl)
 have k2 := rowIs_sub (ks := [b,c]) h2 (by rfl)
 have := ACallsTo.frame (M := M) (new := []) [b,c] (m := [.cells false 2 sqP,.cells false 3 sqT]) rfl (by
  intro k hk
  simp only [List.mem_cons,List.not_mem_nil,or_false] at hk
  rcases hk with h | h
  ·rw [h]; exact k1.1
  ·rw [h]; exact k2.1) (by rfl) (fun i s hs => by
  match i with
  | 0 => simp at hs; subst hs; exact k1.2
  | 1 => simp at hs; subst hs; exact k2.2
  | i + 2 => simp at hs) rfl Tryz.aCheckSqP
 simpa [AV.rens,AV.ren,back] using this
def Tryz.sqO (c : Go.Eng.Callee) (args : List AV) (M : Mem) : Option CallRes := match c,args with
 | .fn 54,[.agg [.slice b 0 4 none,.slice c 0 2 none]] => if rowIs M b 2 sqP && rowIs M c 3 sqT then some ⟨.int .i64 0,none,[]⟩ else none
 | _,_ => none
theorem Tryz.sqO_ok : OracleOk Tryz.prog Tryz.sqO := by
 refine oracleOk_of fun c args M r h => ?_
 unfold Tryz.sqO at h
 split at h
 ·split at h
  ·rename_i hc
   simp only [Bool.and_eq_true] at hc
   cases h
   refine soundAt_call ?_
   rw [List.append_nil]
   exact Tryz.aCheckSqM M _ _ hc.1 hc.2
  ·cases h
 ·cases h
def okTrue (r : CallRes) : Bool := (match r.v with
 | .bool b => b
 | _ => false) && r.new.isEmpty && (match r.pre with
 | some p => p.isEmpty
 | none => true)
theorem okTrue_spec {r : CallRes} (h : okTrue r = true) : r.v = .bool true ∧ r.mem [] = [] := by
 obtain ⟨v,pre,new⟩ := r
 simp only [okTrue,Bool.and_eq_true,List.isEmpty_iff] at h
 obtain ⟨⟨h1,rfl⟩,h3⟩ := h
 constructor
 ·cases v <;> first | (cases h1; done) | skip
  simp only at h1
  rw [h1]
 ·cases pre with
  | none => rfl
  | some p => simp only [List.isEmpty_iff] at h3; subst h3; rfl
noncomputable def Tryz.kdw : Oracle := Oracle.or Tryz.sqO (Oracle.or (pureO Tryz.ratF4) (pureO Tryz.rsF5))
theorem Tryz.kdw_ok : OracleOk Tryz.prog Tryz.kdw := OracleOk.or Tryz.sqO_ok (OracleOk.or Tryz.rat4_ok Tryz.rs5_ok)
def Tryz.kdM (l : List Memo) : Prop := ∀ e ∈ l,ACallsTo Tryz.prog e.f e.args e.m e.v (e.m ++ e.new)
noncomputable def Tryz.kdo (l : List Memo) : Oracle := Oracle.or (memoO l) Tryz.kdw
theorem Tryz.kdo_ok {l : List Memo} (h : Tryz.kdM l) : OracleOk Tryz.prog (Tryz.kdo l) := OracleOk.or (memoO_ok h) Tryz.kdw_ok
def Tryz.kdl0 : List Memo := []
theorem Tryz.kdk0 : Tryz.kdM Tryz.kdl0 := fun e he => by cases he
def Tryz.kdm0 : Memo := ⟨25,[],[],.agg [.slice 0 0 4 none,.slice 1 0 2 none,.str [103],.slice 2 0 2 none],[.cells true 2 [.str [48],.str [48],.str [52],.str [48],.str [52],.str [52],.str [48],.str [52]],.cells true 3 [.int .i64 0,.int .i64 1,.int .i64 2,.int .i64 0,.int .i64 2,.int .i64 3],.cells true 32 [.int .i64 1,.str [98,101,100,115],.slice 3 0 4 none,.slice 4 0 2 none,.slice 5 0 1 none,.str [],.str [],.str [],.str [],.str [],.str [],.str [],.str [],.str [],.str [],.nilslice,.str [],.str [],.str [],.str [],.str [],.str [],.str [],.str [],.str [],.int .i64 0,.int .i64 0,.int .i64 0,.int .i64 0,.str [],.str [],.str [],.int .i64 2,.str [102,97,117,108,116],.nilslice,.nilslice,.nilslice,.str [49],.str [48],.str [48],.str [50],.str [48],.str [48],.str [49],.str [],.str [],.str [],.nilslice,.str [],.str [],.str [],.str [],.str [],.str [],.str [],.str [],.str [],.int .i64 0,.int .i64 0,.int .i64 0,.int .i64 0,.str [],.str [],.str []],.cells true 1 [.str [48],.str [48],.str [48],.str [48]],.cells true 1 [.str [97],.str [98]],.cells true 1 [.slice 6 0 4 none],.cells true 1 [.str [50],.str [50],.str [50],.str [50]]]⟩
def Tryz.kdl1 : List Memo := Tryz.kdm0 :: Tryz.kdl0
theorem Tryz.kdk1 : Tryz.kdM Tryz.kdl1 := List.forall_mem_cons.2 ⟨memo_of (lv := writesC) (K := 60) (n := 30) Tryz.mixed (tyOf_ok _) (fnOf_ok _) (Tryz.kdo_ok Tryz.kdk0) (by as_aux_lemma => kernel_rfl),Tryz.kdk0⟩
def Tryz.kdm1 : Memo := ⟨55,[.agg [.slice 0 0 4 none,.slice 1 0 2 none],.agg [.int .i64 1,.str [98,101,100,115],.slice 2 0 4 none,.slice 3 0 2 none,.slice 4 0 1 none,.str [],.str [],.str [],.str [],.str [],.str [],.str [],.str [],.str [],.str [],.nilslice,.str [],.str [],.str [],.str [],.str [],.str [],.str [],.str [],.str [],.int .i64 0,.int .i64 0,.int .i64 0,.int .i64 0,.str [],.str [],.str []]],[.cells false 2 [.str [48],.str [48],.str [52],.str [48],.str [52],.str [52],.str [48],.str [52]],.cells false 3 [.int .i64 0,.int .i64 1,.int .i64 2,.int .i64 0,.int .i64 2,.int .i64 3],.cells false 1 [.str [48],.str [48],.str [48],.str [48]],.cells false 1 [.str [97],.str [98]],.cells false 1 [.slice 5 0 4 none],.cells false 1 [.str [50],.str [50],.str [50],.str [50]]],.int .i64 0,[]⟩
def Tryz.kdl2 : List Memo := Tryz.kdm1 :: Tryz.kdl1
theorem Tryz.kdk2 : Tryz.kdM Tryz.kdl2 := List.forall_mem_cons.2 ⟨memo_of (lv := writesC) (K := 60) (n := 30) Tryz.mixed (tyOf_ok _) (fnOf_ok _) (Tryz.kdo_ok Tryz.kdk1) (by as_aux_lemma => kernel_rfl),Tryz.kdk1⟩
def Tryz.kdm2 : Memo := ⟨55,[.agg [.slice 0 0 4 none,.slice 1 0 2 none],.agg [.int .i64 2,.str [102,97,117,108,116],.nilslice,.nilslice,.nilslice,.str [49],.str [48],.str [48],.str [50],.str [48],.str [48],.str [49],.str [],.str [],.str [],.nilslice,.str [],.str [],.str [],.str [],.str [],.str [],.str [],.str [],.str [],.int .i64 0,.int .i64 0,.int .i64 0,.int .i64 0,.str [],.str [],.str []]],[.cells false 2 [.str [48],.str [48],.str [52],.str [48],.str [52],.str [52],.str [48],.str [52]],.cells false 3 [.int .i64 0,.int .i64 1,.int .i64 2,.int .i64 0,.int .i64 2,.int .i64 3]],.int .i64 0,[]⟩
def Tryz.kdl3 : List Memo := Tryz.kdm2 :: Tryz.kdl2
theorem Tryz.kdk3 : Tryz.kdM Tryz.kdl3 := List.forall_mem_cons.2 ⟨memo_of (lv := writesC) (K := 60) (n := 30) Tryz.mixed (tyOf_ok _) (fnOf_ok _) (Tryz.kdo_ok Tryz.kdk2) (by as_aux_lemma => kernel_rfl),Tryz.kdk2⟩
def Tryz.kdm3 : Memo := ⟨30,[.agg [.slice 0 0 4 none,.slice 1 0 2 none,.str [103],.slice 2 0 2 none]],[.cells false 2 [.str [48],.str [48],.str [52],.str [48],.str [52],.str [52],.str [48],.str [52]],.cells false 3 [.int .i64 0,.int .i64 1,.int .i64 2,.int .i64 0,.int .i64 2,.int .i64 3],.cells false 32 [.int .i64 1,.str [98,101,100,115],.slice 3 0 4 none,.slice 4 0 2 none,.slice 5 0 1 none,.str [],.str [],.str [],.str [],.str [],.str [],.str [],.str [],.str [],.str [],.nilslice,.str [],.str [],.str [],.str [],.str [],.str [],.str [],.str [],.str [],.int .i64 0,.int .i64 0,.int .i64 0,.int .i64 0,.str [],.str [],.str [],.int .i64 2,.str [102,97,117,108,116],.nilslice,.nilslice,.nilslice,.str [49],.str [48],.str [48],.str [50],.str [48],.str [48],.str [49],.str [],.str [],.str [],.nilslice,.str [],.str [],.str [],.str [],.str [],.str [],.str [],.str [],.str [],.int .i64 0,.int .i64 0,.int .i64 0,.int .i64 0,.str [],.str [],.str []],.cells false 1 [.str [48],.str [48],.str [48],.str [48]],.cells false 1 [.str [97],.str [98]],.cells false 1 [.slice 6 0 4 none],.cells false 1 [.str [50],.str [50],.str [50],.str [50]]],.int .i64 0,[]⟩
def Tryz.kdl4 : List Memo := Tryz.kdm3 :: Tryz.kdl3
theorem Tryz.kdk4 : Tryz.kdM Tryz.kdl4 := List.forall_mem_cons.2 ⟨memo_of (lv := writesC) (K := 60) (n := 30) Tryz.mixed (tyOf_ok _) (fnOf_ok _) (Tryz.kdo_ok Tryz.kdk3) (by as_aux_lemma => kernel_rfl),Tryz.kdk3⟩
def Tryz.kdm4 : Memo := ⟨167,[.agg [.slice 0 0 4 none,.slice 1 0 2 none],.agg [.str [49],.str [49],.str [50]]],[.cells false 2 [.str [48],.str [48],.str [52],.str [48],.str [52],.str [52],.str [48],.str [52]],.cells false 3 [.int .i64 0,.int .i64 1,.int .i64 2,.int .i64 0,.int .i64 2,.int .i64 3]],.tuple [.int .i64 0,.agg [.str [49,50],.str [48],.str [52]],.bool true],[]⟩
def Tryz.kdl5 : List Memo := Tryz.kdm4 :: Tryz.kdl4
theorem Tryz.kdk5 : Tryz.kdM Tryz.kdl5 := List.forall_mem_cons.2 ⟨memo_of (lv := writesC) (K := 60) (n := 30) Tryz.mixed (tyOf_ok _) (fnOf_ok _) (Tryz.kdo_ok Tryz.kdk4) (by as_aux_lemma => kernel_rfl),Tryz.kdk4⟩
def Tryz.kdm5 : Memo := ⟨111,[.agg [.slice 0 0 4 none,.slice 1 0 2 none],.agg [.slice 2 0 4 none,.slice 3 0 2 none,.slice 4 0 1 none],.agg [.str [49],.str [49],.str [50]]],[.cells false 2 [.str [48],.str [48],.str [52],.str [48],.str [52],.str [52],.str [48],.str [52]],.cells false 3 [.int .i64 0,.int .i64 1,.int .i64 2,.int .i64 0,.int .i64 2,.int .i64 3],.cells false 1 [.str [48],.str [48],.str [48],.str [48]],.cells false 1 [.str [97],.str [98]],.cells false 1 [.slice 5 0 4 none],.cells false 1 [.str [50],.str [50],.str [50],.str [50]]],.int .i64 1,[]⟩
def Tryz.kdl6 : List Memo := Tryz.kdm5 :: Tryz.kdl5
theorem Tryz.kdk6 : Tryz.kdM Tryz.kdl6 := List.forall_mem_cons.2 ⟨memo_of (lv := writesC) (K := 60) (n := 30) Tryz.mixed (tyOf_ok _) (fnOf_ok _) (Tryz.kdo_ok Tryz.kdk5) (by as_aux_lemma => kernel_rfl),Tryz.kdk5⟩
def Tryz.kdm6 : Memo := ⟨43,[.agg [.slice 0 0 4 none,.slice 1 0 2 none,.str [103],.slice 2 0 2 none],.agg [.str [49],.str [49],.str [50]]],[.cells false 2 [.str [48],.str [48],.str [52],.str [48],.str [52],.str [52],.str [48],.str [52]],.cells false 3 [.int .i64 0,.int .i64 1,.int .i64 2,.int .i64 0,.int .i64 2,.int .i64 3],.cells false 32 [.int .i64 1,.str [98,101,100,115],.slice 3 0 4 none,.slice 4 0 2 none,.slice 5 0 1 none,.str [],.str [],.str [],.str [],.str [],.str [],.str [],.str [],.str [],.str [],.nilslice,.str [],.str [],.str [],.str [],.str [],.str [],.str [],.str [],.str [],.int .i64 0,.int .i64 0,.int .i64 0,.int .i64 0,.str [],.str [],.str [],.int .i64 2,.str [102,97,117,108,116],.nilslice,.nilslice,.nilslice,.str [49],.str [48],.str [48],.str [50],.str [48],.str [48],.str [49],.str [],.str [],.str [],.nilslice,.str [],.str [],.str [],.str [],.str [],.str [],.str [],.str [],.str [],.int .i64 0,.int .i64 0,.int .i64 0,.int .i64 0,.str [],.str [],.str []],.cells false 1 [.str [48],.str [48],.str [48],.str [48]],.cells false 1 [.str [97],.str [98]],.cells false 1 [.slice 6 0 4 none],.cells false 1 [.str [50],.str [50],.str [50],.str [50]]],.agg [.str [98],.slice 7 0 2 none,.int .i64 0,.str [49],.str [49],.str [50]],[.cells true 1 [.int .i64 0,.int .i64 1]]⟩
def Tryz.kdl7 : List Memo := Tryz.kdm6 :: Tryz.kdl6
theorem Tryz.kdk7 : Tryz.kdM Tryz.kdl7 := List.forall_mem_cons.2 ⟨memo_of (lv := writesC) (K := 60) (n := 30) Tryz.mixed (tyOf_ok _) (fnOf_ok _) (Tryz.kdo_ok Tryz.kdk6) (by as_aux_lemma => kernel_rfl),Tryz.kdk6⟩
def Tryz.kdm7 : Memo := ⟨24,[.agg [.slice 0 0 4 none,.slice 1 0 2 none,.str [103],.slice 2 0 2 none],.agg [.str [49],.str [49],.str [50]]],[.cells false 2 [.str [48],.str [48],.str [52],.str [48],.str [52],.str [52],.str [48],.str [52]],.cells false 3 [.int .i64 0,.int .i64 1,.int .i64 2,.int .i64 0,.int .i64 2,.int .i64 3],.cells false 32 [.int .i64 1,.str [98,101,100,115],.slice 3 0 4 none,.slice 4 0 2 none,.slice 5 0 1 none,.str [],.str [],.str [],.str [],.str [],.str [],.str [],.str [],.str [],.str [],.nilslice,.str [],.str [],.str [],.str [],.str [],.str [],.str [],.str [],.str [],.int .i64 0,.int .i64 0,.int .i64 0,.int .i64 0,.str [],.str [],.str [],.int .i64 2,.str [102,97,117,108,116],.nilslice,.nilslice,.nilslice,.str [49],.str [48],.str [48],.str [50],.str [48],.str [48],.str [49],.str [],.str [],.str [],.nilslice,.str [],.str [],.str [],.str [],.str [],.str [],.str [],.str [],.str [],.int .i64 0,.int .i64 0,.int .i64 0,.int .i64 0,.str [],.str [],.str []],.cells false 1 [.str [48],.str [48],.str [48],.str [48]],.cells false 1 [.str [97],.str [98]],.cells false 1 [.slice 6 0 4 none],.cells false 1 [.str [50],.str [50],.str [50],.str [50]]],.tuple [.str [98],.int .i64 0],[]⟩
def Tryz.kdl8 : List Memo := Tryz.kdm7 :: Tryz.kdl7
theorem Tryz.kdk8 : Tryz.kdM Tryz.kdl8 := List.forall_mem_cons.2 ⟨memo_of (lv := writesC) (K := 60) (n := 30) Tryz.mixed (tyOf_ok _) (fnOf_ok _) (Tryz.kdo_ok Tryz.kdk7) (by as_aux_lemma => kernel_rfl),Tryz.kdk7⟩
def Tryz.kdm8 : Memo := ⟨167,[.agg [.slice 0 0 4 none,.slice 1 0 2 none],.agg [.str [51],.str [49],.str [49]]],[.cells false 2 [.str [48],.str [48],.str [52],.str [48],.str [52],.str [52],.str [48],.str [52]],.cells false 3 [.int .i64 0,.int .i64 1,.int .i64 2,.int .i64 0,.int .i64 2,.int .i64 3]],.tuple [.int .i64 0,.agg [.str [52],.str [56],.str [52]],.bool true],[]⟩
def Tryz.kdl9 : List Memo := Tryz.kdm8 :: Tryz.kdl8
theorem Tryz.kdk9 : Tryz.kdM Tryz.kdl9 := List.forall_mem_cons.2 ⟨memo_of (lv := writesC) (K := 60) (n := 30) Tryz.mixed (tyOf_ok _) (fnOf_ok _) (Tryz.kdo_ok Tryz.kdk8) (by as_aux_lemma => kernel_rfl),Tryz.kdk8⟩
def Tryz.kdm9 : Memo := ⟨111,[.agg [.slice 0 0 4 none,.slice 1 0 2 none],.agg [.slice 2 0 4 none,.slice 3 0 2 none,.slice 4 0 1 none],.agg [.str [51],.str [49],.str [49]]],[.cells false 2 [.str [48],.str [48],.str [52],.str [48],.str [52],.str [52],.str [48],.str [52]],.cells false 3 [.int .i64 0,.int .i64 1,.int .i64 2,.int .i64 0,.int .i64 2,.int .i64 3],.cells false 1 [.str [48],.str [48],.str [48],.str [48]],.cells false 1 [.str [97],.str [98]],.cells false 1 [.slice 5 0 4 none],.cells false 1 [.str [50],.str [50],.str [50],.str [50]]],.int .i64 0,[]⟩
def Tryz.kdl10 : List Memo := Tryz.kdm9 :: Tryz.kdl9
theorem Tryz.kdk10 : Tryz.kdM Tryz.kdl10 := List.forall_mem_cons.2 ⟨memo_of (lv := writesC) (K := 60) (n := 30) Tryz.mixed (tyOf_ok _) (fnOf_ok _) (Tryz.kdo_ok Tryz.kdk9) (by as_aux_lemma => kernel_rfl),Tryz.kdk9⟩
def Tryz.kdm10 : Memo := ⟨43,[.agg [.slice 0 0 4 none,.slice 1 0 2 none,.str [103],.slice 2 0 2 none],.agg [.str [51],.str [49],.str [50]]],[.cells false 2 [.str [48],.str [48],.str [52],.str [48],.str [52],.str [52],.str [48],.str [52]],.cells false 3 [.int .i64 0,.int .i64 1,.int .i64 2,.int .i64 0,.int .i64 2,.int .i64 3],.cells false 32 [.int .i64 1,.str [98,101,100,115],.slice 3 0 4 none,.slice 4 0 2 none,.slice 5 0 1 none,.str [],.str [],.str [],.str [],.str [],.str [],.str [],.str [],.str [],.str [],.nilslice,.str [],.str [],.str [],.str [],.str [],.str [],.str [],.str [],.str [],.int .i64 0,.int .i64 0,.int .i64 0,.int .i64 0,.str [],.str [],.str [],.int .i64 2,.str [102,97,117,108,116],.nilslice,.nilslice,.nilslice,.str [49],.str [48],.str [48],.str [50],.str [48],.str [48],.str [49],.str [],.str [],.str [],.nilslice,.str [],.str [],.str [],.str [],.str [],.str [],.str [],.str [],.str [],.int .i64 0,.int .i64 0,.int .i64 0,.int .i64 0,.str [],.str [],.str []],.cells false 1 [.str [48],.str [48],.str [48],.str [48]],.cells false 1 [.str [97],.str [98]],.cells false 1 [.slice 6 0 4 none],.cells false 1 [.str [50],.str [50],.str [50],.str [50]]],.agg [.str [97],.slice 7 0 2 none,.int .i64 0,.str [51],.str [49],.str [49]],[.cells true 1 [.int .i64 1,.int .i64 0]]⟩
def Tryz.kdl11 : List Memo := Tryz.kdm10 :: Tryz.kdl10
theorem Tryz.kdk11 : Tryz.kdM Tryz.kdl11 := List.forall_mem_cons.2 ⟨memo_of (lv := writesC) (K := 60) (n := 30) Tryz.mixed (tyOf_ok _) (fnOf_ok _) (Tryz.kdo_ok Tryz.kdk10) (by as_aux_lemma => kernel_rfl),Tryz.kdk10⟩
def Tryz.kdm11 : Memo := ⟨24,[.agg [.slice 0 0 4 none,.slice 1 0 2 none,.str [103],.slice 2 0 2 none],.agg [.str [51],.str [49],.str [50]]],[.cells false 2 [.str [48],.str [48],.str [52],.str [48],.str [52],.str [52],.str [48],.str [52]],.cells false 3 [.int .i64 0,.int .i64 1,.int .i64 2,.int .i64 0,.int .i64 2,.int .i64 3],.cells false 32 [.int .i64 1,.str [98,101,100,115],.slice 3 0 4 none,.slice 4 0 2 none,.slice 5 0 1 none,.str [],.str [],.str [],.str [],.str [],.str [],.str [],.str [],.str [],.str [],.nilslice,.str [],.str [],.str [],.str [],.str [],.str [],.str [],.str [],.str [],.int .i64 0,.int .i64 0,.int .i64 0,.int .i64 0,.str [],.str [],.str [],.int .i64 2,.str [102,97,117,108,116],.nilslice,.nilslice,.nilslice,.str [49],.str [48],.str [48],.str [50],.str [48],.str [48],.str [49],.str [],.str [],.str [],.nilslice,.str [],.str [],.str [],.str [],.str [],.str [],.str [],.str [],.str [],.int .i64 0,.int .i64 0,.int .i64 0,.int .i64 0,.str [],.str [],.str []],.cells false 1 [.str [48],.str [48],.str [48],.str [48]],.cells false 1 [.str [97],.str [98]],.cells false 1 [.slice 6 0 4 none],.cells false 1 [.str [50],.str [50],.str [50],.str [50]]],.tuple [.str [97],.int .i64 0],[]⟩
def Tryz.kdl12 : List Memo := Tryz.kdm11 :: Tryz.kdl11
theorem Tryz.kdk12 : Tryz.kdM Tryz.kdl12 := List.forall_mem_cons.2 ⟨memo_of (lv := writesC) (K := 60) (n := 30) Tryz.mixed (tyOf_ok _) (fnOf_ok _) (Tryz.kdo_ok Tryz.kdk11) (by as_aux_lemma => kernel_rfl),Tryz.kdk11⟩
def Tryz.kdm12 : Memo := ⟨167,[.agg [.slice 0 0 4 none,.slice 1 0 2 none],.agg [.str [49],.str [49],.str [45,49]]],[.cells false 2 [.str [48],.str [48],.str [52],.str [48],.str [52],.str [52],.str [48],.str [52]],.cells false 3 [.int .i64 0,.int .i64 1,.int .i64 2,.int .i64 0,.int .i64 2,.int .i64 3]],.tuple [.int .i64 0,.agg [.str [49,50],.str [48],.str [52]],.bool true],[]⟩
def Tryz.kdl13 : List Memo := Tryz.kdm12 :: Tryz.kdl12
theorem Tryz.kdk13 : Tryz.kdM Tryz.kdl13 := List.forall_mem_cons.2 ⟨memo_of (lv := writesC) (K := 60) (n := 30) Tryz.mixed (tyOf_ok _) (fnOf_ok _) (Tryz.kdo_ok Tryz.kdk12) (by as_aux_lemma => kernel_rfl),Tryz.kdk12⟩
def Tryz.kdm13 : Memo := ⟨111,[.agg [.slice 0 0 4 none,.slice 1 0 2 none],.agg [.slice 2 0 4 none,.slice 3 0 2 none,.slice 4 0 1 none],.agg [.str [49],.str [49],.str [45,49]]],[.cells false 2 [.str [48],.str [48],.str [52],.str [48],.str [52],.str [52],.str [48],.str [52]],.cells false 3 [.int .i64 0,.int .i64 1,.int .i64 2,.int .i64 0,.int .i64 2,.int .i64 3],.cells false 1 [.str [48],.str [48],.str [48],.str [48]],.cells false 1 [.str [97],.str [98]],.cells false 1 [.slice 5 0 4 none],.cells false 1 [.str [50],.str [50],.str [50],.str [50]]],.int .i64 (-1),[]⟩
def Tryz.kdl14 : List Memo := Tryz.kdm13 :: Tryz.kdl13
theorem Tryz.kdk14 : Tryz.kdM Tryz.kdl14 := List.forall_mem_cons.2 ⟨memo_of (lv := writesC) (K := 60) (n := 30) Tryz.mixed (tyOf_ok _) (fnOf_ok _) (Tryz.kdo_ok Tryz.kdk13) (by as_aux_lemma => kernel_rfl),Tryz.kdk13⟩
def Tryz.kdm14 : Memo := ⟨43,[.agg [.slice 0 0 4 none,.slice 1 0 2 none,.str [103],.slice 2 0 2 none],.agg [.str [49],.str [49],.str [45,49]]],[.cells false 2 [.str [48],.str [48],.str [52],.str [48],.str [52],.str [52],.str [48],.str [52]],.cells false 3 [.int .i64 0,.int .i64 1,.int .i64 2,.int .i64 0,.int .i64 2,.int .i64 3],.cells false 32 [.int .i64 1,.str [98,101,100,115],.slice 3 0 4 none,.slice 4 0 2 none,.slice 5 0 1 none,.str [],.str [],.str [],.str [],.str [],.str [],.str [],.str [],.str [],.str [],.nilslice,.str [],.str [],.str [],.str [],.str [],.str [],.str [],.str [],.str [],.int .i64 0,.int .i64 0,.int .i64 0,.int .i64 0,.str [],.str [],.str [],.int .i64 2,.str [102,97,117,108,116],.nilslice,.nilslice,.nilslice,.str [49],.str [48],.str [48],.str [50],.str [48],.str [48],.str [49],.str [],.str [],.str [],.nilslice,.str [],.str [],.str [],.str [],.str [],.str [],.str [],.str [],.str [],.int .i64 0,.int .i64 0,.int .i64 0,.int .i64 0,.str [],.str [],.str []],.cells false 1 [.str [48],.str [48],.str [48],.str [48]],.cells false 1 [.str [97],.str [98]],.cells false 1 [.slice 6 0 4 none],.cells false 1 [.str [50],.str [50],.str [50],.str [50]]],.agg [.str [103],.slice 7 0 2 none,.int .i64 (-1),.str [49],.str [49],.str [45,49]],[.cells true 1 [.int .i64 0,.int .i64 (-1)]]⟩
def Tryz.kdl15 : List Memo := Tryz.kdm14 :: Tryz.kdl14
theorem Tryz.kdk15 : Tryz.kdM Tryz.kdl15 := List.forall_mem_cons.2 ⟨memo_of (lv := writesC) (K := 60) (n := 30) Tryz.mixed (tyOf_ok _) (fnOf_ok _) (Tryz.kdo_ok Tryz.kdk14) (by as_aux_lemma => kernel_rfl),Tryz.kdk14⟩
def Tryz.kdm15 : Memo := ⟨24,[.agg [.slice 0 0 4 none,.slice 1 0 2 none,.str [103],.slice 2 0 2 none],.agg [.str [49],.str [49],.str [45,49]]],[.cells false 2 [.str [48],.str [48],.str [52],.str [48],.str [52],.str [52],.str [48],.str [52]],.cells false 3 [.int .i64 0,.int .i64 1,.int .i64 2,.int .i64 0,.int .i64 2,.int .i64 3],.cells false 32 [.int .i64 1,.str [98,101,100,115],.slice 3 0 4 none,.slice 4 0 2 none,.slice 5 0 1 none,.str [],.str [],.str [],.str [],.str [],.str [],.str [],.str [],.str [],.str [],.nilslice,.str [],.str [],.str [],.str [],.str [],.str [],.str [],.str [],.str [],.int .i64 0,.int .i64 0,.int .i64 0,.int .i64 0,.str [],.str [],.str [],.int .i64 2,.str [102,97,117,108,116],.nilslice,.nilslice,.nilslice,.str [49],.str [48],.str [48],.str [50],.str [48],.str [48],.str [49],.str [],.str [],.str [],.nilslice,.str [],.str [],.str [],.str [],.str [],.str [],.str [],.str [],.str [],.int .i64 0,.int .i64 0,.int .i64 0,.int .i64 0,.str [],.str [],.str []],.cells false 1 [.str [48],.str [48],.str [48],.str [48]],.cells false 1 [.str [97],.str [98]],.cells false 1 [.slice 6 0 4 none],.cells false 1 [.str [50],.str [50],.str [50],.str [50]]],.tuple [.str [103],.int .i64 0],[]⟩
def Tryz.kdl16 : List Memo := Tryz.kdm15 :: Tryz.kdl15
theorem Tryz.kdk16 : Tryz.kdM Tryz.kdl16 := List.forall_mem_cons.2 ⟨memo_of (lv := writesC) (K := 60) (n := 30) Tryz.mixed (tyOf_ok _) (fnOf_ok _) (Tryz.kdo_ok Tryz.kdk15) (by as_aux_lemma => kernel_rfl),Tryz.kdk15⟩
def Tryz.kdm16 : Memo := ⟨9,[.agg [.slice 0 0 4 none,.slice 1 0 2 none,.str [103],.slice 2 0 2 none]],[.cells false 2 [.str [48],.str [48],.str [52],.str [48],.str [52],.str [52],.str [48],.str [52]],.cells false 3 [.int .i64 0,.int .i64 1,.int .i64 2,.int .i64 0,.int .i64 2,.int .i64 3],.cells false 32 [.int .i64 1,.str [98,101,100,115],.slice 3 0 4 none,.slice 4 0 2 none,.slice 5 0 1 none,.str [],.str [],.str [],.str [],.str [],.str [],.str [],.str [],.str [],.str [],.nilslice,.str [],.str [],.str [],.str [],.str [],.str [],.str [],.str [],.str [],.int .i64 0,.int .i64 0,.int .i64 0,.int .i64 0,.str [],.str [],.str [],.int .i64 2,.str [102,97,117,108,116],.nilslice,.nilslice,.nilslice,.str [49],.str [48],.str [48],.str [50],.str [48],.str [48],.str [49],.str [],.str [],.str [],.nilslice,.str [],.str [],.str [],.str [],.str [],.str [],.str [],.str [],.str [],.int .i64 0,.int .i64 0,.int .i64 0,.int .i64 0,.str [],.str [],.str []],.cells false 1 [.str [48],.str [48],.str [48],.str [48]],.cells false 1 [.str [97],.str [98]],.cells false 1 [.slice 6 0 4 none],.cells false 1 [.str [50],.str [50],.str [50],.str [50]]],.tuple [.slice 7 0 3 none,.int .i64 0],[.cells true 1 [.str [103],.str [97],.str [98]]]⟩
def Tryz.kdl17 : List Memo := Tryz.kdm16 :: Tryz.kdl16
theorem Tryz.kdk17 : Tryz.kdM Tryz.kdl17 := List.forall_mem_cons.2 ⟨memo_of (lv := writesC) (K := 60) (n := 30) Tryz.mixed (tyOf_ok _) (fnOf_ok _) (Tryz.kdo_ok Tryz.kdk16) (by as_aux_lemma => kernel_rfl),Tryz.kdk16⟩
def Tryz.kdm17 : Memo := ⟨27,[.agg [.slice 0 0 4 none,.slice 1 0 2 none,.str [103],.slice 2 0 2 none],.agg [.str [51],.str [49],.str [50]],.int .i64 1],[.cells false 2 [.str [48],.str [48],.str [52],.str [48],.str [52],.str [52],.str [48],.str [52]],.cells false 3 [.int .i64 0,.int .i64 1,.int .i64 2,.int .i64 0,.int .i64 2,.int .i64 3],.cells false 32 [.int .i64 1,.str [98,101,100,115],.slice 3 0 4 none,.slice 4 0 2 none,.slice 5 0 1 none,.str [],.str [],.str [],.str [],.str [],.str [],.str [],.str [],.str [],.str [],.nilslice,.str [],.str [],.str [],.str [],.str [],.str [],.str [],.str [],.str [],.int .i64 0,.int .i64 0,.int .i64 0,.int .i64 0,.str [],.str [],.str [],.int .i64 2,.str [102,97,117,108,116],.nilslice,.nilslice,.nilslice,.str [49],.str [48],.str [48],.str [50],.str [48],.str [48],.str [49],.str [],.str [],.str [],.nilslice,.str [],.str [],.str [],.str [],.str [],.str [],.str [],.str [],.str [],.int .i64 0,.int .i64 0,.int .i64 0,.int .i64 0,.str [],.str [],.str []],.cells false 1 [.str [48],.str [48],.str [48],.str [48]],.cells false 1 [.str [97],.str [98]],.cells false 1 [.slice 6 0 4 none],.cells false 1 [.str [50],.str [50],.str [50],.str [50]]],.tuple [.agg [.str [51],.str [49],.str [49]],.int .i64 0],[]⟩
def Tryz.kdl18 : List Memo := Tryz.kdm17 :: Tryz.kdl17
theorem Tryz.kdk18 : Tryz.kdM Tryz.kdl18 := List.forall_mem_cons.2 ⟨memo_of (lv := writesC) (K := 60) (n := 30) Tryz.mixed (tyOf_ok _) (fnOf_ok _) (Tryz.kdo_ok Tryz.kdk17) (by as_aux_lemma => kernel_rfl),Tryz.kdk17⟩
theorem Tryz.kd_run : (callF (tyOf Tryz.prog) writesC (fnOf Tryz.prog) (Tryz.kdo Tryz.kdl18) 60 30 (.fn 6) [] []).map okTrue = some true := by
 kernel_rfl
theorem Tryz.aKnown30 (M : Mem) : ACallsTo Tryz.prog 6 [] M (.bool true) M := by
 have h := Tryz.kd_run
 rw [Option.map_eq_some_iff] at h
 obtain ⟨r,h1,h2⟩ := h
 have := (callF_sound Tryz.mixed (tyOf_ok _) (fnOf_ok _) (Tryz.kdo_ok Tryz.kdk18) 30).fn _ _ _ _ h1
 obtain ⟨e1,e2⟩ := okTrue_spec h2
 rw [e1,e2] at this
 exact ACallsTo.lift rfl rfl this M
end Go.Proofs
