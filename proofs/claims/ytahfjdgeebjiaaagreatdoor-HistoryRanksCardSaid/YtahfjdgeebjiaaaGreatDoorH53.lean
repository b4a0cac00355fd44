/- See H55. -/
import Derived.Test.YtahfjdgeebjiaaaGreatDoorH22
import Derived.Test.YtahfjdgeebjiaaaGreatDoorH11
import Derived.Test.YtahfjdgeebjiaaaGreatDoorRows
import Derived.Test.YtahfjdgeebjiaaaGreatDoorTie
import Derived.Test.YtahfjdgeebjiaaaGreatDoorCards
import Derived.ProofKit
import Derived.LaidMore
import Derived.OpenShut
import Derived.ChangeSame
import Derived.ChangeVars
import Derived.JoinedOf
import Derived.RowKit
import Derived.LaidLaws
import Derived.LaidHandle
import Derived.MakeChecks
import Derived.Deep.SlicePairs
import Derived.Carry
import Derived.Stop.Joined
import Derived.SevenTiedAt
import Derived.Deep.Slices
set_option linter.all false
namespace Go.Proofs.YtahfjdgeebjiaaaGreatDoor
open Go.ChangeShapes Go.WideShapes Go.ChangeAt Go.WideMaps Go.WideElems Go.RowKit Go.Eng
theorem own : ownKnob Tryz.prog.godebug = none := by kernel_rfl
theorem laidOut : laidOutB Tryz.prog = true := by kernel_rfl
def laidAll : List (String × DataW Unit) := Rows.contactRelationsRow.laid
theorem door_met (os : Os) (args : Array Value) : laidMetH Tryz.prog laidAll ((World.doorLaid Tryz.prog 400 os).forCall (fun _ _ => 0) ⟨#[],args,[]⟩).memory :=
 laidMetH_of_parts3 (fuel := 8) (laidMet_of_run' 8 (by kernel_rfl) (by kernel_rfl)) (by kernel_rfl) (by kernel_rfl)
theorem tab_name : itoaTab = (laidAll.getD 2 ("",.nil)).1 := by kernel_rfl
end Go.Proofs.YtahfjdgeebjiaaaGreatDoor
namespace Go.Proofs.YtahfjdgeebjiaaaGreatDoor
open Go.ChangeShapes Go.WideShapes Go.ChangeAt Go.WideMaps Go.WideElems Go.RowKit Go.Eng
theorem glob_of_laid {W : World} (h : laidMetH Tryz.prog laidAll W) : GOk Tryz.prog W.heap.size W := by
 rw [MakeChecks.laidMetH_plain _ _ _ (by kernel_rfl)] at h
 obtain ⟨ps,⟨g0,t0,cs0,f0,p0,q0,hg0,ht0,hv0,hd0,⟨g1,t1,cs1,f1,p1,q1,hg1,ht1,hv1,hd1,⟨g2,t2,cs2,f2,p2,q2,hg2,ht2,hv2,hd2,_,_⟩,_⟩,_⟩,_,_⟩ := h
 constructor
 ·have e1 : Tryz.prog.globals.size = 6 := by kernel_rfl
  have e2 : Tryz.prog.globalNamed (laidAll.getD 1 ("",.nil)).1 = some 5 := by kernel_rfl
  have e3 : g1 = 5 := (Option.some.inj (hg1.symm.trans e2))
  subst e3
  have := World.var?_cell hg1 hv1
  unfold World.var? at hv1
  rw [hg1] at hv1
  simp only [Option.bind_some] at hv1
  split at hv1
  ·rename_i hh
   have := (Array.getElem?_eq_some_iff.1 hh).1
   omega
  ·cases hv1
 ·have e2 : Tryz.prog.globalNamed (laidAll.getD 2 ("",.nil)).1 = some 3 := by kernel_rfl
  have e3 : g2 = 3 := (Option.some.inj (hg2.symm.trans e2))
  subst e3
  have e4 : (Tryz.prog.globals[3]?).map (·.type) = some 418 := by kernel_rfl
  have e5 : t2 = 418 := (Option.some.inj (ht2.symm.trans e4))
  subst e5
  have e6 : Tryz.prog.underlying 418 = some (.array 20 278) := by kernel_rfl
  have e7 : Tryz.prog.underlying 278 = some (.int .u64) := by kernel_rfl
  have hc := Lib.cells_of_tab (k := .u64) (zs := Lib.pow10Tab) e6 e7 (by kernel_rfl) (by kernel_rfl) hd2
  have e8 : W.var? Tryz.prog itoaTab = W.var? Tryz.prog (laidAll.getD 2 ("",.nil)).1 := by rw [tab_name]
  have e9 : cs2 = (Lib.pow10Tab.map fun z => Value.int .u64 z).toArray := by rw [← hc]
  unfold Lib.TabIs
  rw [e8,← e9]
  exact hv2
theorem kept_of {w w' : World} {mem' : Mem} {μ μ' : Nat → Eng.Place} {mem : Mem} {m0 : Nat} (h : Step m0 μ mem w μ' mem' w') (hn : ∀ b,¬ OwnAt mem b) : Below w.heap.size w w' :=
 ⟨h.os,h.tape,h.output,h.size,fun k hk => h.frame k hk fun b hb => absurd hb (hn b)⟩
set_option maxRecDepth 100000 in
theorem post_true {H : Type} {enc : TypeId × Value → H} {f : Func} {s : ChangeSpec} {apart fresh handsOn again : Bool} {W W' : World} {args : Array Value} {ds gs : List (DataW H)} {before p : List MemPlace} (hsv : s.vars = [])
  (hW : DataW.Whole enc Tryz.prog f.params.toList s.vars apart W args.toList ds gs before) (hb : Below W.heap.size W W') (hp : before = p) (hg : gs = [])
  (hrt : f.resultTypes = #[4]) (hs : s.fn H ds = { results := [.lit (.bool true)],args := ds })
  (hargs : ∀ sp : Nat → Bool,(∀ x ∈ before,sp x.block = true) → DataW.TrodAll enc Tryz.prog W' 0 sp true f.params.toList args.toList ds p) :
  s.post enc Tryz.prog f apart fresh handsOn again W args (.bool true) W' := by
 subst hg
 have hold : ∀ p ∈ before,(fun b => decide (b < W.heap.size)) p.block = true := fun p hp => by simpa using hW.lt p hp
 have hres : ∀ (b : Nat) (sp : Nat → Bool) (hd : Bool),DataW.TrodAll enc Tryz.prog W' b sp hd f.resultTypes.toList ((Value.bool true).resultList f.resultTypes.size) (s.fn H (ds ++ [])).results [] := by
  intro b sp hd
  rw [List.append_nil,hs,hrt]
  exact trodAll_mk1 (shut_bool Tryz.underlying4 _)
 have hargs' : ∀ sp : Nat → Bool,(∀ x ∈ before,sp x.block = true) → DataW.TrodAll enc Tryz.prog W' 0 sp true f.params.toList args.toList (s.fn H (ds ++ [])).args p := by
  intro sp h
  rw [List.append_nil,hs]
  exact hargs sp h
 have hvars : ∀ sp : Nat → Bool,DataW.TrodVars enc Tryz.prog W' sp s.vars (s.fn H (ds ++ [])).vars [] := by
  intro sp
  rw [List.append_nil,hs,hsv]
  exact rfl
 refine ⟨ds,[],before,[],p,[],hW,hres _ _ _,hargs' _ hold,hvars _,World.keptBut_mono (fun q hq => ⟨hq,?_⟩) (hb.frame _),fun _ => ?_⟩
 ·rw [hp] at hq
  exact Or.inr (Or.inl hq)
 ·have hlt := hW.lt
  obtain ⟨_,_,_,_,_,hz,hn⟩ := hW
  refine ⟨ok_one hrt rfl (okWide_bool_mk Tryz.underlying4 _),_,_,([] ++ p) ++ [],⟨[] ++ p,[],trodAll_append (hargs' _ (fun _ _ => rfl)) (hres _ _ _),hvars _,rfl,?_,?_⟩,?_⟩
  ·intro b off hq
   have hq' : MemPlace.cell b off ∈ before := by rw [hp]; simpa using hq
   rw [hb.frozen (p := ⟨b,off,none⟩) (hlt _ hq')]
   exact hz b off hq'
  ·intro ha
   have := hn ha
   rw [hp] at this
   simpa using this
  ·intro q hq _
   rw [hp]
   simpa using hq
end Go.Proofs.YtahfjdgeebjiaaaGreatDoor
namespace Go.Proofs.YtahfjdgeebjiaaaGreatDoor
open Go.ChangeShapes Go.WideShapes Go.ChangeAt Go.WideMaps Go.WideElems Go.RowKit Go.Eng
theorem vrel_string (μ : Nat → Eng.Place) (n : Nat) (s : ByteArray) : VRel μ n (.str s.data.toList) (.string s) := by
 obtain ⟨⟨l⟩⟩ := s
 simp [VRel]
theorem noOwn_row (es : Nat) (cs : List AV) : ∀ b,¬ OwnAt [.cells false es cs] b := by
 rintro b ⟨s,hs,ho⟩
 cases b with
 | succ b => simp at hs
 | zero => simp at hs; subst hs; cases ho
end Go.Proofs.YtahfjdgeebjiaaaGreatDoor
namespace Go.Proofs.YtahfjdgeebjiaaaGreatDoor
open Go.ChangeShapes Go.WideShapes Go.ChangeAt Go.WideMaps Go.WideElems Go.RowKit Go.Eng
section
variable {H : Type} {enc : TypeId × Value → H} {P : Program} {w : World} {base : Nat} {spare : Nat → Bool} {held : Bool}
theorem open_rows {n : Nat} {t e : TypeId} {fuel : Nat} {cs : List Value} {x : DataW H × List MemPlace} (ht : P.underlying t = some (.slice e)) (ce : P.cellsOf e = n) (h : DataW.trod enc P w base spare held fuel t cs = some x) :
  cs = [.slice none 0 0] ∨ ∃ (a : Addr) (len cap : Nat),cs = [.slice (some a) len cap] ∧ len ≤ cap ∧ cap ≤ maxLen ∧ (spare a.block = true → ∀ i,i < cap → ∃ vs : List Value,vs.length = n ∧ (∀ j v,vs[j]? = some v → w.cell? (a.add (i * n + j)) = some v) ∧ ∃ m y,DataW.trod enc P w base spare held m e vs = some y) := by
 rcases Deep.open_slice ht h with h0 | ⟨a,len,cap,m,n',D,Pl,rfl,hb,hl,hm,hmm,rfl,hx⟩
 ·exact Or.inl h0.1
 right
 refine ⟨a,len,cap,rfl,hl,hm,fun hsp i hi => ?_⟩
 rw [hsp,if_pos rfl] at hmm
 obtain ⟨cs',h1,h2⟩ := hx i (by omega)
 rw [ce] at h1
 obtain ⟨_,hlen,hcell⟩ := World.cells?_some h1
 refine ⟨cs',hlen,fun j v hj => ?_,_,_,h2⟩
 have := hcell j (by rw [← hlen]; exact (List.getElem?_eq_some_iff.1 hj).1)
 rw [Deep.add_add] at this
 rw [this,hj]
theorem open_arr {n : Nat} {t e : TypeId} {fuel : Nat} {cs : List Value} {x : DataW H × List MemPlace} (ht : P.underlying t = some (.array n e)) (ce : P.cellsOf e = 1) (h : DataW.trod enc P w base spare held fuel t cs = some x) (i : Nat) (v : Value) (hi : i < n) (hv : cs[i]? = some v) :
  ∃ m y,DataW.trod enc P w base spare held m e [v] = some y := by
 obtain ⟨xs,m,_,_,_,hl,hf⟩ := DataW.trod_array ht h
 have := hf i hi
 rw [ce,Nat.mul_one] at this
 have e1 : (cs.drop i).take 1 = [v] := by
  have hlt := (List.getElem?_eq_some_iff.1 hv).1
  rw [List.drop_eq_getElem_cons hlt]
  rw [List.getElem?_eq_getElem hlt] at hv
  simp only [List.take_succ_cons,List.take_zero]
  rw [Option.some.inj hv]
 rw [e1] at this
 exact ⟨m,xs[i],by rw [this,List.getElem?_eq_getElem]⟩
end
theorem flatMap_get {α β : Type} {f : α → List β} {n : Nat} (hf : ∀ a,(f a).length = n) : ∀ (l : List α) (i r : Nat),r < n → (l.flatMap f)[i * n + r]? = (l[i]?).bind fun a => (f a)[r]?
 | [],i,r,_ => by simp
 | a :: l,0,r,hr => by
  rw [List.flatMap_cons,Nat.zero_mul,Nat.zero_add,List.getElem?_append_left (by rw [hf]; exact hr)]
  simp
 | a :: l,i + 1,r,hr => by
  rw [List.flatMap_cons,List.getElem?_append_right (by rw [hf,Nat.succ_mul]; omega),hf,Nat.succ_mul,show i * n + n + r - n = i * n + r by omega,flatMap_get hf l i r hr]
  simp
theorem hrel_row {W : World} {blk off cap es : Nat} {cur : Array Value} {el : TypeId} {fr : Nat × Nat} {cs : List AV} (hb : W.heap[blk]? = some (.cells cur el fr)) (hes : 0 < es ∧ es < 1000) (hcap : cs.length ≤ cap)
  (hc : ∀ j u,cs[j]? = some u → ∃ V,cur[off + j]? = some V ∧ ∀ μ m,VRel μ m u V) : HRel W.heap.size (fun _ => ⟨blk,off,cap,es⟩) [.cells false es cs] W := by
 refine ⟨Nat.le_refl _,?_,?_⟩
 ·intro b s hs
  cases b with
  | succ b => simp at hs
  | zero =>
   simp at hs; subst hs
   simp only [SRel]
   refine ⟨cur,el,fr,hb,⟨by show es = es % 1000; omega,fun h => by omega⟩,hcap,fun j v hj => ?_,fun h => by cases h⟩
   obtain ⟨V,h1,h2⟩ := hc j v hj
   exact ⟨V,h1,h2 _ _⟩
 ·rintro b b' s' ⟨s,hs,ho⟩
  cases b with
  | succ b => simp at hs
  | zero => simp at hs; subst hs; cases ho
end Go.Proofs.YtahfjdgeebjiaaaGreatDoor
