/- See K54. -/
import Derived.Test.YtiopbpbcgccngaaGreatDoorK42
import Derived.Test.YtiopbpbcgccngaaGreatDoorK52
import Derived.Test.YtiopbpbcgccngaaGreatDoorRows
import Derived.Test.YtiopbpbcgccngaaGreatDoorTie
import Derived.Test.YtiopbpbcgccngaaGreatDoorCards
import Derived.ProofKit
import Derived.LaidMore
import Derived.OpenShut
import Derived.ChangeSame
import Derived.ChangeVars
import Derived.JoinedOf
import Derived.RowKit
import Derived.LaidLaws
import Derived.LaidHandle
import Derived.MakeChecks
import Derived.Deep.SlicePairs
import Derived.Carry
import Derived.Stop.Joined
import Derived.SevenTiedAt
import Derived.Deep.Slices
set_option linter.all false
namespace Go.Proofs.YtiopbpbcgccngaaGreatDoor
open Go.ChangeShapes Go.WideShapes Go.ChangeAt Go.WideMaps Go.WideElems Go.RowKit Go.Eng
theorem own : ownKnob Tryz.prog.godebug = none := by kernel_rfl
theorem laidOut : laidOutB Tryz.prog = true := by kernel_rfl
def laidAll : List (String × DataW Unit) := Rows.welllogTopsRow.laid
theorem door_met (os : Os) (args : Array Value) : laidMetH Tryz.prog laidAll ((World.doorLaid Tryz.prog 400 os).forCall (fun _ _ => 0) ⟨#[],args,[]⟩).memory :=
 laidMetH_of_parts3 (fuel := 8) (laidMet_of_run' 8 (by kernel_rfl) (by kernel_rfl)) (by kernel_rfl) (by kernel_rfl)
theorem tab_name : itoaTab = (laidAll.getD 2 ("",.nil)).1 := by kernel_rfl
end Go.Proofs.YtiopbpbcgccngaaGreatDoor
namespace Go.Proofs.YtiopbpbcgccngaaGreatDoor
open Go.ChangeShapes Go.WideShapes Go.ChangeAt Go.WideMaps Go.WideElems Go.RowKit Go.Eng
theorem glob_of_laid {W : World} (h : laidMetH Tryz.prog laidAll W) : GOk Tryz.prog W.heap.size W := by
 rw [MakeChecks.laidMetH_plain _ _ _ (by kernel_rfl)] at h
 obtain ⟨ps,⟨g0,t0,cs0,f0,p0,q0,hg0,ht0,hv0,hd0,⟨g1,t1,cs1,f1,p1,q1,hg1,ht1,hv1,hd1,⟨g2,t2,cs2,f2,p2,q2,hg2,ht2,hv2,hd2,_,_⟩,_⟩,_⟩,_,_⟩ := h
 constructor
 ·have e1 : Tryz.prog.globals.size = 6 := by kernel_rfl
  have e2 : Tryz.prog.globalNamed (laidAll.getD 1 ("",.nil)).1 = some 5 := by kernel_rfl
  have e3 : g1 = 5 := (Option.some.inj (hg1.symm.trans e2))
  subst e3
  have := World.var?_cell hg1 hv1
  unfold World.var? at hv1
  rw [hg1] at hv1
  simp only [Option.bind_some] at hv1
  split at hv1
  ·rename_i hh
   have := (Array.getElem?_eq_some_iff.1 hh).1
   omega
  ·cases hv1
 ·have e2 : Tryz.prog.globalNamed (laidAll.getD 2 ("",.nil)).1 = some 1 := by kernel_rfl
  have e3 : g2 = 1 := (Option.some.inj (hg2.symm.trans e2))
  subst e3
  have e4 : (Tryz.prog.globals[1]?).map (·.type) = some 335 := by kernel_rfl
  have e5 : t2 = 335 := (Option.some.inj (ht2.symm.trans e4))
  subst e5
  have e6 : Tryz.prog.underlying 335 = some (.array 20 187) := by kernel_rfl
  have e7 : Tryz.prog.underlying 187 = some (.int .u64) := by kernel_rfl
  have hc := Lib.cells_of_tab (k := .u64) (zs := Lib.pow10Tab) e6 e7 (by kernel_rfl) (by kernel_rfl) hd2
  have e8 : W.var? Tryz.prog itoaTab = W.var? Tryz.prog (laidAll.getD 2 ("",.nil)).1 := by rw [tab_name]
  have e9 : cs2 = (Lib.pow10Tab.map fun z => Value.int .u64 z).toArray := by rw [← hc]
  unfold Lib.TabIs
  rw [e8,← e9]
  exact hv2
theorem kept_of {w w' : World} {mem' : Mem} {μ μ' : Nat → Eng.Place} {mem : Mem} {m0 : Nat} (h : Step m0 μ mem w μ' mem' w') (hn : ∀ b,¬ OwnAt mem b) : Below w.heap.size w w' :=
 ⟨h.os,h.tape,h.output,h.size,fun k hk => h.frame k hk fun b hb => absurd hb (hn b)⟩
set_option maxRecDepth 100000 in
theorem post_true {H : Type} {enc : TypeId × Value → H} {f : Func} {s : ChangeSpec} {apart fresh handsOn again : Bool} {W W' : World} {args : Array Value} {ds gs : List (DataW H)} {before p : List MemPlace} (hsv : s.vars = [])
  (hW : DataW.Whole enc Tryz.prog f.params.toList s.vars apart W args.toList ds gs before) (hb : Below W.heap.size W W') (hp : before = p) (hg : gs = [])
  (hrt : f.resultTypes = #[4]) (hs : s.fn H ds = { results := [.lit (.bool true)],args := ds })
  (hargs : ∀ sp : Nat → Bool,(∀ x ∈ before,sp x.block = true) → DataW.TrodAll enc Tryz.prog W' 0 sp true f.params.toList args.toList ds p) :
  s.post enc Tryz.prog f apart fresh handsOn again W args (.bool true) W' := by
 subst hg
 have hold : ∀ p ∈ before,(fun b => decide (b < W.heap.size)) p.block = true := fun p hp => by simpa using hW.lt p hp
 have hres : ∀ (b : Nat) (sp : Nat → Bool) (hd : Bool),DataW.TrodAll enc Tryz.prog W' b sp hd f.resultTypes.toList ((Value.bool true).resultList f.resultTypes.size) (s.fn H (ds ++ [])).results [] := by
  intro b sp hd
  rw [List.append_nil,hs,hrt]
  exact trodAll_mk1 (shut_bool Tryz.underlying4 _)
 have hargs' : ∀ sp : Nat → Bool,(∀ x ∈ before,sp x.block = true) → DataW.TrodAll enc Tryz.prog W' 0 sp true f.params.toList args.toList (s.fn H (ds ++ [])).args p := by
  intro sp h
  rw [List.append_nil,hs]
  exact hargs sp h
 have hvars : ∀ sp : Nat → Bool,DataW.TrodVars enc Tryz.prog W' sp s.vars (s.fn H (ds ++ [])).vars [] := by
  intro sp
  rw [List.append_nil,hs,hsv]
  exact rfl
 refine ⟨ds,[],before,[],p,[],hW,hres _ _ _,hargs' _ hold,hvars _,World.keptBut_mono (fun q hq => ⟨hq,?_⟩) (hb.frame _),fun _ => ?_⟩
 ·rw [hp] at hq
  exact Or.inr (Or.inl hq)
 ·have hlt := hW.lt
  obtain ⟨_,_,_,_,_,hz,hn⟩ := hW
  refine ⟨ok_one hrt rfl (okWide_bool_mk Tryz.underlying4 _),_,_,([] ++ p) ++ [],⟨[] ++ p,[],trodAll_append (hargs' _ (fun _ _ => rfl)) (hres _ _ _),hvars _,rfl,?_,?_⟩,?_⟩
  ·intro b off hq
   have hq' : MemPlace.cell b off ∈ before := by rw [hp]; simpa using hq
   rw [hb.frozen (p := ⟨b,off,none⟩) (hlt _ hq')]
   exact hz b off hq'
  ·intro ha
   have := hn ha
   rw [hp] at this
   simpa using this
  ·intro q hq _
   rw [hp]
   simpa using hq
end Go.Proofs.YtiopbpbcgccngaaGreatDoor
namespace Go.Proofs.YtiopbpbcgccngaaGreatDoor
open Go.ChangeShapes Go.WideShapes Go.ChangeAt Go.WideMaps Go.WideElems Go.RowKit Go.Eng
theorem open_triples {H : Type} {enc : TypeId × Value → H} {P : Program} {w : World} {base : Nat} {spare : Nat → Bool} {held : Bool} {t e : TypeId} {f0 f1 f2 : Field} {fuel : Nat} {cs : List Value} {x : DataW H × List MemPlace}
  (ht : P.underlying t = some (.slice e)) (he : P.underlying e = some (.struct #[f0,f1,f2])) (ce : P.cellsOf e = 3) (o0 : f0.offset = 0) (o1 : f1.offset = 1) (o2 : f2.offset = 2) (c0 : P.cellsOf f0.type = 1) (c1 : P.cellsOf f1.type = 1) (c2 : P.cellsOf f2.type = 1)
  (h : DataW.trod enc P w base spare held fuel t cs = some x) :
  cs = [.slice none 0 0] ∨ ∃ (a : Addr) (len cap : Nat),cs = [.slice (some a) len cap] ∧ len ≤ cap ∧ cap ≤ maxLen ∧ (spare a.block = true → ∀ i,i < cap → ∃ (q : Value × Value × Value),w.cell? (a.add (i * 3)) = some q.1 ∧ w.cell? (a.add (i * 3 + 1)) = some q.2.1 ∧ w.cell? (a.add (i * 3 + 2)) = some q.2.2 ∧
   (∃ n y,DataW.trod enc P w base spare held n f0.type [q.1] = some y) ∧ (∃ n y,DataW.trod enc P w base spare held n f1.type [q.2.1] = some y) ∧ (∃ n y,DataW.trod enc P w base spare held n f2.type [q.2.2] = some y)) := by
 rcases Deep.open_slice ht h with h0 | ⟨a,len,cap,m,n,D,Pl,rfl,hb,hl,hm,hmm,rfl,hx⟩
 ·exact Or.inl h0.1
 right
 refine ⟨a,len,cap,rfl,hl,hm,fun hsp i hi => ?_⟩
 rw [hsp,if_pos rfl] at hmm
 obtain ⟨cs',h1,h2⟩ := hx i (by omega)
 rw [ce] at h1
 obtain ⟨_,hlen,hcell⟩ := World.cells?_some h1
 obtain ⟨xs,k,hk,hxy,_,hxl,hf⟩ := DataW.trod_struct he h2
 match xs,hxl,cs',hlen with
 | [y0,y1,y2],_,[v0,v1,v2],_ =>
  have g0 := hf 0 f0 rfl
  have g1 := hf 1 f1 rfl
  have g2 := hf 2 f2 rfl
  simp [o0,o1,o2,c0,c1,c2] at g0 g1 g2
  have e0 := hcell 0 (by omega)
  have e1 := hcell 1 (by omega)
  have e2 := hcell 2 (by omega)
  rw [Deep.add_add] at e0 e1 e2
  exact ⟨(v0,v1,v2),by simpa using e0,by simpa using e1,by simpa using e2,⟨_,_,g0⟩,⟨_,_,g1⟩,⟨_,_,g2⟩⟩
end Go.Proofs.YtiopbpbcgccngaaGreatDoor
namespace Go.Proofs.YtiopbpbcgccngaaGreatDoor
open Go.ChangeShapes Go.WideShapes Go.ChangeAt Go.WideMaps Go.WideElems Go.RowKit Go.Eng
end Go.Proofs.YtiopbpbcgccngaaGreatDoor
namespace Go.Proofs.YtiopbpbcgccngaaGreatDoor
open Go.ChangeShapes Go.WideShapes Go.ChangeAt Go.WideMaps Go.WideElems Go.RowKit Go.Eng
set_option maxRecDepth 100000 in
theorem open_ivs {H : Type} {enc : TypeId × Value → H} {W : World} {b0 : Nat} {v : Value} {d : DataW H} {p : List MemPlace} (hval : Value.okWide Tryz.prog W .any b0 24 v) (h : DataW.Trod enc Tryz.prog W 0 (fun _ => true) true 24 v d p) :
  ∃ (s : Bool) (A : List Iv) (pl : Eng.Place),rowOk s A ∧ A.length ≤ 9223372036854775807 ∧ (∀ μ n base,SRel μ n base W pl (rowS s A)) ∧ ∀ μ n i,μ i = pl → i < n → VRel μ n (rowV s i A) v := by
 obtain ⟨fuel,hf⟩ := h
 have hu := Tryz.underlying24
 simp only [Value.okWide,hu,Cell.okWide] at hval
 obtain ⟨a,len,cap,rfl⟩ : ∃ a len cap,v = .slice a len cap := by cases v <;> simp_all [Cell.ok]
 rcases open_triples (f0 := _) (f1 := _) (f2 := _) hu Tryz.underlying33 (by kernel_rfl) rfl rfl rfl (by kernel_rfl) (by kernel_rfl) (by kernel_rfl) hf with h1 | ⟨a',len',cap',h1,h2,h3,h4⟩
 ·refine ⟨false,[],⟨0,0,0,0⟩,fun _ => rfl,by simp,fun _ _ _ => trivial,fun μ n i _ _ => ?_⟩
  have : (Value.slice a len cap) = .slice none 0 0 := by simpa [Value.cells] using h1
  rw [this]
  simp [rowV,VRel]
 ·simp only [Value.cells,List.cons.injEq,Value.slice.injEq,and_true] at h1
  obtain ⟨rfl,rfl,rfl⟩ := h1
  simp only [Cell.ok,hu] at hval
  obtain ⟨_,_,_,hsp,row,cells,hsh,_⟩ := hval
  have h7 := h4 rfl
  obtain ⟨q,hq⟩ := Deep.choose_lt h7
  obtain ⟨cur,el,fr,hb⟩ : ∃ cur el fr,W.heap[a'.block]? = some (.cells cur el fr) := by
   unfold World.shape? at hsh
   split at hsh
   ·rename_i c e f hh; exact ⟨_,_,_,hh⟩
   ·cases hsh
  obtain ⟨blk,off,spot⟩ := a'
  simp only at hsp hb
  subst hsp
  have cell : ∀ k,W.cell? ((⟨blk,off,none⟩ : Addr).add k) = cur[off + k]? := by
   intro k
   rw [show (⟨blk,off,none⟩ : Addr).add k = ⟨blk,off + k,none⟩ from add_plain _ _ _]
   unfold World.cell?
   simp only
   rw [hb]; rfl
  have st : ∀ {t : TypeId} (_ : Tryz.prog.underlying t = some .string) {n : Nat} {y : DataW H × List MemPlace} {x : Value},DataW.trod enc Tryz.prog W 0 (fun _ => true) true n t [x] = some y → ∃ s : List UInt8,x = .string ⟨s.toArray⟩ := by
   intro t ht n y x hx
   obtain ⟨z,hz,_,_⟩ := DataW.trod_string ht hx
   simp only [List.cons.injEq,and_true] at hz
   exact ⟨z.data.toList,by rw [hz]⟩
  have hk : ∀ i,i < cap → ∃ b : Iv,(q i).1 = .string ⟨b.1.toArray⟩ ∧ (q i).2.1 = .string ⟨b.2.1.toArray⟩ ∧ (q i).2.2 = .string ⟨b.2.2.toArray⟩ := by
   intro i hi
   obtain ⟨_,_,_,⟨_,_,t0⟩,⟨_,_,t1⟩,⟨_,_,t2⟩⟩ := hq i hi
   obtain ⟨k0,e0⟩ := st Tryz.underlying9 t0
   obtain ⟨k1,e1⟩ := st Tryz.underlying31 t1
   obtain ⟨k2,e2⟩ := st Tryz.underlying31 t2
   exact ⟨(k0,k1,k2),e0,e1,e2⟩
  obtain ⟨g,hg⟩ := Deep.choose_lt hk
  obtain ⟨A,hA⟩ : ∃ A,A = (List.range len).map g := ⟨_,rfl⟩
  have hlen : A.length = len := by rw [hA]; simp
  have hget : ∀ i,i < len → A[i]? = some (g i) := fun i hi => by rw [hA]; simp [hi]
  refine ⟨true,A,⟨blk,off,cap * 3,3⟩,(fun h => by cases h),(by rw [hlen]; exact Nat.le_trans h2 h3),fun μ n base => ?_,fun μ n i hi hin => ?_⟩
  ·show SRel μ n base W _ (.cells false 3 (ivC A))
   simp only [SRel]
   refine ⟨cur,el,fr,hb,⟨rfl,fun h => by omega⟩,by rw [ivC_length,hlen]; omega,fun j v hj => ?_,(fun h => by cases h)⟩
   have hj2 : j < len * 3 := by
    have := (List.getElem?_eq_some_iff.1 hj).1
    rw [ivC_length,hlen] at this; exact this
   have hi : j / 3 < len := by omega
   obtain ⟨_,k1,k2,k3⟩ := ivC_at (hget (j / 3) hi)
   obtain ⟨e0,e1,e2,_,_,_⟩ := hq (j / 3) (by omega)
   obtain ⟨g0,g1,g2⟩ := hg (j / 3) (by omega)
   rw [cell] at e0 e1 e2
   have hm : j % 3 = 0 ∨ j % 3 = 1 ∨ j % 3 = 2 := by omega
   rcases hm with hm | hm | hm
   ·have hje : j / 3 * 3 = j := by omega
    rw [hje] at k1 e0
    rw [hj] at k1; cases k1
    exact ⟨_,e0,by rw [g0]; simp [VRel]⟩
   ·have hje : j / 3 * 3 + 1 = j := by omega
    rw [hje] at k2 e1
    rw [hj] at k2; cases k2
    exact ⟨_,e1,by rw [g1]; simp [VRel]⟩
   ·have hje : j / 3 * 3 + 2 = j := by omega
    rw [hje] at k3 e2
    rw [hj] at k3; cases k3
    exact ⟨_,e2,by rw [g2]; simp [VRel]⟩
  ·simp only [rowV,VRel,capOf,hi]
   refine ⟨hin,?_⟩
   rw [hlen,Nat.add_zero,Nat.sub_zero,Nat.mul_div_cancel _ (by omega)]
theorem noOwn_rows (s t : Bool) (A B : List Iv) : ∀ b,¬ OwnAt [rowS s A,rowS t B] b := by
 rintro b ⟨x,hx,ho⟩
 match b,hx with
 | 0,hx => cases hx; cases s <;> cases ho
 | 1,hx => cases hx; cases t <;> cases ho
 | b + 2,hx => simp at hx
theorem hrel_rows {W : World} {s t : Bool} {A B : List Iv} {pa pb : Eng.Place} (ha : ∀ μ n base,SRel μ n base W pa (rowS s A)) (hb : ∀ μ n base,SRel μ n base W pb (rowS t B)) :
  HRel W.heap.size (fun i => if i = 0 then pa else pb) [rowS s A,rowS t B] W := by
 refine ⟨Nat.le_refl _,fun b x hx => ?_,fun b b' s' ho => absurd ho (noOwn_rows s t A B b)⟩
 match b,hx with
 | 0,hx => cases hx; exact ha _ _ _
 | 1,hx => cases hx; exact hb _ _ _
 | b + 2,hx => simp at hx
set_option maxRecDepth 100000 in
theorem welllogChecks_lifted (os : Os) (started : os.Started) (H : Type) (enc : TypeId × Value → H) :
  ReturnsInHanded {} Tryz.checked os 7 .any (fun w args => (Rows.welllogChecksSpec.pre enc Tryz.prog Tryz.f7 [] false w args ∧ laidMetH Tryz.prog laidAll w) ∧ sizedMet enc Tryz.prog Tryz.f7 (OpenSpec.ofChange Rows.welllogChecksSpec) false w args)
   (Rows.welllogChecksSpec.post enc Tryz.prog Tryz.f7 false true false false) := by
 refine returnsInHanded_of_change_and (C := Tryz.checked) (X := fun w _ => laidMetH Tryz.prog laidAll w) (fun _ _ _ hh h => h.of_heap hh) own started (by kernel_rfl) Tryz.func7
  (ChangeSpec.witness_shaped (enc := enc) (C := Tryz.checked) (os := os) (X := fun w _ => laidMetH Tryz.prog laidAll w) false (World.doorLaid Tryz.prog 400 os) #[.slice none 0 0,.slice none 0 0] 8 rfl (World.shaped_of_RefB (by kernel_rfl) (by kernel_rfl)) (by kernel_rfl) (by kernel_rfl) (by kernel_rfl) (door_met os _)) ?_
 intro W base args ds gs before hval0 hW _ _ hL _
 have hval : ∀ (j : Nat) t v,Tryz.f7.params[j]? = some t → args[j]? = some v → Value.okWide Tryz.prog W .any base t v := hval0
 have hW' := hW
 obtain ⟨p,q,hA0,hV,hpq,hfz,hnd⟩ := hW
 have hA : DataW.TrodAll enc Tryz.prog W 0 (fun _ => true) true Tryz.f7.params.toList args.toList ds p := hA0
 have hpar : Tryz.f7.params = #[24,24] := rfl
 rw [hpar] at hA hval
 obtain ⟨v0,v1,d0,d1,p0,p1,hargs,rfl,rfl,h0,h1⟩ := trodAll_two hA
 subst hargs
 obtain ⟨rfl,rfl⟩ := trodVars_none hV
 have hG := glob_of_laid hL
 have hlt : ∀ x ∈ before,x.block < W.heap.size := hW'.lt
 have fin : ∀ (W' : World),Below W.heap.size W W' → Rows.welllogChecksSpec.post enc Tryz.prog Tryz.f7 false true false false W #[v0,v1] (.bool true) W' := by
  intro W' hb
  refine post_true rfl hW' hb hpq rfl rfl rfl fun sp hsp => ?_
  rw [hpar]
  rw [List.append_nil]
  have hm : ∀ x ∈ p0 ++ p1,x ∈ before := fun x hx => by rw [hpq,List.append_nil]; exact hx
  have m0 : ∀ x ∈ p0,x ∈ p0 ++ p1 := fun x hx => List.mem_append_left _ hx
  have m1 : ∀ x ∈ p1,x ∈ p0 ++ p1 := fun x hx => List.mem_append_right _ hx
  exact trodAll_mk2 (Trod_stays laidOut (by kernel_rfl) (of_decide_eq_true (by kernel_rfl)) h0 (fun x hx => hb.same (hlt x (hm x (m0 x hx)))) (fun x hx => hsp x (hm x (m0 x hx))))
   (Trod_stays laidOut (by kernel_rfl) (of_decide_eq_true (by kernel_rfl)) h1 (fun x hx => hb.same (hlt x (hm x (m1 x hx)))) (fun x hx => hsp x (hm x (m1 x hx))))
 obtain ⟨s,A,pa,oa,la,ra,va⟩ := open_ivs (hval 0 24 v0 rfl rfl) h0
 obtain ⟨t,B,pb,ob,lb,rb,vb⟩ := open_ivs (hval 1 24 v1 rfl rfl) h1
 refine ((Tryz.aWelllogChecks s t A B oa ob la lb).2 W.heap.size (fun i => if i = 0 then pa else pb) W [v0,v1] hG (hrel_rows ra rb) (VRels_cons.2 ⟨va _ _ _ rfl (by simp),VRels_cons.2 ⟨vb _ _ _ rfl (by simp),by simp [VRels]⟩⟩)).mono ?_
 rintro e W' ⟨V,v',m',μ',rfl,q1,q2,q3,rfl,rfl⟩
 simp only [VRel] at q1
 subst q1
 exact ⟨_,rfl,fin W' (kept_of q3 (noOwn_rows s t A B))⟩
end Go.Proofs.YtiopbpbcgccngaaGreatDoor
