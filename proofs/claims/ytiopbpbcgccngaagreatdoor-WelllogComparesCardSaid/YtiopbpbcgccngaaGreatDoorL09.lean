/- See L55. -/
import Derived.Test.YtiopbpbcgccngaaGreatDoorL08
import Derived.Shelf.SlSortCmp.Whole1
import Derived.Shelf.SlSortCmp.WholeK
set_option linter.all false
namespace Go.Eng
open Go.Proofs Go.Shelf
theorem Gentle.grown {w w' : World} (h : Gentle w w') : ∃ q os',w' = Sort.grow (w.drewN q) os' := by
 refine ⟨w'.drawn - w.drawn,w'.heap.extract w.heap.size w'.heap.size,?_⟩
 obtain ⟨heap,tape,drawn,os,output⟩ := w
 obtain ⟨heap',tape',drawn',os',output'⟩ := w'
 obtain ⟨h1,h2,h3,h4,h5,h6⟩ := h
 simp only at h1 h2 h3 h4 h5 h6
 subst h3 h4 h5
 simp only [Sort.grow,World.drewN,World.mk.injEq,and_true,true_and]
 refine ⟨?_,by omega⟩
 apply Array.ext_getElem?
 intro k
 by_cases hk : k < heap.size
 ·rw [h2 k hk,Array.getElem?_append_left hk]
 ·rw [Array.getElem?_append_right (by omega),Array.getElem?_extract]
  by_cases hk' : k < heap'.size
  ·rw [if_pos (by omega)]; congr 1; omega
  ·rw [if_neg (by omega),Array.getElem?_eq_none (by omega)]
theorem gentle_grow (w : World) (q : Nat) (os : Array Obj) : Gentle w (Sort.grow (Sort.ahead w q) os) := Gentle.grow w q os
theorem putRow_map {α : Type} [Inhabited α] (enc : α → Value) (w : World) (blk off : Nat) (d : Array α) : Sort.putRow enc w blk off d = Sort.putRow id w blk off (d.map enc) := by
 unfold Sort.putRow
 congr 1
 funext c
 unfold Sort.putCells
 congr 1
 funext k x
 simp only [Array.size_map]
 split
 ·rename_i h
  have h1 : k - off < d.size := by omega
  simp [h1]
 ·rfl
section
variable {P : Program} {μ : Nat → Place} {mem : Mem} {base : Nat} {w : World}
theorem mapBlock_size (w : World) (b : Nat) (f : Array Value → Array Value) : (Sort.mapBlock w b f).heap.size = w.heap.size := by simp [Sort.mapBlock]
theorem mapBlock_other (w : World) (b k : Nat) (f : Array Value → Array Value) (h : k ≠ b) : (Sort.mapBlock w b f).heap[k]? = w.heap[k]? := by
 simp only [Sort.mapBlock,Array.getElem?_modify,if_neg (Ne.symm h)]
theorem putRow_rel (hH : HRel base μ mem w) {b es : Nat} {cs : List AV} (hb : mem[b]? = some (.cells true es cs)) (F : Array Value) (fs : List AV) (hF : VRels μ mem.length fs F.toList) (hl : fs.length ≤ cs.length) :
  HRel base μ (mem.set b (.cells true es (fs ++ cs.drop fs.length))) (Sort.putRow id w (μ b).blk 0 F) ∧ Step mem.length μ mem w μ (mem.set b (.cells true es (fs ++ cs.drop fs.length))) (Sort.putRow id w (μ b).blk 0 F) := by
 have hFl : F.size = fs.length := by rw [← Array.length_toList,hF.length]
 refine hH.write hb (ownAt_cells hb) (fun _ => ⟨_,List.getElem?_set_self (List.getElem?_eq_some_iff.1 hb).1,rfl⟩) rfl rfl rfl rfl (mapBlock_size ..) (fun k hk => mapBlock_other _ _ _ _ hk) ?_
 have hs := hH.slot b _ hb
 simp only [SRel] at hs ⊢
 obtain ⟨cur,el,fr,g1,g2,g3,g4,g5⟩ := hs
 obtain ⟨g6,g7,g8,g9⟩ := g5 trivial
 refine ⟨Sort.putCells id 0 F cur,el,fr,?_,g2,?_,?_,fun _ => ⟨g6,g7,?_,g9⟩⟩
 ·simp [Sort.putRow,Sort.mapBlock,Array.getElem?_modify,g1,Sort.onCells]
 ·simp only [List.length_append,List.length_drop]; omega
 ·intro j v hv
  rw [g6] at g4 ⊢
  by_cases hj : j < fs.length
  ·rw [List.getElem?_append_left hj] at hv
   obtain ⟨U,hU,hr⟩ := hF.get j v hv
   refine ⟨U,?_,hr⟩
   have hjc : j < cur.size := by omega
   have hU' : F[j]? = some U := by simpa using hU
   have hjF : j < F.size := by omega
   simp only [Nat.zero_add,Sort.putCells,Array.getElem?_mapIdx,Nat.zero_le,true_and,Nat.sub_zero]
   rw [Array.getElem?_eq_getElem hjc]
   have hFj : F[j] = U := by rw [Array.getElem?_eq_getElem hjF] at hU'; exact Option.some.inj hU'
   simp [hjF,hFj]
  ·rw [List.getElem?_append_right (by omega),List.getElem?_drop] at hv
   have e : fs.length + (j - fs.length) = j := by omega
   rw [e] at hv
   obtain ⟨U,hU,hr⟩ := g4 j v hv
   refine ⟨U,?_,hr⟩
   have hjF : ¬ j < F.size := by omega
   simp only [Nat.zero_add] at hU
   simp [Sort.putCells,Array.getElem?_mapIdx,hU,hjF]
 ·simp [Sort.putCells,g8]
theorem gok_putRow (hG : GOk P base w) {blk : Nat} (hb : base ≤ blk) {α : Type} [Inhabited α] (enc : α → Value) (off q : Nat) (d : Array α) (os : Array Obj) (hbs : base ≤ w.heap.size) : GOk P base (Sort.grow (Sort.putRow enc (Sort.ahead w q) blk off d) os) := by
 refine ⟨hG.below,?_⟩
 have := hG.tab
 unfold Lib.TabIs at this ⊢
 rw [← this]
 refine var_eq fun k hk => ?_
 have h1 := hG.below
 show ((Sort.putRow enc (Sort.ahead w q) blk off d).heap ++ os)[k]? = _
 rw [Array.getElem?_append_left (by unfold Sort.putRow; rw [mapBlock_size]; show k < w.heap.size; omega)]
 exact mapBlock_other _ _ _ _ (by omega)
theorem hrel_none (h : base ≤ w.heap.size) : HRel base μ [] w := ⟨h,fun b s hs => by simp at hs,fun b b' s' hb => by obtain ⟨s,hs,_⟩ := hb; simp at hs⟩
theorem calls_gentle {f : FuncId} {args : List AV} {v : AV} (h : ACallsTo P f args [] v []) (hG : GOk P base w) (hb : base ≤ w.heap.size) {Vs : List Value} (hV : VRels μ 0 args Vs) :
  Calls P f ⟨Vs⟩ w fun e w' => ∃ V μ',e = .returned V ∧ VRel μ' 0 v V ∧ Gentle w w' := by
 refine (h.2 base μ w Vs hG (hrel_none hb) hV).mono ?_
 rintro e w' ⟨V,v',m',μ',rfl,q1,q2,q3,rfl,rfl⟩
 exact ⟨V,μ',rfl,q1,q3.size,fun k hk => q3.frame k hk fun b hb => by obtain ⟨s,hs,_⟩ := hb; simp at hs,q3.os,q3.tape,q3.output,q3.drawn⟩
theorem sorted_pairwise {α : Type} [Inhabited α] {lt : α → α → Bool} {d : Array α} (h : Sort.SortedIn lt 0 d.size d) : d.toList.Pairwise fun x y => lt y x = false := by
 rw [List.pairwise_iff_getElem]
 intro i j hi hj hij
 have := h i j (Nat.zero_le _) hij (by simpa using hj)
 have e1 : d[i]! = d.toList[i] := by simp at hi; simp [hi]
 have e2 : d[j]! = d.toList[j] := by simp at hj; simp [hj]
 rw [e1,e2] at this
 exact this
theorem permIn_perm {α : Type} [Inhabited α] {d d' : Array α} (h : Sort.PermIn 0 d.size d d') : d'.toList.Perm d.toList ∧ d'.size = d.size := by
 obtain ⟨h1,_,h3⟩ := h
 refine ⟨?_,h1⟩
 have e1 : d'.extract 0 d.size = d' := by rw [← h1]; simp
 have e2 : d.extract 0 d.size = d := by simp
 rw [e1,e2] at h3
 exact h3
theorem aSort1 {ρ : Shelf.Ren} (L : SlLaysF.n6 P ρ) {f : FuncId} (hfe : ρ.f 6 = f) (hf : FunOk P f) {α : Type} [Inhabited α] (encA : α → AV) (enc : α → Value) (hrel : ∀ μ n x V,VRel μ n (encA x) V ↔ V = enc x) (hone : OneCell enc) (cf : α → α → Int) (hO : Sort.SWO (ltOf cf))
  {g : FuncId} (eg : ∀ args w,(callFunc g args).run P w = .ok (.enter g args) w) (hg : ∀ x y,ACallsTo P g [encA x,encA y] [] (.int .i64 (cf x y)) [])
  {M : Mem} {b es : Nat} {cs : List AV} (hb : M[b]? = some (.cells true es cs)) (d : List α) (hd : cs.take d.length = d.map encA) (hdl : d.length ≤ cs.length) (hsz : d.length < 4611686018427387904) :
  ACalls P f [.slice b 0 d.length none,.func g []] M fun v m => v = .tuple [] ∧ ∃ d' : List α,d'.Perm d ∧ (d'.Pairwise fun x y => ltOf cf y x = false) ∧ m = M.set b (.cells true es (d'.map encA ++ cs.drop d.length)) := by
 subst hfe
 refine ⟨hf,fun base μ w Vs hG hH hV => ?_⟩
 simp only [VRels] at hV
 obtain ⟨U,Ws,rfl,h1,U2,Ws2,rfl,h2,rfl⟩ := hV
 obtain ⟨hbn,rfl⟩ := h1.slice
 simp only [VRel,VRels] at h2
 obtain ⟨Us,rfl,rfl⟩ := h2
 have hs := hH.slot b _ hb
 simp only [SRel] at hs
 obtain ⟨cur,el,fr,g1,g2,g3,g4,g5⟩ := hs
 obtain ⟨g6,g7,g8,g9⟩ := g5 trivial
 subst g7
 have hbase := hH.base_le
 have hblk : (μ b).blk < w.heap.size := (Array.getElem?_eq_some_iff.1 g1).1
 have hVd : VRels μ M.length (d.map encA) (d.map enc) := by
  refine VRels.of_get (by simp) fun i v hv => ?_
  simp only [List.getElem?_map,Option.map_eq_some_iff] at hv ⊢
  obtain ⟨x,hx,rfl⟩ := hv
  exact ⟨_,⟨x,hx,rfl⟩,(hrel _ _ _ _).2 rfl⟩
 have hHolds : Sort.Holds enc w (μ b).blk 0 d.toArray := by
  intro j hj
  have hj' : j < d.length := by simpa using hj
  have hcs : cs[j]? = some (encA d[j]) := by
   rw [← List.getElem?_take_of_lt hj',hd]; simp [hj']
  obtain ⟨V,hV,hr⟩ := g4 j _ hcs
  have hVe : V = enc d[j] := (hrel _ _ _ _).1 hr
  subst hVe
  rw [g6,Nat.zero_add] at hV
  constructor
  ·simp [World.cell?,g1,hV,hj']
  ·simp [World.frozen?,g1]
 have hcmp : CmpLays1 P g #[] enc cf (μ b).blk 0 d.toArray.size w := by
  intro m os dk hs x y
  have hW : GOk P base (sortWorld enc w (μ b).blk 0 m dk os) := gok_putRow hG g9 enc 0 m dk os hbase
  have hWs : base ≤ (sortWorld enc w (μ b).blk 0 m dk os).heap.size := by
   show base ≤ ((Sort.putRow enc (Sort.ahead w m) (μ b).blk 0 dk).heap ++ os).size
   rw [Array.size_append]; unfold Sort.putRow; rw [mapBlock_size]; show base ≤ w.heap.size + os.size; omega
  refine (calls_gentle (μ := μ) (hg x y) hW hWs (Vs := [enc x,enc y]) (VRels_cons.2 ⟨(hrel _ _ _ _).2 rfl,VRels_cons.2 ⟨(hrel _ _ _ _).2 rfl,by simp [VRels]⟩⟩)).mono ?_
  rintro e w' ⟨V,μ',rfl,q1,q2⟩
  exact ⟨by rw [q1.int],q2.grown⟩
 have hcall : Calls P (ρ.f 6) ⟨[.slice (some ⟨(μ b).blk,0 + 0,none⟩) d.length (capOf (μ b) 0 none),.func (.func g) #[] ⟨[]⟩]⟩ w _ := Any.slices_SortFunc L enc hone cf hO g #[] (μ b).blk 0 (capOf (μ b) 0 none) d.toArray w eg hcmp hHolds hblk (by simpa using hsz)
 rw [g6]
 refine hcall.mono ?_
 rintro e w' ⟨rfl,d',n,os,hp,hsd,rfl⟩
 obtain ⟨p1,p2⟩ := permIn_perm hp
 have hVd' : VRels μ M.length (d'.toList.map encA) ((d'.map enc).toList) := by
  refine VRels.of_get (by simp) fun i v hv => ?_
  simp only [List.getElem?_map,Option.map_eq_some_iff] at hv
  obtain ⟨x,hx,rfl⟩ := hv
  refine ⟨enc x,?_,(hrel _ _ _ _).2 rfl⟩
  simp only [Array.toList_map,List.getElem?_map,hx,Option.map_some]
 have hlen : (d'.toList.map encA).length = d.length := by simp at p2; simp [p2]
 have hahead : HRel base μ M (Sort.ahead w n) := hH.sameHeap rfl
 have key := putRow_rel hahead hb (d'.map enc) (d'.toList.map encA) hVd' (by rw [hlen]; exact hdl)
 rw [hlen] at key
 have hgr : Gentle (Sort.putRow enc (Sort.ahead w n) (μ b).blk 0 d') (sortWorld enc w (μ b).blk 0 n d' os) := by
  have := gentle_grow (Sort.putRow enc (Sort.ahead w n) (μ b).blk 0 d') 0 os
  rw [Sort.ahead_zero] at this
  exact this
 rw [← putRow_map] at key
 refine ⟨.tuple #[],.tuple [],_,μ,rfl,by simp [VRel,VRels],hgr.hrel key.1,?_,rfl,d'.toList,by simpa using p1,sorted_pairwise (by rw [p2]; exact hsd),rfl⟩
 have s0 : Step M.length μ M w μ M (Sort.ahead w n) := ⟨Nat.le_refl _,fun _ _ => rfl,rfl,rfl,rfl,Nat.le_refl _,fun _ _ _ => rfl,fun b hb _ => ⟨b,hb,rfl⟩,Nat.le_add_right _ _⟩
 refine (s0.trans key.2).trans (hgr.step ?_)
 simp
theorem flatK_list {α : Type} [Inhabited α] (enc : α → List Value) (k : Nat) (hk : ∀ x,(enc x).length = k) (d : List α) : (Sort.flatK enc k d.toArray).toList = d.flatMap enc := by
 have hl : ∀ l : List α,(l.flatMap enc).length = l.length * k := by
  intro l
  induction l with
  | nil => simp
  | cons x l ih => simp only [List.flatMap_cons,List.length_append,hk,ih,List.length_cons,Nat.add_mul,Nat.one_mul]; omega
 have hg : ∀ (l : List α) (t : Nat) (h : t < l.length * k),(l.flatMap enc)[t]? = some ((enc l.toArray[t / k]!)[t % k]!) := by
  intro l
  induction l with
  | nil => intro t h; simp at h
  | cons x l ih =>
   intro t h
   have k0 : 0 < k := Nat.pos_of_ne_zero fun h' => by subst h'; simp at h
   simp only [List.flatMap_cons]
   by_cases ht : t < k
   ·rw [List.getElem?_append_left (by rw [hk]; exact ht),Nat.div_eq_of_lt ht,Nat.mod_eq_of_lt ht]
    have : t < (enc x).length := by rw [hk]; exact ht
    simp [this]
   ·rw [List.getElem?_append_right (by rw [hk]; omega),hk]
    have h' : t - k < l.length * k := by simp only [List.length_cons,Nat.add_mul,Nat.one_mul] at h; omega
    rw [ih (t - k) h']
    have e1 : t / k = (t - k) / k + 1 := by rw [← Nat.div_eq_sub_div k0 (by omega)]
    have e2 : t % k = (t - k) % k := by rw [Nat.mod_eq_sub_mod (by omega)]
    rw [e1,e2]
    simp
 apply List.ext_getElem?
 intro t
 by_cases h : t < d.length * k
 ·rw [hg d t h]
  have : t < (Sort.flatK enc k d.toArray).size := by simpa using h
  rw [Array.getElem?_toList,Array.getElem?_eq_getElem this]
  have := Sort.get_flatK enc k d.toArray t (by simpa using h)
  rw [getElem!_pos _ t (by simpa using h)] at this
  rw [this]
 ·rw [List.getElem?_eq_none (by simp; omega),List.getElem?_eq_none (by rw [hl]; omega)]
theorem aSortK {ρ : Shelf.Ren} (L : SlLaysF0.n6 P ρ) (k : Nat) (aE : ∀ w,(isAgg (ρ.t 24)).run P w = .ok true w) (zE : ∀ w,(Go.sizeOf (ρ.t 24)).run P w = .ok k w) {f : FuncId} (hfe : ρ.f 6 = f) (hf : FunOk P f) {α : Type} [Inhabited α] (encA : α → List AV) (enc : α → List Value) (hrel : ∀ μ n x Us,VRels μ n (encA x) Us ↔ Us = enc x) (hk : ∀ x,(enc x).length = k) (hkA : ∀ x,(encA x).length = k) (hone : ∀ x,∀ v ∈ enc x,v.oneCell' = true) (cf : α → α → Int) (hO : Sort.SWO (ltOf cf))
  {g : FuncId} (eg : ∀ args w,(callFunc g args).run P w = .ok (.enter g args) w) (hg : ∀ x y,ACallsTo P g [.agg (encA x),.agg (encA y)] [] (.int .i64 (cf x y)) [])
  {M : Mem} {b es : Nat} {cs : List AV} (hb : M[b]? = some (.cells true es cs)) (d : List α) (hd : cs.take (d.length * k) = d.flatMap encA) (hdl : d.length * k ≤ cs.length) (hsz : d.length < 4611686018427387904) :
  ACalls P f [.slice b 0 d.length none,.func g []] M fun v m => v = .tuple [] ∧ ∃ d' : List α,d'.Perm d ∧ (d'.Pairwise fun x y => ltOf cf y x = false) ∧ m = M.set b (.cells true es (d'.flatMap encA ++ cs.drop (d.length * k))) := by
 subst hfe
 have hlA : ∀ l : List α,(l.flatMap encA).length = l.length * k := by
  intro l
  induction l with
  | nil => simp
  | cons x l ih => simp only [List.flatMap_cons,List.length_append,hkA,ih,List.length_cons,Nat.add_mul,Nat.one_mul]; omega
 have hfr : ∀ (μ : Nat → Place) (n : Nat) (l : List α),VRels μ n (l.flatMap encA) (l.flatMap enc) := by
  intro μ n l
  induction l with
  | nil => simp [VRels]
  | cons x l ih => simp only [List.flatMap_cons]; exact VRels.append ((hrel _ _ _ _).2 rfl) ih
 have hdet : ∀ (μ : Nat → Place) (n : Nat) (l : List α) (Us : List Value),VRels μ n (l.flatMap encA) Us → Us = l.flatMap enc := by
  intro μ n l
  induction l with
  | nil => intro Us h; simpa [VRels] using h
  | cons x l ih =>
   intro Us h
   simp only [List.flatMap_cons] at h ⊢
   have h1 := h.take (encA x).length
   have h2 := h.drop (encA x).length
   rw [List.take_left'  rfl] at h1
   rw [List.drop_left' rfl] at h2
   rw [← List.take_append_drop (encA x).length Us,(hrel _ _ _ _).1 h1,ih _ h2]
 refine ⟨hf,fun base μ w Vs hG hH hV => ?_⟩
 simp only [VRels] at hV
 obtain ⟨U,Ws,rfl,h1,U2,Ws2,rfl,h2,rfl⟩ := hV
 obtain ⟨hbn,rfl⟩ := h1.slice
 simp only [VRel,VRels] at h2
 obtain ⟨Us,rfl,rfl⟩ := h2
 have hs := hH.slot b _ hb
 simp only [SRel] at hs
 obtain ⟨cur,el,fr,g1,g2,g3,g4,g5⟩ := hs
 obtain ⟨g6,g7,g8,g9⟩ := g5 trivial
 subst g7
 have hbase := hH.base_le
 have hblk : (μ b).blk < w.heap.size := (Array.getElem?_eq_some_iff.1 g1).1
 obtain ⟨Os,o1,o2,o3⟩ := hH.cells hb (o := 0) (k := d.length * k) (by omega)
 simp only [List.drop_zero,hd] at o1
 have hOs := hdet _ _ _ _ o1
 subst hOs
 have hHolds : Sort.HoldsK enc k w (μ b).blk 0 d.toArray := by
  intro j hj
  have hj' : j < d.length * k := by simpa using hj
  have e1 : (Sort.flatK enc k d.toArray)[j]? = (d.flatMap enc)[j]? := by rw [← flatK_list enc k hk d,Array.getElem?_toList]
  rw [Array.getElem?_eq_getElem hj] at e1
  have h3 := o3 j _ e1.symm
  rw [g6] at h3
  constructor
  ·show w.cell? ⟨(μ b).blk,0 + j,none⟩ = some ((Sort.flatK enc k d.toArray)[j]!)
   rw [getElem!_pos (Sort.flatK enc k d.toArray) j hj,← h3,Addr.add_lit]
  ·simp [World.frozen?,g1]
 have hcmp : CmpLays P g #[] enc k cf (μ b).blk 0 d.toArray.size w := by
  intro m os dk hs x y
  have hW : GOk P base (sortWorldK enc k w (μ b).blk 0 m dk os) := gok_putRow hG g9 id 0 m (Sort.flatK enc k dk) os hbase
  have hWs : base ≤ (sortWorldK enc k w (μ b).blk 0 m dk os).heap.size := by
   show base ≤ ((Sort.putRow id (Sort.ahead w m) (μ b).blk 0 (Sort.flatK enc k dk)).heap ++ os).size
   rw [Array.size_append]; unfold Sort.putRow; rw [mapBlock_size]; show base ≤ w.heap.size + os.size; omega
  refine (calls_gentle (μ := μ) (hg x y) hW hWs (Vs := [.agg (enc x).toArray,.agg (enc y).toArray]) (VRels_cons.2 ⟨?_,VRels_cons.2 ⟨?_,by simp [VRels]⟩⟩)).mono ?_
  ·simp only [VRel]; exact ⟨enc x,rfl,(hrel _ _ _ _).2 rfl⟩
  ·simp only [VRel]; exact ⟨enc y,rfl,(hrel _ _ _ _).2 rfl⟩
  ·rintro e w' ⟨V,μ',rfl,q1,q2⟩
   exact ⟨by rw [q1.int],q2.grown⟩
 have hcall : Calls P (ρ.f 6) ⟨[.slice (some ⟨(μ b).blk,0 + 0,none⟩) d.length (capOf (μ b) 0 none),.func (.func g) #[] ⟨[]⟩]⟩ w _ := AnyQ.slices_SortFunc L k aE zE enc hk hone cf hO g #[] (μ b).blk 0 (capOf (μ b) 0 none) d.toArray w eg hcmp hHolds hblk (by simpa using hsz)
 rw [g6]
 refine hcall.mono ?_
 rintro e w' ⟨rfl,d',n,os,hp,hsd,rfl⟩
 obtain ⟨p1,p2⟩ := permIn_perm hp
 have hVd' : VRels μ M.length (d'.toList.flatMap encA) ((Sort.flatK enc k d').toList) := by
  have := flatK_list enc k hk d'.toList
  simp only [Array.toArray_toList] at this
  rw [this]; exact hfr _ _ _
 have hlen : (d'.toList.flatMap encA).length = d.length * k := by rw [hlA]; simp at p2; simp [p2]
 have hahead : HRel base μ M (Sort.ahead w n) := hH.sameHeap rfl
 have key := putRow_rel hahead hb (Sort.flatK enc k d') (d'.toList.flatMap encA) hVd' (by rw [hlen]; exact hdl)
 rw [hlen] at key
 have hgr : Gentle (Sort.putRow id (Sort.ahead w n) (μ b).blk 0 (Sort.flatK enc k d')) (sortWorldK enc k w (μ b).blk 0 n d' os) := by
  have := gentle_grow (Sort.putRow id (Sort.ahead w n) (μ b).blk 0 (Sort.flatK enc k d')) 0 os
  rw [Sort.ahead_zero] at this
  exact this
 refine ⟨.tuple #[],.tuple [],_,μ,rfl,by simp [VRel,VRels],hgr.hrel key.1,?_,rfl,d'.toList,by simpa using p1,sorted_pairwise (by rw [p2]; exact hsd),rfl⟩
 have s0 : Step M.length μ M w μ M (Sort.ahead w n) := ⟨Nat.le_refl _,fun _ _ => rfl,rfl,rfl,rfl,Nat.le_refl _,fun _ _ _ => rfl,fun b hb _ => ⟨b,hb,rfl⟩,Nat.le_add_right _ _⟩
 refine (s0.trans key.2).trans (hgr.step ?_)
 simp
end
end Go.Eng
