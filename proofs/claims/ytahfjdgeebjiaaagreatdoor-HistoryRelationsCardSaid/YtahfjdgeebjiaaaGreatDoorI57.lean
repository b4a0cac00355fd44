/-
The law HistoryRelations of package klippelaw30 returns true for every plan and every list of relations, and the deeds and the relations read afterwards as they read before.
Conditions: those of the given row alone: the package-level variables that it lists hold at the start what the program's text lays (the given tie closes that); nothing is asked of the arguments beyond what a Go program can hold.
How: an executable engine over abstract values, proved sound over the library's fenced calculus (parts I01 to I09), contracts of the program's functions by runs of that engine (I13 to I53), the plain laws of numbers, sheets and deeds (I10, I11), the closed run of known by the kernel, cut into remembered calls (I49), the row and its card (the last parts).
-/
import Derived.Test.YtahfjdgeebjiaaaGreatDoorI54
import Derived.Test.YtahfjdgeebjiaaaGreatDoorI11
import Derived.Test.YtahfjdgeebjiaaaGreatDoorI48
import Derived.Test.YtahfjdgeebjiaaaGreatDoorI52
import Derived.Test.YtahfjdgeebjiaaaGreatDoorI53
import Derived.Test.YtahfjdgeebjiaaaGreatDoorI56
import Derived.Deep.Slices
set_option linter.all false
namespace Go.Proofs.YtahfjdgeebjiaaaGreatDoor
open Go.ChangeShapes Go.WideShapes Go.ChangeAt Go.WideMaps Go.WideElems Go.RowKit Go.Eng
section
variable {H : Type} {enc : TypeId × Value → H} {P : Program} {w : World} {base : Nat} {spare : Nat → Bool} {held : Bool}
theorem open_rows {n : Nat} {t e : TypeId} {fuel : Nat} {cs : List Value} {x : DataW H × List MemPlace} (ht : P.underlying t = some (.slice e)) (ce : P.cellsOf e = n) (h : DataW.trod enc P w base spare held fuel t cs = some x) :
  cs = [.slice none 0 0] ∨ ∃ (a : Addr) (len cap : Nat),cs = [.slice (some a) len cap] ∧ len ≤ cap ∧ cap ≤ maxLen ∧ (spare a.block = true → ∀ i,i < cap → ∃ vs : List Value,vs.length = n ∧ (∀ j v,vs[j]? = some v → w.cell? (a.add (i * n + j)) = some v) ∧ ∃ m y,DataW.trod enc P w base spare held m e vs = some y) := by
 rcases Deep.open_slice ht h with h0 | ⟨a,len,cap,m,n',D,Pl,rfl,hb,hl,hm,hmm,rfl,hx⟩
 ·exact Or.inl h0.1
 right
 refine ⟨a,len,cap,rfl,hl,hm,fun hsp i hi => ?_⟩
 rw [hsp,if_pos rfl] at hmm
 obtain ⟨cs',h1,h2⟩ := hx i (by omega)
 rw [ce] at h1
 obtain ⟨_,hlen,hcell⟩ := World.cells?_some h1
 refine ⟨cs',hlen,fun j v hj => ?_,_,_,h2⟩
 have := hcell j (by rw [← hlen]; exact (List.getElem?_eq_some_iff.1 hj).1)
 rw [Deep.add_add] at this
 rw [this,hj]
theorem open_arr {n : Nat} {t e : TypeId} {fuel : Nat} {cs : List Value} {x : DataW H × List MemPlace} (ht : P.underlying t = some (.array n e)) (ce : P.cellsOf e = 1) (h : DataW.trod enc P w base spare held fuel t cs = some x) (i : Nat) (v : Value) (hi : i < n) (hv : cs[i]? = some v) :
  ∃ m y,DataW.trod enc P w base spare held m e [v] = some y := by
 obtain ⟨xs,m,_,_,_,hl,hf⟩ := DataW.trod_array ht h
 have := hf i hi
 rw [ce,Nat.mul_one] at this
 have e1 : (cs.drop i).take 1 = [v] := by
  have hlt := (List.getElem?_eq_some_iff.1 hv).1
  rw [List.drop_eq_getElem_cons hlt]
  rw [List.getElem?_eq_getElem hlt] at hv
  simp only [List.take_succ_cons,List.take_zero]
  rw [Option.some.inj hv]
 rw [e1] at this
 exact ⟨m,xs[i],by rw [this,List.getElem?_eq_getElem]⟩
end
theorem flatMap_get {α β : Type} {f : α → List β} {n : Nat} (hf : ∀ a,(f a).length = n) : ∀ (l : List α) (i r : Nat),r < n → (l.flatMap f)[i * n + r]? = (l[i]?).bind fun a => (f a)[r]?
 | [],i,r,_ => by simp
 | a :: l,0,r,hr => by
  rw [List.flatMap_cons,Nat.zero_mul,Nat.zero_add,List.getElem?_append_left (by rw [hf]; exact hr)]
  simp
 | a :: l,i + 1,r,hr => by
  rw [List.flatMap_cons,List.getElem?_append_right (by rw [hf,Nat.succ_mul]; omega),hf,Nat.succ_mul,show i * n + n + r - n = i * n + r by omega,flatMap_get hf l i r hr]
  simp
end Go.Proofs.YtahfjdgeebjiaaaGreatDoor
namespace Go.Proofs.YtahfjdgeebjiaaaGreatDoor
open Go.ChangeShapes Go.WideShapes Go.ChangeAt Go.WideMaps Go.WideElems Go.RowKit Go.Eng
theorem flatMap_len {α β : Type} {f : α → List β} {n : Nat} (hf : ∀ a,(f a).length = n) : ∀ l : List α,(l.flatMap f).length = l.length * n
 | [] => by simp
 | a :: l => by rw [List.flatMap_cons,List.length_append,hf,flatMap_len hf l,List.length_cons,Nat.succ_mul]; omega
def rowX (n : Nat) (o : Bool) (C : List AV) : Eng.Slot := if o then .cells false n C else .absent
def slX (o : Bool) (i n : Nat) : AV := if o then .slice i 0 n none else .nilslice
set_option maxRecDepth 100000 in
theorem open_list {H : Type} {enc : TypeId × Value → H} {W : World} {α : Type} [Inhabited α] {n0 : Nat} (vals : α → List Value) (cells : α → List AV) (good : α → Prop) {t e : TypeId} (hu : Tryz.prog.underlying t = some (.slice e)) (ce : Tryz.prog.cellsOf e = n0) (h0 : 0 < n0 ∧ n0 < 1000) (hcl : ∀ a,(cells a).length = n0)
  (hrel : ∀ (a : α) (r : Nat) (u : AV),(cells a)[r]? = some u → ∃ V,(vals a)[r]? = some V ∧ ∀ μ m,VRel μ m u V) (hdec : ∀ (n : Nat) (y : DataW H × List MemPlace) (vs : List Value),vs.length = n0 → DataW.trod enc Tryz.prog W 0 (fun _ => true) true n e vs = some y → ∃ a,good a ∧ vs = vals a)
  {n : Nat} {x : DataW H × List MemPlace} {b0 : Nat} {v : Value} (hval : Cell.okWide Tryz.prog W .any b0 t v) (h : DataW.trod enc Tryz.prog W 0 (fun _ => true) true n t [v] = some x) :
  ∃ (o : Bool) (L : List α) (pl : Eng.Place),(o = false → L = []) ∧ (∀ a ∈ L,good a) ∧ (∀ μ n base,SRel μ n base W pl (rowX n0 o (L.flatMap cells))) ∧ ∀ μ m i,μ i = pl → i < m → VRel μ m (slX o i L.length) v := by
 simp only [Cell.okWide,hu] at hval
 rcases open_rows hu ce h with h1 | ⟨a',len',cap',h1,h2,h3,h4⟩
 ·refine ⟨false,[],⟨0,0,0,0⟩,fun _ => rfl,(fun b hb => by cases hb),fun _ _ _ => trivial,fun μ m i _ _ => ?_⟩
  have : v = .slice none 0 0 := by simpa using h1
  rw [this]
  simp [slX,VRel]
 ·simp only [List.cons.injEq,and_true] at h1
  subst h1
  simp only [Cell.ok,hu] at hval
  obtain ⟨_,_,_,hsp,row,cells',hsh,_⟩ := hval
  have h7 := h4 rfl
  obtain ⟨q,hq⟩ := Deep.choose_lt h7
  obtain ⟨cur,el,fr,hb⟩ : ∃ cur el fr,W.heap[a'.block]? = some (.cells cur el fr) := by
   unfold World.shape? at hsh
   split at hsh
   ·rename_i c e f hh; exact ⟨_,_,_,hh⟩
   ·cases hsh
  obtain ⟨blk,off,spot⟩ := a'
  simp only at hsp hb
  subst hsp
  have cell : ∀ k,W.cell? ((⟨blk,off,none⟩ : Addr).add k) = cur[off + k]? := by
   intro k
   rw [show (⟨blk,off,none⟩ : Addr).add k = ⟨blk,off + k,none⟩ from add_plain _ _ _]
   unfold World.cell?
   simp only
   rw [hb]; rfl
  have hk : ∀ i,i < cap' → ∃ d : α,good d ∧ q i = vals d := by
   intro i hi
   obtain ⟨g1,_,m,y,g3⟩ := hq i hi
   exact hdec _ _ _ g1 g3
  obtain ⟨g,hg⟩ := Deep.choose_lt hk
  obtain ⟨B,hB⟩ : ∃ B,B = (List.range len').map g := ⟨_,rfl⟩
  have hlen : B.length = len' := by rw [hB]; simp
  have hget : ∀ i,i < len' → B[i]? = some (g i) := fun i hi => by rw [hB]; simp [hi]
  have hdl : (B.flatMap cells).length = len' * n0 := by rw [flatMap_len hcl,hlen]
  refine ⟨true,B,⟨blk,off,cap' * n0,n0⟩,(fun h => by cases h),fun b hb => ?_,fun μ n base => ?_,fun μ m i hi hin => ?_⟩
  ·rw [hB,List.mem_map] at hb
   obtain ⟨i,hi,rfl⟩ := hb
   exact (hg i (by have := List.mem_range.1 hi; omega)).1
  ·show SRel μ n base W _ (.cells false n0 (B.flatMap cells))
   simp only [SRel]
   refine ⟨cur,el,fr,hb,⟨by show n0 = n0 % 1000; omega,fun h => by omega⟩,by rw [hdl]; exact Nat.mul_le_mul_right _ h2,fun j u hj => ?_,fun h => by cases h⟩
   have hj2 : j < len' * n0 := by
    have := (List.getElem?_eq_some_iff.1 hj).1
    rw [hdl] at this; exact this
   have hi : j / n0 < len' := Nat.div_lt_of_lt_mul (by rw [Nat.mul_comm]; exact hj2)
   have hr : j % n0 < n0 := Nat.mod_lt _ h0.1
   have hje : j / n0 * n0 + j % n0 = j := by rw [Nat.mul_comm]; exact Nat.div_add_mod j n0
   have h1 := flatMap_get (f := cells) (n := n0) hcl B (j / n0) (j % n0) hr
   rw [hje,hj,hget _ hi] at h1
   simp only [Option.bind_some] at h1
   obtain ⟨V,k1,k2⟩ := hrel (g (j / n0)) (j % n0) u h1.symm
   obtain ⟨_,k3,_⟩ := hq (j / n0) (by omega)
   rw [(hg (j / n0) (by omega)).2] at k3
   have := k3 _ _ k1
   rw [cell,hje] at this
   exact ⟨V,this,k2 _ _⟩
  ·simp only [slX,if_true,VRel,capOf,hi]
   refine ⟨hin,?_⟩
   rw [hlen,Nat.add_zero,Nat.sub_zero,Nat.mul_div_cancel _ h0.1]
theorem noOwn_X {n m : Nat} (o o' : Bool) (A B : List AV) : ∀ b,¬ OwnAt [rowX n o A,rowX m o' B] b := by
 rintro b ⟨x,hx,ho⟩
 match b,hx with
 | 0,hx => cases hx; cases o <;> cases ho
 | 1,hx => cases hx; cases o' <;> cases ho
 | b + 2,hx => simp at hx
theorem hrel_X {W : World} {n m : Nat} {o o' : Bool} {A B : List AV} {pa pb : Eng.Place} (ha : ∀ μ k base,SRel μ k base W pa (rowX n o A)) (hb : ∀ μ k base,SRel μ k base W pb (rowX m o' B)) :
  HRel W.heap.size (fun i => if i = 0 then pa else pb) [rowX n o A,rowX m o' B] W := by
 refine ⟨Nat.le_refl _,fun b x hx => ?_,fun b b' s' ho => absurd ho (noOwn_X o o' A B b)⟩
 match b,hx with
 | 0,hx => cases hx; exact ha _ _ _
 | 1,hx => cases hx; exact hb _ _ _
 | b + 2,hx => simp at hx
end Go.Proofs.YtahfjdgeebjiaaaGreatDoor
namespace Go.Proofs.YtahfjdgeebjiaaaGreatDoor
open Go.ChangeShapes Go.WideShapes Go.ChangeAt Go.WideMaps Go.WideElems Go.RowKit Go.Eng
def dVals (d : Deed) : List Value := [.int .u8 d.kind,.int .i8 d.A.1,.int .i8 d.A.2.1,.int .i8 d.A.2.2,.int .i8 d.B.1,.int .i8 d.B.2.1,.int .i8 d.B.2.2,.int .i8 d.N,.int .u8 d.K.1,.int .u8 d.K.2.1,.int .u8 d.K.2.2.1,.int .u8 d.K.2.2.2]
theorem deed_rel (d : Deed) (r : Nat) (u : AV) (h : d.cells[r]? = some u) : ∃ V,(dVals d)[r]? = some V ∧ ∀ μ m,VRel μ m u V := by
 unfold Deed.cells at h
 match r,h with
 | 0,h | 1,h | 2,h | 3,h | 4,h | 5,h | 6,h | 7,h | 8,h | 9,h | 10,h | 11,h => simp at h; subst h; exact ⟨_,rfl,fun μ m => by simp [VRel]⟩
 | r + 12,h => simp at h
section
variable {H : Type} {enc : TypeId × Value → H} {W : World}
theorem trod_u8 {n : Nat} {y : DataW H × List MemPlace} {x : Value} (hx : DataW.trod enc Tryz.prog W 0 (fun _ => true) true n 5 [x] = some y) : ∃ k : Nat,k < 256 ∧ x = .int .u8 (k : Int) := by
 obtain ⟨z,hz,_,hw⟩ := DataW.trod_int Tryz.underlying5 hx
 simp only [List.cons.injEq,and_true] at hz
 simp only [Lit.wf,Bool.and_eq_true,decide_eq_true_eq] at hw
 have h1 : IntKind.u8.min = 0 := rfl
 have h2 : IntKind.u8.max = 255 := rfl
 rw [h1,h2] at hw
 exact ⟨z.toNat,by omega,by rw [hz,Int.toNat_of_nonneg hw.1]⟩
theorem trod_i8 {n : Nat} {y : DataW H × List MemPlace} {x : Value} (hx : DataW.trod enc Tryz.prog W 0 (fun _ => true) true n 22 [x] = some y) : ∃ k : Int,i8Ok k ∧ x = .int .i8 k := by
 obtain ⟨z,hz,_,hw⟩ := DataW.trod_int Tryz.underlying22 hx
 simp only [List.cons.injEq,and_true] at hz
 exact ⟨z,bounds_i8 hw,hz⟩
set_option maxRecDepth 100000 in
theorem open_deed {n : Nat} {y : DataW H × List MemPlace} {vs : List Value} (hl : vs.length = 12) (hx : DataW.trod enc Tryz.prog W 0 (fun _ => true) true n 100 vs = some y) : ∃ d : Deed,d.Ok ∧ vs = dVals d := by
 obtain ⟨xs,k,hk,hxy,_,hxl,hf⟩ := DataW.trod_struct Tryz.underlying100 hx
 match xs,hxl,vs,hl with
 | [y0,y1,y2,y3,y4],_,[v0,v1,v2,v3,v4,v5,v6,v7,v8,v9,v10,v11],_ =>
  have g0 := hf 0 _ rfl
  have g1 := hf 1 _ rfl
  have g2 := hf 2 _ rfl
  have g3 := hf 3 _ rfl
  have g4 := hf 4 _ rfl
  have c0 : Tryz.prog.cellsOf 5 = 1 := by kernel_rfl
  have c1 : Tryz.prog.cellsOf 22 = 1 := by kernel_rfl
  have c2 : Tryz.prog.cellsOf 97 = 3 := by kernel_rfl
  have c3 : Tryz.prog.cellsOf 98 = 4 := by kernel_rfl
  simp [c0,c1,c2,c3] at g0 g1 g2 g3 g4
  obtain ⟨k0,l0,rfl⟩ := trod_u8 g0
  obtain ⟨k7,l7,rfl⟩ := trod_i8 g3
  have a := open_arr Tryz.underlying97 c1 g1
  have b := open_arr Tryz.underlying97 c1 g2
  have c := open_arr Tryz.underlying98 c0 g4
  obtain ⟨_,_,t1⟩ := a 0 v1 (by decide) rfl
  obtain ⟨_,_,t2⟩ := a 1 v2 (by decide) rfl
  obtain ⟨_,_,t3⟩ := a 2 v3 (by decide) rfl
  obtain ⟨_,_,t4⟩ := b 0 v4 (by decide) rfl
  obtain ⟨_,_,t5⟩ := b 1 v5 (by decide) rfl
  obtain ⟨_,_,t6⟩ := b 2 v6 (by decide) rfl
  obtain ⟨_,_,t8⟩ := c 0 v8 (by decide) rfl
  obtain ⟨_,_,t9⟩ := c 1 v9 (by decide) rfl
  obtain ⟨_,_,t10⟩ := c 2 v10 (by decide) rfl
  obtain ⟨_,_,t11⟩ := c 3 v11 (by decide) rfl
  obtain ⟨k1,l1,rfl⟩ := trod_i8 t1
  obtain ⟨k2,l2,rfl⟩ := trod_i8 t2
  obtain ⟨k3,l3,rfl⟩ := trod_i8 t3
  obtain ⟨k4,l4,rfl⟩ := trod_i8 t4
  obtain ⟨k5,l5,rfl⟩ := trod_i8 t5
  obtain ⟨k6,l6,rfl⟩ := trod_i8 t6
  obtain ⟨k8,l8,rfl⟩ := trod_u8 t8
  obtain ⟨k9,l9,rfl⟩ := trod_u8 t9
  obtain ⟨k10,l10,rfl⟩ := trod_u8 t10
  obtain ⟨k11,l11,rfl⟩ := trod_u8 t11
  exact ⟨⟨k0,(k1,k2,k3),(k4,k5,k6),k7,(k8,k9,k10,k11)⟩,⟨l0,⟨l1,l2,l3⟩,⟨l4,l5,l6⟩,l7,⟨l8,l9,l10,l11⟩⟩,rfl⟩
instance : Inhabited Deed := ⟨⟨0,(0,0,0),(0,0,0),0,(0,0,0,0)⟩⟩
set_option maxRecDepth 100000 in
theorem open_deeds {n : Nat} {x : DataW H × List MemPlace} {b0 : Nat} {v : Value} (hval : Cell.okWide Tryz.prog W .any b0 26 v) (h : DataW.trod enc Tryz.prog W 0 (fun _ => true) true n 26 [v] = some x) :
  ∃ (o : Bool) (ds : List Deed) (pl : Eng.Place),(o = false → ds = []) ∧ (∀ d ∈ ds,d.Ok) ∧ (∀ μ n base,SRel μ n base W pl (rowX 12 o (deedsC ds))) ∧ ∀ μ m i,μ i = pl → i < m → VRel μ m (slX o i ds.length) v :=
 open_list dVals Deed.cells Deed.Ok Tryz.underlying26 (by kernel_rfl) (by decide) (fun _ => rfl) deed_rel (fun _ _ _ hl hx => open_deed hl hx) hval h
set_option maxRecDepth 100000 in
theorem open_plan {b0 : Nat} {v : Value} {d : DataW H} {p : List MemPlace} (hval : Value.okWide Tryz.prog W .any b0 28 v) (h : DataW.Trod enc Tryz.prog W 0 (fun _ => true) true 28 v d p) :
  ∃ (s : Sheet) (sl : Value),s.Ok ∧ v = .agg #[.int .u8 (s.kind : Int),.int .i8 s.sx,.int .i8 s.sy,.bool s.half,sl] ∧
   ∃ (o : Bool) (ds : List Deed) (pl : Eng.Place),(o = false → ds = []) ∧ (∀ d ∈ ds,d.Ok) ∧ (∀ μ n base,SRel μ n base W pl (rowX 12 o (deedsC ds))) ∧ ∀ μ m i,μ i = pl → i < m → VRel μ m (slX o i ds.length) sl := by
 obtain ⟨fuel,hf⟩ := h
 have hu := Tryz.underlying28
 simp only [Value.okWide,hu] at hval
 obtain ⟨cs,rfl,hcs,ts,hts,_,hrow⟩ := hval
 have hcl : (Value.agg cs).cells.toList.length = 5 := by
  simp only [Value.cells,Array.length_toList,hcs]
  kernel_rfl
 obtain ⟨xs,k,hk,hxy,_,hxl,hg⟩ := DataW.trod_struct hu hf
 obtain ⟨vs,hvs⟩ : ∃ vs,vs = (Value.agg cs).cells.toList := ⟨_,rfl⟩
 rw [← hvs] at hcl hg
 match xs,hxl,vs,hcl with
 | [y0,y1],_,[v0,v1,v2,v3,v4],_ =>
  have g0 := hg 0 _ rfl
  have g1 := hg 1 _ rfl
  have c0 : Tryz.prog.cellsOf 25 = 4 := by kernel_rfl
  have c1 : Tryz.prog.cellsOf 26 = 1 := by kernel_rfl
  simp [c0,c1] at g0 g1
  obtain ⟨zs,k',hk',_,_,hzl,hz⟩ := DataW.trod_struct Tryz.underlying25 g0
  match zs,hzl with
  | [z0,z1,z2],_ =>
   have f0 := hz 0 _ rfl
   have f1 := hz 1 _ rfl
   have f2 := hz 2 _ rfl
   have d0 : Tryz.prog.cellsOf 5 = 1 := by kernel_rfl
   have d1 : Tryz.prog.cellsOf 23 = 2 := by kernel_rfl
   have d2 : Tryz.prog.cellsOf 4 = 1 := by kernel_rfl
   have d3 : Tryz.prog.cellsOf 22 = 1 := by kernel_rfl
   simp [d0,d1,d2] at f0 f1 f2
   obtain ⟨k0,l0,rfl⟩ := trod_u8 f0
   obtain ⟨_,_,t1⟩ := open_arr Tryz.underlying23 d3 f1 0 v1 (by decide) rfl
   obtain ⟨_,_,t2⟩ := open_arr Tryz.underlying23 d3 f1 1 v2 (by decide) rfl
   obtain ⟨k1,l1,rfl⟩ := trod_i8 t1
   obtain ⟨k2,l2,rfl⟩ := trod_i8 t2
   obtain ⟨bv,hbv,_⟩ := DataW.trod_bool Tryz.underlying4 f2
   simp only [List.cons.injEq,and_true] at hbv
   subst hbv
   have e4 : cs[4]? = some v4 := by
    have : (Value.agg cs).cells.toList = cs.toList := rfl
    rw [this] at hvs
    have := congrArg (fun l => l[4]?) hvs
    simpa using this.symm
   obtain ⟨u,hu4,hok⟩ := hrow 4 v4 e4
   have hts' : Tryz.prog.cellTypes Tryz.prog.depth 28 = some [5,22,22,4,26] := by kernel_rfl
   rw [hts'] at hts
   cases hts
   simp at hu4
   subst hu4
   refine ⟨⟨k0,k1,k2,bv⟩,v4,⟨l0,l1.1,l1.2,l2.1,l2.2⟩,?_,open_deeds hok g1⟩
   congr 1
   apply Array.ext'
   have : (Value.agg cs).cells.toList = cs.toList := rfl
   rw [this] at hvs
   rw [← hvs]
def rVals (x : Rel) : List Value := [.int .i64 x.1,.string ⟨x.2.1.toArray⟩,.string ⟨x.2.2.toArray⟩]
theorem rel_rel (x : Rel) (r : Nat) (u : AV) (h : [AV.int .i64 x.1,.str x.2.1,.str x.2.2][r]? = some u) : ∃ V,(rVals x)[r]? = some V ∧ ∀ μ m,VRel μ m u V := by
 match r,h with
 | 0,h | 1,h | 2,h => simp at h; subst h; exact ⟨_,rfl,fun μ m => by simp [VRel]⟩
 | r + 3,h => simp at h
set_option maxRecDepth 100000 in
theorem open_rel {n : Nat} {y : DataW H × List MemPlace} {vs : List Value} (hl : vs.length = 3) (hx : DataW.trod enc Tryz.prog W 0 (fun _ => true) true n 77 vs = some y) : ∃ x : Rel,True ∧ vs = rVals x := by
 obtain ⟨xs,k,hk,hxy,_,hxl,hf⟩ := DataW.trod_struct Tryz.underlying77 hx
 match xs,hxl,vs,hl with
 | [y0,y1,y2],_,[v0,v1,v2],_ =>
  have g0 := hf 0 _ rfl
  have g1 := hf 1 _ rfl
  have g2 := hf 2 _ rfl
  have c0 : Tryz.prog.cellsOf 3 = 1 := by kernel_rfl
  have c1 : Tryz.prog.cellsOf 9 = 1 := by kernel_rfl
  simp [c0,c1] at g0 g1 g2
  obtain ⟨z,hz,_,_⟩ := DataW.trod_int Tryz.underlying3 g0
  obtain ⟨s1,h1,_,_⟩ := DataW.trod_string Tryz.underlying9 g1
  obtain ⟨s2,h2,_,_⟩ := DataW.trod_string Tryz.underlying9 g2
  simp only [List.cons.injEq,and_true] at hz h1 h2
  subst hz h1 h2
  exact ⟨(z,s1.data.toList,s2.data.toList),trivial,rfl⟩
set_option maxRecDepth 100000 in
theorem open_rels {b0 : Nat} {v : Value} {d : DataW H} {p : List MemPlace} (hval : Value.okWide Tryz.prog W .any b0 74 v) (h : DataW.Trod enc Tryz.prog W 0 (fun _ => true) true 74 v d p) :
  ∃ (o : Bool) (R : List Rel) (pl : Eng.Place),(o = false → R = []) ∧ (∀ μ n base,SRel μ n base W pl (rowX 3 o (rlC R))) ∧ ∀ μ m i,μ i = pl → i < m → VRel μ m (slX o i R.length) v := by
 obtain ⟨fuel,hf⟩ := h
 have hu := Tryz.underlying74
 simp only [Value.okWide,hu] at hval
 have hv : v.cells.toList = [v] := by cases v <;> simp_all [Cell.okWide,Cell.ok,Value.cells]
 rw [hv] at hf
 obtain ⟨o,R,pl,g1,_,g2,g3⟩ := open_list rVals (fun x : Rel => [.int .i64 x.1,.str x.2.1,.str x.2.2]) (fun _ => True) hu (by kernel_rfl) (by decide) (fun _ => rfl) rel_rel (fun _ _ _ hl hx => open_rel hl hx) hval hf
 exact ⟨o,R,pl,g1,g2,g3⟩
end
end Go.Proofs.YtahfjdgeebjiaaaGreatDoor
namespace Go.Proofs.YtahfjdgeebjiaaaGreatDoor
open Go.ChangeShapes Go.WideShapes Go.ChangeAt Go.WideMaps Go.WideElems Go.RowKit Go.Eng
theorem plan_rel {μ : Nat → Eng.Place} {n : Nat} {s : Sheet} {a : AV} {sl : Value} (h : VRel μ n a sl) : VRel μ n (planV s a) (.agg #[.int .u8 (s.kind : Int),.int .i8 s.sx,.int .i8 s.sy,.bool s.half,sl]) := by
 unfold planV
 simp only [VRel]
 exact ⟨_,rfl,VRels_cons.2 ⟨by simp [VRel],VRels_cons.2 ⟨by simp [VRel],VRels_cons.2 ⟨by simp [VRel],VRels_cons.2 ⟨by simp [VRel],VRels_cons.2 ⟨h,by simp [VRels]⟩⟩⟩⟩⟩⟩
set_option maxRecDepth 100000 in
theorem historyRelations_lifted (os : Os) (started : os.Started) (H : Type) (enc : TypeId × Value → H) :
  ReturnsInHanded {} Tryz.checked os 4 .any (fun w args => (Rows.historyRelationsSpec.pre enc Tryz.prog Tryz.f4 [] false w args ∧ laidMetH Tryz.prog laidAll w) ∧ sizedMet enc Tryz.prog Tryz.f4 (OpenSpec.ofChange Rows.historyRelationsSpec) false w args)
   (Rows.historyRelationsSpec.post enc Tryz.prog Tryz.f4 false true false false) := by
 refine returnsInHanded_of_change_and (C := Tryz.checked) (X := fun w _ => laidMetH Tryz.prog laidAll w) (fun _ _ _ hh h => h.of_heap hh) own started (by kernel_rfl) Tryz.func4
  (ChangeSpec.witness_shaped (enc := enc) (C := Tryz.checked) (os := os) (X := fun w _ => laidMetH Tryz.prog laidAll w) false (World.doorLaid Tryz.prog 400 os) #[.agg #[.int .u8 0,.int .i8 0,.int .i8 0,.bool false,.slice none 0 0],.slice none 0 0] 8 rfl (World.shaped_of_RefB (by kernel_rfl) (by kernel_rfl)) (by kernel_rfl) (by kernel_rfl) (by kernel_rfl) (door_met os _)) ?_
 intro W base args ds gs before hval0 hW _ _ hL _
 have hval : ∀ (j : Nat) t v,Tryz.f4.params[j]? = some t → args[j]? = some v → Value.okWide Tryz.prog W .any base t v := hval0
 have hW' := hW
 obtain ⟨p,q,hA0,hV,hpq,hfz,hnd⟩ := hW
 have hA : DataW.TrodAll enc Tryz.prog W 0 (fun _ => true) true Tryz.f4.params.toList args.toList ds p := hA0
 have hpar : Tryz.f4.params = #[28,74] := rfl
 rw [hpar] at hA hval
 obtain ⟨v0,v1,d0,d1,p0,p1,hargs,rfl,rfl,h0,h1⟩ := trodAll_two hA
 subst hargs
 obtain ⟨rfl,rfl⟩ := trodVars_none hV
 have hG := glob_of_laid hL
 have hlt : ∀ x ∈ before,x.block < W.heap.size := hW'.lt
 have fin : ∀ (W' : World),Below W.heap.size W W' → Rows.historyRelationsSpec.post enc Tryz.prog Tryz.f4 false true false false W #[v0,v1] (.bool true) W' := by
  intro W' hb
  refine post_true rfl hW' hb hpq rfl rfl rfl fun sp hsp => ?_
  rw [hpar]
  rw [List.append_nil]
  have hm : ∀ x ∈ p0 ++ p1,x ∈ before := fun x hx => by rw [hpq,List.append_nil]; exact hx
  have m0 : ∀ x ∈ p0,x ∈ p0 ++ p1 := fun x hx => List.mem_append_left _ hx
  have m1 : ∀ x ∈ p1,x ∈ p0 ++ p1 := fun x hx => List.mem_append_right _ hx
  exact trodAll_mk2 (Trod_stays laidOut (by kernel_rfl) (of_decide_eq_true (by kernel_rfl)) h0 (fun x hx => hb.same (hlt x (hm x (m0 x hx)))) (fun x hx => hsp x (hm x (m0 x hx))))
   (Trod_stays laidOut (by kernel_rfl) (of_decide_eq_true (by kernel_rfl)) h1 (fun x hx => hb.same (hlt x (hm x (m1 x hx)))) (fun x hx => hsp x (hm x (m1 x hx))))
 obtain ⟨s,sl,hs,hv,o,ds,pa,od,hd,ra,va⟩ := open_plan (hval 0 28 v0 rfl rfl) h0
 obtain ⟨o',R,pb,oR,rb,vb⟩ := open_rels (hval 1 74 v1 rfl rfl) h1
 have hx : PlanAt ds (rowX 12 o (deedsC ds)) (slX o 0 ds.length) := by
  cases o
  ·exact .inl ⟨od rfl,rfl⟩
  ·exact .inr ⟨rfl,rfl⟩
 have hr : RlArg R (rowX 3 o' (rlC R)) (slX o' 1 R.length) := by
  cases o'
  ·exact .inl ⟨rfl,oR rfl⟩
  ·exact .inr ⟨rfl,rfl⟩
 refine ((Tryz.aHistoryRelations s hs ds hd _ _ _ hx R _ hr).2 W.heap.size (fun i => if i = 0 then pa else pb) W [v0,v1] hG (hrel_X ra rb) (VRels_cons.2 ⟨by rw [hv]; exact plan_rel (va _ _ _ rfl (by simp)),VRels_cons.2 ⟨vb _ _ _ rfl (by simp),by simp [VRels]⟩⟩)).mono ?_
 rintro e W' ⟨V,v',m',μ',rfl,q1,q2,q3,rfl,rfl⟩
 simp only [VRel] at q1
 subst q1
 exact ⟨_,rfl,fin W' (kept_of q3 (noOwn_X o o' _ _))⟩
end Go.Proofs.YtahfjdgeebjiaaaGreatDoor
namespace Go.Proofs.YtahfjdgeebjiaaaGreatDoor
open Go.ChangeShapes Go.WideShapes Go.ChangeAt Go.WideMaps Go.WideElems Go.RowKit Go.Eng
set_option maxHeartbeats 40000000 in
set_option maxRecDepth 100000 in
theorem historyRelations_row : Rows.HistoryRelationsSaid :=
 OpenClaim.holds_of_wide 4 Tryz.f4 rfl rfl rfl rfl rfl rfl rfl ⟨rfl,rfl,rfl,rfl,rfl⟩ rfl rfl rfl rfl rfl (by as_aux_lemma => kernel_rfl) Tryz.func4 historyRelations_facts
  (of_decide_eq_true (by as_aux_lemma => kernel_rfl)) (by unfold Func.isWrapper; first | (rw [if_pos (by decide +kernel)]; kernel_rfl) | (rw [if_neg (by decide +kernel)]; exact ⟨rfl,rfl⟩))
  (fun os started H enc _ => historyRelations_lifted os started H enc)
end Go.Proofs.YtahfjdgeebjiaaaGreatDoor
namespace Go.Proofs.YtahfjdgeebjiaaaGreatDoor
open Go.ChangeShapes Go.WideShapes Go.ChangeAt Go.WideMaps Go.WideElems Go.RowKit Go.Eng
set_option maxHeartbeats 40000000 in
set_option maxRecDepth 100000 in
theorem historyRelations_card : Rows.HistoryRelationsCardSaid :=
 Claim7.holds_tied_plain_at .later [] [.data,.data,.data,.sentinel,.sentinel] true (true,"d976ce6e159c9476462327590d89ddbd84ea140f394d5bdcde75f261a6add298") true
  historyRelations_row (fun _ h => by cases h) (by as_aux_lemma => kernel_rfl) (fun _ h => by cases h) historyRelations_row_tie rfl ⟨rfl,rfl⟩ (by as_aux_lemma => kernel_rfl) rfl
  (fun f fn hf hfn => by
   obtain rfl : f = 4 := Option.some.inj ((show Tryz.prog.funcNamed Rows.historyRelationsRow.func = some 4 by as_aux_lemma => kernel_rfl).symm.trans hf) |>.symm
   obtain rfl : fn = Tryz.f4 := (Option.some.inj (Tryz.func4.symm.trans hfn)).symm
   exact ⟨by as_aux_lemma => kernel_rfl,fun j t ht => by
    have hp : Tryz.f4.params = #[28,74] := rfl
    rw [hp] at ht
    match j,ht with
    | 0,ht => simp at ht; subst ht; exact (show Tryz.prog.wantsStandIn 28 = false by as_aux_lemma => kernel_rfl)
    | 1,ht => simp at ht; subst ht; exact (show Tryz.prog.wantsStandIn 74 = false by as_aux_lemma => kernel_rfl)
    | j + 2,ht => simp at ht⟩)
  (by as_aux_lemma => kernel_rfl)
#print axioms historyRelations_card
end Go.Proofs.YtahfjdgeebjiaaaGreatDoor
