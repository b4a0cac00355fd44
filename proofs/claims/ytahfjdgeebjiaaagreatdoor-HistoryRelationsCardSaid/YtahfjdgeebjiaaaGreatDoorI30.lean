/- See I57. -/
import Derived.Test.YtahfjdgeebjiaaaGreatDoorI29
import Derived.Test.YtahfjdgeebjiaaaGreatDoorI09
set_option linter.all false
namespace Go.Proofs
open Go.Eng
theorem baseL_small (d : Deed) (n : Nat) : ∀ z ∈ baseL d n,z.natAbs ≤ 100 := by
 intro z hz
 unfold baseL at hz
 obtain ⟨k,_,rfl⟩ := List.mem_map.1 hz
 have := baseZ_le (d := d) k
 omega
theorem surfL_small (d : Deed) (n : Nat) : ∀ z ∈ surfL d 0 (baseL d n) n,z.natAbs ≤ 100 := by
 intro z hz
 unfold surfL at hz
 obtain ⟨k,hk,rfl⟩ := List.mem_map.1 hz
 have hk := List.mem_range.1 hk
 have h1 : (baseL d n).getD k 0 = baseZ d k := by simp [baseL,List.getD_eq_getElem?_getD,hk]
 rw [h1]
 have h2 := baseZ_le (d := d) k
 unfold stepZ
 have h3 : nth4 d.K ((0 + k) % 4) % 4 < 4 := Nat.mod_lt _ (by decide)
 omega
set_option maxRecDepth 8192 in
set_option maxHeartbeats 12800000 in
theorem Tryz.aDeposit_1 (d : Deed) (hd : d.Ok) (n k i : Nat) (hi : i < 6) (hn : 0 < n) (hl : n ≤ 1000) (hJ : d.K.1 % 3 = 1) :
  ACallsTo Tryz.prog 51 [.agg [.slice 0 0 n none,.slice 1 0 k none],.agg d.cells,.int .i64 i] [.absent,.absent] (depV n 1) ([.absent,.absent] ++ depNew d n i 1) := by
 have hG : fnOf Tryz.prog 51 = some Tryz.f51 := by kernel_rfl
 obtain ⟨b,b2,b3,hb⟩ : ∃ b b2 b3,loopsF Tryz.f51 = [b,b2,b3] := ⟨_,_,_,rfl⟩
 obtain ⟨K,hK⟩ : ∃ K,K = n + 1 := ⟨_,rfl⟩
 obtain ⟨F,hF⟩ := Tryz.dep_loop1 (K := K + 5) d hd n k [letter i,49] hl (by omega) hb
 have e0 : depM1 d n k [letter i,49] 0 = [.absent,.absent,.cells true 0 [.slice 0 0 n none,.slice 1 0 k none],.cells true 0 d.cells,.cells true 0 [.nilslice,.nilslice,.nilslice],.cells true 1 namesC,.cells true 1 [.str [letter i,49]],.cells true 0 [.nilslice,.slice 6 0 1 none,.nilslice]] := rfl
 have hdn : decide (0 < n) = true := by simpa using hn
 rw [depM1_pos hn,e0,hdn] at hF
 have hF1 := fun env0 h => (hF env0 h).1
 have hG4 := fun env0 h => (hF env0 h).2.1
 have hG7 := fun env0 h => (hF env0 h).2.2.1
 have hG6 := fun env0 h => (hF env0 h).2.2.2.1
 have hG2 := fun env0 h => (hF env0 h).2.2.2.2
 clear hF
 obtain ⟨I0,hI⟩ := Tryz.dep_in0 (K := K + 5) d hd n k [letter i,49] (baseL d n) (baseL_length d n) (baseL_small d n) hn hl (by omega) hb
 have hu := fun s => execC_loop (tyOf Tryz.prog) Tryz.depLv Tryz.dpO (K + 5) 102 2 true s b2
 simp only [depS0] at hI
 have p1 := fun env0 df h => (hI env0 df h).1
 have p11 := fun env0 df h => (hI env0 df h).2.1
 have pt2 := fun env0 df h => (hI env0 df h).2.2 2 (by simp)
 have pt4 := fun env0 df h => (hI env0 df h).2.2 4 (by simp)
 have pt6 := fun env0 df h => (hI env0 df h).2.2 6 (by simp)
 have pt7 := fun env0 df h => (hI env0 df h).2.2 7 (by simp)
 have pt9 := fun env0 df h => (hI env0 df h).2.2 9 (by simp)
 have pt10 := fun env0 df h => (hI env0 df h).2.2 10 (by simp)
 have pt53 := fun env0 df h => (hI env0 df h).2.2 53 (by simp)
 have pt54 := fun env0 df h => (hI env0 df h).2.2 54 (by simp)
 clear hI
 simp [loopsF,loopsC,Tryz.f51] at hb
 obtain ⟨rfl,rfl,rfl⟩ := hb
 have hna := nC_at hi
 have hK8 : d.cells[8]? = some (.int .u8 (d.K.1 : Nat)) := rfl
 have t3 : ((d.K.1 : Nat) : Int).tmod 3 = 1 := by
  have : ((d.K.1 : Nat) : Int).tmod 3 = ((d.K.1 % 3 : Nat) : Int) := rfl
  rw [this,hJ]; rfl
 have w1 : IntKind.i64.wrap 1 = 1 := rfl
 have w2 : IntKind.i64.wrap 2 = 2 := rfl
 have w3 : IntKind.i64.wrap 3 = 3 := rfl
 have z2 : zS 2 = [50] := rfl
 have z3 : zS 3 = [51] := rfl
 have w1' : IntKind.i64.wrap (1 + 1) = 2 := rfl
 have w3' : IntKind.i64.wrap (1 + 2) = 3 := rfl
 have w2' : IntKind.i64.wrap (0 + 2) = 2 := rfl
 have w0 : IntKind.i64.wrap 0 = 0 := rfl
 have hi' : (i : Int) < 6 := by omega
 have h : callFn (tyOf Tryz.prog) Tryz.depLv (fnOf Tryz.prog) Tryz.dpO (K + 5) 51 [.agg [.slice 0 0 n none,.slice 1 0 k none],.agg d.cells,.int .i64 i] [.absent,.absent] = some ⟨depV n 1,some [.absent,.absent],depNew d n i 1⟩ := by
  simp [callFn,hG,Tryz.f51,hF1,hG4,hG7,hG6,hG2,Tryz.dpO,hna,hi,hi',hK8,t3,w0,dc_len,dc_refs,dc_ren,dc_ok,nC_refs,nC_ok,nC_ren,nC_len,qC_refs,qC_ren,hu,iter,p1,p11,pt2,pt4,pt6,pt7,pt9,pt10,pt53,pt54,w1,w2,w3,z2,z3,w1',w2',w3',pureO,Tryz.dlF3,Nat.testBit,List.idxOf?_cons,List.idxOf?_cons,Tryz.depLv,depV,depNew,unitsL,hRow,maxInt,aBuild,fieldPlaces]
  repeat' (first | rfl | apply And.intro)
 have := (callFn_sound Tryz.mixed (tyOf_ok _) Tryz.dpO_ok (fnOf_ok _) h).1
 simpa [CallRes.mem] using this
set_option maxRecDepth 8192 in
set_option maxHeartbeats 12800000 in
theorem Tryz.aDeposit_2 (d : Deed) (hd : d.Ok) (n k i : Nat) (hi : i < 6) (hn : 0 < n) (hl : n ≤ 1000) (hJ : d.K.1 % 3 = 2) :
  ACallsTo Tryz.prog 51 [.agg [.slice 0 0 n none,.slice 1 0 k none],.agg d.cells,.int .i64 i] [.absent,.absent] (depV n 2) ([.absent,.absent] ++ depNew d n i 2) := by
 have hG : fnOf Tryz.prog 51 = some Tryz.f51 := by kernel_rfl
 obtain ⟨b,b2,b3,hb⟩ : ∃ b b2 b3,loopsF Tryz.f51 = [b,b2,b3] := ⟨_,_,_,rfl⟩
 obtain ⟨K,hK⟩ : ∃ K,K = n + 1 := ⟨_,rfl⟩
 obtain ⟨F,hF⟩ := Tryz.dep_loop1 (K := K + 5) d hd n k [letter i,49] hl (by omega) hb
 have e0 : depM1 d n k [letter i,49] 0 = [.absent,.absent,.cells true 0 [.slice 0 0 n none,.slice 1 0 k none],.cells true 0 d.cells,.cells true 0 [.nilslice,.nilslice,.nilslice],.cells true 1 namesC,.cells true 1 [.str [letter i,49]],.cells true 0 [.nilslice,.slice 6 0 1 none,.nilslice]] := rfl
 have hdn : decide (0 < n) = true := by simpa using hn
 rw [depM1_pos hn,e0,hdn] at hF
 have hF1 := fun env0 h => (hF env0 h).1
 have hG4 := fun env0 h => (hF env0 h).2.1
 have hG7 := fun env0 h => (hF env0 h).2.2.1
 have hG6 := fun env0 h => (hF env0 h).2.2.2.1
 have hG2 := fun env0 h => (hF env0 h).2.2.2.2
 clear hF
 obtain ⟨I0,hI⟩ := Tryz.dep_in0 (K := K + 5) d hd n k [letter i,49] (baseL d n) (baseL_length d n) (baseL_small d n) hn hl (by omega) hb
 obtain ⟨I1,hJJ⟩ := Tryz.dep_in1 (K := K + 5) d hd n k [letter i,49] [letter i,50] (baseL d n) (surfL d 0 (baseL d n) n) (surfL_length _ _ _ _) (surfL_small d n) hn hl (by omega) hb
 have hu := fun s => execC_loop (tyOf Tryz.prog) Tryz.depLv Tryz.dpO (K + 5) 102 2 true s b2
 simp only [depS0] at hI
 simp only [depS1] at hJJ
 have p1 := fun env0 df h => (hI env0 df h).1
 have p11 := fun env0 df h => (hI env0 df h).2.1
 have pt2 := fun env0 df h => (hI env0 df h).2.2 2 (by simp)
 have pt4 := fun env0 df h => (hI env0 df h).2.2 4 (by simp)
 have pt6 := fun env0 df h => (hI env0 df h).2.2 6 (by simp)
 have pt7 := fun env0 df h => (hI env0 df h).2.2 7 (by simp)
 have pt9 := fun env0 df h => (hI env0 df h).2.2 9 (by simp)
 have pt10 := fun env0 df h => (hI env0 df h).2.2 10 (by simp)
 have pt53 := fun env0 df h => (hI env0 df h).2.2 53 (by simp)
 have pt54 := fun env0 df h => (hI env0 df h).2.2 54 (by simp)
 have q1 := fun env0 df h => (hJJ env0 df h).1
 have q11 := fun env0 df h => (hJJ env0 df h).2.1
 have qt2 := fun env0 df h => (hJJ env0 df h).2.2 2 (by simp)
 have qt4 := fun env0 df h => (hJJ env0 df h).2.2 4 (by simp)
 have qt6 := fun env0 df h => (hJJ env0 df h).2.2 6 (by simp)
 have qt7 := fun env0 df h => (hJJ env0 df h).2.2 7 (by simp)
 have qt9 := fun env0 df h => (hJJ env0 df h).2.2 9 (by simp)
 have qt10 := fun env0 df h => (hJJ env0 df h).2.2 10 (by simp)
 have qt53 := fun env0 df h => (hJJ env0 df h).2.2 53 (by simp)
 have qt54 := fun env0 df h => (hJJ env0 df h).2.2 54 (by simp)
 clear hI hJJ
 simp [loopsF,loopsC,Tryz.f51] at hb
 obtain ⟨rfl,rfl,rfl⟩ := hb
 have hna := nC_at hi
 have hK8 : d.cells[8]? = some (.int .u8 (d.K.1 : Nat)) := rfl
 have t3 : ((d.K.1 : Nat) : Int).tmod 3 = 2 := by
  have : ((d.K.1 : Nat) : Int).tmod 3 = ((d.K.1 % 3 : Nat) : Int) := rfl
  rw [this,hJ]; rfl
 have w1 : IntKind.i64.wrap 1 = 1 := rfl
 have w2 : IntKind.i64.wrap 2 = 2 := rfl
 have w3 : IntKind.i64.wrap 3 = 3 := rfl
 have z2 : zS 2 = [50] := rfl
 have z3 : zS 3 = [51] := rfl
 have w1' : IntKind.i64.wrap (1 + 1) = 2 := rfl
 have w3' : IntKind.i64.wrap (1 + 2) = 3 := rfl
 have w2' : IntKind.i64.wrap (0 + 2) = 2 := rfl
 have w0 : IntKind.i64.wrap 0 = 0 := rfl
 have hi' : (i : Int) < 6 := by omega
 have h : callFn (tyOf Tryz.prog) Tryz.depLv (fnOf Tryz.prog) Tryz.dpO (K + 5) 51 [.agg [.slice 0 0 n none,.slice 1 0 k none],.agg d.cells,.int .i64 i] [.absent,.absent] = some ⟨depV n 2,some [.absent,.absent],depNew d n i 2⟩ := by
  simp [callFn,hG,Tryz.f51,hF1,hG4,hG7,hG6,hG2,Tryz.dpO,hna,hi,hi',hK8,t3,w0,dc_len,dc_refs,dc_ren,dc_ok,nC_refs,nC_ok,nC_ren,nC_len,qC_refs,qC_ren,hu,iter,p1,p11,pt2,pt4,pt6,pt7,pt9,pt10,pt53,pt54,q1,q11,qt2,qt4,qt6,qt7,qt9,qt10,qt53,qt54,w1,w2,w3,z2,z3,w1',w2',w3',pureO,Tryz.dlF3,Nat.testBit,List.idxOf?_cons,List.idxOf?_cons,Tryz.depLv,depV,depNew,unitsL,hRow,maxInt,aBuild,fieldPlaces]
  repeat' (first | rfl | apply And.intro)
 have := (callFn_sound Tryz.mixed (tyOf_ok _) Tryz.dpO_ok (fnOf_ok _) h).1
 simpa [CallRes.mem] using this
def evDep (nm : List UInt8) (b u s : AV) : List AV := [.int .i64 1,.str nm,b,u,s,.str [],.str [],.str [],.str [],.str [],.str [],.str [],.str [],.str [],.str [],.nilslice,.str [],.str [],.str [],.str [],.str [],.str [],.str [],.str [],.str [],.int .i64 0,.int .i64 0,.int .i64 0,.int .i64 0,.str [],.str [],.str []]
def evFault (nm : List UInt8) (n : Z3) (o : Int) (s : Z3) : List AV := [.int .i64 2,.str nm,.nilslice,.nilslice,.nilslice,.str (zS n.1),.str (zS n.2.1),.str (zS n.2.2),.str (zS o),.str (zS s.1),.str (zS s.2.1),.str (zS s.2.2),.str [],.str [],.str [],.nilslice,.str [],.str [],.str [],.str [],.str [],.str [],.str [],.str [],.str [],.int .i64 0,.int .i64 0,.int .i64 0,.int .i64 0,.str [],.str [],.str []]
def evFold (nm : List UInt8) (n : Z3) (k : AV) (s : Z3) : List AV := [.int .i64 3,.str nm,.nilslice,.nilslice,.nilslice,.str [],.str [],.str [],.str [],.str [],.str [],.str [],.str (zS n.1),.str (zS n.2.1),.str (zS n.2.2),k,.str (zS s.1),.str (zS s.2.1),.str (zS s.2.2),.str [],.str [],.str [],.str [],.str [],.str [],.int .i64 0,.int .i64 0,.int .i64 0,.int .i64 0,.str [],.str [],.str []]
def evDike (nm : List UInt8) (n : Z3) (o : Int) (w : Int) (u : List UInt8) : List AV := [.int .i64 4,.str nm,.nilslice,.nilslice,.nilslice,.str [],.str [],.str [],.str [],.str [],.str [],.str [],.str [],.str [],.str [],.nilslice,.str [],.str [],.str [],.str (zS n.1),.str (zS n.2.1),.str (zS n.2.2),.str (zS o),.str (ratS (hQ w)),.str u,.int .i64 0,.int .i64 0,.int .i64 0,.int .i64 0,.str [],.str [],.str []]
def evTilt (nm : List UInt8) (t : Int × Int × Int × Int) (c : Z3) : List AV := [.int .i64 5,.str nm,.nilslice,.nilslice,.nilslice,.str [],.str [],.str [],.str [],.str [],.str [],.str [],.str [],.str [],.str [],.nilslice,.str [],.str [],.str [],.str [],.str [],.str [],.str [],.str [],.str [],.int .i64 t.1,.int .i64 t.2.1,.int .i64 t.2.2.1,.int .i64 t.2.2.2,.str (zS c.1),.str (zS c.2.1),.str (zS c.2.2)]
def evName (i : Nat) : List UInt8 := 101 :: zS i
def dikeName (i : Nat) : List UInt8 := 107 :: zS i
def turnT : Nat → Int × Int × Int × Int
 | 0 => (1,0,0,1)
 | 1 => (2,1,0,0)
 | 2 => (1,1,1,1)
 | 3 => (3,0,1,0)
 | 4 => (0,1,0,0)
 | _ => (1,0,0,0)
def depVb (m n : Nat) : Nat → AV
 | 0 => .agg [.slice m 0 n none,.slice (m + 1) 0 1 none,.nilslice]
 | 1 => .agg [.slice m 0 n none,.slice (m + 1) 0 2 none,.slice (m + 2) 0 1 none]
 | _ => .agg [.slice m 0 n none,.slice (m + 1) 0 3 none,.slice (m + 2) 0 2 none]
def depNb (m : Nat) (d : Deed) (n i : Nat) : Nat → Mem
 | 0 => [hRow (baseL d n),.cells true 1 ((unitsL i 0).map .str)]
 | 1 => [hRow (baseL d n),.cells true 1 ((unitsL i 1).map .str),.cells true 1 [.slice (m + 3) 0 n none],hRow (surfL d 0 (baseL d n) n)]
 | _ => [hRow (baseL d n),.cells true 1 ((unitsL i 2).map .str),.cells true 1 [.slice (m + 3) 0 n none,.slice (m + 4) 0 n none],hRow (surfL d 0 (baseL d n) n),hRow (surfL d 1 (surfL d 0 (baseL d n) n) n)]
theorem Tryz.aDepositM (d : Deed) (hd : d.Ok) (n k i : Nat) (hi : i < 6) (hn : 0 < n) (hl : n ≤ 1000) (M : Mem) (b c : Nat) (hb : b < M.length) (hc : c < M.length) :
  ACallsTo Tryz.prog 51 [.agg [.slice b 0 n none,.slice c 0 k none],.agg d.cells,.int .i64 i] M (depVb M.length n (d.K.1 % 3)) (M ++ depNb M.length d n i (d.K.1 % 3)) := by
 have hlt : d.K.1 % 3 < 3 := Nat.mod_lt _ (by decide)
 have key : ∀ J,d.K.1 % 3 = J → J < 3 → ACallsTo Tryz.prog 51 [.agg [.slice 0 0 n none,.slice 1 0 k none],.agg d.cells,.int .i64 i] [.absent,.absent] (depV n J) ([.absent,.absent] ++ depNew d n i J) := by
  intro J hJ hJ3
  have : J = 0 ∨ J = 1 ∨ J = 2 := by omega
  rcases this with rfl | rfl | rfl
  ·exact Tryz.aDeposit_0 d hd n k i hi hn hl hJ
  ·exact Tryz.aDeposit_1 d hd n k i hi hn hl hJ
  ·exact Tryz.aDeposit_2 d hd n k i hi hn hl hJ
 have h0 := key _ rfl hlt
 obtain ⟨J,hJ⟩ : ∃ J,J = d.K.1 % 3 := ⟨_,rfl⟩
 rw [← hJ] at hlt h0 ⊢
 have := ACallsTo.frame (M := M) (new := depNew d n i J) (args := [.agg [.slice 0 0 n none,.slice 1 0 k none],.agg d.cells,.int .i64 i]) [b,c] (m := [.absent,.absent]) rfl (by
  intro k hk
  simp only [List.mem_cons,List.not_mem_nil,or_false] at hk
  rcases hk with rfl | rfl
  ·exact hb
  ·exact hc) (by rfl) (fun i s hs => by
  match i with
  | 0 => simp at hs; subst hs; trivial
  | 1 => simp at hs; subst hs; trivial
  | i + 2 => simp at hs) (by
  have : J = 0 ∨ J = 1 ∨ J = 2 := by omega
  rcases this with rfl | rfl | rfl <;> rfl) h0
 have hJ3 : J = 0 ∨ J = 1 ∨ J = 2 := by omega
 rcases hJ3 with rfl | rfl | rfl <;> simpa [AV.rens,AV.ren,back,Slot.ren,depV,depNew,depVb,depNb,hRow,qC_ren,unitsL,dc_ren] using this
open Classical in
noncomputable def Tryz.deO (d : Deed) : Oracle := fun c args M => match c,args with
 | .fn 50,[.agg [.int .i8 a,.int .i8 b,.int .i8 c]] => if z3Le 200 (a,b,c) then some ⟨zA (normalZ (a,b,c)),none,[]⟩ else none
 | .fn 52,[.agg [.str s,.str t,.str u],.agg [.str s',.str t',.str u']] => match ratP s,ratP t,ratP u,ratP s',ratP t',ratP u' with
  | some a,some b,some c,some d,some e,some f => if (a.den = 1 ∧ b.den = 1 ∧ c.den = 1 ∧ d.den = 1 ∧ e.den = 1 ∧ f.den = 1) ∧ z3Le 2 (a.num,b.num,c.num) ∧ z3Le 2 (d.num,e.num,f.num) then some ⟨zA (acrossZ (a.num,b.num,c.num) (d.num,e.num,f.num)),none,[]⟩ else none
  | _,_,_,_,_,_ => none
 | .fn 26,[.int .i64 a,.int .i64 b,.int .i64 c] => if a.natAbs ≤ 10000 ∧ b.natAbs ≤ 10000 ∧ c.natAbs ≤ 10000 then some ⟨zA (a,b,c),none,[]⟩ else none
 | .fn 51,[.agg [.slice b 0 n none,.slice c 0 _ none],.agg cs,.int .i64 i] => if cs = d.cells ∧ 0 ≤ i ∧ i < 6 ∧ 0 < n ∧ n ≤ 1000 ∧ b < M.length ∧ c < M.length then some ⟨depVb M.length n (d.K.1 % 3),none,depNb M.length d n i.toNat (d.K.1 % 3)⟩ else none
 | c,args => pureO Tryz.dlF3 c args M
theorem Tryz.deO_ok (d : Deed) (hd : d.Ok) : OracleOk Tryz.prog (Tryz.deO d) := by
 refine oracleOk_of fun c args M r h => ?_
 unfold Tryz.deO at h
 split at h
 ·split at h
  ·rename_i hc
   cases h
   refine soundAt_call ?_
   rw [List.append_nil]
   exact Tryz.aLNormal _ hc M
  ·cases h
 ·split at h
  ·rename_i a b c d e f ha hb hc hd he hf
   split at h
   ·rename_i hcond
    obtain ⟨⟨d1,d2,d3,d4,d5,d6⟩,c1,c2⟩ := hcond
    cases h
    refine soundAt_call ?_
    rw [List.append_nil]
    rw [ratP_some ha,ratP_some hb,ratP_some hc,ratP_some hd,ratP_some he,ratP_some hf]
    have := Tryz.aLAcross (a.num,b.num,c.num) (d.num,e.num,f.num) c1 c2 M
    unfold zA at this
    simp only at this
    have k : ∀ q : Rat,q.den = 1 → zS q.num = ratS q := fun q hq => by unfold zS; rw [← int_of_den hq]
    rw [k a d1,k b d2,k c d3,k d d4,k e d5,k f d6] at this
    exact this
   ·cases h
  ·cases h
 ·split at h
  ·rename_i hc
   cases h
   refine soundAt_call ?_
   rw [List.append_nil]
   exact Tryz.aLSpot (_,_,_) hc M
  ·cases h
 ·rename_i b n c k cs i
  split at h
  ·rename_i hc
   obtain ⟨rfl,h1,h2,h3,h4,h5,h6⟩ := hc
   cases h
   refine soundAt_call ?_
   have := Tryz.aDepositM d hd n k i.toNat (by omega) h3 h4 M b c h5 h6
   rw [Int.toNat_of_nonneg h1] at this
   exact this
  ·cases h
 ·exact soundAt_of Tryz.dl3_ok h
theorem dc_8 (d : Deed) : d.cells[8]? = some (.int .u8 (d.K.1 : Nat)) := rfl
theorem dc_0 (d : Deed) : d.cells[0]? = some (.int .u8 (d.kind : Nat)) := rfl
theorem dc_4 (d : Deed) : d.cells[4]? = some (.int .i8 d.B.1) := rfl
theorem dc_5 (d : Deed) : d.cells[5]? = some (.int .i8 d.B.2.1) := rfl
theorem dc_6 (d : Deed) : d.cells[6]? = some (.int .i8 d.B.2.2) := rfl
theorem dc_A (d : Deed) : d.cells.tail.take 3 = [.int .i8 d.A.1,.int .i8 d.A.2.1,.int .i8 d.A.2.2] := rfl
theorem fits3 {v : Int × Int × Int} (h : i83Ok v) : z3Le 200 v := by
 obtain ⟨h1,h2,h3⟩ := h
 unfold i8Ok at h1 h2 h3
 exact ⟨by omega,by omega,by omega⟩
set_option maxRecDepth 8192 in
set_option maxHeartbeats 12800000 in
theorem Tryz.aDeal_fault (d : Deed) (hd : d.Ok) (n k i : Nat) (hi : i < 6) (hn : 0 < n) (hl : n ≤ 1000) (hk : d.kind % 5 = 1) :
  ACallsTo Tryz.prog 29 [.agg [.slice 0 0 n none,.slice 1 0 k none],.agg d.cells,.int .i64 i] [.absent,.absent] (.agg (evFault (evName i) (normalZ d.A) (d.N.tmod 5) (acrossZ (normalZ d.A) (mod3 d.B)))) ([.absent,.absent] ++ []) := by
 have hG : fnOf Tryz.prog 29 = some Tryz.f29 := by kernel_rfl
 obtain ⟨os,hops⟩ : ∃ os,drawsF Tryz.f29 = os := ⟨_,rfl⟩
 have hbs := draws_map hops (ls := [[0,0,2,6,14,30,63,0,255],[0,1,3,7,15,0,32,96,255,0,1023],[0,0,0,4,12,28,60,0,128,384,896,1920,0,4096,12288,28672,61440,131068,262142,524287,1048575,2097151],[0,0,0,4,12,28,60,0,128,384,896,1920,0,4096,12288,28672,61440,131068,262142,524287,1048575,2097151],[0,1,3,0,8,24,56,0,128,504,1016,0,0,6144,14336,30720,63488,129024,0,262144,786432,1835008,3932160,8126464,16777208,33554424,67108856,134217727,268435455,536870911,1073741823],[0,0,2,6,14,30,62,126,0,510,1022,2047,4095,8191],[0,0,0,0,0,0,63,0,128,384,896,2047,4095,0,8192,24576,57344,122880,0,262144,786432,1835008,3932160,0,8388608,25165824,58720256,125829120,268427264,536870911,1073741823,2147483647]]) (by kernel_rfl)
 simp only [drawsF,drawsC,Tryz.f29,List.nil_append,List.append_nil,List.cons_append] at hops
 subst hops
 simp only [List.map_cons,List.map_nil,List.cons.injEq,and_true] at hbs
 obtain ⟨hb0,hb1,hb2,hb3,hb4,hb5,hb6⟩ := hbs
 have a08 : allBef [0,0,2,6,14,30,63,0,255] 8 = true := by decide
 have a110 : allBef [0,1,3,7,15,0,32,96,255,0,1023] 10 = true := by decide
 have a221 : allBef [0,0,0,4,12,28,60,0,128,384,896,1920,0,4096,12288,28672,61440,131068,262142,524287,1048575,2097151] 21 = true := by decide
 have a513 : allBef [0,0,2,6,14,30,62,126,0,510,1022,2047,4095,8191] 13 = true := by decide
 have a631 : allBef [0,0,0,0,0,0,63,0,128,384,896,2047,4095,0,8192,24576,57344,122880,0,262144,786432,1835008,3932160,0,8388608,25165824,58720256,125829120,268427264,536870911,1073741823,2147483647] 31 = true := by decide
 have hN := hd.N
 have hB := fits3 hd.B
 have hA := fits3 hd.A
 have n1 := normalZ_le d.A
 have m1 := mod3_le d.B
 have q3 := tmodk d.N 5 (by decide)
 have h8 := dc_8 d
 have h0 := dc_0 d
 have h4 := dc_4 d
 have h5 := dc_5 d
 have h6 := dc_6 d
 have h7 := dc_N d
 have h1 := dc_A d
 have l0 := dc_len d
 have r0 := dc_refs d
 have o0 := dc_ok d
 have okd := Tryz.deO_ok d hd
 clear hd
 obtain ⟨kd,⟨A1,A2,A3⟩,⟨B1,B2,B3⟩,N,⟨K1,K2,K3,K4⟩⟩ := d
 simp only at hk hN hB hA n1 m1 q3 h8 h0 h4 h5 h6 h7 h1 ⊢
 simp only [Int.cast_ofNat_Int] at q3
 unfold i8Ok at hN
 obtain ⟨hB1,hB2,hB3⟩ := hB
 simp only at hB1 hB2 hB3
 have wN : IntKind.i64.wrap N = N := wrap_sm (by omega) (by omega)
 have wB1 : IntKind.i64.wrap B1 = B1 := wrap_sm (by omega) (by omega)
 have wB2 : IntKind.i64.wrap B2 = B2 := wrap_sm (by omega) (by omega)
 have wB3 : IntKind.i64.wrap B3 = B3 := wrap_sm (by omega) (by omega)
 have hkt : ((kd : Nat) : Int).tmod 5 = 1 := by
  have : ((kd : Nat) : Int).tmod 5 = ((kd % 5 : Nat) : Int) := rfl
  rw [this,hk]; rfl
 obtain ⟨⟨nx,ny,nz⟩,e1⟩ : ∃ v,v = normalZ (A1,A2,A3) := ⟨_,rfl⟩
 rw [← e1] at n1
 have e2 : mod3 (B1,B2,B3) = (B1.tmod 3,B2.tmod 3,B3.tmod 3) := rfl
 rw [e2] at m1
 obtain ⟨o,ho⟩ : ∃ o,o = N.tmod 5 := ⟨_,rfl⟩
 rw [← ho] at q3
 have go : o.natAbs < 100000000 := by omega
 have gi : i < 100000000 := by omega
 obtain ⟨bx,hbx⟩ : ∃ o,o = B1.tmod 3 := ⟨_,rfl⟩
 obtain ⟨by',hby⟩ : ∃ o,o = B2.tmod 3 := ⟨_,rfl⟩
 obtain ⟨bz,hbz⟩ : ∃ o,o = B3.tmod 3 := ⟨_,rfl⟩
 rw [← hbx,← hby,← hbz] at m1 e2
 obtain ⟨g1,g2,g3⟩ := m1
 simp only at g1 g2 g3
 have g1' : bx.natAbs ≤ 10000 := by omega
 have g2' : by'.natAbs ≤ 10000 := by omega
 have g3' : bz.natAbs ≤ 10000 := by omega
 have m2 : z3Le 2 (bx,by',bz) := ⟨g1,g2,g3⟩
 obtain ⟨C,hC⟩ : ∃ C,C = Deed.cells ⟨kd,(A1,A2,A3),(B1,B2,B3),N,(K1,K2,K3,K4)⟩ := ⟨_,rfl⟩
 rw [← hC] at h8 h0 h4 h5 h6 h7 h1 l0 r0 o0
 have hC' : Deed.cells ⟨kd,(A1,A2,A3),(B1,B2,B3),N,(K1,K2,K3,K4)⟩ = C := hC.symm
 have tk : C.take 12 = C := List.take_of_length_le (by omega)
 have j8 : ∀ h,C[8]'h = _ := fun h => Option.some.inj ((List.getElem?_eq_getElem h).symm.trans h8)
 have j0 : ∀ h,C[0]'h = _ := fun h => Option.some.inj ((List.getElem?_eq_getElem h).symm.trans h0)
 have j4 : ∀ h,C[4]'h = _ := fun h => Option.some.inj ((List.getElem?_eq_getElem h).symm.trans h4)
 have j5 : ∀ h,C[5]'h = _ := fun h => Option.some.inj ((List.getElem?_eq_getElem h).symm.trans h5)
 have j6 : ∀ h,C[6]'h = _ := fun h => Option.some.inj ((List.getElem?_eq_getElem h).symm.trans h6)
 have j7 : ∀ h,C[7]'h = _ := fun h => Option.some.inj ((List.getElem?_eq_getElem h).symm.trans h7)
 have hp := ratP_zS
 have w1 : IntKind.i64.wrap 1 = 1 := rfl
 have w2 : IntKind.i64.wrap 2 = 2 := rfl
 have w3 : IntKind.i64.wrap 3 = 3 := rfl
 have w4 : IntKind.i64.wrap 4 = 4 := rfl
 have w5 : IntKind.i64.wrap 5 = 5 := rfl
 have w0 : IntKind.i64.wrap 0 = 0 := rfl
 have u12 : IntKind.i64.wrap (1 + 1) = 2 := rfl
 have u13 : IntKind.i64.wrap (1 + 2) = 3 := rfl
 have u14 : IntKind.i64.wrap (1 + 3) = 4 := rfl
 have u15 : IntKind.i64.wrap (1 + 4) = 5 := rfl
 have hip := zS_len (n := (i : Int)) (by omega)
 have hip' : (zS (i : Int)).length + 1 ≤ 9223372036854775807 := by unfold zS; omega
 have hip2 : 1 + (zS (i : Int)).length ≤ 9223372036854775807 := by omega
 have h : callFn (tyOf Tryz.prog) (fun _ => []) (fnOf Tryz.prog) (Tryz.deO ⟨kd,(A1,A2,A3),(B1,B2,B3),N,(K1,K2,K3,K4)⟩) 1 29 [.agg [.slice 0 0 n none,.slice 1 0 k none],.agg C,.int .i64 i] [.absent,.absent] = some ⟨(.agg (evFault (evName i) (normalZ (A1,A2,A3)) (N.tmod 5) (acrossZ (normalZ (A1,A2,A3)) (mod3 (B1,B2,B3))))),none,[]⟩ := by
  rw [e2,← e1,← ho]
  obtain ⟨⟨sx,sy,sz⟩,hs⟩ : ∃ v,v = acrossZ (nx,ny,nz) (bx,by',bz) := ⟨_,rfl⟩
  rw [← hs]
  simp [callFn,hG,Tryz.f29,Tryz.deO,pureO,Tryz.dlF3,zA,l0,r0,o0,j8,j0,j4,j5,j6,j7,h1,hA,← e1,hC',tk,hkt,wN,wB1,wB2,wB3,← ho,← hbx,← hby,← hbz,go,gi,g1',g2',g3',hp,n1,m2,w0,w1,w2,w3,w4,w5,u12,u13,u14,u15,hip',hip2,maxInt,aBuild,fieldPlaces,-runDraw,runDraw_shy hb0,runDraw_shy hb1,runDraw_shy hb2,runDrawN,shyAll,shyAt,shyRec,quietR,isAbs,bef,a08,a110,a221,Nat.testBit,← hs,evFault,evName]
 have := (callFn_sound Tryz.mixed (tyOf_ok _) okd (fnOf_ok _) h).1
 rw [← hC]
 simpa [CallRes.mem] using this
end Go.Proofs
