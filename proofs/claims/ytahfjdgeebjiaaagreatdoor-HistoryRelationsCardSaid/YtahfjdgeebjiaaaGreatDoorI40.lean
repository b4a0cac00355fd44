/- See I57. -/
import Derived.Test.YtahfjdgeebjiaaaGreatDoorI37
import Derived.Test.YtahfjdgeebjiaaaGreatDoorI38
import Derived.Test.YtahfjdgeebjiaaaGreatDoorI39
set_option linter.all false
namespace Go.Proofs
open Go.Eng
theorem pC_kC : ∀ L : List P2,pC L = kC (kT L)
 | [] => rfl
 | p :: L => by
  have := pC_kC L
  simp [pC,kC,kT,this]
theorem knot_chk (d : Deed) (j : Nat) (hj : j < 3) : chkR (ratS (knotP d j).1) = 0 ∧ chkR (ratS (knotP d j).2) = 0 := by
 have h3 : -3 < d.N.tmod 3 ∧ d.N.tmod 3 < 3 := tmodk d.N 3 (by decide)
 have hk : nth4 d.K j % 4 < 4 := Nat.mod_lt _ (by decide)
 obtain ⟨u,hu⟩ : ∃ u,u = nth4 d.K j % 4 := ⟨_,rfl⟩
 rw [← hu] at hk
 refine ⟨chkZ (n := d.N.tmod 3 + 2 * j) (by omega),?_⟩
 have hd : d.K.2.2.2 % 2 < 2 := Nat.mod_lt _ (by decide)
 obtain ⟨v,hv⟩ : ∃ v,v = d.K.2.2.2 % 2 := ⟨_,rfl⟩
 rw [← hv] at hd
 have : dg 3 1 (mkRat ((u : Int) - 1) (1 + v)) := dg_mkRat (by omega) (by omega) (by omega)
 unfold knotP
 rw [← hu,← hv]
 exact chkR_dg (this.mono (by omega) (by omega))
theorem knots_E (d : Deed) (c : Nat) (h1 : 0 < c) (hc : c ≤ 3) : knE (kT (knotsL d c)) = 0 := by
 have k0 := knot_chk d 0 (by omega)
 have k1 := knot_chk d 1 (by omega)
 have k2 := knot_chk d 2 (by omega)
 have p : ∀ q : Rat,ratP (ratS q) = some q := ratP_ratS
 have l : ∀ i j : Nat,i < j → (knotP d i).1 < (knotP d j).1 := fun i j h => by
  simp only [knotP]
  exact_mod_cast (by omega : d.N.tmod 3 + 2 * (i : Int) < d.N.tmod 3 + 2 * (j : Int))
 have l1 := l 0 1 (by omega)
 have l2 := l 1 2 (by omega)
 have r1 : List.range 1 = [0] := rfl
 have r2 : List.range 2 = [0,1] := rfl
 have r3 : List.range 3 = [0,1,2] := rfl
 have : c = 1 ∨ c = 2 ∨ c = 3 := by omega
 rcases this with rfl | rfl | rfl
 ·simp [knE,knotsL,r1,kT,ckE,k0,p,risesB]
 ·simp [knE,knotsL,r2,kT,ckE,k0,k1,p,risesB,l1]
 ·simp [knE,knotsL,r3,kT,ckE,k0,k1,k2,p,risesB,l1,l2]
theorem Tryz.aECheckKnotsD (d : Deed) (c : Nat) (h1 : 0 < c) (hc : c ≤ 3) (M : Mem) (b : Nat) (o : Bool) (hb : M[b]? = some (.cells o 2 (pC (knotsL d c)))) :
  ACallsTo Tryz.prog 284 [.slice b 0 c none] M (.int .i64 0) M := by
 have hl : (kT (knotsL d c)).length = c := by rw [kT_length,knotsL_length]
 have h := Tryz.aECheckKnots (kT (knotsL d c)) (fun q hq => by
  simp only [kT,knotsL,List.map_map,List.mem_map,List.mem_range] at hq
  obtain ⟨j,hj,rfl⟩ := hq
  have h3 : -3 < d.N.tmod 3 ∧ d.N.tmod 3 < 3 := tmodk d.N 3 (by decide)
  obtain ⟨u,hu⟩ : ∃ u,u = nth4 d.K j % 4 := ⟨_,rfl⟩
  have hk : u < 4 := by rw [hu]; exact Nat.mod_lt _ (by decide)
  obtain ⟨v,hv⟩ : ∃ v,v = d.K.2.2.2 % 2 := ⟨_,rfl⟩
  have hd : v < 2 := by rw [hv]; exact Nat.mod_lt _ (by decide)
  have e1 : dg 3 1 (mkRat ((u : Int) - 1) (1 + v)) := dg_mkRat (by omega) (by omega) (by omega)
  have b2 : big 3 (mkRat ((u : Int) - 1) (1 + v)) := ⟨e1.1,by have := e1.2; omega⟩
  have e2 := big_length (by decide) b2
  have e3 := zS_len (n := d.N.tmod 3 + 2 * j) (by omega)
  have f1 : (((fun q => (ratS q.1,ratS q.2)) ∘ knotP d) j).1 = zS (d.N.tmod 3 + 2 * j) := rfl
  have f2 : (((fun q => (ratS q.1,ratS q.2)) ∘ knotP d) j).2 = ratS (mkRat ((u : Int) - 1) (1 + v)) := by rw [hu,hv]; rfl
  rw [f1,f2]
  exact ⟨by unfold zS; omega,by omega⟩) (by omega)
 rw [hl,knots_E d c h1 hc,← pC_kC] at h
 exact ACallsTo.rows1R (rest := []) (pC_closed _) rfl rfl h ⟨b,o,_,rfl,hb,List.take_length⟩
theorem Tryz.eqKnot (d : Nat) (a b : List UInt8) : eqTy (tyOf Tryz.prog) (d + 2) 141 (.agg [.str a,.str b]) (.agg [.str a,.str b]) = some true := by
 have i := Tryz.eqTxt d
 rw [eqTy]
 simp [eqFs,partA,TyI.isAgg,i]
set_option maxHeartbeats 1600000 in
theorem Tryz.aKEq0 (L : List P2) (h1 : 0 < L.length) (hc : L.length ≤ 3) :
  ACallsTo Tryz.prog 144 [.slice 0 0 L.length none,.slice 0 0 L.length none] [.cells false 2 (pC L)] (.bool true) [.cells false 2 (pC L)] := by
 have hG : fnOf Tryz.prog 144 = some Tryz.f144 := by kernel_rfl
 obtain ⟨os,hops⟩ : ∃ os,drawsF Tryz.f144 = os := ⟨_,rfl⟩
 have hbs := draws_map hops (ls := [[0,0,3,7,0,0,48,112,255]]) (by kernel_rfl)
 simp only [drawsF,drawsC,Tryz.f144,List.nil_append,List.append_nil,List.cons_append] at hops
 subst hops
 simp only [List.map_cons,List.map_nil,List.cons.injEq,and_true] at hbs
 have a0 : allBef [0,0,3,7,0,0,48,112,255] 8 = true := by decide
 have e := fun d => Tryz.eqKnot d
 have w1 : IntKind.i64.wrap 1 = 1 := rfl
 have w2 : IntKind.i64.wrap 2 = 2 := rfl
 have w3 : IntKind.i64.wrap 3 = 3 := rfl
 have h : callFn (tyOf Tryz.prog) (fun _ => [13]) (fnOf Tryz.prog) noOracle 5 144 [.slice 0 0 L.length none,.slice 0 0 L.length none] [.cells false 2 (pC L)] = some ⟨.bool true,none,[]⟩ := by
  match L,h1,hc with
  | [p],_,_ => simp [-runDraw,runDraw_light hbs,runDrawL,lightAll,lightRec,a0,Nat.testBit,callFn,hG,Tryz.f144,execC_loop,iter,pC,e,w1,w2,w3]
  | [p,q],_,_ => simp [-runDraw,runDraw_light hbs,runDrawL,lightAll,lightRec,a0,Nat.testBit,callFn,hG,Tryz.f144,execC_loop,iter,pC,e,w1,w2,w3]
  | [p,q,r],_,_ => simp [-runDraw,runDraw_light hbs,runDrawL,lightAll,lightRec,a0,Nat.testBit,callFn,hG,Tryz.f144,execC_loop,iter,pC,e,w1,w2,w3]
 have := (callFn_sound Tryz.mixed (tyOf_ok _) (noOracle_ok _) (fnOf_ok _) h).1
 simpa [CallRes.mem] using this
theorem Tryz.aKEq (L : List P2) (h1 : 0 < L.length) (hc : L.length ≤ 3) (M : Mem) (b : Nat) (o : Bool) (hb : M[b]? = some (.cells o 2 (pC L))) :
  ACallsTo Tryz.prog 144 [.slice b 0 L.length none,.slice b 0 L.length none] M (.bool true) M := by
 have hlt := (List.getElem?_eq_some_iff.1 hb).1
 have := ACallsTo.frame (M := M) (new := []) [b] rfl (by simpa using hlt) (by rfl) (fun i t hs => by
  match i with
  | 0 => simp at hs; subst hs; exact rowC_sub (pC_closed _) hb List.take_length
  | i + 1 => simp at hs) rfl (Tryz.aKEq0 L h1 hc)
 simpa [AV.rens,AV.ren,back] using this
open Classical in
noncomputable def condO (f : FuncId) (args : List AV) (v : AV) (p : Mem → Prop) : Oracle := fun c a M => if c = .fn f ∧ a = args ∧ p M then some ⟨v,none,[]⟩ else none
theorem condO_ok {P : Program} {f : FuncId} {args : List AV} {v : AV} {p : Mem → Prop} (h : ∀ M,p M → ACallsTo P f args M v M) : OracleOk P (condO f args v p) := by
 have k : ∀ c a M r,condO f args v p c a M = some r → (c = .fn f ∧ a = args ∧ p M) ∧ r = ⟨v,none,[]⟩ := fun c a M r hr => by
  unfold condO at hr
  split at hr
  ·cases hr; exact ⟨‹_›,rfl⟩
  ·cases hr
 refine ⟨fun g a M r hr => ?_,fun b a M r hr => ?_,fun c a M r q hr hq => ?_⟩
 ·obtain ⟨⟨h1,rfl,h2⟩,rfl⟩ := k _ _ _ _ hr
  cases h1
  simpa [CallRes.mem] using h M h2
 ·obtain ⟨⟨h1,_⟩,_⟩ := k _ _ _ _ hr
  cases h1
 ·obtain ⟨_,rfl⟩ := k _ _ _ _ hr
  cases hq
theorem Tryz.aEEq_fold (nm : List UInt8) (n : Z3) (L : List P2) (s : Z3) (h1 : 0 < L.length) (hc : L.length ≤ 3) (M : Mem) (b : Nat) (o : Bool) (hb : M[b]? = some (.cells o 2 (pC L))) :
  ACallsTo Tryz.prog 88 [.agg (evFold nm n (.slice b 0 L.length none) s),.agg (evFold nm n (.slice b 0 L.length none) s)] M (.bool true) M := by
 have hlt := (List.getElem?_eq_some_iff.1 hb).1
 refine Tryz.aEEqG (OracleOk.or' Tryz.kO2_ok (condO_ok (f := 144) (args := [.slice b 0 L.length none,.slice b 0 L.length none]) (v := .bool true) (p := fun M' => M'[b]? = some (.cells o 2 (pC L))) fun M' h => Tryz.aKEq L h1 hc M' b o h)) rfl rfl rfl ?_
 have : (M ++ [.cells true 0 (evFold nm n (.slice b 0 L.length none) s),.cells true 0 (evFold nm n (.slice b 0 L.length none) s)])[b]? = some (.cells o 2 (pC L)) := by rw [List.getElem?_append_left hlt]; exact hb
 unfold Oracle.or
 rw [show Tryz.kO2 (.fn 144) [.slice b 0 L.length none,.slice b 0 L.length none] _ = none from rfl]
 simp only [condO]
 exact if_pos ⟨rfl,rfl,this⟩
def Tryz.kindFold : AV := .agg [.func 210 [],.func 211 [],.func 212 [],.func 213 [],.func 214 []]
theorem Tryz.aEOf_fold0 (nm : List UInt8) (n : Z3) (c : Nat) (s : Z3) : ACallsTo Tryz.prog 87 [.agg (evFold nm n (.slice 0 0 c none) s)] [.absent] Tryz.kindFold [.absent] := by
 have h : callFn (tyOf Tryz.prog) writesC (fnOf Tryz.prog) Tryz.kO1 6 87 [.agg (evFold nm n (.slice 0 0 c none) s)] [.absent] = some ⟨Tryz.kindFold,none,[]⟩ := by as_aux_lemma => kernel_rfl
 have := (callFn_sound Tryz.mixed (tyOf_ok _) Tryz.kO1_ok (fnOf_ok _) h).1
 simpa [CallRes.mem] using this
theorem Tryz.aEOf_fold (nm : List UInt8) (n : Z3) (c : Nat) (s : Z3) (M : Mem) (b : Nat) (hb : b < M.length) : ACallsTo Tryz.prog 87 [.agg (evFold nm n (.slice b 0 c none) s)] M Tryz.kindFold M := by
 have := ACallsTo.frame (M := M) (new := []) [b] rfl (by simpa using hb) (by rfl) (fun i t hs => by
  match i with
  | 0 => simp at hs; subst hs; trivial
  | i + 1 => simp at hs) rfl (Tryz.aEOf_fold0 nm n c s)
 simpa [evFold,AV.rens,AV.ren,back,Tryz.kindFold] using this
noncomputable def Tryz.ckLFold (n s : Z3) : List (FuncId × List AV × AV) := [
 (68,[zA n],.int .i64 0),
 (283,[zA s,zA n],.int .i64 0)]
theorem Tryz.aCkFold (nm : List UInt8) (n s : Z3) (d : Deed) (c : Nat) (h1 : 0 < c) (hc : c ≤ 3) (hn : z3Le 99 n) (hz : zeroZ n = false) (hs : z3Le 99 s) (hd : dotZ s n = 0) (x y : AV) (m : Mem) (b : Nat) (o : Bool) (hb : m[b]? = some (.cells o 2 (pC (knotsL d c)))) :
  ACallsTo Tryz.prog 211 [.agg [x,y],.agg (evFold nm n (.slice b 0 c none) s)] m (.int .i64 0) m := by
 have hG : fnOf Tryz.prog 211 = some Tryz.f211 := by kernel_rfl
 have hlt := (List.getElem?_eq_some_iff.1 hb).1
 have hO1 : OracleOk Tryz.prog (pureO (factF (Tryz.ckLFold n s))) := factF_ok fun e he M => by
  simp only [Tryz.ckLFold,List.mem_cons,List.not_mem_nil,or_false] at he
  rcases he with rfl | rfl
  ·exact Tryz.aVCheckZ n hn M
  ·exact Tryz.aAlong s n hs hn hd M
 have hO2 : OracleOk Tryz.prog (condO 284 [.slice b 0 c none] (.int .i64 0) (fun M => ∃ ext,M = m ++ ext)) := condO_ok fun M hM => by
  obtain ⟨ext,rfl⟩ := hM
  exact Tryz.aECheckKnotsD d c h1 hc _ b o (by rw [List.getElem?_append_left hlt]; exact hb)
 have hO := OracleOk.or' hO1 hO2
 have e1 := zS_zero n.1
 have e2 := zS_zero n.2.1
 have e3 := zS_zero n.2.2
 have hbz : ((zS n.1 == [48] && zS n.2.1 == [48]) && zS n.2.2 == [48]) = false := by rw [e1,e2,e3]; exact hz
 clear hO1 hO2 hb hlt hd hs hz hn e1 e2 e3
 obtain ⟨n1,n2,n3⟩ := n
 simp only at hbz
 obtain ⟨A,hA⟩ : ∃ A,A = zS n1 := ⟨_,rfl⟩
 obtain ⟨B,hB⟩ : ∃ A,A = zS n2 := ⟨_,rfl⟩
 obtain ⟨C,hC⟩ : ∃ A,A = zS n3 := ⟨_,rfl⟩
 rw [← hA,← hB,← hC] at hbz
 have h : callFn (tyOf Tryz.prog) (fun _ => []) (fnOf Tryz.prog) (Oracle.or (pureO (factF (Tryz.ckLFold (n1,n2,n3) s))) (condO 284 [.slice b 0 c none] (.int .i64 0) (fun M => ∃ ext,M = m ++ ext))) 1 211 [.agg [x,y],.agg (evFold nm (n1,n2,n3) (.slice b 0 c none) s)] m = some ⟨.int .i64 0,none,[]⟩ := by
  have hab : (A == [48]) = false ∨ ((A == [48]) = true ∧ (B == [48]) = false) ∨ ((A == [48]) = true ∧ (B == [48]) = true ∧ (C == [48]) = false) := by
   cases ha : (A == [48]) <;> cases hb : (B == [48]) <;> cases hc : (C == [48]) <;> simp_all
  rcases hab with ha | ⟨ha,hb⟩ | ⟨ha,hb,hc⟩
  ·simp [callFn,hG,Tryz.f211,Oracle.or,pureO,Tryz.ckLFold,factF,condO,evFold,zA,← hA,← hB,← hC,ha]
  ·simp [callFn,hG,Tryz.f211,Oracle.or,pureO,Tryz.ckLFold,factF,condO,evFold,zA,← hA,← hB,← hC,ha,hb]
  ·simp [callFn,hG,Tryz.f211,Oracle.or,pureO,Tryz.ckLFold,factF,condO,evFold,zA,← hA,← hB,← hC,ha,hb,hc]
 have := (callFn_sound Tryz.mixed (tyOf_ok _) hO (fnOf_ok _) h).1
 simpa [CallRes.mem] using this
def fkBase (s : Sheet) (L : List P2) : Mem := [.cells false 2 (pC s.P),.cells false 3 (tC s.T),.cells false 2 (pC L)]
def fkMem (s : Sheet) (L : List P2) (ev : List AV) : Mem := [.cells false 2 (pC s.P),.cells false 3 (tC s.T),.cells false 2 (pC L),.cells true 0 [.slice 0 0 s.P.length none,.slice 1 0 s.T.length none],.cells true 0 ev]
theorem Tryz.aAlone_fold (sh : Sheet) (nm : List UInt8) (n s : Z3) (L : List P2) (c : Nat) :
  ACallsTo Tryz.prog 210 [.agg (evFold nm n (.slice 2 0 c none) s),.ptr 5 0] (fkMem sh L (evFold nm n (.slice 2 0 c none) s) ++ [.cells true 0 (blankE 3 nm)]) (.tuple []) (fkMem sh L (evFold nm n (.slice 2 0 c none) s) ++ [.cells true 0 (evFold nm n (.slice 2 0 c none) s)]) := by
 have hG : fnOf Tryz.prog 210 = some Tryz.f210 := by kernel_rfl
 have h : callFn (tyOf Tryz.prog) (fun _ => []) (fnOf Tryz.prog) noOracle 1 210 [.agg (evFold nm n (.slice 2 0 c none) s),.ptr 5 0] (fkMem sh L (evFold nm n (.slice 2 0 c none) s) ++ [.cells true 0 (blankE 3 nm)]) = some ⟨.tuple [],some (fkMem sh L (evFold nm n (.slice 2 0 c none) s) ++ [.cells true 0 (evFold nm n (.slice 2 0 c none) s)]),[]⟩ := by
  simp [callFn,hG,Tryz.f210,fkMem,blankE,evFold,pC_refs,tC_refs,pC_ren,tC_ren,List.idxOf?_cons]
 have := (callFn_sound Tryz.mixed (tyOf_ok _) (noOracle_ok _) (fnOf_ok _) h).1
 simpa [CallRes.mem] using this
noncomputable def Tryz.evMFold (sh : Sheet) (L : List P2) (nm : List UInt8) (ev : List AV) : List (FuncId × List AV × Mem × CallRes) := [
 (54,[shA sh],fkMem sh L ev,⟨.int .i64 0,none,[]⟩),
 (87,[.agg ev],fkMem sh L ev ++ [.cells true 0 (blankE 3 nm)],⟨Tryz.kindFold,none,[]⟩),
 (210,[.agg ev,.ptr 5 0],fkMem sh L ev ++ [.cells true 0 (blankE 3 nm)],⟨.tuple [],some (fkMem sh L ev ++ [.cells true 0 ev]),[]⟩),
 (88,[.agg ev,.agg ev],fkMem sh L ev ++ [.cells true 0 ev],⟨.bool true,none,[]⟩),
 (87,[.agg ev],fkMem sh L ev ++ [.cells true 0 ev],⟨Tryz.kindFold,none,[]⟩),
 (211,[shA sh,.agg ev],fkMem sh L ev ++ [.cells true 0 ev],⟨.int .i64 0,none,[]⟩)]
theorem Tryz.aECheck_fold (sh : Sheet) (nm : List UInt8) (n s : Z3) (d : Deed) (c : Nat) (h1 : 0 < c) (hc : c ≤ 3) (hm : nm ∈ eNames) (hn : z3Le 99 n) (hz : zeroZ n = false) (hs : z3Le 99 s) (hd : dotZ s n = 0) :
  ACallsTo Tryz.prog 55 [shA sh,.agg (evFold nm n (.slice 2 0 c none) s)] (fkBase sh (knotsL d c)) (.int .i64 0) (fkBase sh (knotsL d c)) := by
 have hG : fnOf Tryz.prog 55 = some Tryz.f55 := by kernel_rfl
 obtain ⟨os,hops⟩ : ∃ os,drawsF Tryz.f55 = os := ⟨_,rfl⟩
 have hbs := draws_map hops (ls := [[0,1,3,0,15],[0,1,3,0,0,31,63]]) (by kernel_rfl)
 simp only [drawsF,drawsC,Tryz.f55,List.nil_append,List.append_nil,List.cons_append] at hops
 subst hops
 simp only [List.map_cons,List.map_nil,List.cons.injEq,and_true] at hbs
 obtain ⟨hb0,hb1⟩ := hbs
 have a0 : allBef [0,1,3,0,15] 4 = true := by decide
 have a1 : allBef [0,1,3,0,0,31,63] 6 = true := by decide
 have hl := knotsL_length d c
 obtain ⟨ev,hev⟩ : ∃ ev,ev = evFold nm n (.slice 2 0 c none) s := ⟨_,rfl⟩
 have hO1 : OracleOk Tryz.prog (pureO (factF [(86,[.str nm],.int .i64 0)])) := factF_ok fun e he M => by
  simp only [List.mem_cons,List.not_mem_nil,or_false] at he
  subst he
  exact Tryz.aEName nm hm M
 have hO2 : OracleOk Tryz.prog (factC (Tryz.evMFold sh (knotsL d c) nm ev)) := factC_ok fun e he => by
  simp only [Tryz.evMFold,List.mem_cons,List.not_mem_nil,or_false] at he
  subst hev
  have hq := Tryz.aEEq_fold nm n (knotsL d c) s (by omega) (by omega) (fkMem sh (knotsL d c) (evFold nm n (.slice 2 0 c none) s) ++ [.cells true 0 (evFold nm n (.slice 2 0 c none) s)]) 2 false rfl
  rw [hl] at hq
  rcases he with rfl | rfl | rfl | rfl | rfl | rfl
  ·exact ⟨by simpa [CallRes.mem,shA] using Tryz.aMCheckX sh (fkMem sh (knotsL d c) (evFold nm n (.slice 2 0 c none) s)) 0 1 false false rfl rfl,by simp⟩
  ·exact ⟨by simpa [CallRes.mem] using Tryz.aEOf_fold nm n c s (fkMem sh (knotsL d c) (evFold nm n (.slice 2 0 c none) s) ++ [.cells true 0 (blankE 3 nm)]) 2 (by simp [fkMem]),by simp⟩
  ·exact ⟨by simpa [CallRes.mem] using Tryz.aAlone_fold sh nm n s (knotsL d c) c,by simp [fkMem]⟩
  ·exact ⟨by simpa [CallRes.mem] using hq,by simp⟩
  ·exact ⟨by simpa [CallRes.mem] using Tryz.aEOf_fold nm n c s (fkMem sh (knotsL d c) (evFold nm n (.slice 2 0 c none) s) ++ [.cells true 0 (evFold nm n (.slice 2 0 c none) s)]) 2 (by simp [fkMem]),by simp⟩
  ·exact ⟨by simpa [CallRes.mem,shA] using Tryz.aCkFold nm n s d c h1 hc hn hz hs hd (.slice 0 0 sh.P.length none) (.slice 1 0 sh.T.length none) (fkMem sh (knotsL d c) (evFold nm n (.slice 2 0 c none) s) ++ [.cells true 0 (evFold nm n (.slice 2 0 c none) s)]) 2 false rfl,by simp⟩
 have hO := OracleOk.or' hO1 hO2
 obtain ⟨L,hL⟩ : ∃ L,L = knotsL d c := ⟨_,rfl⟩
 rw [← hL] at hO ⊢
 have h : callFn (tyOf Tryz.prog) (fun _ => []) (fnOf Tryz.prog) (Oracle.or (pureO (factF [(86,[.str nm],.int .i64 0)])) (factC (Tryz.evMFold sh L nm ev))) 1 55 [shA sh,.agg (evFold nm n (.slice 2 0 c none) s)] (fkBase sh L) = some ⟨.int .i64 0,some (fkBase sh L),[]⟩ := by
  rw [hev]
  simp [presentIds,-runDraw,runDraw_light hb0,runDraw_light hb1,runDrawL,lightAll,lightRec,a0,a1,Nat.testBit,-aField,Tryz.fieldK0,Tryz.fieldK1,callFn,hG,Tryz.f55,Oracle.or,pureO,factF,factC,Tryz.evMFold,Tryz.kindFold,shA,fkMem,fkBase,blankE,evFold,aBuild,fieldPlaces,pC_refs,tC_refs,pC_ren,tC_ren,pC_ok,tC_ok,List.idxOf?_cons]
 have := (callFn_sound Tryz.mixed (tyOf_ok _) hO (fnOf_ok _) h).1
 simpa [CallRes.mem] using this
theorem qHat {Z : List Int} {i : Nat} {z : Int} (h : Z[i]? = some z) : (qC (qH Z))[i]? = some (.str (ratS (hQ z))) := qC_at (by simp [qH,h])
def Tryz.chLv (c : Code) : List Nat := if (writesC c).contains 18 then [18] else [30]
set_option maxHeartbeats 1600000 in
theorem Tryz.checks_inner {O : Oracle} {K : Nat} (Z : List Int) (hZ : ∀ z ∈ Z,z.natAbs < 1000) (hl : Z.length ≤ 1000) (hK : Z.length < K) {mem : Mem} {b0 : Nat} {o : Bool} (hm : mem[b0]? = some (.cells o 1 (qC (qH Z)))) {m0 : Nat}
  (hO : ∀ z : Int,z.natAbs < 1000 → O (.fn 166) [.str (ratS (hQ z))] mem = some ⟨.int .i64 0,none,[]⟩) {b1 b : Code} (hb : loopsF Tryz.f322 = [b1,b]) :
  ∃ F : Env → Bool → Env,∀ env0 d,(Eng.look env0 28 = .slice b0 0 Z.length none ∧ Eng.look env0 29 = .int .i64 Z.length ∧ Eng.look env0 30 = .int .i64 0) →
   execC (tyOf Tryz.prog) Tryz.chLv O K 41 m0 true (.loop b) ⟨env0,mem,d⟩ = some (.exit 2,⟨F env0 d,mem,d⟩) ∧ (Eng.look (F env0 d) 16 = Eng.look env0 16 ∧ Eng.look (F env0 d) 17 = Eng.look env0 17 ∧ Eng.look (F env0 d) 18 = Eng.look env0 18 ∧ Eng.look (F env0 d) 2 = Eng.look env0 2) := by
 refine loop_rule (L := [30]) (by simp [loopsF,loopsC,Tryz.f322] at hb; rw [← hb.2]; rfl) (fun env0 => Eng.look env0 28 = .slice b0 0 Z.length none ∧ Eng.look env0 29 = .int .i64 Z.length ∧ Eng.look env0 30 = .int .i64 0) (fun env0 env' => Eng.look env' 16 = Eng.look env0 16 ∧ Eng.look env' 17 = Eng.look env0 17 ∧ Eng.look env' 18 = Eng.look env0 18 ∧ Eng.look env' 2 = Eng.look env0 2) ?_
 rintro env0 d ⟨h28,h29,h30⟩
 simp [loopsF,loopsC,Tryz.f322] at hb
 have hn : normE [30] (writesC b) env0 ((30,.int .i64 ((0 : Nat) : Int)) :: env0) = normE [30] (writesC b) env0 env0 := by simp [normE,h30]
 rw [← hn]
 refine iter_ind (α := Nat) (fun n => ⟨normE [30] (writesC b) env0 ((30,.int .i64 (n : Int)) :: env0),mem,d⟩) (fun n => Z.length - n) (fun n => n ≤ Z.length) (.exit 2) _ d _ (by simp) ?_ K 0 (by omega) (by omega)
 rintro n hn1
 clear hn
 obtain ⟨_,rfl⟩ := hb
 by_cases hlt : n < Z.length
 ·obtain ⟨z,hz⟩ : ∃ z,Z[n]? = some z := ⟨Z[n],List.getElem?_eq_getElem hlt⟩
  have k1 := qHat hz
  have l1 := hO z (hZ z (List.mem_of_getElem? hz))
  have w1 : IntKind.i64.wrap ((n : Int) + 1) = ((n + 1 : Nat) : Int) := by rw [wrap_i64 (by omega) (by omega)]; omega
  left
  obtain ⟨v,hv⟩ : ∃ v,v = n + 1 := ⟨_,rfl⟩
  rw [← hv] at w1
  refine ⟨v,?_⟩
  simp [h28,h29,hlt,hm,k1,l1,w1]
  omega
 ·right
  simp [h29,hlt]
def Tryz.rcF (f : FuncId) (args : List AV) : Option AV := match f,args with
 | 166,[.str s] => if s.length ≤ 9 then some (.int .i64 (chkR s)) else none
 | _,_ => none
theorem Tryz.rc_ok : OracleOk Tryz.prog (pureO Tryz.rcF) := pureO_ok fun f args v h mem => by
 unfold Tryz.rcF at h
 split at h
 ·split at h
  ·cases h; exact Tryz.aCheckR _ (by omega) mem
  ·cases h
 ·cases h
noncomputable def Tryz.fcO (s : Sheet) (m : Mem) : Oracle := Oracle.or (pureO Tryz.rcF) (condO 54 [shA s] (.int .i64 0) (fun M => ∃ ext,M = m ++ ext))
theorem Tryz.fcO_ok (s : Sheet) (m : Mem) (p q : Nat) (o o' : Bool) (hp : m[p]? = some (.cells o 2 (pC s.P))) (hq : m[q]? = some (.cells o' 3 (tC s.T))) (h0 : p = 0) (h1 : q = 1) : OracleOk Tryz.prog (Tryz.fcO s m) := by
 subst h0; subst h1
 have l0 := (List.getElem?_eq_some_iff.1 hp).1
 have l1 := (List.getElem?_eq_some_iff.1 hq).1
 refine OracleOk.or' Tryz.rc_ok (condO_ok fun M hM => ?_)
 obtain ⟨ext,rfl⟩ := hM
 exact Tryz.aMCheckX s _ 0 1 o o' (by rw [List.getElem?_append_left l0]; exact hp) (by rw [List.getElem?_append_left l1]; exact hq)
theorem Tryz.fcO_chk (s : Sheet) (m M : Mem) (z : Int) (h : z.natAbs < 1000) : Tryz.fcO s m (.fn 166) [.str (ratS (hQ z))] M = some ⟨.int .i64 0,none,[]⟩ := by
 have hl := hQ_len h
 have hc := chkR_dg ((hQ_dg h).mono (by omega) (by omega))
 simp [Tryz.fcO,Oracle.or,pureO,Tryz.rcF,hl,hc]
theorem Tryz.fcO_mesh (s : Sheet) (m ext : Mem) : Tryz.fcO s m (.fn 54) [shA s] (m ++ ext) = some ⟨.int .i64 0,none,[]⟩ := by
 simp [Tryz.fcO,Oracle.or,pureO,Tryz.rcF,condO]
set_option maxHeartbeats 1600000 in
theorem Tryz.aFChecks1 (s : Sheet) (Z : List Int) (hZ : ∀ z ∈ Z,z.natAbs < 1000) (hl : Z.length ≤ 1000) (hn : Z.length = s.P.length) (m : Mem) (b c : Nat) (o1 o2 o3 o4 : Bool)
  (hp : m[0]? = some (.cells o1 2 (pC s.P))) (hq : m[1]? = some (.cells o2 3 (tC s.T))) (hb : m[b]? = some (.cells o3 1 (qC (qH Z)))) (hc : m[c]? = some (.cells o4 1 [.slice b 0 Z.length none])) :
  ACallsTo Tryz.prog 322 [shA s,.slice c 0 1 none] m (.int .i64 0) m := by
 have hG : fnOf Tryz.prog 322 = some Tryz.f322 := by kernel_rfl
 have lb := (List.getElem?_eq_some_iff.1 hb).1
 have lc := (List.getElem?_eq_some_iff.1 hc).1
 have hO := Tryz.fcO_ok s m 0 1 o1 o2 hp hq rfl rfl
 obtain ⟨b1,b2,hbb⟩ : ∃ b1 b2,loopsF Tryz.f322 = [b1,b2] := ⟨_,_,rfl⟩
 obtain ⟨F,hF⟩ := Tryz.checks_inner (O := Tryz.fcO s m) (K := Z.length + 3) Z hZ hl (by omega) (mem := m ++ [.cells true 0 [.slice 0 0 s.P.length none,.slice 1 0 s.T.length none]]) (b0 := b) (o := o3) (by rw [List.getElem?_append_left lb]; exact hb) (m0 := m.length) (fun z h => Tryz.fcO_chk s m _ z h) hbb
 have hF1 := fun env0 d h28 h29 h30 => (hF env0 d ⟨h28,h29,h30⟩).1
 have g16 := fun env0 d h28 h29 h30 => (hF env0 d ⟨h28,h29,h30⟩).2.1
 have g17 := fun env0 d h28 h29 h30 => (hF env0 d ⟨h28,h29,h30⟩).2.2.1
 have g18 := fun env0 d h28 h29 h30 => (hF env0 d ⟨h28,h29,h30⟩).2.2.2.1
 have g2 := fun env0 d h28 h29 h30 => (hF env0 d ⟨h28,h29,h30⟩).2.2.2.2
 clear hF
 simp [loopsF,loopsC,Tryz.f322] at hbb
 obtain ⟨_,rfl⟩ := hbb
 have w0 : IntKind.i64.wrap 1 = 1 := rfl
 have hms := Tryz.fcO_mesh s m [.cells true 0 [.slice 0 0 s.P.length none,.slice 1 0 s.T.length none]]
 obtain ⟨O,hOO⟩ : ∃ O,O = Tryz.fcO s m := ⟨_,rfl⟩
 rw [← hOO] at hO hF1 hms
 have hc' : (m ++ [.cells true 0 [.slice 0 0 s.P.length none,.slice 1 0 s.T.length none]])[c]? = some (.cells o4 1 [.slice b 0 Z.length none]) := by rw [List.getElem?_append_left lc]; exact hc
 have h : callFn (tyOf Tryz.prog) Tryz.chLv (fnOf Tryz.prog) O (Z.length + 3) 322 [shA s,.slice c 0 1 none] m = some ⟨.int .i64 0,none,[]⟩ := by
  obtain ⟨N,hN⟩ : ∃ N,N = s.P.length := ⟨_,rfl⟩
  simp only [shA,hn,← hN] at hms hF1 g16 g17 g18 g2 hc' ⊢
  simp [callFn,hG,Tryz.f322,hms,hF1,g16,g17,g18,g2,execC_loop,iter,Tryz.chLv,hc',w0]
 have := (callFn_sound Tryz.mixed (tyOf_ok _) hO (fnOf_ok _) h).1
 simpa [CallRes.mem] using this
set_option maxHeartbeats 1600000 in
theorem Tryz.aFChecks2 (s : Sheet) (Z : List Int) (hZ : ∀ z ∈ Z,z.natAbs < 1000) (hl : Z.length ≤ 1000) (hn : Z.length = s.P.length) (Y : List Int) (hY : ∀ z ∈ Y,z.natAbs < 1000) (hn2 : Y.length = s.P.length) (m : Mem) (b b' c : Nat) (o1 o2 o3 o3' o4 : Bool)
  (hp : m[0]? = some (.cells o1 2 (pC s.P))) (hq : m[1]? = some (.cells o2 3 (tC s.T))) (hb : m[b]? = some (.cells o3 1 (qC (qH Z)))) (hb' : m[b']? = some (.cells o3' 1 (qC (qH Y)))) (hc : m[c]? = some (.cells o4 1 [.slice b 0 Z.length none,.slice b' 0 Y.length none])) :
  ACallsTo Tryz.prog 322 [shA s,.slice c 0 2 none] m (.int .i64 0) m := by
 have hG : fnOf Tryz.prog 322 = some Tryz.f322 := by kernel_rfl
 have lb := (List.getElem?_eq_some_iff.1 hb).1
 have lb' := (List.getElem?_eq_some_iff.1 hb').1
 have lc := (List.getElem?_eq_some_iff.1 hc).1
 have hO := Tryz.fcO_ok s m 0 1 o1 o2 hp hq rfl rfl
 obtain ⟨b1,b2,hbb⟩ : ∃ b1 b2,loopsF Tryz.f322 = [b1,b2] := ⟨_,_,rfl⟩
 obtain ⟨F,hF⟩ := Tryz.checks_inner (O := Tryz.fcO s m) (K := s.P.length + 4) Z hZ hl (by omega) (mem := m ++ [.cells true 0 [.slice 0 0 s.P.length none,.slice 1 0 s.T.length none]]) (b0 := b) (o := o3) (by rw [List.getElem?_append_left lb]; exact hb) (m0 := m.length) (fun z h => Tryz.fcO_chk s m _ z h) hbb
 have hF1 := fun env0 d h28 h29 h30 => (hF env0 d ⟨h28,h29,h30⟩).1
 have g16 := fun env0 d h28 h29 h30 => (hF env0 d ⟨h28,h29,h30⟩).2.1
 have g17 := fun env0 d h28 h29 h30 => (hF env0 d ⟨h28,h29,h30⟩).2.2.1
 have g18 := fun env0 d h28 h29 h30 => (hF env0 d ⟨h28,h29,h30⟩).2.2.2.1
 have g2 := fun env0 d h28 h29 h30 => (hF env0 d ⟨h28,h29,h30⟩).2.2.2.2
 obtain ⟨F2,hF2⟩ := Tryz.checks_inner (O := Tryz.fcO s m) (K := s.P.length + 4) Y hY (by omega) (by omega) (mem := m ++ [.cells true 0 [.slice 0 0 s.P.length none,.slice 1 0 s.T.length none]]) (b0 := b') (o := o3') (by rw [List.getElem?_append_left lb']; exact hb') (m0 := m.length) (fun z h => Tryz.fcO_chk s m _ z h) hbb
 have hF1' := fun env0 d h28 h29 h30 => (hF2 env0 d ⟨h28,h29,h30⟩).1
 have g16' := fun env0 d h28 h29 h30 => (hF2 env0 d ⟨h28,h29,h30⟩).2.1
 have g17' := fun env0 d h28 h29 h30 => (hF2 env0 d ⟨h28,h29,h30⟩).2.2.1
 have g18' := fun env0 d h28 h29 h30 => (hF2 env0 d ⟨h28,h29,h30⟩).2.2.2.1
 have g2' := fun env0 d h28 h29 h30 => (hF2 env0 d ⟨h28,h29,h30⟩).2.2.2.2
 clear hF hF2
 simp [loopsF,loopsC,Tryz.f322] at hbb
 obtain ⟨_,rfl⟩ := hbb
 have w2 : IntKind.i64.wrap 2 = 2 := rfl
 have w0 : IntKind.i64.wrap 1 = 1 := rfl
 have hms := Tryz.fcO_mesh s m [.cells true 0 [.slice 0 0 s.P.length none,.slice 1 0 s.T.length none]]
 obtain ⟨O,hOO⟩ : ∃ O,O = Tryz.fcO s m := ⟨_,rfl⟩
 rw [← hOO] at hO hF1 hF1' hms
 have hc' : (m ++ [.cells true 0 [.slice 0 0 s.P.length none,.slice 1 0 s.T.length none]])[c]? = some (.cells o4 1 [.slice b 0 Z.length none,.slice b' 0 Y.length none]) := by rw [List.getElem?_append_left lc]; exact hc
 have h : callFn (tyOf Tryz.prog) Tryz.chLv (fnOf Tryz.prog) O (s.P.length + 4) 322 [shA s,.slice c 0 2 none] m = some ⟨.int .i64 0,none,[]⟩ := by
  obtain ⟨N,hN⟩ : ∃ N,N = s.P.length := ⟨_,rfl⟩
  simp only [shA,hn,hn2,← hN] at hms hF1 g16 g17 g18 g2 hF1' g16' g17' g18' g2' hc' ⊢
  simp [callFn,hG,Tryz.f322,hms,hF1,g16,g17,g18,g2,hF1',g16',g17',g18',g2',w2,execC_loop,iter,Tryz.chLv,hc',w0]
 have := (callFn_sound Tryz.mixed (tyOf_ok _) hO (fnOf_ok _) h).1
 simpa [CallRes.mem] using this
theorem Tryz.aFCheck (s : Sheet) (Z : List Int) (hZ : ∀ z ∈ Z,z.natAbs < 1000) (hl : Z.length ≤ 1000) (hn : Z.length = s.P.length) (m : Mem) (b : Nat) (o1 o2 o3 : Bool)
  (hp : m[0]? = some (.cells o1 2 (pC s.P))) (hq : m[1]? = some (.cells o2 3 (tC s.T))) (hb : m[b]? = some (.cells o3 1 (qC (qH Z)))) :
  ACallsTo Tryz.prog 277 [shA s,.slice b 0 Z.length none] m (.int .i64 0) m := by
 have hG : fnOf Tryz.prog 277 = some Tryz.f277 := by kernel_rfl
 have l0 := (List.getElem?_eq_some_iff.1 hp).1
 have l1 := (List.getElem?_eq_some_iff.1 hq).1
 have lb := (List.getElem?_eq_some_iff.1 hb).1
 obtain ⟨E,hE⟩ : ∃ E : Mem,E = [.cells true 0 [.slice 0 0 s.P.length none,.slice 1 0 s.T.length none],.cells true 1 [.slice b 0 Z.length none]] := ⟨_,rfl⟩
 have hk := Tryz.aFChecks1 s Z hZ hl hn (m ++ E) b (m.length + 1) o1 o2 o3 true (by rw [List.getElem?_append_left l0]; exact hp) (by rw [List.getElem?_append_left l1]; exact hq) (by rw [List.getElem?_append_left lb]; exact hb) (by rw [hE]; simp)
 have hO : OracleOk Tryz.prog (factC [(322,[shA s,.slice (m.length + 1) 0 1 none],m ++ E,⟨.int .i64 0,none,[]⟩)]) := factC_ok fun e he => by
  simp only [List.mem_cons,List.not_mem_nil,or_false] at he
  subst he
  exact ⟨by simpa [CallRes.mem] using hk,by simp⟩
 have h : callFn (tyOf Tryz.prog) (fun _ => []) (fnOf Tryz.prog) (factC [(322,[shA s,.slice (m.length + 1) 0 1 none],m ++ E,⟨.int .i64 0,none,[]⟩)]) 1 277 [shA s,.slice b 0 Z.length none] m = some ⟨.int .i64 0,none,[]⟩ := by
  rw [hE]
  simp [callFn,hG,Tryz.f277,factC,shA]
 have := (callFn_sound Tryz.mixed (tyOf_ok _) hO (fnOf_ok _) h).1
 simpa [CallRes.mem] using this
theorem cmpH_le {a b : Int} (h : a ≤ b) : ¬ 0 < cmpQ (hQ a) (hQ b) := by
 have := cmpQ_le.2 (hQ_le h)
 omega
set_option maxHeartbeats 1600000 in
theorem Tryz.below_loop {O : Oracle} {K : Nat} (Z Y : List Int) (hZY : ∀ (i : Nat) z y,Z[i]? = some z → Y[i]? = some y → z ≤ y ∧ z.natAbs < 1000 ∧ y.natAbs < 1000) (hn : Z.length = Y.length) (hl : Z.length ≤ 1000) (hK : Z.length < K) {mem : Mem} {b0 b1 : Nat} {o o' : Bool} (hm : mem[b0]? = some (.cells o 1 (qC (qH Z)))) (hm' : mem[b1]? = some (.cells o' 1 (qC (qH Y)))) {m0 : Nat}
  (hO : ∀ z y : Int,z.natAbs < 1000 → y.natAbs < 1000 → O (.fn 112) [.str (ratS (hQ z)),.str (ratS (hQ y))] mem = some ⟨.int .i64 (cmpQ (hQ z) (hQ y)),none,[]⟩) {b : Code} (hb : loopsF Tryz.f278 = [b]) :
  ∃ F : Env → Bool → Env,∀ env0 d,(Eng.look env0 19 = .slice b0 0 Z.length none ∧ Eng.look env0 20 = .int .i64 Z.length ∧ Eng.look env0 21 = .int .i64 0 ∧ Eng.look env0 2 = .slice b1 0 Z.length none) →
   execC (tyOf Tryz.prog) (fun _ => [21]) O K 34 m0 true (.loop b) ⟨env0,mem,d⟩ = some (.exit 0,⟨F env0 d,mem,d⟩) ∧ True := by
 refine loop_rule (L := [21]) rfl (fun env0 => Eng.look env0 19 = .slice b0 0 Z.length none ∧ Eng.look env0 20 = .int .i64 Z.length ∧ Eng.look env0 21 = .int .i64 0 ∧ Eng.look env0 2 = .slice b1 0 Z.length none) (fun _ _ => True) ?_
 rintro env0 d ⟨h28,h29,h30,h2⟩
 simp [loopsF,loopsC,Tryz.f278] at hb
 have hn0 : normE [21] (writesC b) env0 ((21,.int .i64 ((0 : Nat) : Int)) :: env0) = normE [21] (writesC b) env0 env0 := by simp [normE,h30]
 rw [← hn0]
 refine iter_ind (α := Nat) (fun n => ⟨normE [21] (writesC b) env0 ((21,.int .i64 (n : Int)) :: env0),mem,d⟩) (fun n => Z.length - n) (fun n => n ≤ Z.length) (.exit 0) _ d _ (by simp) ?_ K 0 (by omega) (by omega)
 rintro n hn1
 clear hn0
 subst hb
 by_cases hlt : n < Z.length
 ·obtain ⟨z,hz⟩ : ∃ z,Z[n]? = some z := ⟨Z[n],List.getElem?_eq_getElem hlt⟩
  obtain ⟨y,hy⟩ : ∃ y,Y[n]? = some y := ⟨Y[n]'(by omega),List.getElem?_eq_getElem (by omega)⟩
  have k1 := qHat hz
  have k2 := qHat hy
  obtain ⟨p1,p2,p3⟩ := hZY n z y hz hy
  have l1 := hO z y p2 p3
  have c1 := cmpH_le p1
  have w1 : IntKind.i64.wrap ((n : Int) + 1) = ((n + 1 : Nat) : Int) := by rw [wrap_i64 (by omega) (by omega)]; omega
  left
  obtain ⟨v,hv⟩ : ∃ v,v = n + 1 := ⟨_,rfl⟩
  rw [← hv] at w1
  refine ⟨v,?_⟩
  simp [h28,h29,h2,hlt,hm,hm',k1,k2,l1,w1,c1]
  omega
 ·right
  simp [h29,hlt]
open Classical in
noncomputable def Tryz.fbF (f : FuncId) (args : List AV) : Option AV := match f,args with
 | 112,[.str s,.str t] => match ratP s,ratP t with
  | some a,some b => if big 3 a ∧ big 3 b then some (.int .i64 (cmpQ a b)) else none
  | _,_ => none
 | _,_ => none
theorem big_fine {k : Nat} {q : Rat} (h0 : 0 < k) (hk : k ≤ 9) (h : big k q) : fine q := by
 have h1 := natD_length_le h0 h.1
 have h2 := natD_length_le h0 h.2
 exact ⟨by omega,by omega⟩
theorem Tryz.fb_ok : OracleOk Tryz.prog (pureO Tryz.fbF) := pureO_ok fun f args v h mem => by
 unfold Tryz.fbF at h
 split at h
 ·split at h
  ·rename_i a b ha hb
   split at h
   ·rename_i hc
    cases h
    rw [ratP_some ha,ratP_some hb]
    exact Tryz.aCompareR a b (big_fine (by decide) (by decide) hc.1) (big_fine (by decide) (by decide) hc.2) mem
   ·cases h
  ·cases h
 ·cases h
set_option maxHeartbeats 1600000 in
theorem Tryz.aFBelow (s : Sheet) (Z Y : List Int) (hZ : ∀ z ∈ Z,z.natAbs < 1000) (hY : ∀ z ∈ Y,z.natAbs < 1000) (hl : Z.length ≤ 1000) (hn : Z.length = s.P.length) (hn2 : Y.length = s.P.length) (hZY : ∀ (i : Nat) z y,Z[i]? = some z → Y[i]? = some y → z ≤ y) (m : Mem) (b b' : Nat) (o1 o2 o3 o4 : Bool)
  (hp : m[0]? = some (.cells o1 2 (pC s.P))) (hq : m[1]? = some (.cells o2 3 (tC s.T))) (hb : m[b]? = some (.cells o3 1 (qC (qH Z)))) (hb' : m[b']? = some (.cells o4 1 (qC (qH Y)))) :
  ACallsTo Tryz.prog 278 [shA s,.slice b 0 Z.length none,.slice b' 0 Y.length none] m (.tuple [.bool true,.int .i64 0]) m := by
 have hG : fnOf Tryz.prog 278 = some Tryz.f278 := by kernel_rfl
 have l0 := (List.getElem?_eq_some_iff.1 hp).1
 have l1 := (List.getElem?_eq_some_iff.1 hq).1
 have lb := (List.getElem?_eq_some_iff.1 hb).1
 have lb' := (List.getElem?_eq_some_iff.1 hb').1
 obtain ⟨E,hE⟩ : ∃ E : Mem,E = [.cells true 0 [.slice 0 0 s.P.length none,.slice 1 0 s.T.length none],.cells true 1 [.slice b 0 Z.length none,.slice b' 0 Y.length none]] := ⟨_,rfl⟩
 have hk := Tryz.aFChecks2 s Z hZ hl hn Y hY hn2 (m ++ E) b b' (m.length + 1) o1 o2 o3 o4 true (by rw [List.getElem?_append_left l0]; exact hp) (by rw [List.getElem?_append_left l1]; exact hq) (by rw [List.getElem?_append_left lb]; exact hb) (by rw [List.getElem?_append_left lb']; exact hb') (by rw [hE]; simp)
 obtain ⟨O,hOO⟩ : ∃ O,O = Oracle.or (pureO Tryz.fbF) (factC [(322,[shA s,.slice (m.length + 1) 0 2 none],m ++ E,⟨.int .i64 0,none,[]⟩)]) := ⟨_,rfl⟩
 have hO : OracleOk Tryz.prog O := by
  rw [hOO]
  refine OracleOk.or' Tryz.fb_ok (factC_ok fun e he => ?_)
  simp only [List.mem_cons,List.not_mem_nil,or_false] at he
  subst he
  exact ⟨by simpa [CallRes.mem] using hk,by simp⟩
 have hO1 : O (.fn 322) [shA s,.slice (m.length + 1) 0 2 none] (m ++ E) = some ⟨.int .i64 0,none,[]⟩ := by
  rw [hOO]; simp [Oracle.or,pureO,Tryz.fbF,factC]
 have hO2 : ∀ z y : Int,z.natAbs < 1000 → y.natAbs < 1000 → O (.fn 112) [.str (ratS (hQ z)),.str (ratS (hQ y))] (m ++ E) = some ⟨.int .i64 (cmpQ (hQ z) (hQ y)),none,[]⟩ := fun z y hz hy => by
  have e1 := hQ_dg hz
  have e2 := hQ_dg hy
  have b1 : big 3 (hQ z) := ⟨e1.1,by have := e1.2; omega⟩
  have b2 : big 3 (hQ y) := ⟨e2.1,by have := e2.2; omega⟩
  rw [hOO]; simp [Oracle.or,pureO,Tryz.fbF,ratP_ratS,b1,b2]
 clear hOO
 obtain ⟨bb,hbb⟩ : ∃ b,loopsF Tryz.f278 = [b] := ⟨_,rfl⟩
 obtain ⟨F,hF⟩ := Tryz.below_loop (O := O) (K := s.P.length + 1) Z Y (fun i z y hz hy => ⟨hZY i z y hz hy,hZ z (List.mem_of_getElem? hz),hY y (List.mem_of_getElem? hy)⟩) (by omega) hl (by omega) (mem := m ++ E) (b0 := b) (b1 := b') (o := o3) (o' := o4) (by rw [List.getElem?_append_left lb]; exact hb) (by rw [List.getElem?_append_left lb']; exact hb') (m0 := m.length) hO2 hbb
 have hF1 := fun env0 d h1 h2 h3 h4 => (hF env0 d ⟨h1,h2,h3,h4⟩).1
 clear hF hO2
 simp [loopsF,loopsC,Tryz.f278] at hbb
 subst hbb
 have h : callFn (tyOf Tryz.prog) (fun _ => [21]) (fnOf Tryz.prog) O (s.P.length + 1) 278 [shA s,.slice b 0 Z.length none,.slice b' 0 Y.length none] m = some ⟨.tuple [.bool true,.int .i64 0],none,[]⟩ := by
  clear hk
  obtain ⟨N,hN⟩ : ∃ N,N = s.P.length := ⟨_,rfl⟩
  subst hE
  simp only [shA,hn,hn2,← hN] at hO1 hF1 ⊢
  simp [callFn,hG,Tryz.f278,hO1,hF1]
 have := (callFn_sound Tryz.mixed (tyOf_ok _) hO (fnOf_ok _) h).1
 simpa [CallRes.mem] using this
end Go.Proofs
