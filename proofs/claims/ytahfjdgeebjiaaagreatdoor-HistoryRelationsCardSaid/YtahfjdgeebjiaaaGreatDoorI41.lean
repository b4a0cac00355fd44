/- See I57. -/
import Derived.Test.YtahfjdgeebjiaaaGreatDoorI40
import Derived.Test.YtahfjdgeebjiaaaGreatDoorI11
set_option linter.all false
namespace Go.Proofs
open Go.Eng
def idxS (s : List UInt8) : Nat → List (List UInt8) → Int
 | _,[] => -1
 | i,x :: l => if s = x then (i : Int) else idxS s (i + 1) l
theorem idxS_neg {s : List UInt8} : ∀ {i : Nat} {l : List (List UInt8)},idxS s i l < 0 ↔ s ∉ l
 | i,[] => by simp [idxS]
 | i,x :: l => by
  unfold idxS
  by_cases h : s = x
  ·rw [if_pos h]; simp [h]
  ·rw [if_neg h,idxS_neg]; simp [h]
theorem idxS_ge {s : List UInt8} : ∀ {i : Nat} {l : List (List UInt8)},-1 ≤ idxS s i l
 | i,[] => by unfold idxS; omega
 | i,x :: l => by
  unfold idxS
  split
  ·omega
  ·exact idxS_ge
set_option maxHeartbeats 1600000 in
theorem Tryz.index_loop {O : Oracle} {K : Nat} (L : List (List UInt8)) (s : List UInt8) (hl : L.length ≤ 1000000000) (hK : L.length < K) {b : Code} (hb : loopsF Tryz.f13 = [b]) :
  ∃ F : Env → Bool → Env,∀ env0 d,(Eng.look env0 0 = .slice 0 0 L.length none ∧ Eng.look env0 1 = .str s ∧ Eng.look env0 7 = .int .i64 L.length ∧ Eng.look env0 8 = .int .i64 0) →
   execC (tyOf Tryz.prog) (fun _ => [8]) O K 19 1 true (.loop b) ⟨env0,[.cells false 1 (stC L)],d⟩ = some (if idxS s 0 L < 0 then .exit 0 else .ret,⟨F env0 d,[.cells false 1 (stC L)],d⟩) ∧
    (¬ idxS s 0 L < 0 → Eng.look (F env0 d) 4 = .int .i64 (idxS s 0 L)) := by
 refine loop_rule rfl (fun env0 => Eng.look env0 0 = .slice 0 0 L.length none ∧ Eng.look env0 1 = .str s ∧ Eng.look env0 7 = .int .i64 L.length ∧ Eng.look env0 8 = .int .i64 0) (fun _ env' => ¬ idxS s 0 L < 0 → Eng.look env' 4 = .int .i64 (idxS s 0 L)) ?_
 rintro env0 d ⟨h0,h1,h7,h8⟩
 simp [loopsF,loopsC,Tryz.f13] at hb
 have hn : normE [8] (writesC b) env0 ((8,.int .i64 ((0 : Nat) : Int)) :: env0) = normE [8] (writesC b) env0 env0 := by simp [normE,h8]
 rw [← hn]
 have kl : (stC L).length = L.length := stC_length L
 refine iter_ind (α := Nat) (fun n => ⟨normE [8] (writesC b) env0 ((8,.int .i64 (n : Int)) :: env0),[.cells false 1 (stC L)],d⟩) (fun n => L.length - n) (fun n => n ≤ L.length ∧ idxS s 0 L = idxS s n (L.drop n)) _ _ d _ (by split <;> simp) ?_ K 0 ⟨by omega,by rw [List.drop_zero]⟩ (by omega)
 rintro n ⟨hn1,he⟩
 clear hn
 subst hb
 by_cases hlt : n < L.length
 ·obtain ⟨x,hx⟩ : ∃ x,L[n]? = some x := ⟨L[n],List.getElem?_eq_getElem hlt⟩
  have k1 : ∀ h,(stC L)[n]'h = .str x := fun h => by
   have := stC_at hx
   rw [List.getElem?_eq_getElem h] at this
   exact Option.some.inj this
  have hd : L.drop n = x :: L.drop (n + 1) := by
   rw [List.getElem?_eq_some_iff] at hx
   obtain ⟨h1,h2⟩ := hx
   rw [← h2]; exact List.drop_eq_getElem_cons h1
  rw [hd,idxS] at he
  have w1 : IntKind.i64.wrap ((n : Int) + 1) = ((n + 1 : Nat) : Int) := by rw [wrap_i64 (by omega) (by omega)]; omega
  by_cases hs : s = x
  ·right
   rw [if_pos hs] at he
   subst hs
   have hng : ¬ (n : Int) < 0 := by omega
   rw [he,if_neg hng]
   simp [h0,h1,h7,hlt,kl,k1]
  ·left
   rw [if_neg hs] at he
   have hb : (s == x) = false := by simpa using hs
   refine ⟨n + 1,?_⟩
   refine exists_and_fin (show (n + 1 ≤ L.length ∧ idxS s 0 L = idxS s (n + 1) (L.drop (n + 1))) ∧ L.length - (n + 1) < L.length - n from ⟨⟨by omega,he⟩,by omega⟩) ?_
   simp [h0,h1,h7,hlt,kl,k1,hb,w1]
 ·right
  have e : L.drop n = [] := List.drop_of_length_le (by omega)
  rw [e,idxS] at he
  rw [he,if_pos (by decide)]
  simp [h7,hlt]
theorem Tryz.aIndexP (L : List (List UInt8)) (s : List UInt8) (hl : L.length ≤ 1000000000) :
  ACallsTo Tryz.prog 13 [.slice 0 0 L.length none,.str s] [.cells false 1 (stC L)] (.int .i64 (idxS s 0 L)) [.cells false 1 (stC L)] := by
 have hG : fnOf Tryz.prog 13 = some Tryz.f13 := by kernel_rfl
 obtain ⟨b,hb⟩ : ∃ b,loopsF Tryz.f13 = [b] := ⟨_,rfl⟩
 obtain ⟨F,hF⟩ := Tryz.index_loop (O := noOracle) (K := L.length + 1) L s hl (by omega) hb
 simp [loopsF,loopsC,Tryz.f13] at hb
 subst hb
 have h : callFn (tyOf Tryz.prog) (fun _ => [8]) (fnOf Tryz.prog) noOracle (L.length + 1) 13 [.slice 0 0 L.length none,.str s] [.cells false 1 (stC L)] = some ⟨.int .i64 (idxS s 0 L),none,[]⟩ := by
  by_cases hc : idxS s 0 L < 0
  ·rw [if_pos hc] at hF
   have hF1 := fun env0 d h => (hF env0 d h).1
   clear hF
   have h1 : idxS s 0 L = -1 := by have := idxS_ge (s := s) (i := 0) (l := L); omega
   rw [h1]
   simp [callFn,hG,Tryz.f13,hF1]
  ·rw [if_neg hc] at hF
   have hF1 := fun env0 d h => (hF env0 d h).1
   have hF2 := fun env0 d h => (hF env0 d h).2 hc
   clear hF
   simp [callFn,hG,Tryz.f13,hF1,hF2]
 have := (callFn_sound Tryz.mixed (tyOf_ok _) (noOracle_ok _) (fnOf_ok _) h).1
 simpa [CallRes.mem] using this
theorem Tryz.aIndexNil (s : List UInt8) (M : Mem) : ACallsTo Tryz.prog 13 [.nilslice,.str s] M (.int .i64 (-1)) M := by
 have hG : fnOf Tryz.prog 13 = some Tryz.f13 := by kernel_rfl
 refine Tryz.run (noOracle_ok _) (lv := fun _ => [8]) (K := 1) rfl rfl ?_ M
 simp [callFn,hG,Tryz.f13,execC_loop,iter]
theorem Tryz.aIndexM {M : Mem} {x : AV} {L : List (List UInt8)} (s : List UInt8) (hl : L.length ≤ 1000000000) (hx : sts M x = some L) : ACallsTo Tryz.prog 13 [x,.str s] M (.int .i64 (idxS s 0 L)) M := by
 rcases sts_some hx with h | ⟨rfl,rfl⟩
 ·exact ACallsTo.rows1R (rest := [.str s]) (stC_closed L) rfl rfl (Tryz.aIndexP L s hl) h
 ·exact Tryz.aIndexNil s M
noncomputable def Tryz.ixO : Oracle := fun c args M => match c,args with
 | .fn 13,[x,.str s] => match sts M x with
  | some L => if L.length ≤ 1000000000 then some ⟨.int .i64 (idxS s 0 L),none,[]⟩ else none
  | none => none
 | c,args => noOracle c args M
theorem Tryz.ix_ok : OracleOk Tryz.prog Tryz.ixO := by
 refine oracleOk_of fun c args M r h => ?_
 unfold Tryz.ixO at h
 split at h
 ·split at h
  ·rename_i L hL
   split at h
   ·rename_i hc
    cases h
    refine soundAt_call ?_
    rw [List.append_nil]
    exact Tryz.aIndexM _ hc hL
   ·cases h
  ·cases h
 ·exact soundAt_of (noOracle_ok _) h
theorem Tryz.aContainsM {M : Mem} {x : AV} {L : List (List UInt8)} (s : List UInt8) (hl : L.length ≤ 1000000000) (hx : sts M x = some L) : ACallsTo Tryz.prog 56 [x,.str s] M (.bool (decide (s ∈ L))) M := by
 have hG : fnOf Tryz.prog 56 = some Tryz.f56 := by kernel_rfl
 have hi : decide (0 ≤ idxS s 0 L) = decide (s ∈ L) := by
  rw [decide_eq_decide]
  have := idxS_neg (s := s) (i := 0) (l := L)
  by_cases h : s ∈ L
  ·simp only [h,iff_true]
   exact Int.not_lt.1 fun e => this.1 e h
  ·simp only [h,iff_false]
   have := this.2 h; omega
 have h : callFn (tyOf Tryz.prog) (fun _ => []) (fnOf Tryz.prog) Tryz.ixO 1 56 [x,.str s] M = some ⟨.bool (decide (s ∈ L)),none,[]⟩ := by
  rw [← hi]
  simp [callFn,hG,Tryz.f56,Tryz.ixO,hx,hl]
 have := (callFn_sound Tryz.mixed (tyOf_ok _) Tryz.ix_ok (fnOf_ok _) h).1
 simpa [CallRes.mem] using this
end Go.Proofs
namespace Go.Proofs
open Go.Eng
open Classical in
noncomputable def condF (L : List (FuncId × List AV × AV)) (p : Mem → Prop) : Oracle := fun c a M => if p M then pureO (factF L) c a M else none
theorem condF_ok {P : Program} {L : List (FuncId × List AV × AV)} {p : Mem → Prop} (h : ∀ x ∈ L,∀ M,p M → ACallsTo P x.1 x.2.1 M x.2.2 M) : OracleOk P (condF L p) := by
 have k : ∀ f a v,factF L f a = some v → ∃ x ∈ L,f = x.1 ∧ a = x.2.1 ∧ v = x.2.2 := by
  clear h
  intro f a v hv
  induction L with
  | nil => simp [factF] at hv
  | cons x L ih =>
   rw [factF] at hv
   split at hv
   ·rename_i hc
    cases hv
    exact ⟨x,by simp,hc.1,hc.2,rfl⟩
   ·obtain ⟨y,hy,h1⟩ := ih hv
    exact ⟨y,by simp [hy],h1⟩
 have k2 : ∀ c a M r,condF L p c a M = some r → p M ∧ ∃ f,c = .fn f ∧ ∃ x ∈ L,f = x.1 ∧ a = x.2.1 ∧ r = ⟨x.2.2,none,[]⟩ := by
  intro c a M r hr
  unfold condF at hr
  split at hr
  ·rename_i hp
   refine ⟨hp,?_⟩
   unfold pureO at hr
   split at hr
   ·rename_i f
    split at hr
    ·rename_i v hv
     cases hr
     obtain ⟨x,hx,h1,h2,h3⟩ := k _ _ _ hv
     exact ⟨f,rfl,x,hx,h1,h2,by rw [h3]⟩
    ·cases hr
   ·cases hr
  ·cases hr
 refine ⟨fun f a M r hr => ?_,fun b a M r hr => ?_,fun c a M r q hr hq => ?_⟩
 ·obtain ⟨hp,g,hg,x,hx,h1,rfl,rfl⟩ := k2 _ _ _ _ hr
  cases hg
  subst h1
  simpa [CallRes.mem] using h x hx M hp
 ·obtain ⟨_,g,hg,_⟩ := k2 _ _ _ _ hr
  cases hg
 ·obtain ⟨_,g,_,x,_,_,_,rfl⟩ := k2 _ _ _ _ hr
  cases hq
def Tryz.dpLv2 (c : Code) : List Nat := if (writesC c).contains 35 then [35] else [10,65]
theorem Tryz.aContainsT (M : Mem) (u k : Nat) (o : Bool) (U : List (List UInt8)) (s : List UInt8) (hu : M[u]? = some (.cells o 1 (stC U))) (hk : k ≤ U.length) (hl : U.length ≤ 3) (hs : s ∉ U.take k) :
  ACallsTo Tryz.prog 56 [.slice u 0 k none,.str s] M (.bool false) M := by
 have h : sts M (.slice u 0 k none) = some (U.take k) := by
  have h1 : (stC U).take (k * 1) = stC (U.take k) := by simp [stC,List.map_take]
  unfold sts
  rw [cellsC_at hu (by rw [stC_length]; omega) h1]
  exact stP_stC _
 have := Tryz.aContainsM (M := M) s (by rw [List.length_take]; omega) h
 rwa [decide_eq_false hs] at this
set_option maxHeartbeats 4000000 in
theorem Tryz.aCkDep0 (s : Sheet) (nm : List UInt8) (u0 : List UInt8) (n0 : u0 ∈ eNames)  (Z : List Int) (hZ : ∀ z ∈ Z,z.natAbs < 1000) (hl : Z.length ≤ 1000) (hn : Z.length = s.P.length) (m : Mem) (b u : Nat) (o1 o2 o3 o4 : Bool)
  (hp : m[0]? = some (.cells o1 2 (pC s.P))) (hq : m[1]? = some (.cells o2 3 (tC s.T))) (hb : m[b]? = some (.cells o3 1 (qC (qH Z)))) (hu : m[u]? = some (.cells o4 1 (stC [u0]))) :
  ACallsTo Tryz.prog 201 [shA s,.agg (evDep nm (.slice b 0 Z.length none) (.slice u 0 1 none) (.nilslice))] m (.int .i64 0) m := by
 have hG : fnOf Tryz.prog 201 = some Tryz.f201 := by kernel_rfl
 have lp := (List.getElem?_eq_some_iff.1 hp).1
 have lq := (List.getElem?_eq_some_iff.1 hq).1
 have lb := (List.getElem?_eq_some_iff.1 hb).1
 have lu := (List.getElem?_eq_some_iff.1 hu).1
 have ep := fun ext : Mem => (List.getElem?_append_left (l₂ := ext) lp).trans hp
 have eq := fun ext : Mem => (List.getElem?_append_left (l₂ := ext) lq).trans hq
 have eb := fun ext : Mem => (List.getElem?_append_left (l₂ := ext) lb).trans hb
 have eu := fun ext : Mem => (List.getElem?_append_left (l₂ := ext) lu).trans hu
 have hO1 : OracleOk Tryz.prog (pureO (factF [(86,[.str u0],.int .i64 0)])) := factF_ok fun e he M => by
  simp only [List.mem_cons,List.not_mem_nil,or_false] at he
  rcases he with rfl
  exact Tryz.aEName _ n0 M
 have hO2 : OracleOk Tryz.prog (condF [(277,[shA s,.slice b 0 Z.length none],.int .i64 0),(56,[.slice u 0 0 none,.str u0],.bool false)] (fun M => ∃ ext,M = m ++ ext)) := condF_ok fun e he M hM => by
  obtain ⟨ext,rfl⟩ := hM
  simp only [List.mem_cons,List.not_mem_nil,or_false] at he
  rcases he with rfl | rfl
  ·exact Tryz.aFCheck s Z hZ hl hn _ b o1 o2 o3 (ep ext) (eq ext) (eb ext)
  ·exact Tryz.aContainsT _ u 0 o4 [u0] u0 (eu ext) (by simp) (by simp) (by simp)
 have hO := OracleOk.or' hO1 hO2
 have w0 : IntKind.i64.wrap 0 = 0 := rfl
 have w1 : IntKind.i64.wrap 1 = 1 := rfl
 have w2 : IntKind.i64.wrap 2 = 2 := rfl
 have w3 : IntKind.i64.wrap 3 = 3 := rfl
 clear hO1 hO2
 have h : callFn (tyOf Tryz.prog) Tryz.dpLv2 (fnOf Tryz.prog) (Oracle.or (pureO (factF [(86,[.str u0],.int .i64 0)])) (condF [(277,[shA s,.slice b 0 Z.length none],.int .i64 0),(56,[.slice u 0 0 none,.str u0],.bool false)] (fun M => ∃ ext,M = m ++ ext))) 5 201 [shA s,.agg (evDep nm (.slice b 0 Z.length none) (.slice u 0 1 none) (.nilslice))] m = some ⟨.int .i64 0,none,[]⟩ := by
  clear hO
  obtain ⟨N,hN⟩ : ∃ N,N = Z.length := ⟨_,rfl⟩
  simp only [← hN] at hb ⊢
  simp [callFn,hG,Tryz.f201,Oracle.or,pureO,factF,condF,shA,evDep,execC_loop,iter,Tryz.dpLv2,stC,eu,w0,w1,w2,w3]
 have := (callFn_sound Tryz.mixed (tyOf_ok _) hO (fnOf_ok _) h).1
 simpa [CallRes.mem] using this
set_option maxHeartbeats 4000000 in
theorem Tryz.aCkDep1 (s : Sheet) (nm : List UInt8) (u0 u1 : List UInt8) (n0 : u0 ∈ eNames) (n1 : u1 ∈ eNames) (d01 : u1 ≠ u0) (Z : List Int) (hZ : ∀ z ∈ Z,z.natAbs < 1000) (hl : Z.length ≤ 1000) (hn : Z.length = s.P.length) (Y1 : List Int) (hY1 : ∀ z ∈ Y1,z.natAbs < 1000) (hl1 : Y1.length = s.P.length) (hle1 : ∀ (i : Nat) z y,Z[i]? = some z → Y1[i]? = some y → z ≤ y) (m : Mem) (b u c r1 : Nat) (o1 o2 o3 o4 o5 q1 : Bool)
  (hp : m[0]? = some (.cells o1 2 (pC s.P))) (hq : m[1]? = some (.cells o2 3 (tC s.T))) (hb : m[b]? = some (.cells o3 1 (qC (qH Z)))) (hu : m[u]? = some (.cells o4 1 (stC [u0,u1]))) (hc : m[c]? = some (.cells o5 1 [.slice r1 0 Z.length none])) (hr1 : m[r1]? = some (.cells q1 1 (qC (qH Y1)))) :
  ACallsTo Tryz.prog 201 [shA s,.agg (evDep nm (.slice b 0 Z.length none) (.slice u 0 2 none) (.slice c 0 1 none))] m (.int .i64 0) m := by
 have hG : fnOf Tryz.prog 201 = some Tryz.f201 := by kernel_rfl
 have lp := (List.getElem?_eq_some_iff.1 hp).1
 have lq := (List.getElem?_eq_some_iff.1 hq).1
 have lb := (List.getElem?_eq_some_iff.1 hb).1
 have lu := (List.getElem?_eq_some_iff.1 hu).1
 have lc := (List.getElem?_eq_some_iff.1 hc).1
 have lr1 := (List.getElem?_eq_some_iff.1 hr1).1
 have ep := fun ext : Mem => (List.getElem?_append_left (l₂ := ext) lp).trans hp
 have eq := fun ext : Mem => (List.getElem?_append_left (l₂ := ext) lq).trans hq
 have eb := fun ext : Mem => (List.getElem?_append_left (l₂ := ext) lb).trans hb
 have eu := fun ext : Mem => (List.getElem?_append_left (l₂ := ext) lu).trans hu
 have ec := fun ext : Mem => (List.getElem?_append_left (l₂ := ext) lc).trans hc
 have er1 := fun ext : Mem => (List.getElem?_append_left (l₂ := ext) lr1).trans hr1
 have hO1 : OracleOk Tryz.prog (pureO (factF [(86,[.str u0],.int .i64 0),(86,[.str u1],.int .i64 0)])) := factF_ok fun e he M => by
  simp only [List.mem_cons,List.not_mem_nil,or_false] at he
  rcases he with rfl | rfl
  ·exact Tryz.aEName _ n0 M
  ·exact Tryz.aEName _ n1 M
 have hO2 : OracleOk Tryz.prog (condF [(277,[shA s,.slice b 0 Z.length none],.int .i64 0),(56,[.slice u 0 0 none,.str u0],.bool false),(56,[.slice u 0 1 none,.str u1],.bool false),(278,[shA s,.slice b 0 Z.length none,.slice r1 0 Z.length none],.tuple [.bool true,.int .i64 0])] (fun M => ∃ ext,M = m ++ ext)) := condF_ok fun e he M hM => by
  obtain ⟨ext,rfl⟩ := hM
  simp only [List.mem_cons,List.not_mem_nil,or_false] at he
  rcases he with rfl | rfl | rfl | rfl
  ·exact Tryz.aFCheck s Z hZ hl hn _ b o1 o2 o3 (ep ext) (eq ext) (eb ext)
  ·exact Tryz.aContainsT _ u 0 o4 [u0,u1] u0 (eu ext) (by simp) (by simp) (by simp)
  ·exact Tryz.aContainsT _ u 1 o4 [u0,u1] u1 (eu ext) (by simp) (by simp) (by simp [d01])
  ·have := Tryz.aFBelow s Z Y1 hZ hY1 (by omega) hn hl1 hle1 (m ++ ext) b r1 o1 o2 o3 q1 (ep ext) (eq ext) (eb ext) (er1 ext)
   rw [show Y1.length = Z.length by omega] at this
   exact this
 have hO := OracleOk.or' hO1 hO2
 have w0 : IntKind.i64.wrap 0 = 0 := rfl
 have w1 : IntKind.i64.wrap 1 = 1 := rfl
 have w2 : IntKind.i64.wrap 2 = 2 := rfl
 have w3 : IntKind.i64.wrap 3 = 3 := rfl
 clear hO1 hO2
 have h : callFn (tyOf Tryz.prog) Tryz.dpLv2 (fnOf Tryz.prog) (Oracle.or (pureO (factF [(86,[.str u0],.int .i64 0),(86,[.str u1],.int .i64 0)])) (condF [(277,[shA s,.slice b 0 Z.length none],.int .i64 0),(56,[.slice u 0 0 none,.str u0],.bool false),(56,[.slice u 0 1 none,.str u1],.bool false),(278,[shA s,.slice b 0 Z.length none,.slice r1 0 Z.length none],.tuple [.bool true,.int .i64 0])] (fun M => ∃ ext,M = m ++ ext))) 5 201 [shA s,.agg (evDep nm (.slice b 0 Z.length none) (.slice u 0 2 none) (.slice c 0 1 none))] m = some ⟨.int .i64 0,none,[]⟩ := by
  clear hO
  obtain ⟨N,hN⟩ : ∃ N,N = Z.length := ⟨_,rfl⟩
  simp only [← hN] at ec ⊢
  simp [callFn,hG,Tryz.f201,Oracle.or,pureO,factF,condF,shA,evDep,execC_loop,iter,Tryz.dpLv2,stC,eu,ec,w0,w1,w2,w3]
 have := (callFn_sound Tryz.mixed (tyOf_ok _) hO (fnOf_ok _) h).1
 simpa [CallRes.mem] using this
set_option maxHeartbeats 4000000 in
theorem Tryz.aCkDep2 (s : Sheet) (nm : List UInt8) (u0 u1 u2 : List UInt8) (n0 : u0 ∈ eNames) (n1 : u1 ∈ eNames) (n2 : u2 ∈ eNames) (d01 : u1 ≠ u0) (d02 : u2 ≠ u0) (d12 : u2 ≠ u1) (Z : List Int) (hZ : ∀ z ∈ Z,z.natAbs < 1000) (hl : Z.length ≤ 1000) (hn : Z.length = s.P.length) (Y1 Y2 : List Int) (hY1 : ∀ z ∈ Y1,z.natAbs < 1000) (hl1 : Y1.length = s.P.length) (hle1 : ∀ (i : Nat) z y,Z[i]? = some z → Y1[i]? = some y → z ≤ y) (hY2 : ∀ z ∈ Y2,z.natAbs < 1000) (hl2 : Y2.length = s.P.length) (hle2 : ∀ (i : Nat) z y,Y1[i]? = some z → Y2[i]? = some y → z ≤ y) (m : Mem) (b u c r1 r2 : Nat) (o1 o2 o3 o4 o5 q1 q2 : Bool)
  (hp : m[0]? = some (.cells o1 2 (pC s.P))) (hq : m[1]? = some (.cells o2 3 (tC s.T))) (hb : m[b]? = some (.cells o3 1 (qC (qH Z)))) (hu : m[u]? = some (.cells o4 1 (stC [u0,u1,u2]))) (hc : m[c]? = some (.cells o5 1 [.slice r1 0 Z.length none,.slice r2 0 Z.length none])) (hr1 : m[r1]? = some (.cells q1 1 (qC (qH Y1)))) (hr2 : m[r2]? = some (.cells q2 1 (qC (qH Y2)))) :
  ACallsTo Tryz.prog 201 [shA s,.agg (evDep nm (.slice b 0 Z.length none) (.slice u 0 3 none) (.slice c 0 2 none))] m (.int .i64 0) m := by
 have hG : fnOf Tryz.prog 201 = some Tryz.f201 := by kernel_rfl
 have lp := (List.getElem?_eq_some_iff.1 hp).1
 have lq := (List.getElem?_eq_some_iff.1 hq).1
 have lb := (List.getElem?_eq_some_iff.1 hb).1
 have lu := (List.getElem?_eq_some_iff.1 hu).1
 have lc := (List.getElem?_eq_some_iff.1 hc).1
 have lr1 := (List.getElem?_eq_some_iff.1 hr1).1
 have lr2 := (List.getElem?_eq_some_iff.1 hr2).1
 have ep := fun ext : Mem => (List.getElem?_append_left (l₂ := ext) lp).trans hp
 have eq := fun ext : Mem => (List.getElem?_append_left (l₂ := ext) lq).trans hq
 have eb := fun ext : Mem => (List.getElem?_append_left (l₂ := ext) lb).trans hb
 have eu := fun ext : Mem => (List.getElem?_append_left (l₂ := ext) lu).trans hu
 have ec := fun ext : Mem => (List.getElem?_append_left (l₂ := ext) lc).trans hc
 have er1 := fun ext : Mem => (List.getElem?_append_left (l₂ := ext) lr1).trans hr1
 have er2 := fun ext : Mem => (List.getElem?_append_left (l₂ := ext) lr2).trans hr2
 have hO1 : OracleOk Tryz.prog (pureO (factF [(86,[.str u0],.int .i64 0),(86,[.str u1],.int .i64 0),(86,[.str u2],.int .i64 0)])) := factF_ok fun e he M => by
  simp only [List.mem_cons,List.not_mem_nil,or_false] at he
  rcases he with rfl | rfl | rfl
  ·exact Tryz.aEName _ n0 M
  ·exact Tryz.aEName _ n1 M
  ·exact Tryz.aEName _ n2 M
 have hO2 : OracleOk Tryz.prog (condF [(277,[shA s,.slice b 0 Z.length none],.int .i64 0),(56,[.slice u 0 0 none,.str u0],.bool false),(56,[.slice u 0 1 none,.str u1],.bool false),(56,[.slice u 0 2 none,.str u2],.bool false),(278,[shA s,.slice b 0 Z.length none,.slice r1 0 Z.length none],.tuple [.bool true,.int .i64 0]),(278,[shA s,.slice r1 0 Z.length none,.slice r2 0 Z.length none],.tuple [.bool true,.int .i64 0])] (fun M => ∃ ext,M = m ++ ext)) := condF_ok fun e he M hM => by
  obtain ⟨ext,rfl⟩ := hM
  simp only [List.mem_cons,List.not_mem_nil,or_false] at he
  rcases he with rfl | rfl | rfl | rfl | rfl | rfl
  ·exact Tryz.aFCheck s Z hZ hl hn _ b o1 o2 o3 (ep ext) (eq ext) (eb ext)
  ·exact Tryz.aContainsT _ u 0 o4 [u0,u1,u2] u0 (eu ext) (by simp) (by simp) (by simp)
  ·exact Tryz.aContainsT _ u 1 o4 [u0,u1,u2] u1 (eu ext) (by simp) (by simp) (by simp [d01])
  ·exact Tryz.aContainsT _ u 2 o4 [u0,u1,u2] u2 (eu ext) (by simp) (by simp) (by simp [d02,d12])
  ·have := Tryz.aFBelow s Z Y1 hZ hY1 (by omega) hn hl1 hle1 (m ++ ext) b r1 o1 o2 o3 q1 (ep ext) (eq ext) (eb ext) (er1 ext)
   rw [show Y1.length = Z.length by omega] at this
   exact this
  ·have := Tryz.aFBelow s Y1 Y2 hY1 hY2 (by omega) hl1 hl2 hle2 (m ++ ext) r1 r2 o1 o2 q1 q2 (ep ext) (eq ext) (er1 ext) (er2 ext)
   rw [show Y2.length = Z.length by omega,show Y1.length = Z.length by omega] at this
   exact this
 have hO := OracleOk.or' hO1 hO2
 have w0 : IntKind.i64.wrap 0 = 0 := rfl
 have w1 : IntKind.i64.wrap 1 = 1 := rfl
 have w2 : IntKind.i64.wrap 2 = 2 := rfl
 have w3 : IntKind.i64.wrap 3 = 3 := rfl
 clear hO1 hO2
 have h : callFn (tyOf Tryz.prog) Tryz.dpLv2 (fnOf Tryz.prog) (Oracle.or (pureO (factF [(86,[.str u0],.int .i64 0),(86,[.str u1],.int .i64 0),(86,[.str u2],.int .i64 0)])) (condF [(277,[shA s,.slice b 0 Z.length none],.int .i64 0),(56,[.slice u 0 0 none,.str u0],.bool false),(56,[.slice u 0 1 none,.str u1],.bool false),(56,[.slice u 0 2 none,.str u2],.bool false),(278,[shA s,.slice b 0 Z.length none,.slice r1 0 Z.length none],.tuple [.bool true,.int .i64 0]),(278,[shA s,.slice r1 0 Z.length none,.slice r2 0 Z.length none],.tuple [.bool true,.int .i64 0])] (fun M => ∃ ext,M = m ++ ext))) 5 201 [shA s,.agg (evDep nm (.slice b 0 Z.length none) (.slice u 0 3 none) (.slice c 0 2 none))] m = some ⟨.int .i64 0,none,[]⟩ := by
  clear hO
  obtain ⟨N,hN⟩ : ∃ N,N = Z.length := ⟨_,rfl⟩
  simp only [← hN] at ec ⊢
  simp [callFn,hG,Tryz.f201,Oracle.or,pureO,factF,condF,shA,evDep,execC_loop,iter,Tryz.dpLv2,stC,eu,ec,w0,w1,w2,w3]
 have := (callFn_sound Tryz.mixed (tyOf_ok _) hO (fnOf_ok _) h).1
 simpa [CallRes.mem] using this
theorem stC_at {L : List (List UInt8)} {i : Nat} {s : List UInt8} (h : L[i]? = some s) : (stC L)[i]? = some (.str s) := by simp [stC,h]
theorem stC_refs2 (n : Nat) : ∀ L : List (List UInt8),AV.refsL n (stC L) = []
 | [] => rfl
 | q :: Q => by
  have := stC_refs2 n Q
  simp only [stC] at this
  simp [stC,AV.refsL,AV.refs,this]
theorem stC_ok2 (f : Nat → Bool) : ∀ L : List (List UInt8),AV.refsOkL f (stC L) = true
 | [] => rfl
 | q :: Q => by
  have := stC_ok2 f Q
  simp only [stC] at this
  simp [stC,AV.refsOkL,AV.refsOk,this]
theorem qC_stC (Q : List Rat) : qC Q = stC (Q.map ratS) := by simp [qC,stC]
set_option maxHeartbeats 1600000 in
theorem Tryz.eqF_loop {K : Nat} (L : List (List UInt8)) (hl : L.length ≤ 1000) (hK : L.length < K) {b : Code} (hb : loopsF Tryz.f225 = [b]) :
  ∃ F : Env → Bool → Env,∀ env0 d,(Eng.look env0 0 = .slice 0 0 L.length none ∧ Eng.look env0 1 = .slice 0 0 L.length none ∧ Eng.look env0 12 = .int .i64 L.length ∧ Eng.look env0 13 = .int .i64 0) →
   execC (tyOf Tryz.prog) (fun _ => [13]) noOracle K 26 1 true (.loop b) ⟨env0,[.cells false 1 (stC L)],d⟩ = some (.exit 0,⟨F env0 d,[.cells false 1 (stC L)],d⟩) ∧ True := by
 refine loop_rule (L := [13]) rfl (fun env0 => Eng.look env0 0 = .slice 0 0 L.length none ∧ Eng.look env0 1 = .slice 0 0 L.length none ∧ Eng.look env0 12 = .int .i64 L.length ∧ Eng.look env0 13 = .int .i64 0) (fun _ _ => True) ?_
 rintro env0 d ⟨h0,h1,h12,h13⟩
 obtain ⟨os,hops⟩ : ∃ os,drawsF Tryz.f225 = os := ⟨_,rfl⟩
 have hbs := draws_map hops (ls := [[0,0,3,7,0,0,48,112,255]]) (by kernel_rfl)
 simp only [drawsF,drawsC,Tryz.f225,List.nil_append,List.append_nil,List.cons_append] at hops
 subst hops
 simp only [List.map_cons,List.map_nil,List.cons.injEq,and_true] at hbs
 have a0 : allBef [0,0,3,7,0,0,48,112,255] 8 = true := by decide
 have e := fun d x y => Tryz.eqTxt d x y
 simp [loopsF,loopsC,Tryz.f225] at hb
 have hn0 : normE [13] (writesC b) env0 ((13,.int .i64 ((0 : Nat) : Int)) :: env0) = normE [13] (writesC b) env0 env0 := by simp [normE,h13]
 rw [← hn0]
 refine iter_ind (α := Nat) (fun n => ⟨normE [13] (writesC b) env0 ((13,.int .i64 (n : Int)) :: env0),[.cells false 1 (stC L)],d⟩) (fun n => L.length - n) (fun n => n ≤ L.length) (.exit 0) _ d _ (by simp) ?_ K 0 (by omega) (by omega)
 rintro n hn1
 clear hn0
 subst hb
 by_cases hlt : n < L.length
 ·obtain ⟨z,hz⟩ : ∃ z,L[n]? = some z := ⟨L[n],List.getElem?_eq_getElem hlt⟩
  have k1 := stC_at hz
  have w1 : IntKind.i64.wrap ((n : Int) + 1) = ((n + 1 : Nat) : Int) := by rw [wrap_i64 (by omega) (by omega)]; omega
  left
  obtain ⟨v,hv⟩ : ∃ v,v = n + 1 := ⟨_,rfl⟩
  rw [← hv] at w1
  refine ⟨v,?_⟩
  simp [-runDraw,runDraw_light hbs,runDrawL,lightAll,lightRec,a0,Nat.testBit,h0,h1,h12,hlt,k1,w1,e,stC_refs2,stC_ok2]
  omega
 ·right
  simp [h12,hlt]
theorem Tryz.aEqF0 (L : List (List UInt8)) (hl : L.length ≤ 1000) :
  ACallsTo Tryz.prog 225 [.slice 0 0 L.length none,.slice 0 0 L.length none] [.cells false 1 (stC L)] (.bool true) [.cells false 1 (stC L)] := by
 have hG : fnOf Tryz.prog 225 = some Tryz.f225 := by kernel_rfl
 obtain ⟨b,hb⟩ : ∃ b,loopsF Tryz.f225 = [b] := ⟨_,rfl⟩
 obtain ⟨F,hF⟩ := Tryz.eqF_loop (K := L.length + 1) L hl (by omega) hb
 have hF1 := fun env0 d h1 h2 h3 h4 => (hF env0 d ⟨h1,h2,h3,h4⟩).1
 clear hF
 simp [loopsF,loopsC,Tryz.f225] at hb
 subst hb
 have h : callFn (tyOf Tryz.prog) (fun _ => [13]) (fnOf Tryz.prog) noOracle (L.length + 1) 225 [.slice 0 0 L.length none,.slice 0 0 L.length none] [.cells false 1 (stC L)] = some ⟨.bool true,none,[]⟩ := by
  simp [callFn,hG,Tryz.f225,hF1]
 have := (callFn_sound Tryz.mixed (tyOf_ok _) (noOracle_ok _) (fnOf_ok _) h).1
 simpa [CallRes.mem] using this
theorem Tryz.aEqF (L : List (List UInt8)) (hl : L.length ≤ 1000) (M : Mem) (b : Nat) (o : Bool) (hb : M[b]? = some (.cells o 1 (stC L))) :
  ACallsTo Tryz.prog 225 [.slice b 0 L.length none,.slice b 0 L.length none] M (.bool true) M := by
 have hlt := (List.getElem?_eq_some_iff.1 hb).1
 have := ACallsTo.frame (M := M) (new := []) [b] rfl (by simpa using hlt) (by rfl) (fun i t hs => by
  match i with
  | 0 => simp at hs; subst hs; exact rowC_sub (stC_closed _) hb List.take_length
  | i + 1 => simp at hs) rfl (Tryz.aEqF0 L hl)
 simpa [AV.rens,AV.ren,back] using this
set_option maxHeartbeats 1600000 in
theorem Tryz.eqS_loop {K : Nat} (L : List (List UInt8)) (hl : L.length ≤ 1000) (hK : L.length < K) {b : Code} (hb : loopsF Tryz.f14 = [b]) :
  ∃ F : Env → Bool → Env,∀ env0 d,(Eng.look env0 0 = .slice 0 0 L.length none ∧ Eng.look env0 1 = .slice 0 0 L.length none ∧ Eng.look env0 12 = .int .i64 L.length ∧ Eng.look env0 13 = .int .i64 0) →
   execC (tyOf Tryz.prog) (fun _ => [13]) noOracle K 26 1 true (.loop b) ⟨env0,[.cells false 1 (stC L)],d⟩ = some (.exit 0,⟨F env0 d,[.cells false 1 (stC L)],d⟩) ∧ True := by
 refine loop_rule (L := [13]) rfl (fun env0 => Eng.look env0 0 = .slice 0 0 L.length none ∧ Eng.look env0 1 = .slice 0 0 L.length none ∧ Eng.look env0 12 = .int .i64 L.length ∧ Eng.look env0 13 = .int .i64 0) (fun _ _ => True) ?_
 rintro env0 d ⟨h0,h1,h12,h13⟩
 obtain ⟨os,hops⟩ : ∃ os,drawsF Tryz.f14 = os := ⟨_,rfl⟩
 have hbs := draws_map hops (ls := [[0,0,3,7,0,0,48,112,255]]) (by kernel_rfl)
 simp only [drawsF,drawsC,Tryz.f14,List.nil_append,List.append_nil,List.cons_append] at hops
 subst hops
 simp only [List.map_cons,List.map_nil,List.cons.injEq,and_true] at hbs
 have a0 : allBef [0,0,3,7,0,0,48,112,255] 8 = true := by decide
 have e := fun d x y => Tryz.eqS9 d x y
 simp [loopsF,loopsC,Tryz.f14] at hb
 have hn0 : normE [13] (writesC b) env0 ((13,.int .i64 ((0 : Nat) : Int)) :: env0) = normE [13] (writesC b) env0 env0 := by simp [normE,h13]
 rw [← hn0]
 refine iter_ind (α := Nat) (fun n => ⟨normE [13] (writesC b) env0 ((13,.int .i64 (n : Int)) :: env0),[.cells false 1 (stC L)],d⟩) (fun n => L.length - n) (fun n => n ≤ L.length) (.exit 0) _ d _ (by simp) ?_ K 0 (by omega) (by omega)
 rintro n hn1
 clear hn0
 subst hb
 by_cases hlt : n < L.length
 ·obtain ⟨z,hz⟩ : ∃ z,L[n]? = some z := ⟨L[n],List.getElem?_eq_getElem hlt⟩
  have k1 := stC_at hz
  have w1 : IntKind.i64.wrap ((n : Int) + 1) = ((n + 1 : Nat) : Int) := by rw [wrap_i64 (by omega) (by omega)]; omega
  left
  obtain ⟨v,hv⟩ : ∃ v,v = n + 1 := ⟨_,rfl⟩
  rw [← hv] at w1
  refine ⟨v,?_⟩
  simp [-runDraw,runDraw_light hbs,runDrawL,lightAll,lightRec,a0,Nat.testBit,h0,h1,h12,hlt,k1,w1,e,stC_refs2,stC_ok2]
  omega
 ·right
  simp [h12,hlt]
theorem Tryz.aEqS0 (L : List (List UInt8)) (hl : L.length ≤ 1000) :
  ACallsTo Tryz.prog 14 [.slice 0 0 L.length none,.slice 0 0 L.length none] [.cells false 1 (stC L)] (.bool true) [.cells false 1 (stC L)] := by
 have hG : fnOf Tryz.prog 14 = some Tryz.f14 := by kernel_rfl
 obtain ⟨b,hb⟩ : ∃ b,loopsF Tryz.f14 = [b] := ⟨_,rfl⟩
 obtain ⟨F,hF⟩ := Tryz.eqS_loop (K := L.length + 1) L hl (by omega) hb
 have hF1 := fun env0 d h1 h2 h3 h4 => (hF env0 d ⟨h1,h2,h3,h4⟩).1
 clear hF
 simp [loopsF,loopsC,Tryz.f14] at hb
 subst hb
 have h : callFn (tyOf Tryz.prog) (fun _ => [13]) (fnOf Tryz.prog) noOracle (L.length + 1) 14 [.slice 0 0 L.length none,.slice 0 0 L.length none] [.cells false 1 (stC L)] = some ⟨.bool true,none,[]⟩ := by
  simp [callFn,hG,Tryz.f14,hF1]
 have := (callFn_sound Tryz.mixed (tyOf_ok _) (noOracle_ok _) (fnOf_ok _) h).1
 simpa [CallRes.mem] using this
theorem Tryz.aEqS (L : List (List UInt8)) (hl : L.length ≤ 1000) (M : Mem) (b : Nat) (o : Bool) (hb : M[b]? = some (.cells o 1 (stC L))) :
  ACallsTo Tryz.prog 14 [.slice b 0 L.length none,.slice b 0 L.length none] M (.bool true) M := by
 have hlt := (List.getElem?_eq_some_iff.1 hb).1
 have := ACallsTo.frame (M := M) (new := []) [b] rfl (by simpa using hlt) (by rfl) (fun i t hs => by
  match i with
  | 0 => simp at hs; subst hs; exact rowC_sub (stC_closed _) hb List.take_length
  | i + 1 => simp at hs) rfl (Tryz.aEqS0 L hl)
 simpa [AV.rens,AV.ren,back] using this
end Go.Proofs
