/- See I57. -/
import Derived.Test.YtahfjdgeebjiaaaGreatDoorI50
import Derived.Test.YtahfjdgeebjiaaaGreatDoorI47
import Derived.Test.YtahfjdgeebjiaaaGreatDoorI48
set_option linter.all false
namespace Go.Proofs
open Go.Eng
abbrev Rel := Int × List UInt8 × List UInt8
def relAV (x : Rel) : AV := .agg [.int .i64 x.1,.str x.2.1,.str x.2.2]
def rlC (R : List Rel) : List AV := R.flatMap fun x => [.int .i64 x.1,.str x.2.1,.str x.2.2]
def RlAt (R : List Rel) (N : Mem) (v : AV) : Prop := (v = .nilslice ∧ R = []) ∨ ∃ b o,v = .slice b 0 R.length none ∧ N[b]? = some (.cells o 3 (rlC R))
theorem rlC_row : ∀ {R : List Rel} {i : Nat} {x : Rel},R[i]? = some x → ((rlC R).drop (i * 3)).take 3 = [.int .i64 x.1,.str x.2.1,.str x.2.2] ∧ i * 3 + 3 ≤ (rlC R).length
 | [],i,x,h => by simp at h
 | y :: R,0,x,h => by simp at h; subst h; simp [rlC]
 | y :: R,i + 1,x,h => by
  have := rlC_row (R := R) (i := i) (x := x) (by simpa using h)
  simp only [rlC,List.flatMap_cons] at this ⊢
  refine ⟨?_,by simp only [List.length_append,List.length_cons,List.length_nil]; omega⟩
  rw [List.drop_append,List.drop_of_length_le (by simp; omega),List.nil_append]
  simp only [List.length_cons,List.length_nil]
  rw [show (i + 1) * 3 - (0 + 1 + 1 + 1) = i * 3 by omega]
  exact this.1
theorem RlAt.more {R : List Rel} {N : Mem} {v : AV} (h : RlAt R N v) (Z : Mem) : RlAt R (N ++ Z) v := by
 rcases h with h | ⟨b,o,h1,h2⟩
 ·exact .inl h
 ·exact .inr ⟨b,o,h1,by rw [List.getElem?_append_left (List.getElem?_eq_some_iff.1 h2).1]; exact h2⟩
def fidx (g : Rel → Bool) : Nat → List Rel → Int
 | _,[] => -1
 | i,x :: l => if g x = true then (i : Int) else fidx g (i + 1) l
theorem fidx_ge {g : Rel → Bool} : ∀ {i : Nat} {l : List Rel},-1 ≤ fidx g i l
 | i,[] => by unfold fidx; omega
 | i,x :: l => by
  unfold fidx
  split
  ·omega
  ·exact fidx_ge
theorem fidx_neg {g : Rel → Bool} : ∀ {i : Nat} {l : List Rel},fidx g i l < 0 ↔ ∀ x ∈ l,g x = false
 | i,[] => by simp [fidx]
 | i,x :: l => by
  unfold fidx
  by_cases h : g x = true
  ·rw [if_pos h]; simp [h]
  ·rw [if_neg h,fidx_neg]; simp [h]
noncomputable def tstO (f : FuncId) (caps : List AV) (g : Rel → Bool) (R : List Rel) (N : Mem) : Oracle := specO fun c a N' r => ∃ x ∈ R,c = .fn f ∧ a = relAV x :: caps ∧ N' = N ∧ r = ⟨.bool (g x),none,[]⟩
theorem tstO_ok {P : Program} {f : FuncId} {caps : List AV} {g : Rel → Bool} {R : List Rel} {N : Mem} (h : ∀ x ∈ R,ACallsTo P f (relAV x :: caps) N (.bool (g x)) N) : OracleOk P (tstO f caps g R N) := specO_ok fun c a N' r hr => by
 obtain ⟨x,hx,rfl,rfl,rfl,rfl⟩ := hr
 exact soundAt_call (by simpa using h x hx)
theorem relAV_inj {x y : Rel} (h : relAV x = relAV y) : x = y := by
 obtain ⟨a,b,c⟩ := x
 obtain ⟨a',b',c'⟩ := y
 simp [relAV] at h
 obtain ⟨rfl,rfl,rfl⟩ := h
 rfl
theorem tstO_at {f : FuncId} {caps : List AV} {g : Rel → Bool} {R : List Rel} {N : Mem} {x : Rel} (hx : x ∈ R) : tstO f caps g R N (.fn f) (.agg [.int .i64 x.1,.str x.2.1,.str x.2.2] :: caps) N = some ⟨.bool (g x),none,[]⟩ := by
 unfold tstO
 refine specO_det ⟨x,hx,rfl,rfl,rfl,rfl⟩ fun r' ⟨y,_,_,h,_,h2⟩ => ?_
 have := relAV_inj (x := x) (y := y) (List.cons.inj h).1
 subst this
 exact h2
set_option maxHeartbeats 4000000 in
theorem Tryz.if_loop {f : FuncId} {caps : List AV} {g : Rel → Bool} {R : List Rel} {N : Mem} {v : AV} {K m0 : Nat} (hv : RlAt R N v) (hl : R.length ≤ 1000000) (hK : R.length < K) {b : Code} (hb : loopsF Tryz.f20 = [b]) :
  ∃ F : Env → Bool → Env,∀ env0 d,(Eng.look env0 0 = v ∧ Eng.look env0 1 = .func f caps ∧ Eng.look env0 7 = .int .i64 R.length ∧ Eng.look env0 8 = .int .i64 0) →
   execC (tyOf Tryz.prog) (fun _ => [8,8,8]) (tstO f caps g R N) K 19 m0 true (.loop b) ⟨env0,N,d⟩ = some (if fidx g 0 R < 0 then .exit 0 else .ret,⟨F env0 d,N,d⟩) ∧
    (¬ fidx g 0 R < 0 → Eng.look (F env0 d) 4 = .int .i64 (fidx g 0 R)) := by
 refine loop_rule rfl (fun env0 => Eng.look env0 0 = v ∧ Eng.look env0 1 = .func f caps ∧ Eng.look env0 7 = .int .i64 R.length ∧ Eng.look env0 8 = .int .i64 0) (fun _ env' => ¬ fidx g 0 R < 0 → Eng.look env' 4 = .int .i64 (fidx g 0 R)) ?_
 rintro env0 d ⟨h0,h1,h7,h8⟩
 simp [loopsF,loopsC,Tryz.f20] at hb
 have hn : normE [8,8,8] (writesC b) env0 ((8,.int .i64 ((0 : Nat) : Int)) :: env0) = normE [8,8,8] (writesC b) env0 env0 := by simp [normE,h8]
 rw [← hn]
 refine iter_ind (α := Nat) (fun n => ⟨normE [8,8,8] (writesC b) env0 ((8,.int .i64 (n : Int)) :: env0),N,d⟩) (fun n => R.length - n) (fun n => n ≤ R.length ∧ fidx g 0 R = fidx g n (R.drop n)) _ _ d _ (by split <;> simp) ?_ K 0 ⟨by omega,by rw [List.drop_zero]⟩ (by omega)
 rintro n ⟨hn1,he⟩
 clear hn
 by_cases hlt : n < R.length
 ·obtain ⟨x,hx⟩ : ∃ x,R[n]? = some x := ⟨R[n],List.getElem?_eq_getElem hlt⟩
  have hd : R.drop n = x :: R.drop (n + 1) := by
   rw [List.getElem?_eq_some_iff] at hx
   obtain ⟨h1,h2⟩ := hx
   rw [← h2]; exact List.drop_eq_getElem_cons h1
  rw [hd,fidx] at he
  have w1 : IntKind.i64.wrap ((n : Int) + 1) = ((n + 1 : Nat) : Int) := by rw [wrap_i64 (by omega) (by omega)]; omega
  obtain ⟨r1,r2⟩ := rlC_row hx
  have ht := tstO_at (f := f) (caps := caps) (g := g) (N := N) (List.mem_of_getElem? hx)
  rcases hv with ⟨_,rfl⟩ | ⟨bb,o,rfl,hbb⟩
  ·simp at hlt
  by_cases hs : g x = true
  ·right
   rw [if_pos hs] at he
   have hng : ¬ (n : Int) < 0 := by omega
   rw [he,if_neg hng]
   rw [hs] at ht
   subst hb
   simp [h0,h1,h7,hlt,hbb,r1,r2,ht]
  ·left
   rw [if_neg hs] at he
   have hs' : g x = false := by simpa using hs
   rw [hs'] at ht
   refine ⟨n + 1,?_⟩
   refine exists_and_fin (show (n + 1 ≤ R.length ∧ fidx g 0 R = fidx g (n + 1) (R.drop (n + 1))) ∧ R.length - (n + 1) < R.length - n from ⟨⟨by omega,he⟩,by omega⟩) ?_
   subst hb
   simp [h0,h1,h7,hlt,hbb,r1,r2,ht,w1]
 ·right
  have e : R.drop n = [] := List.drop_of_length_le (by omega)
  rw [e,fidx] at he
  rw [he,if_pos (by decide)]
  subst hb
  simp [h7,hlt]
theorem Tryz.aIndexFunc {f : FuncId} {caps : List AV} {g : Rel → Bool} {R : List Rel} {N : Mem} {v : AV} (hv : RlAt R N v) (hl : R.length ≤ 1000000) (h : ∀ x ∈ R,ACallsTo Tryz.prog f (relAV x :: caps) N (.bool (g x)) N) :
  ACallsTo Tryz.prog 20 [v,.func f caps] N (.int .i64 (fidx g 0 R)) N := by
 have hG : fnOf Tryz.prog 20 = some Tryz.f20 := by kernel_rfl
 obtain ⟨b,hb⟩ : ∃ b,loopsF Tryz.f20 = [b] := ⟨_,rfl⟩
 obtain ⟨F,hF⟩ := Tryz.if_loop (f := f) (caps := caps) (g := g) (m0 := N.length) (K := R.length + 1) hv hl (by omega) hb
 simp [loopsF,loopsC,Tryz.f20] at hb
 subst hb
 have hlen : ∀ N',aLen (tyOf Tryz.prog) 74 N' v = some (.int .i64 R.length) := fun N' => by
  rcases hv with ⟨rfl,rfl⟩ | ⟨b,o,rfl,_⟩ <;> simp
 have hr : callFn (tyOf Tryz.prog) (fun _ => [8,8,8]) (fnOf Tryz.prog) (tstO f caps g R N) (R.length + 1) 20 [v,.func f caps] N = some ⟨.int .i64 (fidx g 0 R),none,[]⟩ := by
  by_cases hc : fidx g 0 R < 0
  ·rw [if_pos hc] at hF
   have hF1 := fun env0 d h => (hF env0 d h).1
   clear hF
   have h1 : fidx g 0 R = -1 := by have := fidx_ge (g := g) (i := 0) (l := R); omega
   rw [h1]
   simp [-aLen,hlen,callFn,hG,Tryz.f20,hF1]
  ·rw [if_neg hc] at hF
   have hF1 := fun env0 d h => (hF env0 d h).1
   have hF2 := fun env0 d h => (hF env0 d h).2 hc
   clear hF
   simp [-aLen,hlen,callFn,hG,Tryz.f20,hF1,hF2]
 have := (callFn_sound Tryz.mixed (tyOf_ok _) (tstO_ok h) (fnOf_ok _) hr).1
 simpa [CallRes.mem] using this
def longB (x : Rel) : Bool := decide (40 < x.2.1.length) || decide (40 < x.2.2.length)
theorem Tryz.aLong (x : Rel) (M : Mem) : ACallsTo Tryz.prog 17 [relAV x] M (.bool (longB x)) M := by
 have hG : fnOf Tryz.prog 17 = some Tryz.f17 := by kernel_rfl
 refine Tryz.run (noOracle_ok _) (lv := fun _ => []) (K := 1) rfl rfl ?_ M
 unfold longB
 by_cases h1 : 40 < x.2.1.length
 ·have h1' : (40 : Int) < x.2.1.length := by omega
  simp [callFn,hG,Tryz.f17,relAV,h1,h1']
 ·have h1' : ¬ (40 : Int) < x.2.1.length := by omega
  by_cases h2 : 40 < x.2.2.length
  ·have h2' : (40 : Int) < x.2.2.length := by omega
   simp [callFn,hG,Tryz.f17,relAV,h1,h1',h2,h2']
  ·have h2' : ¬ (40 : Int) < x.2.2.length := by omega
   simp [callFn,hG,Tryz.f17,relAV,h1,h1',h2,h2']
theorem Tryz.aContLong {R : List Rel} {N : Mem} {v : AV} (hv : RlAt R N v) (hl : R.length ≤ 1000000) :
  ACallsTo Tryz.prog 16 [v,.func 17 []] N (.bool (R.any longB)) N := by
 have hG : fnOf Tryz.prog 16 = some Tryz.f16 := by kernel_rfl
 have hi := Tryz.aIndexFunc (caps := []) hv hl (fun x _ => Tryz.aLong x N)
 have hO : OracleOk Tryz.prog (factC [(20,[v,.func 17 []],N,⟨.int .i64 (fidx longB 0 R),none,[]⟩)]) := factC_ok fun y hy => by
  simp only [List.mem_cons,List.not_mem_nil,or_false] at hy
  subst hy
  exact ⟨by simpa [CallRes.mem] using hi,by simp⟩
 have he : decide (0 ≤ fidx longB 0 R) = R.any longB := by
  have := fidx_neg (g := longB) (i := 0) (l := R)
  cases hb : R.any longB with
  | true =>
   rw [decide_eq_true_eq]
   rw [List.any_eq_true] at hb
   obtain ⟨x,hx,hl⟩ := hb
   refine Int.not_lt.1 fun e => ?_
   rw [this.1 e x hx] at hl; cases hl
  | false =>
   rw [decide_eq_false_iff_not]
   rw [List.any_eq_false] at hb
   have := this.2 fun x hx => by simpa using hb x hx
   omega
 have h : callFn (tyOf Tryz.prog) (fun _ => []) (fnOf Tryz.prog) (factC [(20,[v,.func 17 []],N,⟨.int .i64 (fidx longB 0 R),none,[]⟩)]) 1 16 [v,.func 17 []] N = some ⟨.bool (R.any longB),none,[]⟩ := by
  rw [← he]
  clear hO
  simp [callFn,hG,Tryz.f16,factC]
 have := (callFn_sound Tryz.mixed (tyOf_ok _) hO (fnOf_ok _) h).1
 simpa [CallRes.mem] using this
def agB (L : List (List UInt8)) (x : Rel) : Bool := !decide (x.1 = 4) && (decide (0 ≤ idxS x.2.1 0 L) && (decide (0 ≤ idxS x.2.2 0 L) && decide (idxS x.2.1 0 L ≤ idxS x.2.2 0 L)))
theorem sts_refsOk {N : Mem} {v : AV} {L : List (List UInt8)} (h : sts N v = some L) {k : Nat} (hk : N.length ≤ k) : v.refsOk (fun b => decide (b < k)) = true := by
 rcases sts_some h with ⟨b',o,cs,rfl,h,_⟩ | ⟨rfl,_⟩
 ·have := (List.getElem?_eq_some_iff.1 h).1
  simp only [AV.refsOk,decide_eq_true_eq]; omega
 ·rfl
theorem agB_cases (L : List (List UInt8)) (x : Rel) (i j : Int) (hi : idxS x.2.1 0 L = i) (hj : idxS x.2.2 0 L = j) : agB L x = (!decide (x.1 = 4) && (decide (0 ≤ i) && (decide (0 ≤ j) && decide (i ≤ j)))) := by
 rw [agB,hi,hj]
set_option maxRecDepth 8192 in
set_option maxHeartbeats 4000000 in
theorem Tryz.aAgainst {N : Mem} {bu : Nat} {o : Bool} {es : Nat} {w : AV} {L : List (List UInt8)} (hb : N[bu]? = some (.cells o es [w])) (hw : sts N w = some L) (hl : L.length ≤ 1000000) (x : Rel) :
  ACallsTo Tryz.prog 21 [relAV x,.ptr bu 0] N (.bool (agB L x)) N := by
 have hG : fnOf Tryz.prog 21 = some Tryz.f21 := by kernel_rfl
 obtain ⟨ops,hops⟩ : ∃ ops,drawsF Tryz.f21 = [ops] := ⟨_,rfl⟩
 have hbs := draws_one hops (l := [0,0,2,7,0,0,32,127,255,511]) (by kernel_rfl)
 have hab : allBef [0,0,2,7,0,0,32,127,255,511] 9 = true := by decide
 simp [drawsF,drawsC,Tryz.f21] at hops
 subst hops
 obtain ⟨k,u,l⟩ := x
 obtain ⟨i,hi⟩ : ∃ i,idxS u 0 L = i := ⟨_,rfl⟩
 obtain ⟨j,hj⟩ : ∃ j,idxS l 0 L = j := ⟨_,rfl⟩
 rw [agB_cases L (k,u,l) i j hi hj]
 simp only
 have hw' : ∀ Z,sts (N ++ Z) w = some L := fun Z => by
  rcases sts_some hw with ⟨b',o',cs,rfl,h,ht⟩ | ⟨rfl,rfl⟩
  ·exact sts_at (by rw [List.getElem?_append_left (List.getElem?_eq_some_iff.1 h).1]; exact h) rfl (by rw [stC_length] at ht; exact ht)
  ·rfl
 have lb := (List.getElem?_eq_some_iff.1 hb).1
 have hb' : ∀ Z,(N ++ Z)[bu]? = some (.cells o es [w]) := fun Z => by rw [List.getElem?_append_left lb]; exact hb
 have e1 : ∀ Z,Tryz.ixO (.fn 13) [w,.str u] (N ++ Z) = some ⟨.int .i64 i,none,[]⟩ := fun Z => by
  simp [Tryz.ixO,hw' Z,hi,show L.length ≤ 1000000000 by omega]
 have e2 : ∀ Z,Tryz.ixO (.fn 13) [w,.str l] (N ++ Z) = some ⟨.int .i64 j,none,[]⟩ := fun Z => by
  simp [Tryz.ixO,hw' Z,hj,show L.length ≤ 1000000000 by omega]
 have hr := sts_refsOk hw (k := N.length + 1) (by omega)
 have h : callFn (tyOf Tryz.prog) (fun _ => []) (fnOf Tryz.prog) Tryz.ixO 1 21 [relAV (k,u,l),.ptr bu 0] N = some ⟨.bool (!decide (k = 4) && (decide (0 ≤ i) && (decide (0 ≤ j) && decide (i ≤ j)))),none,[]⟩ := by
  clear hi hj hw hw'
  by_cases h1 : k = 4
  ·simp [-maskBy,-mergeBy,mergeBy_mask0,mergeBy_same,maskBy_get0,maskBy_all,le_lt_false,callFn,hG,Tryz.f21,relAV,hb',-runDraw,runDraw_light hbs,runDrawL,lightAll,lightRec,hab,Nat.testBit,e1,e2,hr,h1]
  ·by_cases h2 : 0 ≤ i
   ·by_cases h3 : 0 ≤ j
    ·simp [-maskBy,-mergeBy,mergeBy_mask0,mergeBy_same,maskBy_get0,maskBy_all,le_lt_false,callFn,hG,Tryz.f21,relAV,hb',-runDraw,runDraw_light hbs,runDrawL,lightAll,lightRec,hab,Nat.testBit,e1,e2,hr,h1,h2,h3]
    ·simp [-maskBy,-mergeBy,mergeBy_mask0,mergeBy_same,maskBy_get0,maskBy_all,le_lt_false,callFn,hG,Tryz.f21,relAV,hb',-runDraw,runDraw_light hbs,runDrawL,lightAll,lightRec,hab,Nat.testBit,e1,e2,hr,h1,h2,h3]
   ·simp [-maskBy,-mergeBy,mergeBy_mask0,mergeBy_same,maskBy_get0,maskBy_all,le_lt_false,callFn,hG,Tryz.f21,relAV,hb',-runDraw,runDraw_light hbs,runDrawL,lightAll,lightRec,hab,Nat.testBit,e1,e2,hr,h1,h2]
 have := (callFn_sound Tryz.mixed (tyOf_ok _) Tryz.ix_ok (fnOf_ok _) h).1
 simpa [CallRes.mem] using this
end Go.Proofs
namespace Go.Eng
open Classical in
theorem skolemM {β : Type} [Inhabited β] {p : Mem → Env → Bool → Prop} {q : Mem → Env → Bool → β → Prop} (h : ∀ m e d,p m e d → ∃ x,q m e d x) : ∃ F : Mem → Env → Bool → β,∀ m e d,p m e d → q m e d (F m e d) :=
 ⟨fun m e d => if hp : p m e d then Classical.choose (h m e d hp) else default,fun m e d hp => by simp only [dif_pos hp]; exact Classical.choose_spec (h m e d hp)⟩
theorem loop_rule_M {β : Type} [Inhabited β] {T : TypeId → Option TyI} {lv : Code → List Nat} {O : Oracle} {K N m0 : Nat} {tp : Bool} {b : Code} {L : List Nat} (hlv : lv b = L) {e : Exit} (mk : Mem → Mem) (pre : Mem → Env → Prop) (post : Mem → Env → Env → Mem → β → Prop)
  (h : ∀ Y env0 d,pre Y env0 → ∃ env' mem',iter L (writesC b) env0 (mk Y).length (execC T lv O K N m0 tp b) K ⟨normE L (writesC b) env0 env0,mk Y,d⟩ = some (e,⟨env',mem',d⟩) ∧ ∃ x,post Y env0 env' mem' x) :
  ∃ F : Mem → Env → Bool → Env × Mem × β,∀ Y env0 d,pre Y env0 → execC T lv O K N m0 tp (.loop b) ⟨env0,mk Y,d⟩ = some (e,⟨(F Y env0 d).1,(F Y env0 d).2.1,d⟩) ∧ post Y env0 (F Y env0 d).1 (F Y env0 d).2.1 (F Y env0 d).2.2 := by
 refine skolemM (β := Env × Mem × β) (p := fun Y env0 _ => pre Y env0) (q := fun Y env0 d x => execC T lv O K N m0 tp (.loop b) ⟨env0,mk Y,d⟩ = some (e,⟨x.1,x.2.1,d⟩) ∧ post Y env0 x.1 x.2.1 x.2.2) ?_
 intro Y env0 d hp
 obtain ⟨env',mem',h1,x,h2⟩ := h Y env0 d hp
 exact ⟨(env',mem',x),by rw [execC_loop,hlv]; exact h1,h2⟩
end Go.Eng
namespace Go.Proofs
open Go.Eng
def ferr : List Rel → Int
 | [] => 0
 | x :: l => if relE x.1 x.2.1 x.2.2 = 0 then ferr l else relE x.1 x.2.1 x.2.2
def Tryz.HS5 (s : Sheet) (p t q : Nat) (evs : List (List AV)) (us : List (List (List UInt8))) (M : Mem) (c : Go.Eng.Callee) (a : List AV) (N : Mem) (r : CallRes) : Prop := match c,a with
 | .fn 19,[.agg [.int .i64 k,.str u,.str l]] => u.length ≤ 1000000000 ∧ l.length ≤ 1000000000 ∧ r = ⟨.int .i64 (relE k u l),none,[]⟩
 | c,a => Tryz.HS2 s p t q evs us M c a N r
def Tryz.csLv (c : Code) : List Nat := if (writesC c).contains 23 then [23,23,23] else [37,37,37]
section
variable {s : Sheet} {p t q : Nat} {evs : List (List AV)} {us : List (List (List UInt8))} {M : Mem}
theorem Tryz.HS2_okR (H : Tryz.HstAt s p t q evs us M) (c : Go.Eng.Callee) (a : List AV) (N : Mem) (r : CallRes) (h : Tryz.HS2 s p t q evs us M c a N r) : SoundAt Tryz.prog c a N r := by
 unfold Tryz.HS2 at h
 split at h
 ·obtain ⟨rfl,⟨X,rfl⟩,rfl⟩ := h
  exact soundAt_call (by simpa using Tryz.aHCheck (H.more X))
 ·obtain ⟨v,nw,h1,_,rfl⟩ := h
  exact soundAt_call h1
 ·obtain ⟨v,nw,h1,_,rfl⟩ := h
  exact soundAt_call h1
 ·exact Tryz.HS_ok H _ _ _ _ h
theorem Tryz.hs5_ok (H : Tryz.HstAt s p t q evs us M) : OracleOk Tryz.prog (specO (Tryz.HS5 s p t q evs us M)) := specO_ok fun c a N r h => by
 unfold Tryz.HS5 at h
 split at h
 ·obtain ⟨h1,h2,rfl⟩ := h
  exact soundAt_call (by simpa using Tryz.aRelCheck _ _ _ h1 h2 N)
 ·exact Tryz.HS2_okR H _ _ _ _ h
theorem Tryz.hs5_rel (x : Rel) (h : x.2.1.length ≤ 1000000000 ∧ x.2.2.length ≤ 1000000000) (N : Mem) : specO (Tryz.HS5 s p t q evs us M) (.fn 19) [.agg [.int .i64 x.1,.str x.2.1,.str x.2.2]] N = some ⟨.int .i64 (relE x.1 x.2.1 x.2.2),none,[]⟩ :=
 specO_det (S := Tryz.HS5 s p t q evs us M) (show Tryz.HS5 s p t q evs us M _ _ _ _ from ⟨h.1,h.2,rfl⟩) fun r' h => h.2.2
theorem Tryz.hs5_check (X : Mem) : specO (Tryz.HS5 s p t q evs us M) (.fn 30) [.agg (hist4 s p t q evs.length)] (M ++ X) = some ⟨.int .i64 0,none,[]⟩ :=
 specO_det (S := Tryz.HS5 s p t q evs us M) (show Tryz.HS5 s p t q evs us M _ _ _ _ from ⟨rfl,⟨X,rfl⟩,rfl⟩) fun r' h => h.2.2
theorem Tryz.hs5_index {N : Mem} {w : AV} {L : List (List UInt8)} (u : List UInt8) (h : sts N w = some L) (hl : L.length ≤ 1000000000) : specO (Tryz.HS5 s p t q evs us M) (.fn 13) [w,.str u] N = some ⟨.int .i64 (idxS u 0 L),none,[]⟩ :=
 specO_det (S := Tryz.HS5 s p t q evs us M) (show Tryz.HS5 s p t q evs us M _ _ _ _ from ⟨L,h,hl,rfl⟩) fun r' h' => by
  obtain ⟨L',h1,_,h2⟩ := h'
  rw [h] at h1; cases h1; exact h2
theorem Tryz.hs5_units (H : Tryz.HstAt s p t q evs us M) (X : Mem) :
  ∃ v nw,specO (Tryz.HS5 s p t q evs us M) (.fn 31) [.agg (hist4 s p t q evs.length)] (M ++ X) = some ⟨v,none,nw⟩ ∧ ∀ ext,sts (M ++ (X ++ (nw ++ ext))) v = some (baseN :: us.flatten) := by
 obtain ⟨v,nw,a,b⟩ := Tryz.units_run (H.more X)
 obtain ⟨r,g1,v',nw',_,k4,rfl⟩ := specO_some (S := Tryz.HS5 s p t q evs us M) (c := .fn 31) (a := [.agg (hist4 s p t q evs.length)]) (M := M ++ X) ⟨⟨v,none,nw⟩,show Tryz.HS5 s p t q evs us M _ _ _ _ from ⟨v,nw,a,b,rfl⟩⟩
 exact ⟨v',nw',g1,fun ext => by have := k4 ext; rwa [List.append_assoc] at this⟩
theorem Tryz.hs5_unitsF (H : Tryz.HstAt s p t q evs us M) : ∃ (uV : Mem → AV) (uN : Mem → Mem),∀ X,specO (Tryz.HS5 s p t q evs us M) (.fn 31) [.agg (hist4 s p t q evs.length)] (M ++ X) = some ⟨uV X,none,uN X⟩ ∧ ∀ ext,sts (M ++ (X ++ (uN X ++ ext))) (uV X) = some (baseN :: us.flatten) := by
 obtain ⟨uV,h⟩ := Classical.skolem.1 (Tryz.hs5_units H)
 obtain ⟨uN,h⟩ := Classical.skolem.1 h
 exact ⟨uV,uN,h⟩
set_option maxRecDepth 8192 in
set_option maxHeartbeats 4000000 in
theorem Tryz.cs_loop1 {R : List Rel} {rv : AV} (hv : RlAt R M rv) (hl : R.length ≤ 1000000) (hs : ∀ x ∈ R,x.2.1.length ≤ 1000000000 ∧ x.2.2.length ≤ 1000000000) {K : Nat} (hK : R.length < K) {b bi : Code} (hb : loopsF Tryz.f18 = [b,bi]) (x0 : Slot) :
  ∃ F : Env → Bool → Env × Mem × Mem,∀ env0 d,(Eng.look env0 21 = rv ∧ Eng.look env0 22 = .int .i64 R.length ∧ Eng.look env0 23 = .int .i64 0) →
   execC (tyOf Tryz.prog) Tryz.csLv (specO (Tryz.HS5 s p t q evs us M)) K 68 M.length true (.loop b) ⟨env0,M ++ [x0],d⟩ = some (if ferr R = 0 then .exit 0 else .ret,⟨(F env0 d).1,(F env0 d).2.1,d⟩) ∧
    ((F env0 d).2.1 = M ++ (x0 :: (F env0 d).2.2) ∧ (ferr R = 0 → Eng.look (F env0 d).1 1 = Eng.look env0 1 ∧ Eng.look (F env0 d).1 2 = Eng.look env0 2) ∧ (ferr R ≠ 0 → Eng.look (F env0 d).1 4 = .int .i64 0 ∧ Eng.look (F env0 d).1 5 = .bool false ∧ Eng.look (F env0 d).1 6 = .int .i64 (ferr R))) := by
 simp [loopsF,loopsC,Tryz.f18] at hb
 obtain ⟨hb,_⟩ := hb
 refine loop_rule_m (L := [23,23,23]) (by rw [← hb]; rfl) (fun env0 => Eng.look env0 21 = rv ∧ Eng.look env0 22 = .int .i64 R.length ∧ Eng.look env0 23 = .int .i64 0)
  (fun env0 env' mem' X' => mem' = M ++ (x0 :: X') ∧ (ferr R = 0 → Eng.look env' 1 = Eng.look env0 1 ∧ Eng.look env' 2 = Eng.look env0 2) ∧ (ferr R ≠ 0 → Eng.look env' 4 = .int .i64 0 ∧ Eng.look env' 5 = .bool false ∧ Eng.look env' 6 = .int .i64 (ferr R))) ?_
 rintro env0 d ⟨h21,h22,h23⟩
 have hn : normE [23,23,23] (writesC b) env0 ((23,.int .i64 ((0 : Nat) : Int)) :: env0) = normE [23,23,23] (writesC b) env0 env0 := by simp [normE,h23]
 rw [← hn]
 refine iter_ind_m (α := Mem × Nat) (fun a => ⟨normE [23,23,23] (writesC b) env0 ((23,.int .i64 (a.2 : Int)) :: env0),M ++ (x0 :: a.1),d⟩) (fun a => R.length - a.2)
  (fun a => a.2 ≤ R.length ∧ ferr R = ferr (R.drop a.2)) _ d (fun env' mem' => ∃ X',mem' = M ++ (x0 :: X') ∧ (ferr R = 0 → Eng.look env' 1 = Eng.look env0 1 ∧ Eng.look env' 2 = Eng.look env0 2) ∧ (ferr R ≠ 0 → Eng.look env' 4 = .int .i64 0 ∧ Eng.look env' 5 = .bool false ∧ Eng.look env' 6 = .int .i64 (ferr R))) (by split <;> simp) ?_ K ([],0) ⟨by simp,by simp⟩ (by simp only; omega)
 rintro ⟨X,n⟩ ⟨hn1,he⟩
 simp only at hn1 he
 clear hn
 by_cases hlt : n < R.length
 ·obtain ⟨x,hx⟩ : ∃ x,R[n]? = some x := ⟨R[n],List.getElem?_eq_getElem hlt⟩
  have hd : R.drop n = x :: R.drop (n + 1) := by
   rw [List.getElem?_eq_some_iff] at hx
   obtain ⟨h1,h2⟩ := hx
   rw [← h2]; exact List.drop_eq_getElem_cons h1
  rw [hd,ferr] at he
  have w1 : IntKind.i64.wrap ((n : Int) + 1) = ((n + 1 : Nat) : Int) := by rw [wrap_i64 (by omega) (by omega)]; omega
  obtain ⟨r1,r2⟩ := rlC_row hx
  have hO := fun N => Tryz.hs5_rel (s := s) (p := p) (t := t) (q := q) (evs := evs) (us := us) (M := M) x (hs x (List.mem_of_getElem? hx)) N
  have hjl : ∀ j,(M.length + j < M.length) = False := fun j => add_lt_self _ _
  rcases hv with ⟨_,rfl⟩ | ⟨bb,o,rfl,hbb⟩
  ·simp at hlt
  have hbb' : ∀ Z,(M ++ Z)[bb]? = some (.cells o 3 (rlC R)) := fun Z => by rw [List.getElem?_append_left (List.getElem?_eq_some_iff.1 hbb).1]; exact hbb
  by_cases hc : relE x.1 x.2.1 x.2.2 = 0
  ·left
   rw [if_pos hc] at he
   rw [hc] at hO
   refine ⟨(X ++ [.cells true 0 [.int .i64 x.1,.str x.2.1,.str x.2.2]],n + 1),?_⟩
   refine exists_and_fin (show (n + 1 ≤ R.length ∧ ferr R = ferr (R.drop (n + 1))) ∧ R.length - (n + 1) < R.length - n from ⟨⟨by omega,he⟩,by omega⟩) ?_
   subst hb
   simp [h21,h22,hlt,hbb',r1,r2,hO,w1,hjl]
  ·right
   rw [if_neg hc] at he
   obtain ⟨e,hee⟩ : ∃ e,e = relE x.1 x.2.1 x.2.2 := ⟨_,rfl⟩
   rw [← hee] at he hc
   simp only [← hee] at hO
   rw [he,if_neg hc]
   have : ∃ env',execC (tyOf Tryz.prog) Tryz.csLv (specO (Tryz.HS5 s p t q evs us M)) K 68 M.length true b ⟨normE [23,23,23] (writesC b) env0 ((23,.int .i64 (n : Int)) :: env0),M ++ (x0 :: X),d⟩ = some (.ret,⟨env',M ++ (x0 :: (X ++ [.cells true 0 [.int .i64 x.1,.str x.2.1,.str x.2.2]])),d⟩) ∧ (Eng.look env' 4 = .int .i64 0 ∧ Eng.look env' 5 = .bool false ∧ Eng.look env' 6 = .int .i64 e) := by
    subst hb
    simp [h21,h22,hlt,hbb',r1,r2,hO,hjl,hc]
    done
   obtain ⟨env',k1,k2⟩ := this
   exact ⟨env',_,k1,_,rfl,fun h => absurd h hc,fun _ => k2⟩
 ·right
  have e : R.drop n = [] := List.drop_of_length_le (by omega)
  rw [e,ferr] at he
  rw [he,if_pos rfl]
  have : ∃ env',execC (tyOf Tryz.prog) Tryz.csLv (specO (Tryz.HS5 s p t q evs us M)) K 68 M.length true b ⟨normE [23,23,23] (writesC b) env0 ((23,.int .i64 (n : Int)) :: env0),M ++ (x0 :: X),d⟩ = some (.exit 0,⟨env',M ++ (x0 :: X),d⟩) ∧ (Eng.look env' 1 = Eng.look env0 1 ∧ Eng.look env' 2 = Eng.look env0 2) := by
   subst hb
   simp [h22,hlt]
  obtain ⟨env',k1,k2⟩ := this
  exact ⟨env',_,k1,X,rfl,fun _ => k2,fun h => absurd rfl h⟩
end
end Go.Proofs
namespace Go.Proofs
open Go.Eng
section
variable {s : Sheet} {p t q : Nat} {evs : List (List AV)} {us : List (List (List UInt8))} {M : Mem}
set_option maxRecDepth 8192 in
set_option maxHeartbeats 8000000 in
theorem Tryz.cs_loop2 {R : List Rel} {rv : AV} (hv : RlAt R M rv) (hl : R.length ≤ 1000000) {L : List (List UInt8)} (hL : L.length ≤ 1000000) {K : Nat} (hK : R.length < K) {b1 b : Code} (hb : loopsF Tryz.f18 = [b1,b]) :
  ∃ F : Mem → Env → Bool → Env × Mem × Nat,∀ Y env0 d,(Eng.look env0 35 = rv ∧ Eng.look env0 36 = .int .i64 R.length ∧ Eng.look env0 37 = .int .i64 0 ∧ ∀ ext,sts (M ++ (Y ++ ext)) (Eng.look env0 11) = some L) →
   execC (tyOf Tryz.prog) Tryz.csLv (specO (Tryz.HS5 s p t q evs us M)) K 68 M.length true (.loop b) ⟨env0,M ++ Y,d⟩ = some (if fidx (agB L) 0 R < 0 then .exit 2 else .ret,⟨(F Y env0 d).1,(F Y env0 d).2.1,d⟩) ∧
    (¬ fidx (agB L) 0 R < 0 → Eng.look (F Y env0 d).1 4 = .int .i64 (fidx (agB L) 0 R) ∧ Eng.look (F Y env0 d).1 5 = .bool false ∧ Eng.look (F Y env0 d).1 6 = .int .i64 0) := by
 obtain ⟨ops,hops⟩ : ∃ ops,drawsF Tryz.f18 = [ops] := ⟨_,rfl⟩
 have hbs := draws_one hops (l := [0,0,2,7,0,0,32,127,255,511]) (by kernel_rfl)
 have hab : allBef [0,0,2,7,0,0,32,127,255,511] 9 = true := by decide
 simp [drawsF,drawsC,Tryz.f18] at hops
 subst hops
 simp [loopsF,loopsC,Tryz.f18] at hb
 obtain ⟨_,hb⟩ := hb
 refine loop_rule_M (L := [37,37,37]) (by rw [← hb]; rfl) (fun Y => M ++ Y) (fun Y env0 => Eng.look env0 35 = rv ∧ Eng.look env0 36 = .int .i64 R.length ∧ Eng.look env0 37 = .int .i64 0 ∧ ∀ ext,sts (M ++ (Y ++ ext)) (Eng.look env0 11) = some L)
  (fun Y env0 env' mem' _ => ¬ fidx (agB L) 0 R < 0 → Eng.look env' 4 = .int .i64 (fidx (agB L) 0 R) ∧ Eng.look env' 5 = .bool false ∧ Eng.look env' 6 = .int .i64 0) ?_
 rintro Y env0 d ⟨h35,h36,h37,h11⟩
 obtain ⟨v,hv11⟩ : ∃ v,Eng.look env0 11 = v := ⟨_,rfl⟩
 rw [hv11] at h11
 have hn : normE [37,37,37] (writesC b) env0 ((37,.int .i64 ((0 : Nat) : Int)) :: env0) = normE [37,37,37] (writesC b) env0 env0 := by simp [normE,h37]
 rw [← hn]
 refine iter_ind_m (α := Mem × Nat) (fun a => ⟨normE [37,37,37] (writesC b) env0 ((37,.int .i64 (a.2 : Int)) :: env0),M ++ a.1,d⟩) (fun a => R.length - a.2)
  (fun a => a.2 ≤ R.length ∧ fidx (agB L) 0 R = fidx (agB L) a.2 (R.drop a.2) ∧ ∀ ext,sts (M ++ (a.1 ++ ext)) v = some L) _ d (fun env' mem' => ∃ _ : Nat,¬ fidx (agB L) 0 R < 0 → Eng.look env' 4 = .int .i64 (fidx (agB L) 0 R) ∧ Eng.look env' 5 = .bool false ∧ Eng.look env' 6 = .int .i64 0) (by split <;> simp) ?_ K (Y,0) ⟨by simp,by simp,h11⟩ (by simp only; omega)
 rintro ⟨X,n⟩ ⟨hn1,he,hs⟩
 simp only at hn1 he hs
 clear hn h11
 by_cases hlt : n < R.length
 ·obtain ⟨x,hx⟩ : ∃ x,R[n]? = some x := ⟨R[n],List.getElem?_eq_getElem hlt⟩
  have hd : R.drop n = x :: R.drop (n + 1) := by
   rw [List.getElem?_eq_some_iff] at hx
   obtain ⟨h1,h2⟩ := hx
   rw [← h2]; exact List.drop_eq_getElem_cons h1
  rw [hd,fidx] at he
  have w1 : IntKind.i64.wrap ((n : Int) + 1) = ((n + 1 : Nat) : Int) := by rw [wrap_i64 (by omega) (by omega)]; omega
  obtain ⟨r1,r2⟩ := rlC_row hx
  obtain ⟨i,hi⟩ : ∃ i,idxS x.2.1 0 L = i := ⟨_,rfl⟩
  obtain ⟨j,hj⟩ : ∃ j,idxS x.2.2 0 L = j := ⟨_,rfl⟩
  have hag := agB_cases L x i j hi hj
  have e1 : specO (Tryz.HS5 s p t q evs us M) (.fn 13) [v,.str x.2.1] (M ++ (X ++ [.cells true 0 [.int .i64 x.1,.str x.2.1,.str x.2.2]])) = some ⟨.int .i64 i,none,[]⟩ := by
   rw [← hi]; exact Tryz.hs5_index x.2.1 (hs _) (by omega)
  have e2 : specO (Tryz.HS5 s p t q evs us M) (.fn 13) [v,.str x.2.2] (M ++ (X ++ [.cells true 0 [.int .i64 x.1,.str x.2.1,.str x.2.2]])) = some ⟨.int .i64 j,none,[]⟩ := by
   rw [← hj]; exact Tryz.hs5_index x.2.2 (hs _) (by omega)
  have hr := sts_refsOk (hs [.cells true 0 [.int .i64 x.1,.str x.2.1,.str x.2.2]]) (k := M.length + (X.length + 1)) (by simp)
  have hjl : ∀ j,(M.length + j < M.length) = False := fun j => add_lt_self _ _
  have hlen := hs
  rcases hv with ⟨_,rfl⟩ | ⟨bb,o,rfl,hbb⟩
  ·simp at hlt
  have hbb' : ∀ Z,(M ++ Z)[bb]? = some (.cells o 3 (rlC R)) := fun Z => by rw [List.getElem?_append_left (List.getElem?_eq_some_iff.1 hbb).1]; exact hbb
  have hs1 : ∀ ext,sts (M ++ ((X ++ [.cells true 0 [.int .i64 x.1,.str x.2.1,.str x.2.2]]) ++ ext)) v = some L := fun ext => by rw [List.append_assoc]; exact hs _
  obtain ⟨O,hO⟩ : ∃ O,O = specO (Tryz.HS5 s p t q evs us M) := ⟨_,rfl⟩
  rw [← hO] at e1 e2 ⊢
  obtain ⟨k,u,l⟩ := x
  simp only at e1 e2 hag r1 r2 hr
  clear hi hj hs hlen hbb hx hd hO
  have key : ∀ (B : Bool),agB L (k,u,l) = B → (B = true → ∃ env' mem',execC (tyOf Tryz.prog) Tryz.csLv O K 68 M.length true b ⟨normE [37,37,37] (writesC b) env0 ((37,.int .i64 (n : Int)) :: env0),M ++ X,d⟩ = some (.ret,⟨env',mem',d⟩) ∧ (Eng.look env' 4 = .int .i64 n ∧ Eng.look env' 5 = .bool false ∧ Eng.look env' 6 = .int .i64 0)) ∧ (B = false → ∃ s',execC (tyOf Tryz.prog) Tryz.csLv O K 68 M.length true b ⟨normE [37,37,37] (writesC b) env0 ((37,.int .i64 (n : Int)) :: env0),M ++ X,d⟩ = some (.normal,s') ∧ normS [37,37,37] (writesC b) env0 (M ++ Y).length s' = ⟨normE [37,37,37] (writesC b) env0 ((37,.int .i64 ((n + 1 : Nat) : Int)) :: env0),M ++ (X ++ [.cells true 0 [.int .i64 k,.str u,.str l]]),d⟩) := by
   intro B hB
   rw [hag] at hB
   subst hb
   by_cases h1 : k = 4
   ·subst h1
    simp at hB
    subst hB
    refine ⟨by simp,fun _ => ?_⟩
    simp [-maskBy,-mergeBy,mergeBy_mask0,mergeBy_same,maskBy_get0,maskBy_all,le_lt_false,hv11,h35,h36,hlt,hbb',r1,r2,-runDraw,runDraw_light hbs,runDrawL,lightAll,lightRec,hab,Nat.testBit,e1,e2,hr,w1,hjl]
    done
   ·by_cases h2 : 0 ≤ i
    ·by_cases h3 : 0 ≤ j
     ·by_cases h4 : i ≤ j
      ·simp [h1,h2,h3,h4] at hB
       subst hB
       refine ⟨fun _ => ?_,by simp⟩
       simp [-maskBy,-mergeBy,mergeBy_mask0,mergeBy_same,maskBy_get0,maskBy_all,le_lt_false,hv11,h35,h36,hlt,hbb',r1,r2,-runDraw,runDraw_light hbs,runDrawL,lightAll,lightRec,hab,Nat.testBit,e1,e2,hr,h1,h2,h3,h4,w1,hjl]
      ·simp [h1,h2,h3,h4] at hB
       subst hB
       refine ⟨by simp,fun _ => ?_⟩
       simp [-maskBy,-mergeBy,mergeBy_mask0,mergeBy_same,maskBy_get0,maskBy_all,le_lt_false,hv11,h35,h36,hlt,hbb',r1,r2,-runDraw,runDraw_light hbs,runDrawL,lightAll,lightRec,hab,Nat.testBit,e1,e2,hr,h1,h2,h3,h4,w1,hjl]
     ·simp [h1,h2,h3] at hB
      subst hB
      refine ⟨by simp,fun _ => ?_⟩
      simp [-maskBy,-mergeBy,mergeBy_mask0,mergeBy_same,maskBy_get0,maskBy_all,le_lt_false,hv11,h35,h36,hlt,hbb',r1,r2,-runDraw,runDraw_light hbs,runDrawL,lightAll,lightRec,hab,Nat.testBit,e1,e2,hr,h1,h2,h3,w1,hjl]
    ·simp [h1,h2] at hB
     subst hB
     refine ⟨by simp,fun _ => ?_⟩
     simp [-maskBy,-mergeBy,mergeBy_mask0,mergeBy_same,maskBy_get0,maskBy_all,le_lt_false,hv11,h35,h36,hlt,hbb',r1,r2,-runDraw,runDraw_light hbs,runDrawL,lightAll,lightRec,hab,Nat.testBit,e1,e2,hr,h1,h2,w1,hjl]
  cases hg : agB L (k,u,l) with
  | true =>
   right
   rw [hg,if_pos rfl] at he
   obtain ⟨env',mem',k1,k2⟩ := (key true hg).1 rfl
   rw [he,if_neg (by omega)]
   exact ⟨env',mem',k1,0,fun _ => k2⟩
  | false =>
   left
   rw [hg,if_neg (by simp)] at he
   obtain ⟨s',k1,k2⟩ := (key false hg).2 rfl
   exact ⟨(X ++ [.cells true 0 [.int .i64 k,.str u,.str l]],n + 1),s',k1,k2,⟨by omega,he,hs1⟩,by simp only; omega⟩
 ·right
  have e : R.drop n = [] := List.drop_of_length_le (by omega)
  rw [e,fidx] at he
  rw [he,if_pos (by decide)]
  have : ∃ env',execC (tyOf Tryz.prog) Tryz.csLv (specO (Tryz.HS5 s p t q evs us M)) K 68 M.length true b ⟨normE [37,37,37] (writesC b) env0 ((37,.int .i64 (n : Int)) :: env0),M ++ X,d⟩ = some (.exit 2,⟨env',M ++ X,d⟩) := by
   subst hb
   simp [h36,hlt]
  obtain ⟨env',k1⟩ := this
  exact ⟨env',_,k1,0,fun h => absurd (by decide) h⟩
end
end Go.Proofs
namespace Go.Proofs
open Go.Eng
def consV (L : List (List UInt8)) (R : List Rel) : AV :=
 if ferr R = 0 then (if fidx (agB L) 0 R < 0 then .tuple [.int .i64 0,.bool true,.int .i64 0] else .tuple [.int .i64 (fidx (agB L) 0 R),.bool false,.int .i64 0])
 else .tuple [.int .i64 0,.bool false,.int .i64 (ferr R)]
section
variable {s : Sheet} {p t q : Nat} {evs : List (List AV)} {us : List (List (List UInt8))} {M : Mem}
set_option maxRecDepth 8192 in
set_option maxHeartbeats 4000000 in
theorem Tryz.aConsistent (H : Tryz.HstAt s p t q evs us M) {R : List Rel} {rv : AV} (hv : RlAt R M rv) (hl : R.length ≤ 1000000) (hs : ∀ x ∈ R,x.2.1.length ≤ 1000000000 ∧ x.2.2.length ≤ 1000000000) :
  ACallsTo Tryz.prog 18 [.agg (hist4 s p t q evs.length),rv] M (consV (baseN :: us.flatten) R) M := by
 have hG : fnOf Tryz.prog 18 = some Tryz.f18 := by kernel_rfl
 have hC := Tryz.hs5_check (s := s) (p := p) (t := t) (q := q) (evs := evs) (us := us) (M := M) [.cells true 0 (hist4 s p t q evs.length)]
 obtain ⟨uV,uN,hU⟩ := Tryz.hs5_unitsF H
 have hU1 := fun X => (hU (.cells true 0 (hist4 s p t q evs.length) :: X)).1
 have hU2 : ∀ X ext,sts (M ++ (.cells true 0 (hist4 s p t q evs.length) :: (X ++ (uN (.cells true 0 (hist4 s p t q evs.length) :: X) ++ ext)))) (uV (.cells true 0 (hist4 s p t q evs.length) :: X)) = some (baseN :: us.flatten) := fun X ext => (hU (.cells true 0 (hist4 s p t q evs.length) :: X)).2 ext
 clear hU
 have hul := H.ulen_all
 obtain ⟨b1,b2,hb⟩ : ∃ b1 b2,loopsF Tryz.f18 = [b1,b2] := ⟨_,_,rfl⟩
 obtain ⟨F,hF⟩ := Tryz.cs_loop1 (s := s) (p := p) (t := t) (q := q) (evs := evs) (us := us) hv hl hs (K := R.length + 1) (by omega) hb (.cells true 0 (hist4 s p t q evs.length))
 obtain ⟨F',hF'⟩ := Tryz.cs_loop2 (s := s) (p := p) (t := t) (q := q) (evs := evs) (us := us) hv hl (L := baseN :: us.flatten) (by omega) (K := R.length + 1) (by omega) hb
 have hF1 := fun env0 d h => (hF env0 d h).1
 have hF2 := fun env0 d h => (hF env0 d h).2.1
 have hF3 := fun env0 d h => (hF env0 d h).2.2.1
 have hF4 := fun env0 d h => (hF env0 d h).2.2.2
 have hG1 := fun Y env0 d h => (hF' Y env0 d h).1
 have hG2 := fun Y env0 d h => (hF' Y env0 d h).2
 clear hF hF'
 simp [loopsF,loopsC,Tryz.f18] at hb
 obtain ⟨hb1,hb2⟩ := hb
 subst hb1 hb2
 have hlen : ∀ N',aLen (tyOf Tryz.prog) 74 N' rv = some (.int .i64 R.length) := fun N' => by
  rcases hv with ⟨rfl,rfl⟩ | ⟨b,o,rfl,_⟩ <;> simp
 have hO := Tryz.hs5_ok H
 obtain ⟨O,hOe⟩ : ∃ O,O = specO (Tryz.HS5 s p t q evs us M) := ⟨_,rfl⟩
 rw [← hOe] at hO hC
 simp only [← hOe] at hU1 hF1 hG1
 obtain ⟨L,hL⟩ : ∃ L,L = baseN :: us.flatten := ⟨_,rfl⟩
 rw [← hL] at hul ⊢
 simp only [← hL] at hU2 hG1 hG2
 clear hOe hL H hv hs
 have h : callFn (tyOf Tryz.prog) Tryz.csLv (fnOf Tryz.prog) O (R.length + 1) 18 [.agg (hist4 s p t q evs.length),rv] M = some ⟨consV L R,none,[]⟩ := by
  unfold consV
  simp only [hist4] at hC hU1 hU2 hF1 hF2 hG1
  by_cases he : ferr R = 0
  ·have hF3 := fun env0 d h => hF3 env0 d h he
   rw [if_pos he] at hF1
   rw [if_pos he]
   by_cases hi : fidx (agB L) 0 R < 0
   ·rw [if_pos hi] at hG1
    rw [if_pos hi]
    simp [-aLen,hlen,callFn,hG,Tryz.f18,hist4,hC,hF1,hF2,hF3,hU1,hU2,hG1]
   ·have hG2 := fun Y env0 d h => hG2 Y env0 d h hi
    rw [if_neg hi] at hG1
    rw [if_neg hi]
    simp [-aLen,hlen,callFn,hG,Tryz.f18,hist4,hC,hF1,hF2,hF3,hU1,hU2,hG1,hG2]
  ·have hF4 := fun env0 d h => hF4 env0 d h he
   rw [if_neg he] at hF1
   rw [if_neg he]
   simp [-aLen,hlen,callFn,hG,Tryz.f18,hist4,hC,hF1,hF2,hF4]
 have := (callFn_sound Tryz.mixed (tyOf_ok _) hO (fnOf_ok _) h).1
 simpa [CallRes.mem] using this
end
end Go.Proofs
