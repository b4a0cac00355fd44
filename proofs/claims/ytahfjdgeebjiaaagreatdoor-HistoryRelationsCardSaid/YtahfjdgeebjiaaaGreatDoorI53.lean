/- See I57. -/
import Derived.Test.YtahfjdgeebjiaaaGreatDoorI50
import Derived.Test.YtahfjdgeebjiaaaGreatDoorI49
import Derived.Test.YtahfjdgeebjiaaaGreatDoorI52
import Derived.Test.YtahfjdgeebjiaaaGreatDoorI51
set_option linter.all false
namespace Go.Proofs
open Go.Eng
def planV (s : Sheet) (a : AV) : AV := .agg [.int .u8 s.kind,.int .i8 s.sx,.int .i8 s.sy,.bool s.half,a]
theorem Tryz.aFits (s : Sheet) (a : AV) (n : Nat) (ha : a = .nilslice ∧ n = 0 ∨ a = .slice 0 0 n none) (M : Mem) : ACallsTo Tryz.prog 7 [planV s a] M (.bool (decide (n ≤ 3))) M := by
 have hG : fnOf Tryz.prog 7 = some Tryz.f7 := by kernel_rfl
 have h : callFn (tyOf Tryz.prog) (fun _ => []) (fnOf Tryz.prog) noOracle 1 7 [planV s a] M = some ⟨.bool (decide (n ≤ 3)),none,[]⟩ := by
  rcases ha with ⟨rfl,rfl⟩ | rfl
  ·simp [callFn,hG,Tryz.f7,planV]
  ·have e : decide ((n : Int) ≤ 3) = decide (n ≤ 3) := by rw [decide_eq_decide]; omega
   simp [callFn,hG,Tryz.f7,planV]
   omega
 have := (callFn_sound Tryz.mixed (tyOf_ok _) (noOracle_ok _) (fnOf_ok _) h).1
 simpa [CallRes.mem] using this
section
variable {s : Sheet} {p t q : Nat} {evs : List (List AV)} {us : List (List (List UInt8))} {M : Mem}
end
end Go.Proofs
namespace Go.Proofs
open Go.Eng
def RlArg (R : List Rel) (y : Slot) (v : AV) : Prop := (v = .nilslice ∧ R = []) ∨ (y = .cells false 3 (rlC R) ∧ v = .slice 1 0 R.length none)
theorem RlArg.at {R : List Rel} {x y : Slot} {v : AV} (h : RlArg R y v) (Z : Mem) : RlAt R (x :: y :: Z) v := by
 rcases h with h | ⟨rfl,rfl⟩
 ·exact .inl h
 ·exact .inr ⟨1,false,rfl,rfl⟩
def Tryz.HS6 (pl rv : AV) (R : List Rel) (N0 new : Mem) (s : Sheet) (p t q : Nat) (evs : List (List AV)) (us : List (List (List UInt8))) (M : Mem) (c : Go.Eng.Callee) (a : List AV) (N : Mem) (r : CallRes) : Prop := match c,a with
 | .fn 6,[] => r = ⟨.bool true,none,[]⟩
 | .fn 7,[x] => x = pl ∧ r = ⟨.bool true,none,[]⟩
 | .fn 8,[x] => x = pl ∧ N = N0 ∧ r = ⟨.agg (hist4 s p t q evs.length),none,new⟩
 | .fn 16,[x,.func 17 []] => x = rv ∧ N = N0 ∧ r = ⟨.bool false,none,[]⟩
 | .fn 18,[x,y] => x = .agg (hist4 s p t q evs.length) ∧ y = rv ∧ (∃ X,N = M ++ X) ∧ r = ⟨consV (baseN :: us.flatten) R,none,[]⟩
 | .fn 20,[x,.func 21 [.ptr b 0]] => x = rv ∧ (∃ X,N = M ++ X) ∧ (∃ o es w,N[b]? = some (.cells o es [w]) ∧ sts N w = some (baseN :: us.flatten)) ∧ r = ⟨.int .i64 (fidx (agB (baseN :: us.flatten)) 0 R),none,[]⟩
 | c,a => Tryz.HS5 s p t q evs us M c a N r
section
variable {pl rv : AV} {R : List Rel} {N0 new : Mem} {s : Sheet} {p t q : Nat} {evs : List (List AV)} {us : List (List (List UInt8))} {M : Mem}
theorem Tryz.HS5_ok (H : Tryz.HstAt s p t q evs us M) (c : Go.Eng.Callee) (a : List AV) (N : Mem) (r : CallRes) (h : Tryz.HS5 s p t q evs us M c a N r) : SoundAt Tryz.prog c a N r := by
 unfold Tryz.HS5 at h
 split at h
 ·obtain ⟨h1,h2,rfl⟩ := h
  exact soundAt_call (by simpa using Tryz.aRelCheck _ _ _ h1 h2 N)
 ·exact Tryz.HS2_okR H _ _ _ _ h
theorem Tryz.hs6_ok (H : Tryz.HstAt s p t q evs us M) (hF : ∀ N,ACallsTo Tryz.prog 7 [pl] N (.bool true) N) (hK : ACallsTo Tryz.prog 8 [pl] N0 (.agg (hist4 s p t q evs.length)) (N0 ++ new)) (hv0 : RlAt R N0 rv) (hv : RlAt R M rv) (hl : R.length ≤ 1000000) (hlo : R.any longB = false) : OracleOk Tryz.prog (specO (Tryz.HS6 pl rv R N0 new s p t q evs us M)) := specO_ok fun c a N r h => by
 have hul := H.ulen_all
 have hs : ∀ x ∈ R,x.2.1.length ≤ 1000000000 ∧ x.2.2.length ≤ 1000000000 := fun x hx => by
  have := List.any_eq_false.1 hlo x hx
  simp [longB] at this
  omega
 unfold Tryz.HS6 at h
 split at h
 ·subst h
  exact soundAt_call (by simpa using Tryz.aKnown30 N)
 ·obtain ⟨rfl,rfl⟩ := h
  exact soundAt_call (by simpa using hF N)
 ·obtain ⟨rfl,rfl,rfl⟩ := h
  exact soundAt_call hK
 ·obtain ⟨rfl,rfl,rfl⟩ := h
  have := Tryz.aContLong hv0 hl
  rw [hlo] at this
  exact soundAt_call (by simpa using this)
 ·obtain ⟨rfl,rfl,⟨X,rfl⟩,rfl⟩ := h
  exact soundAt_call (by simpa using Tryz.aConsistent (H.more X) (hv.more X) hl hs)
 ·obtain ⟨rfl,⟨X,rfl⟩,⟨o,es,w,h1,h2⟩,rfl⟩ := h
  exact soundAt_call (by simpa using Tryz.aIndexFunc (hv.more X) hl fun x _ => Tryz.aAgainst h1 h2 (by omega) x)
 ·exact Tryz.HS5_ok H _ _ _ _ h
theorem Tryz.hs6_known (N : Mem) : specO (Tryz.HS6 pl rv R N0 new s p t q evs us M) (.fn 6) [] N = some ⟨.bool true,none,[]⟩ :=
 specO_det (S := Tryz.HS6 pl rv R N0 new s p t q evs us M) (show Tryz.HS6 pl rv R N0 new s p t q evs us M _ _ _ _ from rfl) fun r' h => h
theorem Tryz.hs6_fits (N : Mem) : specO (Tryz.HS6 pl rv R N0 new s p t q evs us M) (.fn 7) [pl] N = some ⟨.bool true,none,[]⟩ :=
 specO_det (S := Tryz.HS6 pl rv R N0 new s p t q evs us M) (show Tryz.HS6 pl rv R N0 new s p t q evs us M _ _ _ _ from ⟨rfl,rfl⟩) fun r' h => h.2
theorem Tryz.hs6_make : specO (Tryz.HS6 pl rv R N0 new s p t q evs us M) (.fn 8) [pl] N0 = some ⟨.agg (hist4 s p t q evs.length),none,new⟩ :=
 specO_det (S := Tryz.HS6 pl rv R N0 new s p t q evs us M) (show Tryz.HS6 pl rv R N0 new s p t q evs us M _ _ _ _ from ⟨rfl,rfl,rfl⟩) fun r' h => h.2.2
theorem Tryz.hs6_long : specO (Tryz.HS6 pl rv R N0 new s p t q evs us M) (.fn 16) [rv,.func 17 []] N0 = some ⟨.bool false,none,[]⟩ :=
 specO_det (S := Tryz.HS6 pl rv R N0 new s p t q evs us M) (show Tryz.HS6 pl rv R N0 new s p t q evs us M _ _ _ _ from ⟨rfl,rfl,rfl⟩) fun r' h => h.2.2
theorem Tryz.hs6_cons (X : Mem) : specO (Tryz.HS6 pl rv R N0 new s p t q evs us M) (.fn 18) [.agg (hist4 s p t q evs.length),rv] (M ++ X) = some ⟨consV (baseN :: us.flatten) R,none,[]⟩ :=
 specO_det (S := Tryz.HS6 pl rv R N0 new s p t q evs us M) (show Tryz.HS6 pl rv R N0 new s p t q evs us M _ _ _ _ from ⟨rfl,rfl,⟨X,rfl⟩,rfl⟩) fun r' h => h.2.2.2
theorem Tryz.hs6_index {X : Mem} {b es : Nat} {o : Bool} {w : AV} (h1 : (M ++ X)[b]? = some (.cells o es [w])) (h2 : sts (M ++ X) w = some (baseN :: us.flatten)) : specO (Tryz.HS6 pl rv R N0 new s p t q evs us M) (.fn 20) [rv,.func 21 [.ptr b 0]] (M ++ X) = some ⟨.int .i64 (fidx (agB (baseN :: us.flatten)) 0 R),none,[]⟩ :=
 specO_det (S := Tryz.HS6 pl rv R N0 new s p t q evs us M) (show Tryz.HS6 pl rv R N0 new s p t q evs us M _ _ _ _ from ⟨rfl,⟨X,rfl⟩,⟨o,es,w,h1,h2⟩,rfl⟩) fun r' h => h.2.2.2
theorem Tryz.hs6_rel (x : Rel) (h : x.2.1.length ≤ 1000000000 ∧ x.2.2.length ≤ 1000000000) (N : Mem) : specO (Tryz.HS6 pl rv R N0 new s p t q evs us M) (.fn 19) [.agg [.int .i64 x.1,.str x.2.1,.str x.2.2]] N = some ⟨.int .i64 (relE x.1 x.2.1 x.2.2),none,[]⟩ :=
 specO_det (S := Tryz.HS6 pl rv R N0 new s p t q evs us M) (show Tryz.HS6 pl rv R N0 new s p t q evs us M _ _ _ _ from ⟨h.1,h.2,rfl⟩) fun r' h => h.2.2
theorem Tryz.hs6_lunits (H : Tryz.HstAt s p t q evs us M) (X : Mem) :
  ∃ v nw,specO (Tryz.HS6 pl rv R N0 new s p t q evs us M) (.fn 12) [.agg (hist4 s p t q evs.length)] (M ++ X) = some ⟨v,none,nw⟩ ∧ ∀ ext,sts (M ++ (X ++ (nw ++ ext))) v = some (baseN :: us.flatten) := by
 obtain ⟨v,nw,a,b⟩ := Tryz.lunits_run (H.more X)
 obtain ⟨r,g1,v',nw',_,k4,rfl⟩ := specO_some (S := Tryz.HS6 pl rv R N0 new s p t q evs us M) (c := .fn 12) (a := [.agg (hist4 s p t q evs.length)]) (M := M ++ X) ⟨⟨v,none,nw⟩,show Tryz.HS6 pl rv R N0 new s p t q evs us M _ _ _ _ from ⟨v,nw,a,b,rfl⟩⟩
 exact ⟨v',nw',g1,fun ext => by have := k4 ext; rwa [List.append_assoc] at this⟩
theorem Tryz.hs6_lunitsF (H : Tryz.HstAt s p t q evs us M) : ∃ (uB : Mem → Nat) (uN : Mem → Mem) (n : Nat),∀ X,specO (Tryz.HS6 pl rv R N0 new s p t q evs us M) (.fn 12) [.agg (hist4 s p t q evs.length)] (M ++ X) = some ⟨.slice (uB X) 0 n none,none,uN X⟩ ∧ ∀ ext,sts (M ++ (X ++ (uN X ++ ext))) (.slice (uB X) 0 n none) = some (baseN :: us.flatten) := by
 have h : ∀ X,∃ (b : Nat) (nw : Mem),specO (Tryz.HS6 pl rv R N0 new s p t q evs us M) (.fn 12) [.agg (hist4 s p t q evs.length)] (M ++ X) = some ⟨.slice b 0 (baseN :: us.flatten).length none,none,nw⟩ ∧ ∀ ext,sts (M ++ (X ++ (nw ++ ext))) (.slice b 0 (baseN :: us.flatten).length none) = some (baseN :: us.flatten) := fun X => by
  obtain ⟨v,nw,h1,h2⟩ := Tryz.hs6_lunits (pl := pl) (rv := rv) (R := R) (N0 := N0) (new := new) H X
  rcases sts_some (h2 []) with ⟨b,o,cs,rfl,_,_⟩ | ⟨_,hn⟩
  ·exact ⟨b,nw,h1,h2⟩
  ·cases hn
 obtain ⟨uB,h⟩ := Classical.skolem.1 h
 obtain ⟨uN,h⟩ := Classical.skolem.1 h
 exact ⟨uB,uN,_,h⟩
set_option maxRecDepth 8192 in
set_option maxHeartbeats 4000000 in
theorem Tryz.rl_loop {O : Oracle} (hv : RlAt R M rv) (hl : R.length ≤ 1000000) (hO : ∀ x ∈ R,∀ N,O (.fn 19) [.agg [.int .i64 x.1,.str x.2.1,.str x.2.2]] N = some ⟨.int .i64 (relE x.1 x.2.1 x.2.2),none,[]⟩) {K m0 : Nat} (hm : m0 ≤ M.length) (hK : R.length < K) {b : Code} (hb : loopsF Tryz.f4 = [b]) (x0 : Slot) :
  ∃ F : Env → Bool → Env × Mem × Mem,∀ env0 d,(Eng.look env0 40 = rv ∧ Eng.look env0 41 = .int .i64 R.length ∧ Eng.look env0 42 = .int .i64 0 ∧ (ferr R ≠ 0 → Eng.look env0 6 = .int .i64 0 ∧ Eng.look env0 7 = .bool false ∧ Eng.look env0 8 = .int .i64 (ferr R))) →
   execC (tyOf Tryz.prog) (fun _ => [42,42,42]) O K 81 m0 true (.loop b) ⟨env0,M ++ [x0],d⟩ = some (if ferr R = 0 then .exit 0 else .ret,⟨(F env0 d).1,(F env0 d).2.1,d⟩) ∧
    ((F env0 d).2.1 = M ++ (x0 :: (F env0 d).2.2) ∧ (ferr R = 0 → Eng.look (F env0 d).1 1 = Eng.look env0 1 ∧ Eng.look (F env0 d).1 5 = Eng.look env0 5 ∧ Eng.look (F env0 d).1 6 = Eng.look env0 6 ∧ Eng.look (F env0 d).1 7 = Eng.look env0 7 ∧ Eng.look (F env0 d).1 8 = Eng.look env0 8) ∧ (ferr R ≠ 0 → Eng.look (F env0 d).1 4 = .bool true)) := by
 simp [loopsF,loopsC,Tryz.f4] at hb
 refine loop_rule_m (L := [42,42,42]) rfl (fun env0 => Eng.look env0 40 = rv ∧ Eng.look env0 41 = .int .i64 R.length ∧ Eng.look env0 42 = .int .i64 0 ∧ (ferr R ≠ 0 → Eng.look env0 6 = .int .i64 0 ∧ Eng.look env0 7 = .bool false ∧ Eng.look env0 8 = .int .i64 (ferr R)))
  (fun env0 env' mem' X' => mem' = M ++ (x0 :: X') ∧ (ferr R = 0 → Eng.look env' 1 = Eng.look env0 1 ∧ Eng.look env' 5 = Eng.look env0 5 ∧ Eng.look env' 6 = Eng.look env0 6 ∧ Eng.look env' 7 = Eng.look env0 7 ∧ Eng.look env' 8 = Eng.look env0 8) ∧ (ferr R ≠ 0 → Eng.look env' 4 = .bool true)) ?_
 rintro env0 d ⟨h40,h41,h42,h678⟩
 have hn : normE [42,42,42] (writesC b) env0 ((42,.int .i64 ((0 : Nat) : Int)) :: env0) = normE [42,42,42] (writesC b) env0 env0 := by simp [normE,h42]
 rw [← hn]
 refine iter_ind_m (α := Mem × Nat) (fun a => ⟨normE [42,42,42] (writesC b) env0 ((42,.int .i64 (a.2 : Int)) :: env0),M ++ (x0 :: a.1),d⟩) (fun a => R.length - a.2)
  (fun a => a.2 ≤ R.length ∧ ferr R = ferr (R.drop a.2)) _ d (fun env' mem' => ∃ X',mem' = M ++ (x0 :: X') ∧ (ferr R = 0 → Eng.look env' 1 = Eng.look env0 1 ∧ Eng.look env' 5 = Eng.look env0 5 ∧ Eng.look env' 6 = Eng.look env0 6 ∧ Eng.look env' 7 = Eng.look env0 7 ∧ Eng.look env' 8 = Eng.look env0 8) ∧ (ferr R ≠ 0 → Eng.look env' 4 = .bool true)) (by split <;> simp) ?_ K ([],0) ⟨by simp,by simp⟩ (by simp only; omega)
 rintro ⟨X,n⟩ ⟨hn1,he⟩
 simp only at hn1 he
 clear hn
 by_cases hlt : n < R.length
 ·obtain ⟨x,hx⟩ : ∃ x,R[n]? = some x := ⟨R[n],List.getElem?_eq_getElem hlt⟩
  have hd : R.drop n = x :: R.drop (n + 1) := by
   rw [List.getElem?_eq_some_iff] at hx
   obtain ⟨h1,h2⟩ := hx
   rw [← h2]; exact List.drop_eq_getElem_cons h1
  rw [hd,ferr] at he
  have w1 : IntKind.i64.wrap ((n : Int) + 1) = ((n + 1 : Nat) : Int) := by rw [wrap_i64 (by omega) (by omega)]; omega
  obtain ⟨r1,r2⟩ := rlC_row hx
  have hO := hO x (List.mem_of_getElem? hx)
  have hjl : ∀ j,(M.length + j < m0) = False := fun j => by rw [eq_iff_iff,iff_false]; omega
  rcases hv with ⟨_,rfl⟩ | ⟨bb,o,rfl,hbb⟩
  ·simp at hlt
  have hbb' : ∀ Z,(M ++ Z)[bb]? = some (.cells o 3 (rlC R)) := fun Z => by rw [List.getElem?_append_left (List.getElem?_eq_some_iff.1 hbb).1]; exact hbb
  by_cases hc : relE x.1 x.2.1 x.2.2 = 0
  ·left
   rw [if_pos hc] at he
   rw [hc] at hO
   refine ⟨(X ++ [.cells true 0 [.int .i64 x.1,.str x.2.1,.str x.2.2]],n + 1),?_⟩
   refine exists_and_fin (show (n + 1 ≤ R.length ∧ ferr R = ferr (R.drop (n + 1))) ∧ R.length - (n + 1) < R.length - n from ⟨⟨by omega,he⟩,by omega⟩) ?_
   subst hb
   simp [h40,h41,hlt,hbb',r1,r2,hO,w1,hjl]
  ·right
   rw [if_neg hc] at he
   obtain ⟨e,hee⟩ : ∃ e,e = relE x.1 x.2.1 x.2.2 := ⟨_,rfl⟩
   rw [← hee] at he hc
   simp only [← hee] at hO
   rw [he] at h678
   obtain ⟨h6,h7,h8⟩ := h678 hc
   rw [he,if_neg hc]
   have : ∃ env',execC (tyOf Tryz.prog) (fun _ => [42,42,42]) O K 81 m0 true b ⟨normE [42,42,42] (writesC b) env0 ((42,.int .i64 (n : Int)) :: env0),M ++ (x0 :: X),d⟩ = some (.ret,⟨env',M ++ (x0 :: (X ++ [.cells true 0 [.int .i64 x.1,.str x.2.1,.str x.2.2]])),d⟩) ∧ (Eng.look env' 4 = .bool true) := by
    subst hb
    simp [h40,h41,hlt,hbb',r1,r2,hO,hjl,hc,h6,h7,h8]
    done
   obtain ⟨env',k1,k2⟩ := this
   exact ⟨env',_,k1,_,rfl,fun h => absurd h hc,fun _ => k2⟩
 ·right
  have e : R.drop n = [] := List.drop_of_length_le (by omega)
  rw [e,ferr] at he
  rw [he,if_pos rfl]
  have : ∃ env',execC (tyOf Tryz.prog) (fun _ => [42,42,42]) O K 81 m0 true b ⟨normE [42,42,42] (writesC b) env0 ((42,.int .i64 (n : Int)) :: env0),M ++ (x0 :: X),d⟩ = some (.exit 0,⟨env',M ++ (x0 :: X),d⟩) ∧ (Eng.look env' 1 = Eng.look env0 1 ∧ Eng.look env' 5 = Eng.look env0 5 ∧ Eng.look env' 6 = Eng.look env0 6 ∧ Eng.look env' 7 = Eng.look env0 7 ∧ Eng.look env' 8 = Eng.look env0 8) := by
   subst hb
   simp [h41,hlt]
  obtain ⟨env',k1,k2⟩ := this
  exact ⟨env',_,k1,X,rfl,fun _ => k2,fun h => absurd rfl h⟩
end
end Go.Proofs
namespace Go.Proofs
open Go.Eng
set_option maxRecDepth 16384 in
set_option maxHeartbeats 8000000 in
theorem Tryz.aHistoryRelations (s : Sheet) (hs : s.Ok) (ds : List Deed) (hd : ∀ d ∈ ds,d.Ok) (x y : Slot) (a : AV) (hx : PlanAt ds x a) (R : List Rel) (rv : AV) (hr : RlArg R y rv) :
  ACallsTo Tryz.prog 4 [planV s a,rv] [x,y] (.bool true) [x,y] := by
 have hG : fnOf Tryz.prog 4 = some Tryz.f4 := by kernel_rfl
 have hfit := fun N => Tryz.aFits s a ds.length (by rcases hx with ⟨rfl,rfl⟩ | ⟨_,rfl⟩; exact .inl ⟨rfl,rfl⟩; exact .inr rfl) N
 have hack : a.cellOk = true := by rcases hx with ⟨_,rfl⟩ | ⟨_,rfl⟩ <;> rfl
 have hakn : a.known = true := by rcases hx with ⟨_,rfl⟩ | ⟨_,rfl⟩ <;> rfl
 have hlen : ∀ N',aLen (tyOf Tryz.prog) 74 N' rv = some (.int .i64 R.length) := fun N' => by
  rcases hr with ⟨rfl,rfl⟩ | ⟨_,rfl⟩ <;> simp
 by_cases h3 : ds.length ≤ 3
 rotate_left
 ·have hO : OracleOk Tryz.prog (pureO (factF [(6,[],.bool true),(7,[planV s a],.bool false)])) := factF_ok fun y hy M => by
   simp only [List.mem_cons,List.not_mem_nil,or_false] at hy
   rcases hy with rfl | rfl
   ·exact Tryz.aKnown30 M
   ·have := hfit M; rwa [decide_eq_false h3] at this
  have h : callFn (tyOf Tryz.prog) (fun _ => []) (fnOf Tryz.prog) (pureO (factF [(6,[],.bool true),(7,[planV s a],.bool false)])) 1 4 [planV s a,rv] [x,y] = some ⟨.bool true,none,[]⟩ := by
   clear hO hfit
   simp [-aLen,hlen,callFn,hG,Tryz.f4,pureO,factF,planV]
   done
  have := (callFn_sound Tryz.mixed (tyOf_ok _) hO (fnOf_ok _) h).1
  simpa [CallRes.mem] using this
 have hfit' : ∀ N,ACallsTo Tryz.prog 7 [planV s a] N (.bool true) N := fun N => by have := hfit N; rwa [decide_eq_true h3] at this
 by_cases h5 : 5 < R.length
 ·have h5' : (5 : Int) < R.length := by omega
  have hO : OracleOk Tryz.prog (pureO (factF [(6,[],.bool true),(7,[planV s a],.bool true)])) := factF_ok fun y hy M => by
   simp only [List.mem_cons,List.not_mem_nil,or_false] at hy
   rcases hy with rfl | rfl
   ·exact Tryz.aKnown30 M
   ·exact hfit' M
  have h : callFn (tyOf Tryz.prog) (fun _ => []) (fnOf Tryz.prog) (pureO (factF [(6,[],.bool true),(7,[planV s a],.bool true)])) 1 4 [planV s a,rv] [x,y] = some ⟨.bool true,none,[]⟩ := by
   clear hO hfit
   simp [-aLen,hlen,callFn,hG,Tryz.f4,pureO,factF,planV,h5,h5']
   done
  have := (callFn_sound Tryz.mixed (tyOf_ok _) hO (fnOf_ok _) h).1
  simpa [CallRes.mem] using this
 have h5' : ¬ (5 : Int) < R.length := by omega
 obtain ⟨W,hW⟩ : ∃ W : Slot,W = .cells true 0 [.int .u8 s.kind,.int .i8 s.sx,.int .i8 s.sy,.bool s.half,a] := ⟨_,rfl⟩
 have hv0 : RlAt R [x,y,W] rv := hr.at [W]
 cases hlo : R.any longB with
 | true =>
  have hc := Tryz.aContLong hv0 (by omega)
  rw [hlo] at hc
  have hO : OracleOk Tryz.prog (factC [(6,[],[x,y,W],⟨.bool true,none,[]⟩),(7,[planV s a],[x,y,W],⟨.bool true,none,[]⟩),(16,[rv,.func 17 []],[x,y,W],⟨.bool true,none,[]⟩)]) := factC_ok fun z hz => by
   simp only [List.mem_cons,List.not_mem_nil,or_false] at hz
   rcases hz with rfl | rfl | rfl
   ·exact ⟨by simpa [CallRes.mem] using Tryz.aKnown30 [x,y,W],by simp⟩
   ·exact ⟨by simpa [CallRes.mem] using hfit' [x,y,W],by simp⟩
   ·exact ⟨by simpa [CallRes.mem] using hc,by simp⟩
  have e1 : factC [(6,[],[x,y,W],⟨.bool true,none,[]⟩),(7,[planV s a],[x,y,W],⟨.bool true,none,[]⟩),(16,[rv,.func 17 []],[x,y,W],⟨.bool true,none,[]⟩)] (.fn 6) [] [x,y,W] = some ⟨.bool true,none,[]⟩ := factC_hd
  have e2 : factC [(6,[],[x,y,W],⟨.bool true,none,[]⟩),(7,[planV s a],[x,y,W],⟨.bool true,none,[]⟩),(16,[rv,.func 17 []],[x,y,W],⟨.bool true,none,[]⟩)] (.fn 7) [planV s a] [x,y,W] = some ⟨.bool true,none,[]⟩ := by
   rw [factC_tl (by simp)]; exact factC_hd
  have e3 : factC [(6,[],[x,y,W],⟨.bool true,none,[]⟩),(7,[planV s a],[x,y,W],⟨.bool true,none,[]⟩),(16,[rv,.func 17 []],[x,y,W],⟨.bool true,none,[]⟩)] (.fn 16) [rv,.func 17 []] [x,y,W] = some ⟨.bool true,none,[]⟩ := by
   rw [factC_tl (by simp),factC_tl (by simp)]; exact factC_hd
  obtain ⟨O,hOe⟩ : ∃ O,O = factC [(6,[],[x,y,W],⟨.bool true,none,[]⟩),(7,[planV s a],[x,y,W],⟨.bool true,none,[]⟩),(16,[rv,.func 17 []],[x,y,W],⟨.bool true,none,[]⟩)] := ⟨_,rfl⟩
  rw [← hOe] at hO e1 e2 e3
  have h : callFn (tyOf Tryz.prog) (fun _ => []) (fnOf Tryz.prog) O 1 4 [planV s a,rv] [x,y] = some ⟨.bool true,none,[]⟩ := by
   clear hO hfit hfit' hc hOe
   simp only [planV,hW] at e1 e2 e3
   simp [-AV.cellOk,ck_slice,ck_str,ck_int,ck_bool,ck_nil,ck_ptr,-aLen,hlen,callFn,hG,Tryz.f4,planV,e1,e2,e3,h5',hack]
   done
  have := (callFn_sound Tryz.mixed (tyOf_ok _) hO (fnOf_ok _) h).1
  simpa [CallRes.mem] using this
 | false =>
 obtain ⟨p,t,q,evs,us,new,hK,H⟩ := Tryz.aMake_2 s hs ds hd h3 x a y W hx
 obtain ⟨M,hM⟩ : ∃ M,M = [x,y,W] ++ new := ⟨_,rfl⟩
 rw [← hM] at H
 have hv : RlAt R M rv := by rw [hM]; exact hv0.more new
 have hO := Tryz.hs6_ok H hfit' hK hv0 hv (by omega) hlo
 have hss : ∀ x ∈ R,x.2.1.length ≤ 1000000000 ∧ x.2.2.length ≤ 1000000000 := fun x hx => by
  have := List.any_eq_false.1 hlo x hx
  simp [longB] at this
  omega
 obtain ⟨O,hOe⟩ : ∃ O,O = specO (Tryz.HS6 (planV s a) rv R [x,y,W] new s p t q evs us M) := ⟨_,rfl⟩
 obtain ⟨x0,hx0⟩ : ∃ x0 : Slot,x0 = .cells true 0 (hist4 s p t q evs.length) := ⟨_,rfl⟩
 have e1 := fun N => Tryz.hs6_known (pl := planV s a) (rv := rv) (R := R) (N0 := [x,y,W]) (new := new) (s := s) (p := p) (t := t) (q := q) (evs := evs) (us := us) (M := M) N
 have e2 := fun N => Tryz.hs6_fits (pl := planV s a) (rv := rv) (R := R) (N0 := [x,y,W]) (new := new) (s := s) (p := p) (t := t) (q := q) (evs := evs) (us := us) (M := M) N
 have e3 := Tryz.hs6_make (pl := planV s a) (rv := rv) (R := R) (N0 := [x,y,W]) (new := new) (s := s) (p := p) (t := t) (q := q) (evs := evs) (us := us) (M := M)
 have e4 := Tryz.hs6_long (pl := planV s a) (rv := rv) (R := R) (N0 := [x,y,W]) (new := new) (s := s) (p := p) (t := t) (q := q) (evs := evs) (us := us) (M := M)
 have e5 := Tryz.hs6_cons (pl := planV s a) (rv := rv) (R := R) (N0 := [x,y,W]) (new := new) (s := s) (p := p) (t := t) (q := q) (evs := evs) (us := us) (M := M) [x0]
 obtain ⟨uB,uN,n,hU⟩ := Tryz.hs6_lunitsF (pl := planV s a) (rv := rv) (R := R) (N0 := [x,y,W]) (new := new) H
 have e6 := fun X => (hU (x0 :: X)).1
 have e7 : ∀ X b,(M ++ (x0 :: (X ++ (uN (x0 :: X) ++ [.cells true 0 [(.slice (uB (x0 :: X)) 0 n none)]]))))[b]? = some (.cells true 0 [(.slice (uB (x0 :: X)) 0 n none)]) → specO (Tryz.HS6 (planV s a) rv R [x,y,W] new s p t q evs us M) (.fn 20) [rv,.func 21 [.ptr b 0]] (M ++ (x0 :: (X ++ (uN (x0 :: X) ++ [.cells true 0 [(.slice (uB (x0 :: X)) 0 n none)]])))) = some ⟨.int .i64 (fidx (agB (baseN :: us.flatten)) 0 R),none,[]⟩ := fun X b hb =>
  Tryz.hs6_index hb (by simpa using (hU (x0 :: X)).2 [.cells true 0 [(.slice (uB (x0 :: X)) 0 n none)]])
 clear hU
 obtain ⟨b,hb⟩ : ∃ b,loopsF Tryz.f4 = [b] := ⟨_,rfl⟩
 obtain ⟨F,hF⟩ := Tryz.rl_loop (O := specO (Tryz.HS6 (planV s a) rv R [x,y,W] new s p t q evs us M)) hv (by omega) (fun x hx N => Tryz.hs6_rel x (hss x hx) N) (K := R.length + 1) (m0 := 2) (by rw [hM]; simp) (by omega) hb x0
 have hF1 := fun env0 d h => (hF env0 d h).1
 have hF2 := fun env0 d h => (hF env0 d h).2.1
 have hF3 := fun env0 d h => (hF env0 d h).2.2.1
 have hF4 := fun env0 d h => (hF env0 d h).2.2.2
 clear hF
 simp [loopsF,loopsC,Tryz.f4] at hb
 subst hb
 rw [← hOe] at hO e3 e4 e5
 simp only [← hOe] at e1 e2 e6 e7 hF1
 obtain ⟨L,hL⟩ : ∃ L,L = baseN :: us.flatten := ⟨_,rfl⟩
 rw [← hL] at e5
 simp only [← hL] at e7
 have h : callFn (tyOf Tryz.prog) (fun _ => [42,42,42]) (fnOf Tryz.prog) O (R.length + 1) 4 [planV s a,rv] [x,y] = some ⟨.bool true,none,[]⟩ := by
  have hfg := fidx_ge (g := agB L) (i := 0) (l := R)
  clear hO hK H hfit hfit' hOe hL hv hv0 hss hr hx
  subst hM hx0
  simp only [hist4,planV,hW,List.cons_append,List.nil_append] at e1 e2 e3 e4 e5 e6 e7 hF1 hF2
  by_cases he : ferr R = 0
  ·have hF3 := fun env0 d h => hF3 env0 d h he
   rw [if_pos he] at hF1
   rw [consV,if_pos he] at e5
   have hne : (ferr R ≠ 0) = False := by simp [he]
   simp only [hne,false_imp_iff,and_true] at hF1 hF2 hF3
   by_cases hi : fidx (agB L) 0 R < 0
   ·rw [if_pos hi] at e5
    have hf : fidx (agB L) 0 R = -1 := by omega
    rw [hf] at e7
    simp [-AV.cellOk,ck_slice,ck_str,ck_int,ck_bool,ck_nil,ck_ptr,evV_ok,-aLen,hlen,callFn,hG,Tryz.f4,planV,e1,e2,e3,e4,e5,e6,e7,h5',hack,hF1,hF2,hF3]
    done
   ·rw [if_neg hi] at e5
    obtain ⟨f,hf⟩ : ∃ f,f = fidx (agB L) 0 R := ⟨_,rfl⟩
    rw [← hf] at hi e5 hfg
    simp only [← hf] at e7
    simp [-AV.cellOk,ck_slice,ck_str,ck_int,ck_bool,ck_nil,ck_ptr,evV_ok,-aLen,hlen,callFn,hG,Tryz.f4,planV,e1,e2,e3,e4,e5,e6,e7,h5',hack,hF1,hF2,hF3,hi]
    done
  ·have hF4 := fun env0 d h => hF4 env0 d h he
   rw [if_neg he] at hF1
   rw [consV,if_neg he] at e5
   simp [-AV.cellOk,ck_slice,ck_str,ck_int,ck_bool,ck_nil,ck_ptr,evV_ok,-aLen,hlen,callFn,hG,Tryz.f4,planV,e1,e2,e3,e4,e5,h5',hack,hF1,hF4]
   done
 have := (callFn_sound Tryz.mixed (tyOf_ok _) hO (fnOf_ok _) h).1
 simpa [CallRes.mem] using this
end Go.Proofs
