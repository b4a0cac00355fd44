/- See L55. -/
import Derived.Test.YtiopbpbcgccngaaGreatDoorL46
set_option linter.all false
namespace Go.Proofs
open Go.Eng
theorem closeds_take : ∀ (n : Nat) (R : List AV),AV.closeds R = true → AV.closeds (R.take n) = true
 | 0,_,_ => rfl
 | _ + 1,[],_ => rfl
 | n + 1,v :: R,h => by
  simp only [AV.closeds,Bool.and_eq_true] at h
  simp only [List.take_succ_cons,AV.closeds,Bool.and_eq_true]
  exact ⟨h.1,closeds_take n R h.2⟩
theorem refsL_take (m : Nat) : ∀ (n : Nat) (R : List AV),AV.refsL m R = [] → AV.refsL m (R.take n) = []
 | 0,_,_ => rfl
 | _ + 1,[],_ => rfl
 | n + 1,v :: R,h => by
  simp only [AV.refsL,List.append_eq_nil_iff] at h
  simp only [List.take_succ_cons,AV.refsL,List.append_eq_nil_iff]
  exact ⟨h.1,refsL_take m n R h.2⟩
end Go.Proofs
namespace Go.Proofs
open Go.Eng
end Go.Proofs
namespace Go.Proofs
open Go.Eng
end Go.Proofs
namespace Go.Proofs
open Go.Eng
end Go.Proofs
namespace Go.Proofs
open Go.Eng
end Go.Proofs
namespace Go.Proofs
open Go.Eng
end Go.Proofs
namespace Go.Proofs
open Go.Eng
end Go.Proofs
namespace Go.Proofs
open Go.Eng
end Go.Proofs
namespace Go.Proofs
open Go.Eng
def bothR (A B : List Iv) : Int := if logR A ≠ 0 then logR A else logR B
theorem Tryz.aCheckBoth {M : Mem} {x y : AV} {A B : List Iv} (hx : ivs M x = some A) (hy : ivs M y = some B) (hA : shortIv A) (hB : shortIv B) (la : A.length ≤ 1000000000) (lb : B.length ≤ 1000000000) :
  ACallsTo Tryz.prog 38 [x,y] M (.int .i64 (bothR A B)) M := by
 have hG : fnOf Tryz.prog 38 = some Tryz.f38 := by kernel_rfl
 have sa := shortB_iff.2 hA
 have sb := shortB_iff.2 hB
 have h : callFn (tyOf Tryz.prog) (fun _ => []) (fnOf Tryz.prog) Tryz.w6O 1 38 [x,y] M = some ⟨.int .i64 (bothR A B),none,[]⟩ := by
  unfold bothR
  by_cases h0 : logR A = 0
  ·simp [callFn,hG,Tryz.f38,Tryz.w6O,hx,hy,sa,sb,la,lb,h0]
  ·simp [callFn,hG,Tryz.f38,Tryz.w6O,hx,sa,la,h0]
 have := (callFn_sound Tryz.mixed (tyOf_ok _) Tryz.w6_ok (fnOf_ok _) h).1
 simpa [CallRes.mem] using this
set_option maxHeartbeats 1600000 in
theorem Tryz.b_unit1_run (x : Iv) (hx : ∃ a b,ivN x = some (a,b)) (d : Rat) (hd : fineD d) (o : Bool) (e : Nat) (s0 : Slot) : callFn (tyOf Tryz.prog) (fun _ => []) (fnOf Tryz.prog) (pureO Tryz.w15F) 1 111 [.agg [.str x.1,.str x.2.1,.str x.2.2],.ptr 1 0] [s0,.cells o e [.str (ratS d)]] = some ⟨.bool (hasB d x),none,[]⟩ := by
 have hG : fnOf Tryz.prog 111 = some Tryz.f111 := by kernel_rfl
 obtain ⟨a,b,hx⟩ := hx
 obtain ⟨u,s,t⟩ := x
 simp [callFn,hG,Tryz.f111,pureO,Tryz.w15F,hx,ratP_ratS,hd.1,hd.2]
noncomputable def Tryz.b_u1O : Oracle := fun c args M => match c,args,M with
 | .fn 111,[.agg [.str u,.str s,.str t],.ptr 1 0],[_,.cells _ _ [.str d]] => match ivN (u,s,t),ratP d with
  | some _,some q => if (natD q.num.natAbs).length ≤ 40000 ∧ (natD q.den).length ≤ 40000 then some ⟨.bool (hasB q (u,s,t)),none,[]⟩ else none
  | _,_ => none
 | _,_,_ => none
theorem Tryz.b_u1O_ok : OracleOk Tryz.prog Tryz.b_u1O := by
 refine oracleOk_of fun c args M r h => ?_
 unfold Tryz.b_u1O at h
 split at h
 ·rename_i u s t s0 o e d
  split at h
  ·rename_i p q hp hq
   split at h
   ·rename_i hc
    cases h
    refine soundAt_call ?_
    rw [ratP_some hq]
    have := (callFn_sound Tryz.mixed (tyOf_ok _) Tryz.w15_ok (fnOf_ok _) (Tryz.b_unit1_run (u,s,t) ⟨_,_,hp⟩ q hc o e s0)).1
    simpa [CallRes.mem] using this
   ·cases h
  ·cases h
 ·cases h
set_option maxHeartbeats 1600000 in
theorem Tryz.b_indexf_loop {K : Nat} (L : List Iv) (hL : ∀ x ∈ L,rightIv x) (d : Rat) (hd : fineD d) (s1 : Slot) (o : Bool) (es : Nat) (hs1 : s1 = .cells o es [.str (ratS d)]) (hl : L.length ≤ 1000000000) (hK : L.length < K) {b : Code} (hb : loopsF Tryz.f48 = [b]) :
  ∃ F : Env → Bool → Env,∀ env0 dd,(Eng.look env0 0 = .slice 0 0 L.length none ∧ Eng.look env0 1 = .func 111 [.ptr 1 0] ∧ Eng.look env0 7 = .int .i64 L.length ∧ Eng.look env0 8 = .int .i64 0) →
   execC (tyOf Tryz.prog) (fun _ => [8]) Tryz.b_u1O K 19 2 true (.loop b) ⟨env0,[.cells false 3 (ivC L),s1],dd⟩ = some (if idxI d 0 L < 0 then .exit 0 else .ret,⟨F env0 dd,[.cells false 3 (ivC L),s1],dd⟩) ∧
    (¬ idxI d 0 L < 0 → Eng.look (F env0 dd) 4 = .int .i64 (idxI d 0 L)) := by
 refine loop_rule rfl (fun env0 => Eng.look env0 0 = .slice 0 0 L.length none ∧ Eng.look env0 1 = .func 111 [.ptr 1 0] ∧ Eng.look env0 7 = .int .i64 L.length ∧ Eng.look env0 8 = .int .i64 0) (fun _ env' => ¬ idxI d 0 L < 0 → Eng.look env' 4 = .int .i64 (idxI d 0 L)) ?_
 rintro env0 dd ⟨h0,h1,h7,h8⟩
 simp [loopsF,loopsC,Tryz.f48] at hb
 have hn : normE [8] (writesC b) env0 ((8,.int .i64 ((0 : Nat) : Int)) :: env0) = normE [8] (writesC b) env0 env0 := by simp [normE,h8]
 rw [← hn]
 have kl : (ivC L).length = L.length * 3 := ivC_length L
 refine iter_ind (α := Nat) (fun n => ⟨normE [8] (writesC b) env0 ((8,.int .i64 (n : Int)) :: env0),[.cells false 3 (ivC L),s1],dd⟩) (fun n => L.length - n) (fun n => n ≤ L.length ∧ idxI d 0 L = idxI d n (L.drop n)) _ _ dd _ (by split <;> simp) ?_ K 0 ⟨by omega,by rw [List.drop_zero]⟩ (by omega)
 rintro n ⟨hn1,he⟩
 clear hn
 subst hb
 by_cases hlt : n < L.length
 ·obtain ⟨x,hx⟩ : ∃ x,L[n]? = some x := ⟨L[n],List.getElem?_eq_getElem hlt⟩
  obtain ⟨k1,_,_,_⟩ := ivC_at hx
  have k5 : n * 3 + 3 ≤ (ivC L).length := by omega
  obtain ⟨a,b,hab⟩ := hL x (List.mem_of_getElem? hx)
  have hd' : L.drop n = x :: L.drop (n + 1) := by
   rw [List.getElem?_eq_some_iff] at hx
   obtain ⟨h1,h2⟩ := hx
   rw [← h2]; exact List.drop_eq_getElem_cons h1
  rw [hd',idxI] at he
  have w1 : IntKind.i64.wrap ((n : Int) + 1) = ((n + 1 : Nat) : Int) := by rw [wrap_i64 (by omega) (by omega)]; omega
  obtain ⟨u,s,t⟩ := x
  simp only at k1
  cases hh : hasB d (u,s,t) with
  | true =>
   right
   rw [if_pos hh] at he
   have hng : ¬ (n : Int) < 0 := by omega
   rw [he,if_neg hng]
   subst hs1
   simp [h0,h1,h7,hlt,k1,k5,Tryz.b_u1O,hab,ratP_ratS,hd.1,hd.2,hh]
  | false =>
   left
   rw [if_neg (by rw [hh]; simp)] at he
   refine ⟨n + 1,?_⟩
   refine exists_and_fin (show (n + 1 ≤ L.length ∧ idxI d 0 L = idxI d (n + 1) (L.drop (n + 1))) ∧ L.length - (n + 1) < L.length - n from ⟨⟨by omega,he⟩,by omega⟩) ?_
   subst hs1
   simp [h0,h1,h7,hlt,k1,k5,Tryz.b_u1O,hab,ratP_ratS,hd.1,hd.2,hh,w1]
 ·right
  have e : L.drop n = [] := List.drop_of_length_le (by omega)
  rw [e,idxI] at he
  rw [he,if_pos (by decide)]
  simp [h7,hlt]
theorem Tryz.b_aIndexF (L : List Iv) (hL : ∀ x ∈ L,rightIv x) (d : Rat) (hd : fineD d) (o : Bool) (es : Nat) (hl : L.length ≤ 1000000000) :
  ACallsTo Tryz.prog 48 [.slice 0 0 L.length none,.func 111 [.ptr 1 0]] [.cells false 3 (ivC L),.cells o es [.str (ratS d)]] (.int .i64 (idxI d 0 L)) [.cells false 3 (ivC L),.cells o es [.str (ratS d)]] := by
 have hG : fnOf Tryz.prog 48 = some Tryz.f48 := by kernel_rfl
 obtain ⟨b,hb⟩ : ∃ b,loopsF Tryz.f48 = [b] := ⟨_,rfl⟩
 obtain ⟨s1,hs1⟩ : ∃ s1 : Slot,s1 = .cells o es [.str (ratS d)] := ⟨_,rfl⟩
 obtain ⟨F,hF⟩ := Tryz.b_indexf_loop (K := L.length + 1) L hL d hd s1 o es hs1 hl (by omega) hb
 simp [loopsF,loopsC,Tryz.f48] at hb
 subst hb
 subst hs1
 have h : callFn (tyOf Tryz.prog) (fun _ => [8]) (fnOf Tryz.prog) Tryz.b_u1O (L.length + 1) 48 [.slice 0 0 L.length none,.func 111 [.ptr 1 0]] [.cells false 3 (ivC L),.cells o es [.str (ratS d)]] = some ⟨.int .i64 (idxI d 0 L),none,[]⟩ := by
  by_cases hc : idxI d 0 L < 0
  ·rw [if_pos hc] at hF
   have hF1 := fun env0 d h => (hF env0 d h).1
   clear hF
   have h1 : idxI d 0 L = -1 := by have := idxI_ge (d := d) (i := 0) (l := L); omega
   rw [h1]
   simp [callFn,hG,Tryz.f48,hF1]
  ·rw [if_neg hc] at hF
   have hF1 := fun env0 d h => (hF env0 d h).1
   have hF2 := fun env0 d h => (hF env0 d h).2 hc
   clear hF
   simp [callFn,hG,Tryz.f48,hF1,hF2]
 have := (callFn_sound Tryz.mixed (tyOf_ok _) Tryz.b_u1O_ok (fnOf_ok _) h).1
 simpa [CallRes.mem] using this
theorem Tryz.aUnit2P (L : List Iv) (h0 : ∀ x ∈ L,rightIv x) (hl : L.length ≤ 1000000000) (q : Rat) (hd : fineD q) :
  ACallsTo Tryz.prog 76 [.slice 0 0 L.length none,.str (ratS q)] [.cells false 3 (ivC L)] (.str (unitL (L.find? (hasB q)))) [.cells false 3 (ivC L)] := by
 have hG : fnOf Tryz.prog 76 = some Tryz.f76 := by kernel_rfl
 have hix' : ACallsTo Tryz.prog 48 [.slice 0 0 L.length none,.func 111 [.ptr 1 0]] [.cells false 3 (ivC L),.cells true 0 [.str (ratS q)]] (.int .i64 (idxI q 0 L)) ([.cells false 3 (ivC L),.cells true 0 [.str (ratS q)]] ++ []) := by simpa using Tryz.b_aIndexF L h0 q hd true 0 hl
 have hO := oneO_ok hix'
 obtain ⟨O,hOd⟩ : ∃ O,O = oneO 48 [.slice 0 0 L.length none,.func 111 [.ptr 1 0]] [.cells false 3 (ivC L),.cells true 0 [.str (ratS q)]] ⟨.int .i64 (idxI q 0 L),none,[]⟩ := ⟨_,rfl⟩
 rw [← hOd] at hO
 have o3 : O (.fn 48) [.slice 0 0 L.length none,.func 111 [.ptr 1 0]] [.cells false 3 (ivC L),.cells true 0 [.str (ratS q)]] = some ⟨.int .i64 (idxI q 0 L),none,[]⟩ := by rw [hOd]; simp [oneO_at]
 clear hOd hix'
 have h : callFn (tyOf Tryz.prog) (fun _ => []) (fnOf Tryz.prog) O 1 76 [.slice 0 0 L.length none,.str (ratS q)] [.cells false 3 (ivC L)] = some ⟨.str (unitL (L.find? (hasB q))),none,[]⟩ := by
  rcases idxI_find (d := q) 0 L with ⟨e1,e2⟩ | ⟨k,x,e1,e2,e3⟩
  ·rw [e2]
   simp [callFn,hG,Tryz.f76,o3,e1,ivC_refs,ivC_ren,unitL]
  ·rw [e3]
   rw [Nat.zero_add] at e1
   rw [e1] at o3
   obtain ⟨k1,k2,_,_⟩ := ivC_at e2
   have kl : (ivC L).length = L.length * 3 := ivC_length L
   have klt : k < L.length := (List.getElem?_eq_some_iff.1 e2).1
   have k5 : k * 3 + 3 ≤ (ivC L).length := by omega
   have kl3 : k * 3 < (ivC L).length := by omega
   have hkn : ¬ (k : Int) < 0 := by omega
   have kg : ∀ h,(ivC L)[k * 3]'h = .str x.1 := fun h => by
    rw [List.getElem?_eq_getElem h] at k2
    exact Option.some.inj k2
   simp [callFn,hG,Tryz.f76,o3,ivC_refs,ivC_ren,hkn,klt,k5,k1,k2,kl3,kg,unitL]
 have := (callFn_sound Tryz.mixed (tyOf_ok _) hO (fnOf_ok _) h).1
 simpa [CallRes.mem] using this
end Go.Proofs
