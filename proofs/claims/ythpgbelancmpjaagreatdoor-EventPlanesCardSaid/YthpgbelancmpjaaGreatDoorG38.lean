/-
The law EventPlanes of package klippelaw29 returns true for every sheet, sketch and place by small numbers, and all three read afterwards as before.
Conditions: those of the given row alone.
-/
import Derived.Test.YthpgbelancmpjaaGreatDoorG37
set_option linter.all false
set_option maxRecDepth 100000
set_option maxHeartbeats 40000000
namespace Go.Proofs.YthpgbelancmpjaaGreatDoor
open Go.ChangeShapes Go.WideShapes Go.ChangeAt Go.WideMaps Go.WideElems Go.RowKit Go.Eng
theorem wM(os:Os)(I:os.Started)(H:Type)(enc:TypeId×Value->H):
  ReturnsInHanded {} Tryz.checked os 3 .any (fun w U=>(Rows.eventPlanesSpec.pre enc Tryz.prog Tryz.f3 [] false w U/\laidMetH Tryz.prog pK w)/\sizedMet enc Tryz.prog Tryz.f3 (OpenSpec.ofChange Rows.eventPlanesSpec) false w U)
   (Rows.eventPlanesSpec.post enc Tryz.prog Tryz.f3 false true false false):=by
 refine returnsInHanded_of_change_and (C:=Tryz.checked) (X:=fun w _=>laidMetH Tryz.prog pK w) (fun _ _ _ hh h=>h.of_heap hh) own I (by kernel_rfl) Tryz.func3
  (ChangeSpec.witness_shaped (enc:=enc) (C:=Tryz.checked) (os:=os) (X:=fun w _=>laidMetH Tryz.prog pK w) false (World.doorLaid Tryz.prog 400 os) #[.agg #[.int .u8 0,.int .i8 0,.int .i8 0,.bool false],.agg #[.int .u8 0,.int .i8 0,.int .i8 0,.int .i8 0,.int .i8 0,.int .i8 0,.int .i8 0,.bool false,.int .i8 0,.int .i8 0,.int .i8 0,.int .i8 0,.int .i8 0,.int .i8 0,.bool false,.int .i8 0,.int .i8 0,.int .i8 0,.int .i8 0,.int .i8 0,.int .i8 0,.bool false,.int .i8 0,.int .i8 0,.int .i8 0,.int .i8 0,.int .i8 0,.int .i8 0,.int .i8 0,.int .i8 0,.int .i8 0,.int .i8 0,.int .i8 0,.int .i8 0],.agg #[.int .i16 0,.int .u8 0,.int .i16 0,.int .u8 0,.int .i16 0,.int .u8 0]] 8 rfl (World.shaped_of_RefB (by kernel_rfl) (by kernel_rfl)) (by kernel_rfl) (by kernel_rfl) (by kernel_rfl) (VH os _)) ?_
 intro W O U ds gs Z4 m hW _ _ hL _;have u:∀(j:Nat) t v,Tryz.f3.params[j]? =some t->U[j]? =some v->Value.okWide Tryz.prog W .any O t v:=m
 have N :=hW;obtain⟨p,q,Y,hV,M,hfz,hnd⟩:=hW;have hA:DataW.TrodAll enc Tryz.prog W 0 (fun _=>true) true Tryz.f3.params.toList U.toList ds p:=Y;have L:Tryz.f3.params= #[25,34,39]:=rfl;rw[L] at hA u;obtain⟨v0,J,v2,d0,d1,d2,K,G,F,aaj,rfl,rfl,h0,h1,h2⟩:=trodAll_three hA;subst aaj;obtain⟨rfl,rfl⟩:=trodVars_none hV;have hG:=LP hL;have FS:∀x∈Z4,x.block<W.heap.size:=N.lt
 have fin:∀(B :World),Below W.heap.size W B ->Rows.eventPlanesSpec.post enc Tryz.prog Tryz.f3 false true false false W #[v0,J,v2] (.bool true) B :=by
  intro B o;refine T5 rfl N o M rfl rfl rfl fun sp S=>?_
  rw[L];rw[List.append_nil,QQQ];have R:∀x∈K++(G++F),x∈Z4:=fun x Z=>by rw[M,List.append_nil,QQQ];exact Z
  have m0:∀x∈K,x∈K++(G++F):=fun x Z=>List.mem_append_left _ Z
  have m1:∀x∈G,x∈K++(G++F):=fun x Z=>List.mem_append_right _ (List.mem_append_left _ Z)
  have m2:∀x∈F,x∈K++(G++F):=fun x Z=>List.mem_append_right _ (List.mem_append_right _ Z)
  exact trodAll_mk3 (Trod_stays Oq (by kernel_rfl) (of_decide_eq_true (by kernel_rfl)) h0 (fun x Z=>o.same (FS x (R x (m0 x Z)))) (fun x Z=>S x (R x (m0 x Z))))
   (Trod_stays Oq (by kernel_rfl) (of_decide_eq_true (by kernel_rfl)) h1 (fun x Z=>o.same (FS x (R x (m1 x Z)))) (fun x Z=>S x (R x (m1 x Z))))
   (Trod_stays Oq (by kernel_rfl) (of_decide_eq_true (by kernel_rfl)) h2 (fun x Z=>o.same (FS x (R x (m2 x Z)))) (fun x Z=>S x (R x (m2 x Z))))
 obtain⟨s,hs,hv⟩:=RF (u 0 25 v0 rfl rfl) h0;obtain⟨x,Z,hxv⟩:=Oz (u 1 34 J rfl rfl) h1;obtain⟨pl,hpl,hpv⟩:=RE (u 2 39 v2 rfl rfl) h2;refine((xu s hs x Z pl hpl).2 W.heap.size _ W [v0,J,v2] hG (Rq W) (bX.2 ⟨hv _ _,bX.2 ⟨hxv _ _,bX.2 ⟨hpv _ _,by simp[afo]⟩⟩⟩)).mono ?_;rintro e B ⟨V,v',m',μ',rfl,q1,q2,q3,rfl,rfl⟩;simp only[afn] at q1;subst q1;exact⟨_,rfl,fin B (Xa q3 TQ)⟩
theorem yi:joinedFacts Tryz.prog 3 Tryz.f3 Rows.eventPlanesSpec Rows.eventPlanesRow=true:=by
 unfold joinedFacts;simp only[Es]
 repeat' apply And.intro
 all_goals (as_aux_lemma=>kernel_rfl)
theorem Cm:Rows.EventPlanesSaid:=
 OpenClaim.holds_of_wide 3 Tryz.f3 rfl rfl rfl rfl rfl rfl rfl ⟨rfl,rfl,rfl,rfl,rfl⟩ rfl rfl rfl rfl rfl (by as_aux_lemma=>kernel_rfl) Tryz.func3 yi
  (of_decide_eq_true (by as_aux_lemma=>kernel_rfl)) (by unfold Func.isWrapper;first | (rw[if_pos (by decide +kernel)];kernel_rfl) | (rw[if_neg (by decide +kernel)];exact⟨rfl,rfl⟩))
  (fun V Z H X _=>wM V Z H X)
theorem eventPlanes_card:Rows.EventPlanesCardSaid:=
 Claim7.holds_tied_plain_at .later [] [.data,.data,.data,.sentinel,.sentinel] true (true,"74a34921920eb3870d68da733564cd9dee90ad52aeb7b3408c8480495735d049") true
  Cm (fun _ h=>by cases h) (by as_aux_lemma=>kernel_rfl) (fun _ h=>by cases h) eventPlanes_row_tie rfl ⟨rfl,rfl⟩ (by as_aux_lemma=>kernel_rfl) rfl
  (fun f fn V X=>by
   obtain rfl:f=3:=QQX ((show Tryz.prog.funcNamed Rows.eventPlanesRow.func=some 3 by as_aux_lemma=>kernel_rfl).symm.trans V) |>.symm
   obtain rfl:fn=Tryz.f3:=(QQX (Tryz.func3.symm.trans X)).symm;exact⟨by as_aux_lemma=>kernel_rfl,fun j t Z=>by
    have U:Tryz.f3.params= #[25,34,39]:=rfl;rw[U] at Z
    match j,Z with
    |0,Z=>simp at Z;subst Z;exact(show Tryz.prog.wantsStandIn 25=false by as_aux_lemma=>kernel_rfl)
    |1,Z=>simp at Z;subst Z;exact(show Tryz.prog.wantsStandIn 34=false by as_aux_lemma=>kernel_rfl)
    |2,Z=>simp at Z;subst Z;exact(show Tryz.prog.wantsStandIn 39=false by as_aux_lemma=>kernel_rfl)
    |j+3,Z=>simp at Z⟩)
  (by as_aux_lemma=>kernel_rfl)
#print axioms eventPlanes_card
end Go.Proofs.YthpgbelancmpjaaGreatDoor
