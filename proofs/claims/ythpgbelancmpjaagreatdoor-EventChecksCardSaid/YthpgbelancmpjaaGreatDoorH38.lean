/-
The law EventChecks of package klippelaw29 returns true for every sheet, sketch and change, and all three read afterwards as before.
Conditions: those of the given row alone.
-/
import Derived.Test.YthpgbelancmpjaaGreatDoorH37
import Derived.Test.YthpgbelancmpjaaGreatDoorH36
set_option linter.all false
set_option maxRecDepth 100000
set_option maxHeartbeats 40000000
namespace Go.Proofs.YthpgbelancmpjaaGreatDoor
open Go.ChangeShapes Go.WideShapes Go.ChangeAt Go.WideMaps Go.WideElems Go.RowKit Go.Eng
theorem N3{H:Type}{enc:TypeId×Value->H}{W:World}{J:Nat}{v:Value}{d:DataW H}{p:List MemPlace}(I:Value.okWide Tryz.prog W .any J 95 v)(h:DataW.Trod enc Tryz.prog W 0 (fun _=>true) true 95 v d p):
  ∃(k e:Int) (u l:List UInt8),0<=k/\∀μ m,afx μ m (.agg [.int .u8 k,.int .i64 e,.str u,.str l]) v:=by
 obtain⟨O,D⟩:=h;have N:=Tryz.underlying95;simp only[Value.okWide,N] at I;obtain⟨S,rfl,R,_⟩:=I;have Z:(Value.agg S).cells.toList.length=4:=by simp only[Value.cells,QQl,R];kernel_rfl
 obtain⟨C,X⟩:=xE ((Value.agg S).cells.toList);obtain⟨B,n,hn,y,_,Q,V⟩:=DataW.trod_struct N D;rw[<-X] at Z V
 match B,Q,C,Z with
 | [y0,y1,y2,y3],_,[w0,w1,w2,w3],_=>
  have M:=V 0 _ rfl;have g1:=V 1 _ rfl;have K:=V 2 _ rfl;have g3:=V 3 _ rfl;have o:Tryz.prog.cellsOf 5=1:=by kernel_rfl
  have j:Tryz.prog.cellsOf 3=1:=by kernel_rfl
  have Y:Tryz.prog.cellsOf 9=1:=by kernel_rfl
  have c3:Tryz.prog.cellsOf 52=1:=by kernel_rfl
  simp[o,j,Y,c3] at M g1 K g3;obtain⟨k,hk,rfl⟩:=Oo M;obtain⟨i,G,_,_⟩:=DataW.trod_int Tryz.underlying3 g1;obtain⟨u,U,_,_⟩:=DataW.trod_string Tryz.underlying9 K;obtain⟨l,F,_,_⟩:=DataW.trod_string Tryz.underlying52 g3;simp only[List.cons.injEq,and_true] at G U F;subst G U F;refine⟨(k:Int),i,u.data.toList,l.data.toList,by omega,fun μ m=>?_⟩;have e:S.toList=[.int .u8 (k:Int),.int .i64 i,.string u,.string l]:=X.symm;simp only[afx];refine⟨[.int .u8 (k:Int),.int .i64 i,.string u,.string l],?_,by simp[afy,afx]⟩;rw[<-e]
theorem wS(os:Os)(I:os.Started)(H:Type)(enc:TypeId×Value->H):
  ReturnsInHanded {} Tryz.checked os 6 .any (fun w U=>(Rows.eventChecksSpec.pre enc Tryz.prog Tryz.f6 [] false w U/\laidMetH Tryz.prog pY w)/\sizedMet enc Tryz.prog Tryz.f6 (OpenSpec.ofChange Rows.eventChecksSpec) false w U)
   (Rows.eventChecksSpec.post enc Tryz.prog Tryz.f6 false true false false):=by
 refine returnsInHanded_of_change_and (C:=Tryz.checked) (X:=fun w _=>laidMetH Tryz.prog pY w) (fun _ _ _ hh h=>h.of_heap hh) own I (by kernel_rfl) Tryz.func6
  (ChangeSpec.witness_shaped (enc:=enc) (C:=Tryz.checked) (os:=os) (X:=fun w _=>laidMetH Tryz.prog pY w) false (World.doorLaid Tryz.prog 400 os) #[.agg #[.int .u8 0,.int .i8 0,.int .i8 0,.bool false],.agg #[.int .u8 0,.int .i8 0,.int .i8 0,.int .i8 0,.int .i8 0,.int .i8 0,.int .i8 0,.bool false,.int .i8 0,.int .i8 0,.int .i8 0,.int .i8 0,.int .i8 0,.int .i8 0,.bool false,.int .i8 0,.int .i8 0,.int .i8 0,.int .i8 0,.int .i8 0,.int .i8 0,.bool false,.int .i8 0,.int .i8 0,.int .i8 0,.int .i8 0,.int .i8 0,.int .i8 0,.int .i8 0,.int .i8 0,.int .i8 0,.int .i8 0,.int .i8 0,.int .i8 0],.agg #[.int .u8 0,.int .i64 0,.string ⟨#[]⟩,.string ⟨#[]⟩]] 8 rfl (World.shaped_of_RefB (by kernel_rfl) (by kernel_rfl)) (by kernel_rfl) (by kernel_rfl) (by kernel_rfl) (Wt os _)) ?_
 intro W O U ds gs N m hW _ _ hL _;have S:∀(j:Nat) t v,Tryz.f6.params[j]? =some t->U[j]? =some v->Value.okWide Tryz.prog W .any O t v:=m
 have M :=hW;obtain⟨p,q,Y,hV,K,hfz,hnd⟩:=hW;have hA:DataW.TrodAll enc Tryz.prog W 0 (fun _=>true) true Tryz.f6.params.toList U.toList ds p:=Y;have G:Tryz.f6.params= #[25,34,95]:=rfl;rw[G] at hA S;obtain⟨v0,J,v2,d0,d1,d2,F,D,B,aaH,rfl,rfl,h0,h1,h2⟩:=trodAll_three hA;subst aaH;obtain⟨rfl,rfl⟩:=trodVars_none hV;have hG:=Lv hL;have A':∀x∈N,x.block<W.heap.size:=M.lt
 have fin:∀(y :World),Below W.heap.size W y ->Rows.eventChecksSpec.post enc Tryz.prog Tryz.f6 false true false false W #[v0,J,v2] (.bool true) y :=by
  intro y o;refine UW rfl M o K rfl rfl rfl fun sp R=>?_
  rw[G];rw[List.append_nil,S2];have Q:∀x∈F++(D++B),x∈N:=fun x Z=>by rw[K,List.append_nil,S2];exact Z
  have m0:∀x∈F,x∈F++(D++B):=fun x Z=>List.mem_append_left _ Z
  have m1:∀x∈D,x∈F++(D++B):=fun x Z=>List.mem_append_right _ (List.mem_append_left _ Z)
  have m2:∀x∈B,x∈F++(D++B):=fun x Z=>List.mem_append_right _ (List.mem_append_right _ Z)
  exact trodAll_mk3 (Trod_stays NV (by kernel_rfl) (of_decide_eq_true (by kernel_rfl)) h0 (fun x Z=>o.same (A' x (Q x (m0 x Z)))) (fun x Z=>R x (Q x (m0 x Z))))
   (Trod_stays NV (by kernel_rfl) (of_decide_eq_true (by kernel_rfl)) h1 (fun x Z=>o.same (A' x (Q x (m1 x Z)))) (fun x Z=>R x (Q x (m1 x Z))))
   (Trod_stays NV (by kernel_rfl) (of_decide_eq_true (by kernel_rfl)) h2 (fun x Z=>o.same (A' x (Q x (m2 x Z)))) (fun x Z=>R x (Q x (m2 x Z))))
 obtain⟨s,hs,hv⟩:=Ru (S 0 25 v0 rfl rfl) h0;obtain⟨x,Z,hxv⟩:=N4 (S 1 34 J rfl rfl) h1;obtain⟨w,i,u,l,hw,hpv⟩:=N3 (S 2 95 v2 rfl rfl) h2;refine((xJ s hs x Z i u l hw).2 W.heap.size _ W [v0,J,v2] hG (Re W) (bW.2 ⟨hv _ _,bW.2 ⟨hxv _ _,bW.2 ⟨hpv _ _,by simp[afy]⟩⟩⟩)).mono ?_;rintro e y ⟨V,v',m',μ',rfl,q1,q2,q3,rfl,rfl⟩;simp only[afx] at q1;subst q1;exact⟨_,rfl,fin y (XQ q3 UK)⟩
theorem yC:joinedFacts Tryz.prog 6 Tryz.f6 Rows.eventChecksSpec Rows.eventChecksRow=true:=by
 unfold joinedFacts;simp only[Ar]
 repeat' apply And.intro
 all_goals (as_aux_lemma=>kernel_rfl)
theorem CO:Rows.EventChecksSaid:=
 OpenClaim.holds_of_wide 6 Tryz.f6 rfl rfl rfl rfl rfl rfl rfl ⟨rfl,rfl,rfl,rfl,rfl⟩ rfl rfl rfl rfl rfl (by as_aux_lemma=>kernel_rfl) Tryz.func6 yC
  (of_decide_eq_true (by as_aux_lemma=>kernel_rfl)) (by unfold Func.isWrapper;first | (rw[if_pos (by decide +kernel)];kernel_rfl) | (rw[if_neg (by decide +kernel)];exact⟨rfl,rfl⟩))
  (fun V Z H X _=>wS V Z H X)
theorem eventChecks_card:Rows.EventChecksCardSaid:=
 Claim7.holds_tied_plain_at .later [] [.data,.data,.data,.sentinel,.sentinel] true (true,"74a34921920eb3870d68da733564cd9dee90ad52aeb7b3408c8480495735d049") true
  CO (fun _ h=>by cases h) (by as_aux_lemma=>kernel_rfl) (fun _ h=>by cases h) eventChecks_row_tie rfl ⟨rfl,rfl⟩ (by as_aux_lemma=>kernel_rfl) rfl
  (fun f fn V X=>by
   obtain rfl:f=6:=QQc ((show Tryz.prog.funcNamed Rows.eventChecksRow.func=some 6 by as_aux_lemma=>kernel_rfl).symm.trans V) |>.symm
   obtain rfl:fn=Tryz.f6:=(QQc (Tryz.func6.symm.trans X)).symm;exact⟨by as_aux_lemma=>kernel_rfl,fun j t Z=>by
    have U:Tryz.f6.params= #[25,34,95]:=rfl;rw[U] at Z
    match j,Z with
    |0,Z=>simp at Z;subst Z;exact(show Tryz.prog.wantsStandIn 25=false by as_aux_lemma=>kernel_rfl)
    |1,Z=>simp at Z;subst Z;exact(show Tryz.prog.wantsStandIn 34=false by as_aux_lemma=>kernel_rfl)
    |2,Z=>simp at Z;subst Z;exact(show Tryz.prog.wantsStandIn 95=false by as_aux_lemma=>kernel_rfl)
    |j+3,Z=>simp at Z⟩)
  (by as_aux_lemma=>kernel_rfl)
#print axioms eventChecks_card
end Go.Proofs.YthpgbelancmpjaaGreatDoor
