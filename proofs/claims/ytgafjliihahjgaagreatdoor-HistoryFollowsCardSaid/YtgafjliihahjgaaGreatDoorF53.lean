/- See F54. -/
import Derived.Test.YtgafjliihahjgaaGreatDoorF11
import Derived.Test.YtgafjliihahjgaaGreatDoorRows
import Derived.Test.YtgafjliihahjgaaGreatDoorTie
import Derived.Test.YtgafjliihahjgaaGreatDoorCards
import Derived.ProofKit
import Derived.LaidMore
import Derived.OpenShut
import Derived.ChangeSame
import Derived.ChangeVars
import Derived.JoinedOf
import Derived.RowKit
import Derived.LaidLaws
import Derived.LaidHandle
import Derived.MakeChecks
import Derived.Deep.SlicePairs
import Derived.Carry
import Derived.Stop.Joined
import Derived.SevenTiedAt
set_option linter.all false
set_option maxRecDepth 100000
set_option maxHeartbeats 40000000
namespace Go.Proofs.YtgafjliihahjgaaGreatDoor
open Go.ChangeShapes Go.WideShapes Go.ChangeAt Go.WideMaps Go.WideElems Go.RowKit Go.Eng
theorem own:ownKnob Tryz.prog.godebug=none:=by kernel_rfl
theorem UE:laidOutB Tryz.prog=true:=by kernel_rfl
def oO:List (String×DataW Unit):=Rows.historyMovesRow.laid
theorem WB(os:Os)(args:Array Value):laidMetH Tryz.prog oO ((World.doorLaid Tryz.prog 400 os).forCall (fun _ _=>0) ⟨#[],args,[]⟩).memory:=
 laidMetH_of_parts3 (fuel:=8) (laidMet_of_run' 8 (by kernel_rfl) (by kernel_rfl)) (by kernel_rfl) (by kernel_rfl)
theorem Xg:xC=(oO.getD 2 ("",.nil)).1:=by kernel_rfl
variable{W:World}
theorem LU(h:laidMetH Tryz.prog oO W):GOk Tryz.prog W.heap.size W:=by
 rw[MakeChecks.laidMetH_plain _ _ _ (by kernel_rfl)] at h;obtain⟨ps,⟨g0,t0,D,f0,p0,q0,C,B,u,m,⟨j,t1,Y,f1,p1,q1,X,R,Z,I,⟨H,t2,V,f2,p2,q2,S,O,M,K,_,_⟩,_⟩,_⟩,_,_⟩:=h;constructor
 ·have e1:Tryz.prog.globals.size=6:=by kernel_rfl
  have J:Tryz.prog.globalNamed (oO.getD 1 ("",.nil)).1=some 5:=by kernel_rfl
  have F:j=5:=(Option.some.inj (X.symm.trans J));subst F;have:=World.var?_cell X Z;unfold World.var? at Z;rw[X] at Z;simp only[Option.bind_some] at Z;split at Z
  ·rename_i G
   have:=(Array.getElem?_eq_some_iff.1 G).1;omega
  ·cases Z
 ·have J:Tryz.prog.globalNamed (oO.getD 2 ("",.nil)).1=some 3:=by kernel_rfl
  have F:H=3:=(Option.some.inj (S.symm.trans J));subst F;have A:(Tryz.prog.globals[3]?).map (·.type)=some 354:=by kernel_rfl
  have e5:t2=354:=(Option.some.inj (O.symm.trans A));subst e5;have e6:Tryz.prog.underlying 354=some (.array 20 280):=by kernel_rfl
  have e7:Tryz.prog.underlying 280=some (.int .u64):=by kernel_rfl
  have hc:=Lib.cells_of_tab (k:=.u64) (zs:=Lib.pow10Tab) e6 e7 (by kernel_rfl) (by kernel_rfl) K;have e8:W.var? Tryz.prog xC=W.var? Tryz.prog (oO.getD 2 ("",.nil)).1:=by rw[Xg]
  have e9:V=(Lib.pow10Tab.map fun z=>Value.int .u64 z).toArray:=by rw[←hc]
  unfold Lib.TabIs;rw[e8,←e9];exact M
theorem UB{w w' :World}{A :Mem}{μ μ' :Nat→Eng.Place}{mem:Mem}{m0:Nat}(h:Step m0 μ mem w μ' A w')(G:∀b,¬eh mem b):Below w.heap.size w w' :=
 ⟨h.os,h.tape,h.output,h.size,fun k Z=>h.frame k Z fun b X=>absurd X (G b)⟩
theorem U8{H:Type}{enc:TypeId×Value→H}{f:Func}{s:ChangeSpec}{Y G abr ac0:Bool}{I :World}{args:Array Value}{ds gs:List (DataW H)}{A p:List MemPlace}(hsv:s.vars=[])(hW:DataW.Whole enc Tryz.prog f.params.toList s.vars Y W args.toList ds gs A)(hb:Below W.heap.size W I)(R:A=p)(hg:gs=[])(hrt:f.resultTypes= #[4])(hs:s.fn H ds={ results:=[.lit (.bool true)],args:=ds })(K:∀Z:Nat→Bool,(∀x∈A,Z x.block=true)→DataW.TrodAll enc Tryz.prog I 0 Z true f.params.toList args.toList ds p):
  s.post enc Tryz.prog f Y G abr ac0 W args (.bool true) I :=by
 subst hg;have J:∀p∈A,(fun b=>decide (b<W.heap.size)) p.block=true:=fun p R=>by simpa using hW.lt p R
 have V:∀(b:Nat) (Z:Nat→Bool) (F:Bool),DataW.TrodAll enc Tryz.prog I b Z F f.resultTypes.toList ((Value.bool true).resultList f.resultTypes.size) (s.fn H (ds++[])).results []:=by intro b Z F;rw[List.append_nil,hs,hrt];exact trodAll_mk1 (shut_bool Tryz.underlying4 _)
 have S :∀Z:Nat→Bool,(∀x∈A,Z x.block=true)→DataW.TrodAll enc Tryz.prog I 0 Z true f.params.toList args.toList (s.fn H (ds++[])).args p:=by intro Z h;rw[List.append_nil,hs];exact K Z h
 have O:∀Z:Nat→Bool,DataW.TrodVars enc Tryz.prog I Z s.vars (s.fn H (ds++[])).vars []:=by intro Z;rw[List.append_nil,hs,hsv];exact rfl
 refine⟨ds,[],A,[],p,[],hW,V _ _ _,S _ J,O _,World.keptBut_mono (fun q hq=>⟨hq,?_⟩) (hb.frame _),fun _=>?_⟩
 ·rw[R] at hq
  exact Or.inr (Or.inl hq)
 ·have D:=hW.lt
  obtain⟨_,_,_,_,_,C,B⟩:=hW;refine⟨ok_one hrt rfl (okWide_bool_mk Tryz.underlying4 _),_,_,([]++p)++[],⟨[]++p,[],trodAll_append (S _ (fun _ _=>rfl)) (V _ _ _),O _,rfl,?_,?_⟩,?_⟩
  ·intro b X hq
   have M :MemPlace.cell b X∈A:=by rw[R];simpa using hq
   rw[hb.frozen (p:=⟨b,X,none⟩) (D _ M)];exact C b X M
  ·intro z
   have:=B z;rw[R] at this;simpa using this
  ·intro q hq _
   rw[R];simpa using hq
end Go.Proofs.YtgafjliihahjgaaGreatDoor
namespace Go.Proofs.YtgafjliihahjgaaGreatDoor
open Go.ChangeShapes Go.WideShapes Go.ChangeAt Go.WideMaps Go.WideElems Go.RowKit Go.Eng
theorem UP(es:Nat)(cs:List AV):∀b,¬eh [.cells false es cs] b:=by
 rintro b ⟨s,hs,ho⟩;cases b with
 |succ b=>simp at hs
 |zero=>simp at hs;subst hs;cases ho
theorem sP:joinedFacts Tryz.prog 6 Tryz.f6 Rows.historyFollowsSpec Rows.historyFollowsRow=true:=by
 unfold joinedFacts;simp only[Bool.and_eq_true]
 repeat' apply And.intro
 all_goals (as_aux_lemma=>kernel_rfl)
end Go.Proofs.YtgafjliihahjgaaGreatDoor
