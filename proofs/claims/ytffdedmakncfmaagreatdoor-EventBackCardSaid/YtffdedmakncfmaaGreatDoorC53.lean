/- See C54. -/
import Derived.Test.YtffdedmakncfmaaGreatDoorC13
import Derived.Test.YtffdedmakncfmaaGreatDoorRows
import Derived.Test.YtffdedmakncfmaaGreatDoorTie
import Derived.Test.YtffdedmakncfmaaGreatDoorCards
import Derived.ProofKit
import Derived.LaidMore
import Derived.OpenShut
import Derived.ChangeSame
import Derived.ChangeVars
import Derived.JoinedOf
import Derived.RowKit
import Derived.LaidLaws
import Derived.LaidHandle
import Derived.MakeChecks
import Derived.Deep.SlicePairs
import Derived.Carry
import Derived.Stop.Joined
import Derived.SevenTiedAt
set_option linter.all false
set_option maxRecDepth 100000
set_option maxHeartbeats 40000000
namespace Go.Proofs.YtffdedmakncfmaaGreatDoor
open Go.ChangeShapes Go.WideShapes Go.ChangeAt Go.WideMaps Go.WideElems Go.RowKit Go.Eng
theorem own:ownKnob Tryz.prog.godebug=none:=by kernel_rfl
theorem Pc:laidOutB Tryz.prog=true:=by kernel_rfl
def qt:List (String×DataW Unit):=Rows.eventUnknownRow.laid
theorem WD(os:Os)(args:Array Value):laidMetH Tryz.prog qt ((World.doorLaid Tryz.prog 400 os).forCall (fun _ _=>0) ⟨#[],args,[]⟩).memory:=
 laidMetH_of_parts3 (fuel:=8) (laidMet_of_run' 8 (by kernel_rfl) (by kernel_rfl)) (by kernel_rfl) (by kernel_rfl)
theorem Xb:yU=(qt.getD 2 ("",.nil)).1:=by kernel_rfl
variable{W:World}
theorem Mc(h:laidMetH Tryz.prog qt W):GOk Tryz.prog W.heap.size W:=by
 rw[MakeChecks.laidMetH_plain _ _ _ (by kernel_rfl)] at h;obtain⟨ps,⟨g0,t0,M,f0,p0,q0,L,K,G,F,⟨D,t1,C,f1,p1,q1,X,B,Z,u,⟨o,t2,V,f2,p2,q2,U,S,R,Q,_,_⟩,_⟩,_⟩,_,_⟩:=h;constructor
 ·have e1:Tryz.prog.globals.size=6:=by kernel_rfl
  have O:Tryz.prog.globalNamed (qt.getD 1 ("",.nil)).1=some 5:=by kernel_rfl
  have N:D=5:=(Option.some.inj (X.symm.trans O));subst N;have:=World.var?_cell X Z;unfold World.var? at Z;rw[X] at Z;simp only[Option.bind_some] at Z;split at Z
  ·rename_i m
   have:=(Array.getElem?_eq_some_iff.1 m).1;omega
  ·cases Z
 ·have O:Tryz.prog.globalNamed (qt.getD 2 ("",.nil)).1=some 3:=by kernel_rfl
  have N:o=3:=(Option.some.inj (U.symm.trans O));subst N;have j:(Tryz.prog.globals[3]?).map (·.type)=some 330:=by kernel_rfl
  have Y:t2=330:=(Option.some.inj (S.symm.trans j));subst Y;have J:Tryz.prog.underlying 330=some (.array 20 246):=by kernel_rfl
  have I:Tryz.prog.underlying 246=some (.int .u64):=by kernel_rfl
  have H:=Lib.cells_of_tab (k:=.u64) (zs:=Lib.pow10Tab) J I (by kernel_rfl) (by kernel_rfl) Q;have y:W.var? Tryz.prog yU=W.var? Tryz.prog (qt.getD 2 ("",.nil)).1:=by rw[Xb]
  have e9:V=(Lib.pow10Tab.map fun z=>Value.int .u64 z).toArray:=by rw[←H]
  unfold Lib.TabIs;rw[y,←e9];exact R
theorem XZ{w w' :World}{y :Mem}{μ μ' :Nat→Eng.Place}{mem:Mem}{m0:Nat}(h:Step m0 μ mem w μ' y w')(H:∀b,¬ef mem b):Below w.heap.size w w' :=
 ⟨h.os,h.tape,h.output,h.size,fun k Z=>h.frame k Z fun b X=>absurd X (H b)⟩
theorem UQ{H:Type}{enc:TypeId×Value→H}{f:Func}{s:ChangeSpec}{acz J abU adx:Bool}{Y :World}{args:Array Value}{I gs:List (DataW H)}{y p:List MemPlace}(hsv:s.vars=[])(hW:DataW.Whole enc Tryz.prog f.params.toList s.vars acz W args.toList I gs y)(hb:Below W.heap.size W Y)(hp:y=p)(hg:gs=[])(hrt:f.resultTypes= #[4])(hs:s.fn H I={ results:=[.lit (.bool true)],args:=I })(O:∀Z:Nat→Bool,(∀x∈y,Z x.block=true)→DataW.TrodAll enc Tryz.prog Y 0 Z true f.params.toList args.toList I p):
  s.post enc Tryz.prog f acz J abU adx W args (.bool true) Y :=by
 subst hg;have N:∀p∈y,(fun b=>decide (b<W.heap.size)) p.block=true:=fun p hp=>by simpa using hW.lt p hp
 have U:∀(b:Nat) (Z:Nat→Bool) (M:Bool),DataW.TrodAll enc Tryz.prog Y b Z M f.resultTypes.toList ((Value.bool true).resultList f.resultTypes.size) (s.fn H (I++[])).results []:=by intro b Z M;rw[List.append_nil,hs,hrt];exact trodAll_mk1 (shut_bool Tryz.underlying4 _)
 have S :∀Z:Nat→Bool,(∀x∈y,Z x.block=true)→DataW.TrodAll enc Tryz.prog Y 0 Z true f.params.toList args.toList (s.fn H (I++[])).args p:=by intro Z h;rw[List.append_nil,hs];exact O Z h
 have R:∀Z:Nat→Bool,DataW.TrodVars enc Tryz.prog Y Z s.vars (s.fn H (I++[])).vars []:=by intro Z;rw[List.append_nil,hs,hsv];exact rfl
 refine⟨I,[],y,[],p,[],hW,U _ _ _,S _ N,R _,World.keptBut_mono (fun q X=>⟨X,?_⟩) (hb.frame _),fun _=>?_⟩
 ·rw[hp] at X
  exact Or.inr (Or.inl X)
 ·have L:=hW.lt
  obtain⟨_,_,_,_,_,K,G⟩:=hW;refine⟨ok_one hrt rfl (okWide_bool_mk Tryz.underlying4 _),_,_,([]++p)++[],⟨[]++p,[],trodAll_append (S _ (fun _ _=>rfl)) (U _ _ _),R _,rfl,?_,?_⟩,?_⟩
  ·intro b V X
   have Q :MemPlace.cell b V∈y:=by rw[hp];simpa using X
   rw[hb.frozen (p:=⟨b,V,none⟩) (L _ Q)];exact K b V Q
  ·intro F
   have:=G F;rw[hp] at this;simpa using this
  ·intro q X _
   rw[hp];simpa using X
end Go.Proofs.YtffdedmakncfmaaGreatDoor
namespace Go.Proofs.YtffdedmakncfmaaGreatDoor
open Go.ChangeShapes Go.WideShapes Go.ChangeAt Go.WideMaps Go.WideElems Go.RowKit Go.Eng
theorem UI:∀b,¬ef [] b:=by rintro b ⟨s,hs,_⟩;simp at hs
theorem Si(W:World):af3 W.heap.size (fun _=>⟨0,0,0,0⟩) [] W:=⟨Nat.le_refl _,fun b s Z=>by simp at Z,fun b U S X=>by obtain⟨x,V,_⟩:=X;simp at V⟩
theorem CW:joinedFacts Tryz.prog 5 Tryz.f5 Rows.eventBackSpec Rows.eventBackRow=true:=by
 unfold joinedFacts;simp only[Bool.and_eq_true]
 repeat' apply And.intro
 all_goals (as_aux_lemma=>kernel_rfl)
end Go.Proofs.YtffdedmakncfmaaGreatDoor
