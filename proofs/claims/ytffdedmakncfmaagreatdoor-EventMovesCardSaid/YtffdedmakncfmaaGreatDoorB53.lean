/- See B54. -/
import Derived.Test.YtffdedmakncfmaaGreatDoorB13
import Derived.Test.YtffdedmakncfmaaGreatDoorRows
import Derived.Test.YtffdedmakncfmaaGreatDoorTie
import Derived.Test.YtffdedmakncfmaaGreatDoorCards
import Derived.ProofKit
import Derived.LaidMore
import Derived.OpenShut
import Derived.ChangeSame
import Derived.ChangeVars
import Derived.JoinedOf
import Derived.RowKit
import Derived.LaidLaws
import Derived.LaidHandle
import Derived.MakeChecks
import Derived.Deep.SlicePairs
import Derived.Carry
import Derived.Stop.Joined
import Derived.SevenTiedAt
set_option linter.all false
set_option maxRecDepth 100000
set_option maxHeartbeats 40000000
namespace Go.Proofs.YtffdedmakncfmaaGreatDoor
open Go.ChangeShapes Go.WideShapes Go.ChangeAt Go.WideMaps Go.WideElems Go.RowKit Go.Eng
theorem own:ownKnob Tryz.prog.godebug=none:=by kernel_rfl
theorem NY:laidOutB Tryz.prog=true:=by kernel_rfl
def ph:List (String×DataW Unit):=Rows.eventUnknownRow.laid
theorem UZ(os:Os)(args:Array Value):laidMetH Tryz.prog ph ((World.doorLaid Tryz.prog 400 os).forCall (fun _ _=>0) ⟨#[],args,[]⟩).memory:=
 laidMetH_of_parts3 (fuel:=8) (laidMet_of_run' 8 (by kernel_rfl) (by kernel_rfl)) (by kernel_rfl) (by kernel_rfl)
theorem Vx:xX=(ph.getD 2 ("",.nil)).1:=by kernel_rfl
variable{W:World}
theorem KZ(h:laidMetH Tryz.prog ph W):GOk Tryz.prog W.heap.size W:=by
 rw[MakeChecks.laidMetH_plain _ _ _ (by kernel_rfl)] at h;obtain⟨y,⟨g0,t0,N,f0,p0,q0,M,L,Z7,Zx,⟨K,t1,G,f1,p1,q1,X,F,Z,D,⟨C,t2,V,f2,p2,q2,B,U,S,R,_,_⟩,_⟩,_⟩,_,_⟩:=h;constructor
 ·have e1:Tryz.prog.globals.size=6:=by kernel_rfl
  have Q:Tryz.prog.globalNamed (ph.getD 1 ("",.nil)).1=some 5:=by kernel_rfl
  have O:K=5:=(Option.some.inj (X.symm.trans Q));subst O;have:=World.var?_cell X Z;unfold World.var? at Z;rw[X] at Z;simp only[Option.bind_some] at Z;split at Z
  ·rename_i u
   have:=(Array.getElem?_eq_some_iff.1 u).1;omega
  ·cases Z
 ·have Q:Tryz.prog.globalNamed (ph.getD 2 ("",.nil)).1=some 3:=by kernel_rfl
  have O:C=3:=(Option.some.inj (B.symm.trans Q));subst O;have o:(Tryz.prog.globals[3]?).map (·.type)=some 330:=by kernel_rfl
  have m:t2=330:=(Option.some.inj (U.symm.trans o));subst m;have j:Tryz.prog.underlying 330=some (.array 20 246):=by kernel_rfl
  have Y:Tryz.prog.underlying 246=some (.int .u64):=by kernel_rfl
  have J:=Lib.cells_of_tab (k:=.u64) (zs:=Lib.pow10Tab) j Y (by kernel_rfl) (by kernel_rfl) R;have I:W.var? Tryz.prog xX=W.var? Tryz.prog (ph.getD 2 ("",.nil)).1:=by rw[Vx]
  have H:V=(Lib.pow10Tab.map fun z=>Value.int .u64 z).toArray:=by rw[←J]
  unfold Lib.TabIs;rw[I,←H];exact S
theorem Wj{w w' :World}{y :Mem}{μ μ' :Nat→Eng.Place}{mem:Mem}{m0:Nat}(h:Step m0 μ mem w μ' y w')(H:∀b,¬ek mem b):Below w.heap.size w w' :=
 ⟨h.os,h.tape,h.output,h.size,fun k Z=>h.frame k Z fun b X=>absurd X (H b)⟩
theorem Ts{H:Type}{enc:TypeId×Value→H}{f:Func}{s:ChangeSpec}{abO I aa9 acM:Bool}{Y :World}{args:Array Value}{y gs:List (DataW H)}{J p:List MemPlace}(hsv:s.vars=[])(hW:DataW.Whole enc Tryz.prog f.params.toList s.vars abO W args.toList y gs J)(hb:Below W.heap.size W Y)(hp:J=p)(hg:gs=[])(hrt:f.resultTypes= #[4])(hs:s.fn H y={ results:=[.lit (.bool true)],args:=y })(N:∀Z:Nat→Bool,(∀x∈J,Z x.block=true)→DataW.TrodAll enc Tryz.prog Y 0 Z true f.params.toList args.toList y p):
  s.post enc Tryz.prog f abO I aa9 acM W args (.bool true) Y :=by
 subst hg;have M:∀p∈J,(fun b=>decide (b<W.heap.size)) p.block=true:=fun p hp=>by simpa using hW.lt p hp
 have Q:∀(b:Nat) (Z:Nat→Bool) (O:Bool),DataW.TrodAll enc Tryz.prog Y b Z O f.resultTypes.toList ((Value.bool true).resultList f.resultTypes.size) (s.fn H (y++[])).results []:=by intro b Z O;rw[List.append_nil,hs,hrt];exact trodAll_mk1 (shut_bool Tryz.underlying4 _)
 have U :∀Z:Nat→Bool,(∀x∈J,Z x.block=true)→DataW.TrodAll enc Tryz.prog Y 0 Z true f.params.toList args.toList (s.fn H (y++[])).args p:=by intro Z h;rw[List.append_nil,hs];exact N Z h
 have S:∀Z:Nat→Bool,DataW.TrodVars enc Tryz.prog Y Z s.vars (s.fn H (y++[])).vars []:=by intro Z;rw[List.append_nil,hs,hsv];exact rfl
 refine⟨y,[],J,[],p,[],hW,Q _ _ _,U _ M,S _,World.keptBut_mono (fun q X=>⟨X,?_⟩) (hb.frame _),fun _=>?_⟩
 ·rw[hp] at X
  exact Or.inr (Or.inl X)
 ·have L:=hW.lt
  obtain⟨_,_,_,_,_,K,G⟩:=hW;refine⟨ok_one hrt rfl (okWide_bool_mk Tryz.underlying4 _),_,_,([]++p)++[],⟨[]++p,[],trodAll_append (U _ (fun _ _=>rfl)) (Q _ _ _),S _,rfl,?_,?_⟩,?_⟩
  ·intro b V X
   have R :MemPlace.cell b V∈J:=by rw[hp];simpa using X
   rw[hb.frozen (p:=⟨b,V,none⟩) (L _ R)];exact K b V R
  ·intro F
   have:=G F;rw[hp] at this;simpa using this
  ·intro q X _
   rw[hp];simpa using X
end Go.Proofs.YtffdedmakncfmaaGreatDoor
namespace Go.Proofs.YtffdedmakncfmaaGreatDoor
open Go.ChangeShapes Go.WideShapes Go.ChangeAt Go.WideMaps Go.WideElems Go.RowKit Go.Eng
theorem Th:∀b,¬ek [] b:=by rintro b ⟨s,hs,_⟩;simp at hs
theorem QO(W:World):afj W.heap.size (fun _=>⟨0,0,0,0⟩) [] W:=⟨Nat.le_refl _,fun b s Z=>by simp at Z,fun b U S X=>by obtain⟨x,V,_⟩:=X;simp at V⟩
theorem Ag:joinedFacts Tryz.prog 3 Tryz.f3 Rows.eventMovesSpec Rows.eventMovesRow=true:=by
 unfold joinedFacts;simp only[Bool.and_eq_true]
 repeat' apply And.intro
 all_goals (as_aux_lemma=>kernel_rfl)
end Go.Proofs.YtffdedmakncfmaaGreatDoor
