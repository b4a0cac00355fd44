/- See K51. -/
import Derived.Test.YtffdedmakncfmaaGreatDoorK14
import Derived.Test.YtffdedmakncfmaaGreatDoorRows
import Derived.Test.YtffdedmakncfmaaGreatDoorTie
import Derived.Test.YtffdedmakncfmaaGreatDoorCards
import Derived.ProofKit
import Derived.LaidMore
import Derived.OpenShut
import Derived.ChangeSame
import Derived.ChangeVars
import Derived.JoinedOf
import Derived.RowKit
import Derived.LaidLaws
import Derived.LaidHandle
import Derived.MakeChecks
import Derived.Deep.SlicePairs
import Derived.Carry
import Derived.Stop.Joined
import Derived.SevenTiedAt
set_option linter.all false
namespace Go.Proofs.YtffdedmakncfmaaGreatDoor
open Go.ChangeShapes Go.WideShapes Go.ChangeAt Go.WideMaps Go.WideElems Go.RowKit Go.Eng
theorem own:ownKnob Tryz.prog.godebug=none:=by kernel_rfl
theorem Je:laidOutB Tryz.prog=true:=by kernel_rfl
def mu:List (String×DataW Unit):=Rows.eventUnknownRow.laid
theorem PJ(os:Os) (args:Array Value):laidMetH Tryz.prog mu ((World.doorLaid Tryz.prog 400 os).forCall (fun _ _=>0) ⟨#[],args,[]⟩).memory:=
 laidMetH_of_parts3 (fuel:=8) (laidMet_of_run' 8 (by kernel_rfl) (by kernel_rfl)) (by kernel_rfl) (by kernel_rfl)
theorem Ql:uQ=(mu.getD 2 ("",.nil)).1:=by kernel_rfl
end Go.Proofs.YtffdedmakncfmaaGreatDoor
namespace Go.Proofs.YtffdedmakncfmaaGreatDoor
open Go.ChangeShapes Go.WideShapes Go.ChangeAt Go.WideMaps Go.WideElems Go.RowKit Go.Eng
theorem GV{W:World}(h:laidMetH Tryz.prog mu W):GOk Tryz.prog W.heap.size W:=by
 rw[MakeChecks.laidMetH_plain _ _ _ (by kernel_rfl)] at h
 obtain⟨ps,⟨g0,t0,cs0,f0,p0,q0,hg0,ht0,hv0,hd0,⟨g1,t1,cs1,f1,p1,q1,hg1,ht1,hv1,hd1,⟨g2,t2,cs2,f2,p2,q2,hg2,ht2,hv2,hd2,_,_⟩,_⟩,_⟩,_,_⟩:=h
 constructor
 ·have e1:Tryz.prog.globals.size=6:=by kernel_rfl
  have e2:Tryz.prog.globalNamed (mu.getD 1 ("",.nil)).1=some 5:=by kernel_rfl
  have e3:g1=5:=(Option.some.inj (hg1.symm.trans e2))
  subst e3
  have:=World.var?_cell hg1 hv1
  unfold World.var? at hv1
  rw[hg1] at hv1
  simp only[Option.bind_some] at hv1
  split at hv1
  ·rename_i hh
   have:=(Array.getElem?_eq_some_iff.1 hh).1
   omega
  ·cases hv1
 ·have e2:Tryz.prog.globalNamed (mu.getD 2 ("",.nil)).1=some 3:=by kernel_rfl
  have e3:g2=3:=(Option.some.inj (hg2.symm.trans e2))
  subst e3
  have e4:(Tryz.prog.globals[3]?).map (·.type)=some 330:=by kernel_rfl
  have e5:t2=330:=(Option.some.inj (ht2.symm.trans e4))
  subst e5
  have e6:Tryz.prog.underlying 330=some (.array 20 246):=by kernel_rfl
  have e7:Tryz.prog.underlying 246=some (.int .u64):=by kernel_rfl
  have hc:=Lib.cells_of_tab (k:=.u64) (zs:=Lib.pow10Tab) e6 e7 (by kernel_rfl) (by kernel_rfl) hd2
  have e8:W.var? Tryz.prog uQ=W.var? Tryz.prog (mu.getD 2 ("",.nil)).1:=by rw[Ql]
  have e9:cs2=(Lib.pow10Tab.map fun z=>Value.int .u64 z).toArray:=by rw[←hc]
  unfold Lib.TabIs
  rw[e8,←e9]
  exact hv2
theorem Q1{w w' :World}{mem' :Mem}{μ μ' :Nat→Eng.Place}{mem:Mem}{m0:Nat}(h:Step m0 μ mem w μ' mem' w') (hn:∀b,¬dn mem b):Below w.heap.size w w' :=
 ⟨h.os,h.tape,h.output,h.size,fun k hk=>h.frame k hk fun b hb=>absurd hb (hn b)⟩
set_option maxRecDepth 100000 in
theorem Og{H:Type}{enc:TypeId×Value→H}{f:Func}{s:ChangeSpec}{apart fresh handsOn again:Bool}{W W' :World}{args:Array Value}{ds gs:List (DataW H)}{before p:List MemPlace}(hsv:s.vars=[])
  (hW:DataW.Whole enc Tryz.prog f.params.toList s.vars apart W args.toList ds gs before) (hb:Below W.heap.size W W') (hp:before=p) (hg:gs=[])
  (hrt:f.resultTypes= #[4]) (hs:s.fn H ds={ results:=[.lit (.bool true)],args:=ds })
  (hargs:∀sp:Nat→Bool,(∀x∈before,sp x.block=true)→DataW.TrodAll enc Tryz.prog W' 0 sp true f.params.toList args.toList ds p):
  s.post enc Tryz.prog f apart fresh handsOn again W args (.bool true) W' :=by
 subst hg
 have hold:∀p∈before,(fun b=>decide (b<W.heap.size)) p.block=true:=fun p hp=>by simpa using hW.lt p hp
 have hres:∀(b:Nat) (sp:Nat→Bool) (hd:Bool),DataW.TrodAll enc Tryz.prog W' b sp hd f.resultTypes.toList ((Value.bool true).resultList f.resultTypes.size) (s.fn H (ds++[])).results []:=by
  intro b sp hd
  rw[List.append_nil,hs,hrt]
  exact trodAll_mk1 (shut_bool Tryz.underlying4 _)
 have hargs' :∀sp:Nat→Bool,(∀x∈before,sp x.block=true)→DataW.TrodAll enc Tryz.prog W' 0 sp true f.params.toList args.toList (s.fn H (ds++[])).args p:=by
  intro sp h
  rw[List.append_nil,hs]
  exact hargs sp h
 have hvars:∀sp:Nat→Bool,DataW.TrodVars enc Tryz.prog W' sp s.vars (s.fn H (ds++[])).vars []:=by
  intro sp
  rw[List.append_nil,hs,hsv]
  exact rfl
 refine⟨ds,[],before,[],p,[],hW,hres _ _ _,hargs' _ hold,hvars _,World.keptBut_mono (fun q hq=>⟨hq,?_⟩) (hb.frame _),fun _=>?_⟩
 ·rw[hp] at hq
  exact Or.inr (Or.inl hq)
 ·have hlt:=hW.lt
  obtain⟨_,_,_,_,_,hz,hn⟩:=hW
  refine⟨ok_one hrt rfl (okWide_bool_mk Tryz.underlying4 _),_,_,([]++p)++[],⟨[]++p,[],trodAll_append (hargs' _ (fun _ _=>rfl)) (hres _ _ _),hvars _,rfl,?_,?_⟩,?_⟩
  ·intro b off hq
   have hq' :MemPlace.cell b off∈before:=by rw[hp];simpa using hq
   rw[hb.frozen (p:=⟨b,off,none⟩) (hlt _ hq')]
   exact hz b off hq'
  ·intro ha
   have:=hn ha
   rw[hp] at this
   simpa using this
  ·intro q hq _
   rw[hp]
   simpa using hq
end Go.Proofs.YtffdedmakncfmaaGreatDoor
namespace Go.Proofs.YtffdedmakncfmaaGreatDoor
open Go.ChangeShapes Go.WideShapes Go.ChangeAt Go.WideMaps Go.WideElems Go.RowKit Go.Eng
theorem N7:∀b,¬dn [] b:=by
 rintro b ⟨s,hs,_⟩;simp at hs
theorem L4(W:World):HRel W.heap.size (fun _=>⟨0,0,0,0⟩) [] W:=⟨Nat.le_refl _,fun b s hs=>by simp at hs,fun b b' s' hb=>by obtain⟨x,hx,_⟩:=hb;simp at hx⟩
end Go.Proofs.YtffdedmakncfmaaGreatDoor
namespace Go.Proofs.YtffdedmakncfmaaGreatDoor
open Go.ChangeShapes Go.WideShapes Go.ChangeAt Go.WideMaps Go.WideElems Go.RowKit Go.Eng
set_option maxHeartbeats 40000000 in
set_option maxRecDepth 100000 in
theorem sQ:joinedFacts Tryz.prog 4 Tryz.f4 Rows.eventUnknownSpec Rows.eventUnknownRow=true:=by
 unfold joinedFacts
 simp only[Bool.and_eq_true]
 repeat' apply And.intro
 all_goals (as_aux_lemma=>kernel_rfl)
end Go.Proofs.YtffdedmakncfmaaGreatDoor
