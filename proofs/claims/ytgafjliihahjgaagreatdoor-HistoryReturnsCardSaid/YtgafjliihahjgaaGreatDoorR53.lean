/- See R54. -/
import Derived.Test.YtgafjliihahjgaaGreatDoorR16
import Derived.Test.YtgafjliihahjgaaGreatDoorRows
import Derived.Test.YtgafjliihahjgaaGreatDoorTie
import Derived.Test.YtgafjliihahjgaaGreatDoorCards
import Derived.ProofKit
import Derived.LaidMore
import Derived.OpenShut
import Derived.ChangeSame
import Derived.ChangeVars
import Derived.JoinedOf
import Derived.RowKit
import Derived.LaidLaws
import Derived.LaidHandle
import Derived.MakeChecks
import Derived.Deep.SlicePairs
import Derived.Carry
import Derived.Stop.Joined
import Derived.SevenTiedAt
set_option linter.all false
set_option maxRecDepth 100000
set_option maxHeartbeats 40000000
namespace Go.Proofs.YtgafjliihahjgaaGreatDoor
open Go.ChangeShapes Go.WideShapes Go.ChangeAt Go.WideMaps Go.WideElems Go.RowKit Go.Eng
theorem own:ownKnob Tryz.prog.godebug=none:=by kernel_rfl
theorem Sp:laidOutB Tryz.prog=true:=by kernel_rfl
def oa:List (String×DataW Unit):=Rows.historyMovesRow.laid
theorem Ut(os:Os)(args:Array Value):laidMetH Tryz.prog oa ((World.doorLaid Tryz.prog 400 os).forCall (fun _ _=>0) ⟨#[],args,[]⟩).memory:=
 laidMetH_of_parts3 (fuel:=8) (laidMet_of_run' 8 (by kernel_rfl) (by kernel_rfl)) (by kernel_rfl) (by kernel_rfl)
theorem U9:wH=(oa.getD 2 ("",.nil)).1:=by kernel_rfl
end Go.Proofs.YtgafjliihahjgaaGreatDoor
namespace Go.Proofs.YtgafjliihahjgaaGreatDoor
open Go.ChangeShapes Go.WideShapes Go.ChangeAt Go.WideMaps Go.WideElems Go.RowKit Go.Eng
variable{W:World}
theorem J5(h:laidMetH Tryz.prog oa W):GOk Tryz.prog W.heap.size W:=by
 rw[MakeChecks.laidMetH_plain _ _ _ (by kernel_rfl)] at h;obtain⟨ps,⟨g0,t0,cs0,f0,p0,q0,hg0,ht0,ZJ,hd0,⟨g1,t1,cs1,f1,p1,q1,hg1,ht1,hv1,hd1,⟨g2,t2,cs2,f2,p2,q2,Yg,ht2,hv2,hd2,_,_⟩,_⟩,_⟩,_,_⟩:=h;constructor
 ·have e1:Tryz.prog.globals.size=6:=by kernel_rfl
  have e2:Tryz.prog.globalNamed (oa.getD 1 ("",.nil)).1=some 5:=by kernel_rfl
  have e3:g1=5:=(Option.some.inj (hg1.symm.trans e2));subst e3;have:=World.var?_cell hg1 hv1;unfold World.var? at hv1;rw[hg1] at hv1;simp only[Option.bind_some] at hv1;split at hv1
  ·rename_i hh
   have:=(Array.getElem?_eq_some_iff.1 hh).1;omega
  ·cases hv1
 ·have e2:Tryz.prog.globalNamed (oa.getD 2 ("",.nil)).1=some 3:=by kernel_rfl
  have e3:g2=3:=(Option.some.inj (Yg.symm.trans e2));subst e3;have e4:(Tryz.prog.globals[3]?).map (·.type)=some 354:=by kernel_rfl
  have e5:t2=354:=(Option.some.inj (ht2.symm.trans e4));subst e5;have e6:Tryz.prog.underlying 354=some (.array 20 280):=by kernel_rfl
  have e7:Tryz.prog.underlying 280=some (.int .u64):=by kernel_rfl
  have hc:=Lib.cells_of_tab (k:=.u64) (zs:=Lib.pow10Tab) e6 e7 (by kernel_rfl) (by kernel_rfl) hd2;have e8:W.var? Tryz.prog wH=W.var? Tryz.prog (oa.getD 2 ("",.nil)).1:=by rw[U9]
  have e9:cs2=(Lib.pow10Tab.map fun z=>Value.int .u64 z).toArray:=by rw[←hc]
  unfold Lib.TabIs;rw[e8,←e9];exact hv2
theorem Sk{w w' :World}{mem' :Mem}{μ μ' :Nat→Eng.Place}{mem:Mem}{m0:Nat}(h:Step m0 μ mem w μ' mem' w')(hn:∀b,¬ei mem b):Below w.heap.size w w' :=
 ⟨h.os,h.tape,h.output,h.size,fun k hk=>h.frame k hk fun b hb=>absurd hb (hn b)⟩
theorem SS{H:Type}{enc:TypeId×Value→H}{f:Func}{s:ChangeSpec}{abr fresh aaN acq:Bool}{W' :World}{args:Array Value}{ds gs:List (DataW H)}{Yr p:List MemPlace}(hsv:s.vars=[])(hW:DataW.Whole enc Tryz.prog f.params.toList s.vars abr W args.toList ds gs Yr)(hb:Below W.heap.size W W')(hp:Yr=p)(hg:gs=[])(hrt:f.resultTypes= #[4])(hs:s.fn H ds={ results:=[.lit (.bool true)],args:=ds })(Zi:∀sp:Nat→Bool,(∀x∈Yr,sp x.block=true)→DataW.TrodAll enc Tryz.prog W' 0 sp true f.params.toList args.toList ds p):
  s.post enc Tryz.prog f abr fresh aaN acq W args (.bool true) W' :=by
 subst hg;have Yp:∀p∈Yr,(fun b=>decide (b<W.heap.size)) p.block=true:=fun p hp=>by simpa using hW.lt p hp
 have aa5:∀(b:Nat) (sp:Nat→Bool) (hd:Bool),DataW.TrodAll enc Tryz.prog W' b sp hd f.resultTypes.toList ((Value.bool true).resultList f.resultTypes.size) (s.fn H (ds++[])).results []:=by intro b sp hd;rw[List.append_nil,hs,hrt];exact trodAll_mk1 (shut_bool Tryz.underlying4 _)
 have aaz :∀sp:Nat→Bool,(∀x∈Yr,sp x.block=true)→DataW.TrodAll enc Tryz.prog W' 0 sp true f.params.toList args.toList (s.fn H (ds++[])).args p:=by intro sp h;rw[List.append_nil,hs];exact Zi sp h
 have abt:∀sp:Nat→Bool,DataW.TrodVars enc Tryz.prog W' sp s.vars (s.fn H (ds++[])).vars []:=by intro sp;rw[List.append_nil,hs,hsv];exact rfl
 refine⟨ds,[],Yr,[],p,[],hW,aa5 _ _ _,aaz _ Yp,abt _,World.keptBut_mono (fun q hq=>⟨hq,?_⟩) (hb.frame _),fun _=>?_⟩
 ·rw[hp] at hq
  exact Or.inr (Or.inl hq)
 ·have A':=hW.lt
  obtain⟨_,_,_,_,_,hz,hn⟩:=hW;refine⟨ok_one hrt rfl (okWide_bool_mk Tryz.underlying4 _),_,_,([]++p)++[],⟨[]++p,[],trodAll_append (aaz _ (fun _ _=>rfl)) (aa5 _ _ _),abt _,rfl,?_,?_⟩,?_⟩
  ·intro b off hq
   have Zh :MemPlace.cell b off∈Yr:=by rw[hp];simpa using hq
   rw[hb.frozen (p:=⟨b,off,none⟩) (A' _ Zh)];exact hz b off Zh
  ·intro ha
   have:=hn ha;rw[hp] at this;simpa using this
  ·intro q hq _
   rw[hp];simpa using hq
end Go.Proofs.YtgafjliihahjgaaGreatDoor
namespace Go.Proofs.YtgafjliihahjgaaGreatDoor
open Go.ChangeShapes Go.WideShapes Go.ChangeAt Go.WideMaps Go.WideElems Go.RowKit Go.Eng
theorem SF(es:Nat)(cs:List AV):∀b,¬ei [.cells false es cs] b:=by
 rintro b ⟨s,hs,ho⟩;cases b with
 |succ b=>simp at hs
 |zero=>simp at hs;subst hs;cases ho
end Go.Proofs.YtgafjliihahjgaaGreatDoor
namespace Go.Proofs.YtgafjliihahjgaaGreatDoor
open Go.ChangeShapes Go.WideShapes Go.ChangeAt Go.WideMaps Go.WideElems Go.RowKit Go.Eng
theorem rM:joinedFacts Tryz.prog 4 Tryz.f4 Rows.historyReturnsSpec Rows.historyReturnsRow=true:=by
 unfold joinedFacts;simp only[Bool.and_eq_true]
 repeat' apply And.intro
 all_goals (as_aux_lemma=>kernel_rfl)
end Go.Proofs.YtgafjliihahjgaaGreatDoor
