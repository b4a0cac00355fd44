/- See P53. -/
import Derived.Test.YtmhkeaphiadacaaGreatDoorP43
import Derived.Test.YtmhkeaphiadacaaGreatDoorP44a
set_option linter.all false
namespace Go.Proofs
open Go.Eng
open Tryz
theorem O5:mB prog 106 [.agg [.slice 0 0 (cD 0).length none,.slice 1 0 ((aI 0).drop 1).length none]] [.qF,.cells false 3 (tC ((aI 0).drop 1))] (.tuple [.map 2,.bool true]) ([.qF,.cells false 3 (tC ((aI 0).drop 1))]++[.map ((zd ((aI 0).drop 1) 0).map sdE)]):=
 bU (lv:=ab) (K:=60) (n:=10) af (aw _) (ax _) (ah _) (by as_aux_lemma=>kernel_rfl)
theorem O6:mB prog 106 [.agg [.slice 0 0 (cD 1).length none,.slice 1 0 ((aI 1).drop 1).length none]] [.qF,.cells false 3 (tC ((aI 1).drop 1))] (.tuple [.map 2,.bool true]) ([.qF,.cells false 3 (tC ((aI 1).drop 1))]++[.map ((zd ((aI 1).drop 1) 0).map sdE)]):=
 bU (lv:=ab) (K:=60) (n:=10) af (aw _) (ax _) (ah _) (by as_aux_lemma=>kernel_rfl)
theorem O7:mB prog 106 [.agg [.slice 0 0 (cD 2).length none,.slice 1 0 ((aI 2).drop 1).length none]] [.qF,.cells false 3 (tC ((aI 2).drop 1))] (.tuple [.map 2,.bool true]) ([.qF,.cells false 3 (tC ((aI 2).drop 1))]++[.map ((zd ((aI 2).drop 1) 0).map sdE)]):=
 bU (lv:=ab) (K:=60) (n:=10) af (aw _) (ax _) (ah _) (by as_aux_lemma=>kernel_rfl)
theorem O8:mB prog 106 [.agg [.slice 0 0 (cD 4).length none,.slice 1 0 ((aI 4).drop 1).length none]] [.qF,.cells false 3 (tC ((aI 4).drop 1))] (.tuple [.map 2,.bool true]) ([.qF,.cells false 3 (tC ((aI 4).drop 1))]++[.map ((zd ((aI 4).drop 1) 0).map sdE)]):=
 bU (lv:=ab) (K:=60) (n:=10) af (aw _) (ax _) (ah _) (by as_aux_lemma=>kernel_rfl)
theorem O9:mB prog 106 [.agg [.slice 0 0 (cD 5).length none,.slice 1 0 ((aI 5).drop 1).length none]] [.qF,.cells false 3 (tC ((aI 5).drop 1))] (.tuple [.map 2,.bool true]) ([.qF,.cells false 3 (tC ((aI 5).drop 1))]++[.map ((zd ((aI 5).drop 1) 0).map sdE)]):=
 bU (lv:=ab) (K:=60) (n:=10) af (aw _) (ax _) (ah _) (by as_aux_lemma=>kernel_rfl)
theorem Pa:mB prog 106 [.agg [.slice 0 0 (cD 6).length none,.slice 1 0 ((aI 6).drop 1).length none]] [.qF,.cells false 3 (tC ((aI 6).drop 1))] (.tuple [.map 2,.bool true]) ([.qF,.cells false 3 (tC ((aI 6).drop 1))]++[.map ((zd ((aI 6).drop 1) 0).map sdE)]):=
 bU (lv:=ab) (K:=60) (n:=10) af (aw _) (ax _) (ah _) (by as_aux_lemma=>kernel_rfl)
theorem Pb:mB prog 106 [.agg [.slice 0 0 (cD 7).length none,.slice 1 0 ((aI 7).drop 1).length none]] [.qF,.cells false 3 (tC ((aI 7).drop 1))] (.tuple [.map 2,.bool true]) ([.qF,.cells false 3 (tC ((aI 7).drop 1))]++[.map ((zd ((aI 7).drop 1) 0).map sdE)]):=
 bU (lv:=ab) (K:=60) (n:=10) af (aw _) (ax _) (ah _) (by as_aux_lemma=>kernel_rfl)
theorem EW(k:Nat)(hk:k<8)(h3:k≠3):mB prog 106 [.agg [.slice 0 0 (cD k).length none,.slice 1 0 ((aI k).drop 1).length none]] [.qF,.cells false 3 (tC ((aI k).drop 1))] (.tuple [.map 2,.bool true]) ([.qF,.cells false 3 (tC ((aI k).drop 1))]++[.map ((zd ((aI k).drop 1) 0).map sdE)]):=by
 have ZW:k=0∨k=1∨k=2∨k=4∨k=5∨k=6∨k=7:=by omega
 rcases ZW with rfl | rfl | rfl | rfl | rfl | rfl | rfl
 ·exact O5
 ·exact O6
 ·exact O7
 ·exact O8
 ·exact O9
 ·exact Pa
 ·exact Pb
theorem PK(k:Nat)(hk:k<8)(h3:k≠3):(aI k).drop 1≠[]∧((aI k).drop 1).length≤4∧(k=4→K5 (zd ((aI k).drop 1) 0)=true)∧(k≠4→oH (zd ((aI k).drop 1) 0)=true∧tW (pn (zd ((aI k).drop 1) 0))=some ((Bw k).map fun(n:Nat)=>(n:Int))∧Bw k≠[]∧(∀c∈Bw k,c<(cD k).length)∧((zf ((aI k).drop 1)).length≠(cD k).length∨k=2∨k=7)):=by
 have ZW:k=0∨k=1∨k=2∨k=4∨k=5∨k=6∨k=7:=by omega
 rcases ZW with rfl | rfl | rfl | rfl | rfl | rfl | rfl<;>decide
theorem JH(s:aaf)(h3:s.kind%8≠3):ac8 s.P (s.T.drop 1) (zd (s.T.drop 1) 0) (Bw (s.kind%8)) (decide (s.kind%8=4)):=by
 have hk:s.kind%8<8:=Nat.mod_lt _ (by omega);have W:=pc s;obtain⟨t1,t2⟩:=Qm s h3;obtain⟨f1,f2,f3,f4⟩:=PK (s.kind%8) hk h3;have A':=aaf.abk s;refine⟨W.dg,W.nodup,?_,fun t ht=>W.tr t (List.mem_of_mem_drop ht),W.len,f1,by show((aI _).drop 1).length≤800;omega,fun h=>f3 (by simpa using h),fun h=>?_,t1⟩
 ·unfold om
  rw[A'];exact EW (s.kind%8) hk h3
 ·obtain⟨g1,g2,g3,g4,g5⟩:=f4 (by simpa using h)
  refine⟨g1,g2,g3,by rw[A'];exact g4,?_⟩;rcases g5 with g5 | g5
  ·left;rw[A'];exact g5
  ·right
   unfold Wg at t2;rw[if_pos g5] at t2;unfold V6;exact of_decide_eq_true t2
theorem DX(s:aaf)(h3:s.kind%8≠3){M:Mem}{p t:Nat}(hp:∃o,M[p]? =some (.cells o 2 (pC s.P)))(ht:∃o,M[t]? =some (.cells o 3 (tC s.T))):
  mB prog 41 [.agg [.slice p 0 s.P.length none,.slice t 3 (s.T.length-1) none]] M (.int .i64 25) M:=by
 obtain⟨o,hp⟩:=hp;obtain⟨o',ht⟩:=ht;have h:=D1 (JH s h3);have e:(tC s.T).drop 3=tC (s.T.drop 1):=Nu s.T 1;have:=mB.acG (n:=s.P.length) (k:=(s.T.drop 1).length) hp ht e (bV _) (dp _) rfl h
 rwa [List.length_drop] at this
end Go.Proofs
