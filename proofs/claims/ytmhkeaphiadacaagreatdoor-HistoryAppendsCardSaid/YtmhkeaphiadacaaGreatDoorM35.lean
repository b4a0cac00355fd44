/- See M58. -/
import Derived.Test.YtmhkeaphiadacaaGreatDoorM33
import Derived.Test.YtmhkeaphiadacaaGreatDoorM08
import Derived.KernelRfl
set_option linter.all false
namespace Go.Proofs
open Go.Eng
def gr(PS:List P2) (TS:List Tr) (cyc:List Nat):Bool:=
 decide PS.Nodup&&(PS.all fun p=>decide (p.1.num.natAbs<100)&&decide (p.1.den<10)&&decide (p.2.num.natAbs<100)&&decide (p.2.den<10))&&
  (TS.all fun t=>match PS[t.1]?,PS[t.2.1]?,PS[t.2.2]? with
   |some p,some q,some r=>decide (0<Hm (vc p q r))
   |_,_,_=>false)&&
  ((List.range cyc.length).all fun i=>decide (0≤Hm (vc (wU PS cyc i) (wU PS cyc (i+1)) (wU PS cyc (i+2)))))&&decide (jg PS cyc cyc.length=1)
def Oi(k:Nat) (u v:Int) (h:Bool):List P2:=
 (cN k).map fun p=>(mkRat (p.1+u*(1:Nat)) ((if h then 2 else 1)*1),mkRat (p.2+v*(1:Nat)) ((if h then 2 else 1)*1))
theorem Qa:((List.range 15).all fun a=>(List.range 15).all fun b=>[false,true].all fun h=>gr (Oi 0 ((a:Int)-7) ((b:Int)-7) h) (aV 0) (jk 0))=true:=by kernel_rfl
theorem PT:((List.range 15).all fun a=>(List.range 15).all fun b=>[false,true].all fun h=>gr (Oi 1 ((a:Int)-7) ((b:Int)-7) h) (aV 1) (jk 1))=true:=by kernel_rfl
theorem PD:((List.range 15).all fun a=>(List.range 15).all fun b=>[false,true].all fun h=>gr (Oi 2 ((a:Int)-7) ((b:Int)-7) h) (aV 2) (jk 2))=true:=by kernel_rfl
theorem PJ:((List.range 15).all fun a=>(List.range 15).all fun b=>[false,true].all fun h=>gr (Oi 3 ((a:Int)-7) ((b:Int)-7) h) (aV 3) (jk 3))=true:=by kernel_rfl
theorem PQ:((List.range 15).all fun a=>(List.range 15).all fun b=>[false,true].all fun h=>gr (Oi 4 ((a:Int)-7) ((b:Int)-7) h) (aV 4) (jk 4))=true:=by kernel_rfl
theorem P6:((List.range 15).all fun a=>(List.range 15).all fun b=>[false,true].all fun h=>gr (Oi 5 ((a:Int)-7) ((b:Int)-7) h) (aV 5) (jk 5))=true:=by kernel_rfl
theorem Qb:((List.range 15).all fun a=>(List.range 15).all fun b=>[false,true].all fun h=>gr (Oi 6 ((a:Int)-7) ((b:Int)-7) h) (aV 6) (jk 6))=true:=by kernel_rfl
theorem P5:((List.range 15).all fun a=>(List.range 15).all fun b=>[false,true].all fun h=>gr (Oi 7 ((a:Int)-7) ((b:Int)-7) h) (aV 7) (jk 7))=true:=by kernel_rfl
theorem KS(k:Nat) (hk:k<8):((List.range 15).all fun a=>(List.range 15).all fun b=>[false,true].all fun h=>gr (Oi k ((a:Int)-7) ((b:Int)-7) h) (aV k) (jk k))=true:=by
 have hjj:k=0∨k=1∨k=2∨k=3∨k=4∨k=5∨k=6∨k=7:=by omega
 rcases hjj with rfl | rfl | rfl | rfl | rfl | rfl | rfl | rfl
 ·exact Qa
 ·exact PT
 ·exact PD
 ·exact PJ
 ·exact PQ
 ·exact P6
 ·exact Qb
 ·exact P5
theorem OL(s:Sheet):gr s.P s.T (jk (s.kind%8))=true:=by
 have hk:s.kind%8<8:=Nat.mod_lt _ (by omega)
 have h:=KS (s.kind%8) hk
 obtain⟨u0,u1⟩:=NE s.sx
 obtain⟨v0,v1⟩:=NE s.sy
 have h1:=List.all_eq_true.1 h (s.sx.tmod 8+7).toNat (List.mem_range.2 (by omega))
 have h2:=List.all_eq_true.1 h1 (s.sy.tmod 8+7).toNat (List.mem_range.2 (by omega))
 have h3:=List.all_eq_true.1 h2 s.half (by cases s.half<;>simp)
 have e1:(((s.sx.tmod 8+7).toNat:Nat):Int)-7=s.sx.tmod 8:=by omega
 have e2:(((s.sy.tmod 8+7).toNat:Nat):Int)-7=s.sy.tmod 8:=by omega
 rw[e1,e2] at h3
 exact h3
def J5:List Tr→Int→List Sd
 | [],_=>[]
 |t::l,i=>((t.1,t.2.1),i)::((t.2.1,t.2.2),i)::((t.2.2,t.1),i)::J5 l (i+1)
theorem Ke:ACallsTo Tryz.prog 106 [.agg [.slice 0 0 (cN 0).length none,.slice 1 0 (aV 0).length none]] [.absent,.cells false 3 (tC (aV 0))] (.tuple [.map 2,.bool true]) ([.absent,.cells false 3 (tC (aV 0))]++[.map ((J5 (aV 0) 0).map sdE)]):=
 cr (lv:=ab) (K:=60) (n:=10) aa (aj _) (al _) (af _) (by as_aux_lemma=>kernel_rfl)
theorem KV:ACallsTo Tryz.prog 106 [.agg [.slice 0 0 (cN 1).length none,.slice 1 0 (aV 1).length none]] [.absent,.cells false 3 (tC (aV 1))] (.tuple [.map 2,.bool true]) ([.absent,.cells false 3 (tC (aV 1))]++[.map ((J5 (aV 1) 0).map sdE)]):=
 cr (lv:=ab) (K:=60) (n:=10) aa (aj _) (al _) (af _) (by as_aux_lemma=>kernel_rfl)
theorem Kf:ACallsTo Tryz.prog 106 [.agg [.slice 0 0 (cN 2).length none,.slice 1 0 (aV 2).length none]] [.absent,.cells false 3 (tC (aV 2))] (.tuple [.map 2,.bool true]) ([.absent,.cells false 3 (tC (aV 2))]++[.map ((J5 (aV 2) 0).map sdE)]):=
 cr (lv:=ab) (K:=60) (n:=10) aa (aj _) (al _) (af _) (by as_aux_lemma=>kernel_rfl)
theorem Kr:ACallsTo Tryz.prog 106 [.agg [.slice 0 0 (cN 3).length none,.slice 1 0 (aV 3).length none]] [.absent,.cells false 3 (tC (aV 3))] (.tuple [.map 2,.bool true]) ([.absent,.cells false 3 (tC (aV 3))]++[.map ((J5 (aV 3) 0).map sdE)]):=
 cr (lv:=ab) (K:=60) (n:=10) aa (aj _) (al _) (af _) (by as_aux_lemma=>kernel_rfl)
theorem JR:ACallsTo Tryz.prog 106 [.agg [.slice 0 0 (cN 4).length none,.slice 1 0 (aV 4).length none]] [.absent,.cells false 3 (tC (aV 4))] (.tuple [.map 2,.bool true]) ([.absent,.cells false 3 (tC (aV 4))]++[.map ((J5 (aV 4) 0).map sdE)]):=
 cr (lv:=ab) (K:=60) (n:=10) aa (aj _) (al _) (af _) (by as_aux_lemma=>kernel_rfl)
theorem Kd:ACallsTo Tryz.prog 106 [.agg [.slice 0 0 (cN 5).length none,.slice 1 0 (aV 5).length none]] [.absent,.cells false 3 (tC (aV 5))] (.tuple [.map 2,.bool true]) ([.absent,.cells false 3 (tC (aV 5))]++[.map ((J5 (aV 5) 0).map sdE)]):=
 cr (lv:=ab) (K:=60) (n:=10) aa (aj _) (al _) (af _) (by as_aux_lemma=>kernel_rfl)
theorem K9:ACallsTo Tryz.prog 106 [.agg [.slice 0 0 (cN 6).length none,.slice 1 0 (aV 6).length none]] [.absent,.cells false 3 (tC (aV 6))] (.tuple [.map 2,.bool true]) ([.absent,.cells false 3 (tC (aV 6))]++[.map ((J5 (aV 6) 0).map sdE)]):=
 cr (lv:=ab) (K:=60) (n:=10) aa (aj _) (al _) (af _) (by as_aux_lemma=>kernel_rfl)
theorem Le:ACallsTo Tryz.prog 106 [.agg [.slice 0 0 (cN 7).length none,.slice 1 0 (aV 7).length none]] [.absent,.cells false 3 (tC (aV 7))] (.tuple [.map 2,.bool true]) ([.absent,.cells false 3 (tC (aV 7))]++[.map ((J5 (aV 7) 0).map sdE)]):=
 cr (lv:=ab) (K:=60) (n:=10) aa (aj _) (al _) (af _) (by as_aux_lemma=>kernel_rfl)
theorem Cg(k:Nat) (hk:k<8):ACallsTo Tryz.prog 106 [.agg [.slice 0 0 (cN k).length none,.slice 1 0 (aV k).length none]] [.absent,.cells false 3 (tC (aV k))] (.tuple [.map 2,.bool true]) ([.absent,.cells false 3 (tC (aV k))]++[.map ((J5 (aV k) 0).map sdE)]):=by
 have hjj:k=0∨k=1∨k=2∨k=3∨k=4∨k=5∨k=6∨k=7:=by omega
 rcases hjj with rfl | rfl | rfl | rfl | rfl | rfl | rfl | rfl
 ·exact Ke
 ·exact KV
 ·exact Kf
 ·exact Kr
 ·exact JR
 ·exact Kd
 ·exact K9
 ·exact Le
theorem Id(k:Nat) (hk:k<8):qo (J5 (aV k) 0)=true∧yp (pz (J5 (aV k) 0))=some ((jk k).map fun(n:Nat)=>(n:Int))∧(G6 (aV k)).length=(cN k).length∧jk k≠[]∧(∀c∈jk k,c<(cN k).length)∧aV k≠[]∧(aV k).length≤4∧(jk k).length≤6:=by
 have hjj:k=0∨k=1∨k=2∨k=3∨k=4∨k=5∨k=6∨k=7:=by omega
 rcases hjj with rfl | rfl | rfl | rfl | rfl | rfl | rfl | rfl<;>decide
theorem vn(s:Sheet):Tryz.Whole s.P s.T (J5 s.T 0) (jk (s.kind%8)):=by
 have hk:s.kind%8<8:=Nat.mod_lt _ (by omega)
 have h:=OL s
 obtain⟨f1,f2,f3,f4,f5,f6,f7,f8⟩:=Id (s.kind%8) hk
 have hlen:=Sheet.P_length s
 have hle:=Ap (s.kind%8)
 unfold gr at h
 simp only[Bool.and_eq_true,decide_eq_true_eq] at h
 obtain⟨⟨⟨⟨h1,h2⟩,h3⟩,h4⟩,h5⟩:=h
 refine⟨fun p hp=>?_,h1,?_,f1,f2,by rw[hlen];exact f3,⟨f4,by rw[hlen];exact f5,fun i hi=>?_,h5⟩,fun t ht=>?_,by omega,f6,by show(aV _).length≤800;omega,by omega⟩
 ·have:=List.all_eq_true.1 h2 p hp
  simp only[Bool.and_eq_true,decide_eq_true_eq] at this
  obtain⟨⟨⟨a1,a2⟩,a3⟩,a4⟩:=this
  have d1:dg 2 1 p.1:=⟨a1,a2⟩
  have d2:dg 2 1 p.2:=⟨a3,a4⟩
  exact⟨d1.mono (by omega) (by omega),d2.mono (by omega) (by omega)⟩
 ·unfold xS
  rw[hlen]
  exact Cg (s.kind%8) hk
 ·have:=List.all_eq_true.1 h4 i (List.mem_range.2 hi)
  simpa using this
 ·have:=List.all_eq_true.1 h3 t ht
  unfold QV
  split at this
  ·rename_i p q r e1 e2 e3
   exact⟨p,q,r,e1,e2,e3,by simpa using this⟩
  ·cases this
theorem A5(s:Sheet):ACallsTo Tryz.prog 41 [.agg [.slice 0 0 s.P.length none,.slice 1 0 s.T.length none]] [.cells false 2 (pC s.P),.cells false 3 (tC s.T)] (.int .i64 0) [.cells false 2 (pC s.P),.cells false 3 (tC s.T)]:=
 Bh (vn s)
end Go.Proofs
