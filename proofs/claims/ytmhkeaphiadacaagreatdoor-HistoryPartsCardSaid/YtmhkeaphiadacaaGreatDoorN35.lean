/- See N58. -/
import Derived.Test.YtmhkeaphiadacaaGreatDoorN33
import Derived.Test.YtmhkeaphiadacaaGreatDoorN08
import Derived.KernelRfl
set_option linter.all false
namespace Go.Proofs
open Go.Eng
def gu(PS:List P2) (TS:List Tr) (cyc:List Nat):Bool:=
 decide PS.Nodup&&(PS.all fun p=>decide (p.1.num.natAbs<100)&&decide (p.1.den<10)&&decide (p.2.num.natAbs<100)&&decide (p.2.den<10))&&
  (TS.all fun t=>match PS[t.1]?,PS[t.2.1]?,PS[t.2.2]? with
   |some p,some q,some r=>decide (0<JD (vY p q r))
   |_,_,_=>false)&&
  ((List.range cyc.length).all fun i=>decide (0≤JD (vY (yU PS cyc i) (yU PS cyc (i+1)) (yU PS cyc (i+2)))))&&decide (jv PS cyc cyc.length=1)
def PB(k:Nat) (u v:Int) (h:Bool):List P2:=
 (cQ k).map fun p=>(mkRat (p.1+u*(1:Nat)) ((if h then 2 else 1)*1),mkRat (p.2+v*(1:Nat)) ((if h then 2 else 1)*1))
theorem QC:((List.range 15).all fun a=>(List.range 15).all fun b=>[false,true].all fun h=>gu (PB 0 ((a:Int)-7) ((b:Int)-7) h) (ba 0) (jy 0))=true:=by kernel_rfl
theorem QD:((List.range 15).all fun a=>(List.range 15).all fun b=>[false,true].all fun h=>gu (PB 1 ((a:Int)-7) ((b:Int)-7) h) (ba 1) (jy 1))=true:=by kernel_rfl
theorem QE:((List.range 15).all fun a=>(List.range 15).all fun b=>[false,true].all fun h=>gu (PB 2 ((a:Int)-7) ((b:Int)-7) h) (ba 2) (jy 2))=true:=by kernel_rfl
theorem QF:((List.range 15).all fun a=>(List.range 15).all fun b=>[false,true].all fun h=>gu (PB 3 ((a:Int)-7) ((b:Int)-7) h) (ba 3) (jy 3))=true:=by kernel_rfl
theorem QG:((List.range 15).all fun a=>(List.range 15).all fun b=>[false,true].all fun h=>gu (PB 4 ((a:Int)-7) ((b:Int)-7) h) (ba 4) (jy 4))=true:=by kernel_rfl
theorem QH:((List.range 15).all fun a=>(List.range 15).all fun b=>[false,true].all fun h=>gu (PB 5 ((a:Int)-7) ((b:Int)-7) h) (ba 5) (jy 5))=true:=by kernel_rfl
theorem QI:((List.range 15).all fun a=>(List.range 15).all fun b=>[false,true].all fun h=>gu (PB 6 ((a:Int)-7) ((b:Int)-7) h) (ba 6) (jy 6))=true:=by kernel_rfl
theorem QJ:((List.range 15).all fun a=>(List.range 15).all fun b=>[false,true].all fun h=>gu (PB 7 ((a:Int)-7) ((b:Int)-7) h) (ba 7) (jy 7))=true:=by kernel_rfl
theorem Mb(k:Nat) (hk:k<8):((List.range 15).all fun a=>(List.range 15).all fun b=>[false,true].all fun h=>gu (PB k ((a:Int)-7) ((b:Int)-7) h) (ba k) (jy k))=true:=by
 have hjj:k=0∨k=1∨k=2∨k=3∨k=4∨k=5∨k=6∨k=7:=by omega
 rcases hjj with rfl | rfl | rfl | rfl | rfl | rfl | rfl | rfl
 ·exact QC
 ·exact QD
 ·exact QE
 ·exact QF
 ·exact QG
 ·exact QH
 ·exact QI
 ·exact QJ
theorem PI(s:Sheet):gu s.P s.T (jy (s.kind%8))=true:=by
 have hk:s.kind%8<8:=Nat.mod_lt _ (by omega)
 have h:=Mb (s.kind%8) hk
 obtain⟨u0,u1⟩:=PL s.sx
 obtain⟨v0,v1⟩:=PL s.sy
 have h1:=List.all_eq_true.1 h (s.sx.tmod 8+7).toNat (List.mem_range.2 (by omega))
 have h2:=List.all_eq_true.1 h1 (s.sy.tmod 8+7).toNat (List.mem_range.2 (by omega))
 have h3:=List.all_eq_true.1 h2 s.half (by cases s.half<;>simp)
 have e1:(((s.sx.tmod 8+7).toNat:Nat):Int)-7=s.sx.tmod 8:=by omega
 have e2:(((s.sy.tmod 8+7).toNat:Nat):Int)-7=s.sy.tmod 8:=by omega
 rw[e1,e2] at h3
 exact h3
def L9:List Tr→Int→List Sd
 | [],_=>[]
 |t::l,i=>((t.1,t.2.1),i)::((t.2.1,t.2.2),i)::((t.2.2,t.1),i)::L9 l (i+1)
theorem Ld:ACallsTo Tryz.prog 106 [.agg [.slice 0 0 (cQ 0).length none,.slice 1 0 (ba 0).length none]] [.absent,.cells false 3 (tC (ba 0))] (.tuple [.map 2,.bool true]) ([.absent,.cells false 3 (tC (ba 0))]++[.map ((L9 (ba 0) 0).map sdE)]):=
 cB (lv:=ad) (K:=60) (n:=10) aa (ai _) (aj _) (af _) (by as_aux_lemma=>kernel_rfl)
theorem Le:ACallsTo Tryz.prog 106 [.agg [.slice 0 0 (cQ 1).length none,.slice 1 0 (ba 1).length none]] [.absent,.cells false 3 (tC (ba 1))] (.tuple [.map 2,.bool true]) ([.absent,.cells false 3 (tC (ba 1))]++[.map ((L9 (ba 1) 0).map sdE)]):=
 cB (lv:=ad) (K:=60) (n:=10) aa (ai _) (aj _) (af _) (by as_aux_lemma=>kernel_rfl)
theorem Lf:ACallsTo Tryz.prog 106 [.agg [.slice 0 0 (cQ 2).length none,.slice 1 0 (ba 2).length none]] [.absent,.cells false 3 (tC (ba 2))] (.tuple [.map 2,.bool true]) ([.absent,.cells false 3 (tC (ba 2))]++[.map ((L9 (ba 2) 0).map sdE)]):=
 cB (lv:=ad) (K:=60) (n:=10) aa (ai _) (aj _) (af _) (by as_aux_lemma=>kernel_rfl)
theorem Lg:ACallsTo Tryz.prog 106 [.agg [.slice 0 0 (cQ 3).length none,.slice 1 0 (ba 3).length none]] [.absent,.cells false 3 (tC (ba 3))] (.tuple [.map 2,.bool true]) ([.absent,.cells false 3 (tC (ba 3))]++[.map ((L9 (ba 3) 0).map sdE)]):=
 cB (lv:=ad) (K:=60) (n:=10) aa (ai _) (aj _) (af _) (by as_aux_lemma=>kernel_rfl)
theorem Lh:ACallsTo Tryz.prog 106 [.agg [.slice 0 0 (cQ 4).length none,.slice 1 0 (ba 4).length none]] [.absent,.cells false 3 (tC (ba 4))] (.tuple [.map 2,.bool true]) ([.absent,.cells false 3 (tC (ba 4))]++[.map ((L9 (ba 4) 0).map sdE)]):=
 cB (lv:=ad) (K:=60) (n:=10) aa (ai _) (aj _) (af _) (by as_aux_lemma=>kernel_rfl)
theorem Li:ACallsTo Tryz.prog 106 [.agg [.slice 0 0 (cQ 5).length none,.slice 1 0 (ba 5).length none]] [.absent,.cells false 3 (tC (ba 5))] (.tuple [.map 2,.bool true]) ([.absent,.cells false 3 (tC (ba 5))]++[.map ((L9 (ba 5) 0).map sdE)]):=
 cB (lv:=ad) (K:=60) (n:=10) aa (ai _) (aj _) (af _) (by as_aux_lemma=>kernel_rfl)
theorem Lj:ACallsTo Tryz.prog 106 [.agg [.slice 0 0 (cQ 6).length none,.slice 1 0 (ba 6).length none]] [.absent,.cells false 3 (tC (ba 6))] (.tuple [.map 2,.bool true]) ([.absent,.cells false 3 (tC (ba 6))]++[.map ((L9 (ba 6) 0).map sdE)]):=
 cB (lv:=ad) (K:=60) (n:=10) aa (ai _) (aj _) (af _) (by as_aux_lemma=>kernel_rfl)
theorem Lk:ACallsTo Tryz.prog 106 [.agg [.slice 0 0 (cQ 7).length none,.slice 1 0 (ba 7).length none]] [.absent,.cells false 3 (tC (ba 7))] (.tuple [.map 2,.bool true]) ([.absent,.cells false 3 (tC (ba 7))]++[.map ((L9 (ba 7) 0).map sdE)]):=
 cB (lv:=ad) (K:=60) (n:=10) aa (ai _) (aj _) (af _) (by as_aux_lemma=>kernel_rfl)
theorem B0(k:Nat) (hk:k<8):ACallsTo Tryz.prog 106 [.agg [.slice 0 0 (cQ k).length none,.slice 1 0 (ba k).length none]] [.absent,.cells false 3 (tC (ba k))] (.tuple [.map 2,.bool true]) ([.absent,.cells false 3 (tC (ba k))]++[.map ((L9 (ba k) 0).map sdE)]):=by
 have hjj:k=0∨k=1∨k=2∨k=3∨k=4∨k=5∨k=6∨k=7:=by omega
 rcases hjj with rfl | rfl | rfl | rfl | rfl | rfl | rfl | rfl
 ·exact Ld
 ·exact Le
 ·exact Lf
 ·exact Lg
 ·exact Lh
 ·exact Li
 ·exact Lj
 ·exact Lk
theorem JE(k:Nat) (hk:k<8):qW (L9 (ba k) 0)=true∧ym (pU (L9 (ba k) 0))=some ((jy k).map fun(n:Nat)=>(n:Int))∧(HE (ba k)).length=(cQ k).length∧jy k≠[]∧(∀c∈jy k,c<(cQ k).length)∧ba k≠[]∧(ba k).length≤4∧(jy k).length≤6:=by
 have hjj:k=0∨k=1∨k=2∨k=3∨k=4∨k=5∨k=6∨k=7:=by omega
 rcases hjj with rfl | rfl | rfl | rfl | rfl | rfl | rfl | rfl<;>decide
theorem vN(s:Sheet):Tryz.Whole s.P s.T (L9 s.T 0) (jy (s.kind%8)):=by
 have hk:s.kind%8<8:=Nat.mod_lt _ (by omega)
 have h:=PI s
 obtain⟨f1,f2,f3,f4,f5,f6,f7,f8⟩:=JE (s.kind%8) hk
 have hlen:=Sheet.P_length s
 have hle:=Bc (s.kind%8)
 unfold gu at h
 simp only[Bool.and_eq_true,decide_eq_true_eq] at h
 obtain⟨⟨⟨⟨h1,h2⟩,h3⟩,h4⟩,h5⟩:=h
 refine⟨fun p hp=>?_,h1,?_,f1,f2,by rw[hlen];exact f3,⟨f4,by rw[hlen];exact f5,fun i hi=>?_,h5⟩,fun t ht=>?_,by omega,f6,by show(ba _).length≤800;omega,by omega⟩
 ·have:=List.all_eq_true.1 h2 p hp
  simp only[Bool.and_eq_true,decide_eq_true_eq] at this
  obtain⟨⟨⟨a1,a2⟩,a3⟩,a4⟩:=this
  have d1:dg 2 1 p.1:=⟨a1,a2⟩
  have d2:dg 2 1 p.2:=⟨a3,a4⟩
  exact⟨d1.mono (by omega) (by omega),d2.mono (by omega) (by omega)⟩
 ·unfold xO
  rw[hlen]
  exact B0 (s.kind%8) hk
 ·have:=List.all_eq_true.1 h4 i (List.mem_range.2 hi)
  simpa using this
 ·have:=List.all_eq_true.1 h3 t ht
  unfold Rq
  split at this
  ·rename_i p q r e1 e2 e3
   exact⟨p,q,r,e1,e2,e3,by simpa using this⟩
  ·cases this
theorem Bs(s:Sheet):ACallsTo Tryz.prog 41 [.agg [.slice 0 0 s.P.length none,.slice 1 0 s.T.length none]] [.cells false 2 (pC s.P),.cells false 3 (tC s.T)] (.int .i64 0) [.cells false 2 (pC s.P),.cells false 3 (tC s.T)]:=
 Br (vN s)
end Go.Proofs
