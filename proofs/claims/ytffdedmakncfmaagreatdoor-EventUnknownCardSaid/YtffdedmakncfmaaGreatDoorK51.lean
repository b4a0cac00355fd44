/-
The law EventUnknown of package klippelaw29 returns true for every sheet, every sketch and every number, and the sheet and the sketch read afterwards as they read before.
Conditions: those of the given row alone: the package-level variables that it lists hold at the start what the program's text lays (the given tie closes that); nothing is asked of the arguments beyond what a Go program can hold.
How: an executable engine over abstract values, proved sound over the library's fenced calculus (parts K01 to K05), contracts of the program's functions by runs of that engine (K07 to K47), the plain laws of numbers, places, sheets and sketches (K06, K23), the closed run of known by the kernel (K48), the law by one run over each shape of made rows (K49), the row and its card (the last parts).
-/
import Derived.Test.YtffdedmakncfmaaGreatDoorK50
import Derived.Test.YtffdedmakncfmaaGreatDoorK49
import Derived.Deep.Slices
set_option linter.all false
namespace Go.Proofs.YtffdedmakncfmaaGreatDoor
open Go.ChangeShapes Go.WideShapes Go.ChangeAt Go.WideMaps Go.WideElems Go.RowKit Go.Eng
section
variable {H:Type}{enc:TypeId×Value→H}{P:Program}{w:World}{base:Nat}{spare:Nat→Bool}{held:Bool}
theorem CN{n:Nat}{t e:TypeId}{fuel:Nat}{cs:List Value}{x:DataW H×List MemPlace}(ht:P.underlying t=some (.array n e)) (ce:P.cellsOf e=1) (h:DataW.trod enc P w base spare held fuel t cs=some x) (i:Nat) (v:Value) (hi:i<n) (hv:cs[i]? =some v):
  ∃m y,DataW.trod enc P w base spare held m e [v]=some y:=by
 obtain⟨xs,m,_,_,_,hl,hf⟩:=DataW.trod_array ht h
 have:=hf i hi
 rw[ce,Nat.mul_one] at this
 have e1:(cs.drop i).take 1=[v]:=by
  have hlt:=(List.getElem?_eq_some_iff.1 hv).1
  rw[List.drop_eq_getElem_cons hlt]
  rw[List.getElem?_eq_getElem hlt] at hv
  simp only[List.take_succ_cons,List.take_zero]
  rw[Option.some.inj hv]
 rw[e1] at this
 exact⟨m,xs[i],by rw[this,List.getElem?_eq_getElem]⟩
end
end Go.Proofs.YtffdedmakncfmaaGreatDoor
namespace Go.Proofs.YtffdedmakncfmaaGreatDoor
open Go.ChangeShapes Go.WideShapes Go.ChangeAt Go.WideMaps Go.WideElems Go.RowKit Go.Eng
def i8V(L:List Int):List Value:=L.map fun z=>.int .i8 z
theorem JZ(μ:Nat→Eng.Place) (m:Nat):∀L:List Int,VRels μ m (i8C L) (i8V L)
 | []=>rfl
 |z::L=>by
  have:=JZ μ m L
  unfold i8C i8V at*
  simp only[List.map_cons]
  exact bl.2 ⟨by simp[VRel],this⟩
theorem jC{μ:Nat→Eng.Place}{m:Nat}{b:List AV}{B:List Value}(hb:VRels μ m b B):∀{a:List AV} {A:List Value},VRels μ m a A→VRels μ m (a++b) (A++B)
 | [],A,ha=>by
  simp only[VRels] at ha
  subst ha;exact hb
 |v::a,A,ha=>by
  simp only[VRels] at ha
  obtain⟨U,Ws,rfl,h1,h2⟩:=ha
  exact bl.2 ⟨h1,jC hb h2⟩
def Ja(h:Hts):List Value:=i8V h.v++[.bool h.half]
def Oz(x:Sketch):List Value:=[.int .u8 (x.kind:Int)]++(Ja x.base++(Ja x.s0++(Ja x.s1++(i8V x.N++i8V x.T))))
theorem Jb(μ:Nat→Eng.Place) (m:Nat) (h:Hts):VRels μ m h.cells (Ja h):=jC (bl.2 ⟨by simp[VRel],by simp[VRels]⟩) (JZ μ m h.v)
theorem RX(μ:Nat→Eng.Place) (m:Nat) (x:Sketch):VRels μ m x.cells (Oz x):=
 jC (a:=[AV.int .u8 x.kind]) (jC (jC (jC (jC (JZ μ m x.T) (JZ μ m x.N)) (Jb μ m x.s1)) (Jb μ m x.s0)) (Jb μ m x.base)) (bl.2 ⟨by simp[VRel],by simp[VRels]⟩)
theorem NV:∀{cs:List Value},(∀v∈cs,∃k:Int,xE k∧v=.int .i8 k)→∃L:List Int,(∀z∈L,xE z)∧cs=i8V L
 | [],_=>⟨[],fun z hz=>by simp at hz,rfl⟩
 |v::cs,h=>by
  obtain⟨k,hk,rfl⟩:=h v (by simp)
  obtain⟨L,hL,rfl⟩:=NV (cs:=cs) fun v hv=>h v (by simp[hv])
  exact⟨k::L,fun z hz=>by rcases List.mem_cons.1 hz with rfl | hz;exact hk;exact hL z hz,rfl⟩
section
variable {H:Type}{enc:TypeId×Value→H}{W:World}
theorem OE{n:Nat}{y:DataW H×List MemPlace}{x:Value}(hx:DataW.trod enc Tryz.prog W 0 (fun _=>true) true n 5 [x]=some y):∃k:Nat,k<256∧x=.int .u8 (k:Int):=by
 obtain⟨z,hz,_,hw⟩:=DataW.trod_int Tryz.underlying5 hx
 simp only[List.cons.injEq,and_true] at hz
 simp only[Lit.wf,Bool.and_eq_true,decide_eq_true_eq] at hw
 have h1:IntKind.u8.min=0:=rfl
 have h2:IntKind.u8.max=255:=rfl
 rw[h1,h2] at hw
 exact⟨z.toNat,by omega,by rw[hz,Int.toNat_of_nonneg hw.1]⟩
theorem JA{n:Nat}{y:DataW H×List MemPlace}{x:Value}(hx:DataW.trod enc Tryz.prog W 0 (fun _=>true) true n 22 [x]=some y):∃k:Int,xE k∧x=.int .i8 k:=by
 obtain⟨z,hz,_,hw⟩:=DataW.trod_int Tryz.underlying22 hx
 simp only[List.cons.injEq,and_true] at hz
 exact⟨z,bounds_i8 hw,hz⟩
theorem ci8:Tryz.prog.cellsOf 22=1:=by kernel_rfl
theorem CP{n:Nat}{t:TypeId}{fuel:Nat}{cs:List Value}{x:DataW H×List MemPlace}(ht:Tryz.prog.underlying t=some (.array n 22)) (hl:cs.length=n) (h:DataW.trod enc Tryz.prog W 0 (fun _=>true) true fuel t cs=some x):∃L:List Int,L.length=n∧(∀z∈L,xE z)∧cs=i8V L:=by
 obtain⟨L,hL,e⟩:=NV (cs:=cs) fun v hv=>by
  obtain⟨i,hi⟩:=List.getElem?_of_mem hv
  obtain⟨_,_,t⟩:=CN ht ci8 h i v (by rw[←hl];exact(List.getElem?_eq_some_iff.1 hi).1) hi
  exact JA t
 refine⟨L,?_,hL,e⟩
 rw[←hl,e]
 simp[i8V]
set_option maxRecDepth 100000 in
theorem CO{fuel:Nat}{cs:List Value}{x:DataW H×List MemPlace}(hl:cs.length=7) (h:DataW.trod enc Tryz.prog W 0 (fun _=>true) true fuel 28 cs=some x):∃y:Hts,y.Ok∧cs=Ja y:=by
 obtain⟨xs,k,hk,hxy,_,hxl,hf⟩:=DataW.trod_struct Tryz.underlying28 h
 match xs,hxl,cs,hl with
 | [y0,y1],_,[v0,v1,v2,v3,v4,v5,v6],_=>
  have g0:=hf 0 _ rfl
  have g1:=hf 1 _ rfl
  have c0:Tryz.prog.cellsOf 26=6:=by kernel_rfl
  have c1:Tryz.prog.cellsOf 4=1:=by kernel_rfl
  simp[c0,c1] at g0 g1
  obtain⟨L,l1,l2,l3⟩:=CP Tryz.underlying26 rfl g0
  obtain⟨bv,hbv,_⟩:=DataW.trod_bool Tryz.underlying4 g1
  simp only[List.cons.injEq,and_true] at hbv
  subst hbv
  refine⟨⟨L,bv⟩,⟨l1,l2⟩,?_⟩
  show [v0,v1,v2,v3,v4,v5]++[Value.bool bv]=_
  rw[l3];rfl
theorem RY(vs:List Value) (h:vs.length=34):vs=(vs.drop 0).take 1++((vs.drop 1).take 7++((vs.drop 8).take 7++((vs.drop 15).take 7++((vs.drop 22).take 8++(vs.drop 30).take 4)))):=by
 have e:∀(a b:Nat),(vs.drop a)=(vs.drop a).take b++vs.drop (a+b):=fun a b=>by
  rw[←List.drop_drop,List.take_append_drop]
 have e30:(vs.drop 30).take 4=vs.drop 30:=List.take_of_length_le (by simp[h])
 rw[e30,←e 22 8,←e 15 7,←e 8 7,←e 1 7,←e 0 1]
 rfl
set_option maxRecDepth 100000 in
theorem Jl{b0:Nat}{v:Value}{d:DataW H}{p:List MemPlace}(hval:Value.okWide Tryz.prog W .any b0 34 v) (h:DataW.Trod enc Tryz.prog W 0 (fun _=>true) true 34 v d p):
  ∃x:Sketch,x.Ok∧∀μ m,VRel μ m (.agg x.cells) v:=by
 obtain⟨fuel,hf⟩:=h
 have hu:=Tryz.underlying34
 simp only[Value.okWide,hu] at hval
 obtain⟨cs,rfl,hcs,_⟩:=hval
 have hcl:(Value.agg cs).cells.toList.length=34:=by
  simp only[Value.cells,Array.length_toList,hcs]
  kernel_rfl
 obtain⟨xs,k,hk,hxy,_,hxl,hg⟩:=DataW.trod_struct hu hf
 obtain⟨vs,hvs⟩:∃vs,vs=(Value.agg cs).cells.toList:=⟨_,rfl⟩
 rw[←hvs] at hcl hg
 match xs,hxl with
 | [y0,y1,y2,y3,y4],_=>
  have g0:DataW.trod enc Tryz.prog W 0 (fun _=>true) true k 5 ((vs.drop 0).take (Tryz.prog.cellsOf 5))=some y0:=hg 0 _ rfl
  have g1:DataW.trod enc Tryz.prog W 0 (fun _=>true) true k 28 ((vs.drop 1).take (Tryz.prog.cellsOf 28))=some y1:=hg 1 _ rfl
  have g2:DataW.trod enc Tryz.prog W 0 (fun _=>true) true k 29 ((vs.drop 8).take (Tryz.prog.cellsOf 29))=some y2:=hg 2 _ rfl
  have g3:DataW.trod enc Tryz.prog W 0 (fun _=>true) true k 30 ((vs.drop 22).take (Tryz.prog.cellsOf 30))=some y3:=hg 3 _ rfl
  have g4:DataW.trod enc Tryz.prog W 0 (fun _=>true) true k 32 ((vs.drop 30).take (Tryz.prog.cellsOf 32))=some y4:=hg 4 _ rfl
  have c0:Tryz.prog.cellsOf 5=1:=by kernel_rfl
  have c1:Tryz.prog.cellsOf 28=7:=by kernel_rfl
  have c2:Tryz.prog.cellsOf 29=14:=by kernel_rfl
  have c3:Tryz.prog.cellsOf 30=8:=by kernel_rfl
  have c4:Tryz.prog.cellsOf 32=4:=by kernel_rfl
  rw[c0] at g0
  rw[c1] at g1
  rw[c2] at g2
  rw[c3] at g3
  rw[c4] at g4
  have e0:∃v,(vs.drop 0).take 1=[v]:=by
   match vs,hcl with
   |v::vs,_=>exact⟨v,rfl⟩
  obtain⟨v0,e0⟩:=e0
  rw[e0] at g0
  obtain⟨k0,l0,rfl⟩:=OE g0
  obtain⟨hb,ob,eb⟩:=CO (by simp[hcl]) g1
  obtain⟨zs,_,_,_,_,hzl,hz⟩:=DataW.trod_array Tryz.underlying29 g2
  have f0:=hz 0 (by decide)
  have f1:=hz 1 (by decide)
  rw[c1] at f0 f1
  rw[List.getElem?_eq_getElem (by omega)] at f0 f1
  obtain⟨h0,o0,q0⟩:=CO (by simp[hcl]) f0
  obtain⟨h1,o1,q1⟩:=CO (by simp[hcl]) f1
  obtain⟨N,n1,n2,n3⟩:=CP Tryz.underlying30 (by simp[hcl]) g3
  obtain⟨T,t1,t2,t3⟩:=CP Tryz.underlying32 (by simp[hcl]) g4
  refine⟨⟨k0,hb,h0,h1,N,T⟩,⟨l0,ob,o0,o1,n1,n2,t1,t2⟩,fun μ m=>?_⟩
  have r0:(vs.drop 8).take 7=Ja h0:=by rw[←q0];simp[List.take_take]
  have r1:(vs.drop 15).take 7=Ja h1:=by rw[←q1];simp[List.drop_take,List.take_take]
  have e:vs=Oz ⟨k0,hb,h0,h1,N,T⟩:=by
   rw[RY vs hcl,e0,eb,r0,r1,n3,t3];rfl
  simp only[VRel]
  refine⟨Oz ⟨k0,hb,h0,h1,N,T⟩,?_,RX μ m _⟩
  rw[←e,hvs];rfl
set_option maxRecDepth 100000 in
theorem Mk{b0:Nat}{v:Value}{d:DataW H}{p:List MemPlace}(hval:Value.okWide Tryz.prog W .any b0 25 v) (h:DataW.Trod enc Tryz.prog W 0 (fun _=>true) true 25 v d p):
  ∃s:Sheet,s.Ok∧∀μ m,VRel μ m s.av v:=by
 obtain⟨fuel,hf⟩:=h
 have hu:=Tryz.underlying25
 simp only[Value.okWide,hu] at hval
 obtain⟨cs,rfl,hcs,_⟩:=hval
 have hcl:(Value.agg cs).cells.toList.length=4:=by
  simp only[Value.cells,Array.length_toList,hcs]
  kernel_rfl
 obtain⟨zs,k',hk',_,_,hzl,hz⟩:=DataW.trod_struct hu hf
 obtain⟨vs,hvs⟩:∃vs,vs=(Value.agg cs).cells.toList:=⟨_,rfl⟩
 rw[←hvs] at hcl hz
 match zs,hzl,vs,hcl with
 | [z0,z1,z2],_,[v0,v1,v2,v3],_=>
  have f0:=hz 0 _ rfl
  have f1:=hz 1 _ rfl
  have f2:=hz 2 _ rfl
  have d0:Tryz.prog.cellsOf 5=1:=by kernel_rfl
  have d1:Tryz.prog.cellsOf 23=2:=by kernel_rfl
  have d2:Tryz.prog.cellsOf 4=1:=by kernel_rfl
  simp[d0,d1,d2] at f0 f1 f2
  obtain⟨k0,l0,rfl⟩:=OE f0
  obtain⟨_,_,t1⟩:=CN Tryz.underlying23 ci8 f1 0 v1 (by decide) rfl
  obtain⟨_,_,t2⟩:=CN Tryz.underlying23 ci8 f1 1 v2 (by decide) rfl
  obtain⟨k1,l1,rfl⟩:=JA t1
  obtain⟨k2,l2,rfl⟩:=JA t2
  obtain⟨bv,hbv,_⟩:=DataW.trod_bool Tryz.underlying4 f2
  simp only[List.cons.injEq,and_true] at hbv
  subst hbv
  refine⟨⟨k0,k1,k2,bv⟩,⟨l0,l1.1,l1.2,l2.1,l2.2⟩,fun μ m=>?_⟩
  have e:cs.toList=[.int .u8 (k0:Int),.int .i8 k1,.int .i8 k2,.bool bv]:=hvs.symm
  simp only[VRel,Sheet.av]
  refine⟨[.int .u8 (k0:Int),.int .i8 k1,.int .i8 k2,.bool bv],?_,by simp[VRels,VRel]⟩
  rw[←e]
end
end Go.Proofs.YtffdedmakncfmaaGreatDoor
namespace Go.Proofs.YtffdedmakncfmaaGreatDoor
open Go.ChangeShapes Go.WideShapes Go.ChangeAt Go.WideMaps Go.WideElems Go.RowKit Go.Eng
set_option maxRecDepth 100000 in
theorem rE(os:Os) (started:os.Started) (H:Type) (enc:TypeId×Value→H):
  ReturnsInHanded {} Tryz.checked os 4 .any (fun w args=>(Rows.eventUnknownSpec.pre enc Tryz.prog Tryz.f4 [] false w args∧laidMetH Tryz.prog mu w)∧sizedMet enc Tryz.prog Tryz.f4 (OpenSpec.ofChange Rows.eventUnknownSpec) false w args)
   (Rows.eventUnknownSpec.post enc Tryz.prog Tryz.f4 false true false false):=by
 refine returnsInHanded_of_change_and (C:=Tryz.checked) (X:=fun w _=>laidMetH Tryz.prog mu w) (fun _ _ _ hh h=>h.of_heap hh) own started (by kernel_rfl) Tryz.func4
  (ChangeSpec.witness_shaped (enc:=enc) (C:=Tryz.checked) (os:=os) (X:=fun w _=>laidMetH Tryz.prog mu w) false (World.doorLaid Tryz.prog 400 os) #[.agg #[.int .u8 0,.int .i8 0,.int .i8 0,.bool false],.agg #[.int .u8 0,.int .i8 0,.int .i8 0,.int .i8 0,.int .i8 0,.int .i8 0,.int .i8 0,.bool false,.int .i8 0,.int .i8 0,.int .i8 0,.int .i8 0,.int .i8 0,.int .i8 0,.bool false,.int .i8 0,.int .i8 0,.int .i8 0,.int .i8 0,.int .i8 0,.int .i8 0,.bool false,.int .i8 0,.int .i8 0,.int .i8 0,.int .i8 0,.int .i8 0,.int .i8 0,.int .i8 0,.int .i8 0,.int .i8 0,.int .i8 0,.int .i8 0,.int .i8 0],.int .i64 0] 8 rfl (World.shaped_of_RefB (by kernel_rfl) (by kernel_rfl)) (by kernel_rfl) (by kernel_rfl) (by kernel_rfl) (PJ os _)) ?_
 intro W base args ds gs before hval0 hW _ _ hL _
 have hval:∀(j:Nat) t v,Tryz.f4.params[j]? =some t→args[j]? =some v→Value.okWide Tryz.prog W .any base t v:=hval0
 have hW' :=hW
 obtain⟨p,q,hA0,hV,hpq,hfz,hnd⟩:=hW
 have hA:DataW.TrodAll enc Tryz.prog W 0 (fun _=>true) true Tryz.f4.params.toList args.toList ds p:=hA0
 have hpar:Tryz.f4.params= #[25,34,3]:=rfl
 rw[hpar] at hA hval
 obtain⟨v0,v1,v2,d0,d1,d2,p0,p1,p2,hargs,rfl,rfl,h0,h1,h2⟩:=trodAll_three hA
 subst hargs
 obtain⟨rfl,rfl⟩:=trodVars_none hV
 have hG:=GV hL
 have hlt:∀x∈before,x.block<W.heap.size:=hW'.lt
 have fin:∀(W' :World),Below W.heap.size W W' →Rows.eventUnknownSpec.post enc Tryz.prog Tryz.f4 false true false false W #[v0,v1,v2] (.bool true) W' :=by
  intro W' hb
  refine Og rfl hW' hb hpq rfl rfl rfl fun sp hsp=>?_
  rw[hpar]
  rw[List.append_nil,List.append_assoc]
  have hm:∀x∈p0++(p1++p2),x∈before:=fun x hx=>by rw[hpq,List.append_nil,List.append_assoc];exact hx
  have m0:∀x∈p0,x∈p0++(p1++p2):=fun x hx=>List.mem_append_left _ hx
  have m1:∀x∈p1,x∈p0++(p1++p2):=fun x hx=>List.mem_append_right _ (List.mem_append_left _ hx)
  have m2:∀x∈p2,x∈p0++(p1++p2):=fun x hx=>List.mem_append_right _ (List.mem_append_right _ hx)
  exact trodAll_mk3 (Trod_stays Je (by kernel_rfl) (of_decide_eq_true (by kernel_rfl)) h0 (fun x hx=>hb.same (hlt x (hm x (m0 x hx)))) (fun x hx=>hsp x (hm x (m0 x hx))))
   (Trod_stays Je (by kernel_rfl) (of_decide_eq_true (by kernel_rfl)) h1 (fun x hx=>hb.same (hlt x (hm x (m1 x hx)))) (fun x hx=>hsp x (hm x (m1 x hx))))
   (Trod_stays Je (by kernel_rfl) (of_decide_eq_true (by kernel_rfl)) h2 (fun x hx=>hb.same (hlt x (hm x (m2 x hx)))) (fun x hx=>hsp x (hm x (m2 x hx))))
 obtain⟨s,hs,hv⟩:=Mk (hval 0 25 v0 rfl rfl) h0
 obtain⟨x,hx,hxv⟩:=Jl (hval 1 34 v1 rfl rfl) h1
 obtain⟨z,rfl,_⟩:=open_int Tryz.underlying3 (hval 2 3 v2 rfl rfl) h2
 refine((sc s hs x hx z).2 W.heap.size _ W [v0,v1,.int .i64 z] hG (L4 W) (bl.2 ⟨hv _ _,bl.2 ⟨hxv _ _,bl.2 ⟨by simp[VRel],by simp[VRels]⟩⟩⟩)).mono ?_
 rintro e W' ⟨V,v',m',μ',rfl,q1,q2,q3,rfl,rfl⟩
 simp only[VRel] at q1
 subst q1
 exact⟨_,rfl,fin W' (Q1 q3 N7)⟩
end Go.Proofs.YtffdedmakncfmaaGreatDoor
namespace Go.Proofs.YtffdedmakncfmaaGreatDoor
open Go.ChangeShapes Go.WideShapes Go.ChangeAt Go.WideMaps Go.WideElems Go.RowKit Go.Eng
set_option maxHeartbeats 40000000 in
set_option maxRecDepth 100000 in
theorem xh:Rows.EventUnknownSaid:=
 OpenClaim.holds_of_wide 4 Tryz.f4 rfl rfl rfl rfl rfl rfl rfl ⟨rfl,rfl,rfl,rfl,rfl⟩ rfl rfl rfl rfl rfl (by as_aux_lemma=>kernel_rfl) Tryz.func4 sQ
  (of_decide_eq_true (by as_aux_lemma=>kernel_rfl)) (by unfold Func.isWrapper;first | (rw[if_pos (by decide +kernel)];kernel_rfl) | (rw[if_neg (by decide +kernel)];exact⟨rfl,rfl⟩))
  (fun os started H enc _=>rE os started H enc)
end Go.Proofs.YtffdedmakncfmaaGreatDoor
namespace Go.Proofs.YtffdedmakncfmaaGreatDoor
open Go.ChangeShapes Go.WideShapes Go.ChangeAt Go.WideMaps Go.WideElems Go.RowKit Go.Eng
set_option maxHeartbeats 40000000 in
set_option maxRecDepth 100000 in
theorem eventUnknown_card:Rows.EventUnknownCardSaid:=
 Claim7.holds_tied_plain_at .later [] [.data,.data,.data,.sentinel,.sentinel] true (true,"0318d65ae98803e99901f72db5e29a71d1d17f289d7c99a9c651880203b8b6ca") true
  xh (fun _ h=>by cases h) (by as_aux_lemma=>kernel_rfl) (fun _ h=>by cases h) eventUnknown_row_tie rfl ⟨rfl,rfl⟩ (by as_aux_lemma=>kernel_rfl) rfl
  (fun f fn hf hfn=>by
   obtain rfl:f=4:=Option.some.inj ((show Tryz.prog.funcNamed Rows.eventUnknownRow.func=some 4 by as_aux_lemma=>kernel_rfl).symm.trans hf) |>.symm
   obtain rfl:fn=Tryz.f4:=(Option.some.inj (Tryz.func4.symm.trans hfn)).symm
   exact⟨by as_aux_lemma=>kernel_rfl,fun j t ht=>by
    have hp:Tryz.f4.params= #[25,34,3]:=rfl
    rw[hp] at ht
    match j,ht with
    |0,ht=>simp at ht;subst ht;exact(show Tryz.prog.wantsStandIn 25=false by as_aux_lemma=>kernel_rfl)
    |1,ht=>simp at ht;subst ht;exact(show Tryz.prog.wantsStandIn 34=false by as_aux_lemma=>kernel_rfl)
    |2,ht=>simp at ht;subst ht;exact(show Tryz.prog.wantsStandIn 3=false by as_aux_lemma=>kernel_rfl)
    |j+3,ht=>simp at ht⟩)
  (by as_aux_lemma=>kernel_rfl)
#print axioms eventUnknown_card
end Go.Proofs.YtffdedmakncfmaaGreatDoor
