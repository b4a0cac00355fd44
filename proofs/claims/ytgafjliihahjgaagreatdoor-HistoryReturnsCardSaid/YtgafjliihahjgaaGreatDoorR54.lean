/-
The law HistoryReturns of package klippelaw30 returns true for every plan and every place by three small numbers, and the deeds read afterwards as they read before.
Conditions: those of the given row alone: the package-level variables that it lists hold at the start what the program's text lays (the given tie closes that); nothing is asked of the arguments beyond what a Go program can hold.
How: an executable engine over abstract values, proved sound over the library's fenced calculus (parts R01 to R08), contracts of the program's functions by runs of that engine (R10 to R51), the plain laws of numbers, places, sheets and deeds (R09, R41, R46), the closed run of known by the kernel, cut into remembered calls (R36), small quotients by the kernel (R42 to R44), the law in stages (R51, R52), the row and its card (the last parts).
-/
import Derived.Test.YtgafjliihahjgaaGreatDoorR53
import Derived.Test.YtgafjliihahjgaaGreatDoorR52
import Derived.Deep.Slices
set_option linter.all false
set_option maxRecDepth 100000
set_option maxHeartbeats 40000000
namespace Go.Proofs.YtgafjliihahjgaaGreatDoor
open Go.ChangeShapes Go.WideShapes Go.ChangeAt Go.WideMaps Go.WideElems Go.RowKit Go.Eng
variable{cs:List Value}{fuel n:Nat}
section
variable {H:Type}{enc:TypeId×Value→H}{P:Program}{w:World}{base:Nat}{aad:Nat→Bool}{abI:Bool}
theorem SO{t e:TypeId}{x:DataW H×List MemPlace}(ht:P.underlying t=some (.slice e))(ce:P.cellsOf e=n)(h:DataW.trod enc P w base aad abI fuel t cs=some x):
  cs=[.slice none 0 0]∨∃(a:Addr) (len cap:Nat),cs=[.slice (some a) len cap]∧len≤cap∧cap≤maxLen∧(aad a.block=true→∀i,i<cap→∃vs:List Value,vs.length=n∧(∀j v,vs[j]? =some v→w.cell? (a.add (i*n+j))=some v)∧∃m y,DataW.trod enc P w base aad abI m e vs=some y):=by
 rcases Deep.open_slice ht h with h0 | ⟨a,len,cap,m,n',D,Pl,rfl,hb,hl,hm,hmm,rfl,hx⟩
 ·exact Or.inl h0.1
 right;refine⟨a,len,cap,rfl,hl,hm,fun hsp i hi=>?_⟩;rw[hsp,if_pos rfl] at hmm;obtain⟨Yf,h1,h2⟩:=hx i (by omega);rw[ce] at h1;obtain⟨_,F',XR⟩:=World.cells?_some h1;refine⟨Yf,F',fun j v hj=>?_,_,_,h2⟩;have:=XR j (by rw[←F'];exact(gL hj));rw[Deep.add_add] at this;rw[this,hj]
theorem rA{t e:TypeId}{x:DataW H×List MemPlace}(ht:P.underlying t=some (.array n e))(ce:P.cellsOf e=1)(h:DataW.trod enc P w base aad abI fuel t cs=some x)(i:Nat)(v:Value)(hi:i<n)(hv:cs[i]? =some v):
  ∃m y,DataW.trod enc P w base aad abI m e [v]=some y:=by
 obtain⟨xs,m,_,_,_,hl,hf⟩:=DataW.trod_array ht h;have:=hf i hi;rw[ce,Nat.mul_one] at this;have e1:(cs.drop i).take 1=[v]:=by have A':=(gL hv);rw[List.drop_eq_getElem_cons A'];rw[List.getElem?_eq_getElem A'] at hv;simp only[List.take_succ_cons,List.take_zero];rw[Option.some.inj hv]
 rw[e1] at this;exact⟨m,xs[i],by rw[this,List.getElem?_eq_getElem]⟩
end
theorem AQ{α β:Type}{f:α→List β}{n:Nat}(hf:∀a,(f a).length=n):∀(l:List α) (i r:Nat),r<n→(l.flatMap f)[i*n+r]? =(l[i]?).bind fun a=>(f a)[r]?
 | [],i,r,_=>by simp
 |a::l,0,r,hr=>by rw[List.flatMap_cons,Nat.zero_mul,Nat.zero_add,List.getElem?_append_left (by rw[hf];exact hr)];simp
 |a::l,i+1,r,hr=>by rw[List.flatMap_cons,List.getElem?_append_right (by rw[hf,Nat.succ_mul];omega),hf,Nat.succ_mul,show i*n+n+r-n=i*n+r by omega,AQ hf l i r hr];simp
theorem UA{W:World}{blk off cap es:Nat}{cur:Array Value}{el:TypeId}{fr:Nat×Nat}{cs:List AV}(hb:W.heap[blk]? =some (.cells cur el fr))(Y7:0<es∧es<1000)(ZW:cs.length≤cap)(hc:∀j u,cs[j]? =some u→∃V,cur[off+j]? =some V∧∀μ m,aeA μ m u V):aeL W.heap.size (fun _=>⟨blk,off,cap,es⟩) [.cells false es cs] W:=by
 refine⟨Nat.le_refl _,?_,?_⟩
 ·intro b s hs
  cases b with
  |succ b=>simp at hs
  |zero=>
   simp at hs;subst hs;simp only[aeO];refine⟨cur,el,fr,hb,⟨by show es=es%1000;omega,fun h=>by omega⟩,ZW,fun j v hj=>?_,fun h=>by cases h⟩;obtain⟨V,h1,h2⟩:=hc j v hj;exact⟨V,h1,h2 _ _⟩
 ·rintro b b' s' ⟨s,hs,ho⟩
  cases b with
  |succ b=>simp at hs
  |zero=>simp at hs;subst hs;cases ho
end Go.Proofs.YtgafjliihahjgaaGreatDoor
namespace Go.Proofs.YtgafjliihahjgaaGreatDoor
open Go.ChangeShapes Go.WideShapes Go.ChangeAt Go.WideMaps Go.WideElems Go.RowKit Go.Eng
def VN(d:aeN):List Value:=[.int .u8 d.kind,.int .i8 d.A.1,.int .i8 d.A.2.1,.int .i8 d.A.2.2,.int .i8 d.B.1,.int .i8 d.B.2.1,.int .i8 d.B.2.2,.int .i8 d.N,.int .u8 d.K.1,.int .u8 d.K.2.1,.int .u8 d.K.2.2.1,.int .u8 d.K.2.2.2]
theorem Ur(d:aeN)(r:Nat)(u:AV)(h:d.cells[r]? =some u):∃V,(VN d)[r]? =some V∧∀μ m,aeA μ m u V:=by
 unfold aeN.cells at h
 match r,h with
 |0,h | 1,h | 2,h | 3,h | 4,h | 5,h | 6,h | 7,h | 8,h | 9,h | 10,h | 11,h=>simp at h;subst h;exact⟨_,rfl,fun μ m=>by simp[aeA]⟩
 |r+12,h=>simp at h
variable{b0:Nat}{v x:Value}
section
variable {H:Type}{enc:TypeId×Value→H}{W:World}
theorem wY{n:Nat}{y:DataW H×List MemPlace}(hx:DataW.trod enc Tryz.prog W 0 (fun _=>true) true n 5 [x]=some y):∃k:Nat,k<256∧x=.int .u8 (k:Int):=by obtain⟨z,hz,_,hw⟩:=DataW.trod_int Tryz.underlying5 hx;simp only[List.cons.injEq,and_true] at hz;simp only[Lit.wf,Bool.and_eq_true,decide_eq_true_eq] at hw;have h1:IntKind.u8.min=0:=rfl;have h2:IntKind.u8.max=255:=rfl;rw[h1,h2] at hw;exact⟨z.toNat,by omega,by rw[hz,Int.toNat_of_nonneg hw.1]⟩
theorem jO{n:Nat}{y:DataW H×List MemPlace}(hx:DataW.trod enc Tryz.prog W 0 (fun _=>true) true n 22 [x]=some y):∃k:Int,yY k∧x=.int .i8 k:=by obtain⟨z,hz,_,hw⟩:=DataW.trod_int Tryz.underlying22 hx;simp only[List.cons.injEq,and_true] at hz;exact⟨z,bounds_i8 hw,hz⟩
theorem SM{n:Nat}{y:DataW H×List MemPlace}{vs:List Value}(hl:vs.length=12)(hx:DataW.trod enc Tryz.prog W 0 (fun _=>true) true n 94 vs=some y):∃d:aeN,d.Ok∧vs=VN d:=by
 obtain⟨xs,k,hk,hxy,_,hxl,hf⟩:=DataW.trod_struct Tryz.underlying94 hx
 match xs,hxl,vs,hl with
 | [y0,y1,y2,y3,y4],_,[v0,v1,v2,v3,v4,v5,v6,v7,v8,v9,v10,v11],_=>
  have g0:=hf 0 _ rfl;have g1:=hf 1 _ rfl;have g2:=hf 2 _ rfl;have g3:=hf 3 _ rfl;have g4:=hf 4 _ rfl;have c0:Tryz.prog.cellsOf 5=1:=by kernel_rfl
  have c1:Tryz.prog.cellsOf 22=1:=by kernel_rfl
  have c2:Tryz.prog.cellsOf 55=3:=by kernel_rfl
  have c3:Tryz.prog.cellsOf 92=4:=by kernel_rfl
  simp[c0,c1,c2,c3] at g0 g1 g2 g3 g4;obtain⟨k0,l0,rfl⟩:=wY g0;obtain⟨k7,l7,rfl⟩:=jO g3;have a:=rA Tryz.underlying55 c1 g1;have b:=rA Tryz.underlying55 c1 g2;have c:=rA Tryz.underlying92 c0 g4;obtain⟨_,_,t1⟩:=a 0 v1 (by decide) rfl;obtain⟨_,_,t2⟩:=a 1 v2 (by decide) rfl;obtain⟨_,_,t3⟩:=a 2 v3 (by decide) rfl;obtain⟨_,_,t4⟩:=b 0 v4 (by decide) rfl;obtain⟨_,_,t5⟩:=b 1 v5 (by decide) rfl;obtain⟨_,_,t6⟩:=b 2 v6 (by decide) rfl;obtain⟨_,_,t8⟩:=c 0 v8 (by decide) rfl;obtain⟨_,_,t9⟩:=c 1 v9 (by decide) rfl;obtain⟨_,_,t10⟩:=c 2 v10 (by decide) rfl;obtain⟨_,_,t11⟩:=c 3 v11 (by decide) rfl;obtain⟨k1,l1,rfl⟩:=jO t1;obtain⟨k2,l2,rfl⟩:=jO t2;obtain⟨k3,l3,rfl⟩:=jO t3;obtain⟨k4,l4,rfl⟩:=jO t4;obtain⟨k5,l5,rfl⟩:=jO t5;obtain⟨k6,l6,rfl⟩:=jO t6;obtain⟨k8,l8,rfl⟩:=wY t8;obtain⟨k9,l9,rfl⟩:=wY t9;obtain⟨k10,l10,rfl⟩:=wY t10;obtain⟨k11,l11,rfl⟩:=wY t11;exact⟨⟨k0,(k1,k2,k3),(k4,k5,k6),k7,(k8,k9,k10,k11)⟩,⟨l0,⟨l1,l2,l3⟩,⟨l4,l5,l6⟩,l7,⟨l8,l9,l10,l11⟩⟩,rfl⟩
theorem PT{n:Nat}{x:DataW H×List MemPlace}(Yy:Cell.okWide Tryz.prog W .any b0 26 v)(h:DataW.trod enc Tryz.prog W 0 (fun _=>true) true n 26 [v]=some x):
  v=.slice none 0 0∨∃(μ:Nat→Eng.Place) (ds:List aeN),(∀d∈ds,d.Ok)∧aeL W.heap.size μ [.cells false 12 (fO ds)] W∧aeA μ 1 (.slice 0 0 ds.length none) v:=by
 have hu:=Tryz.underlying26;simp only[Cell.okWide,hu] at Yy;rcases SO hu (n:=12) (by kernel_rfl) h with h1 | ⟨a',aaW,acZ,h1,h2,h3,h4⟩
 ·left
  simpa using h1
 ·right
  simp only[List.cons.injEq,and_true] at h1;subst h1;simp only[Cell.ok,hu] at Yy;obtain⟨_,_,_,hsp,row,cells,ZY,_⟩:=Yy;have h7:=h4 rfl;obtain⟨q,hq⟩:=Deep.choose_lt h7;obtain⟨cur,el,fr,hb⟩:∃cur el fr,W.heap[a'.block]? =some (.cells cur el fr):=by
   unfold World.shape? at ZY;split at ZY
   ·rename_i c e f hh;exact⟨_,_,_,hh⟩
   ·cases ZY
  obtain⟨blk,off,aez⟩:=a';simp only at hsp hb;subst hsp;have cell:∀k,W.cell? ((⟨blk,off,none⟩:Addr).add k)=cur[off+k]? :=by intro k;rw[show(⟨blk,off,none⟩:Addr).add k=⟨blk,off+k,none⟩ from add_plain _ _ _];unfold World.cell?;simp only;rw[hb];rfl
  have hk:∀i,i<acZ →∃d:aeN,d.Ok∧q i=VN d:=by intro i hi;obtain⟨g1,_,m,y,g3⟩:=hq i hi;exact SM g1 g3
  have:Inhabited aeN:=⟨⟨0,(0,0,0),(0,0,0),0,(0,0,0,0)⟩⟩;obtain⟨g,hg⟩:=Deep.choose_lt hk;obtain⟨B,hB⟩:∃B,B=(List.range aaW).map g:=⟨_,rfl⟩
  have F':B.length=aaW :=by rw[hB];simp
  have Yk:∀i,i<aaW →B[i]? =some (g i):=fun i hi=>by rw[hB];simp[hi]
  have hdl:(fO B).length=aaW *12:=by
   rw[←F'];clear F' hB Yk;induction B with
   |nil=>rfl
   |cons d B ih=>simp only[fO,List.flatMap_cons,List.length_append,List.length_cons] at ih ⊢;rw[ih];simp[aeN.cells];omega
  refine⟨fun _=>⟨blk,off,acZ *12,12⟩,B,fun b hb=>?_,UA hb (by decide) (by rw[hdl];omega) fun j u hj=>?_,?_⟩
  ·rw[hB,List.mem_map] at hb
   obtain⟨i,hi,rfl⟩:=hb;exact(hg i (by have:=List.mem_range.1 hi;omega)).1
  ·have hj2:j<aaW *12:=by have:=(gL hj);rw[hdl] at this;exact this
   have hi:j / 12<aaW :=by omega
   have hr:j%12<12:=Nat.mod_lt _ (by decide);have ZU:j / 12*12+j%12=j:=by omega
   have h1:=AQ (f:=aeN.cells) (n:=12) (fun _=>rfl) B (j / 12) (j%12) hr;rw[ZU,show B.flatMap aeN.cells=fO B from rfl,hj,Yk _ hi] at h1;simp only[Option.bind_some] at h1;obtain⟨V,k1,k2⟩:=Ur (g (j / 12)) (j%12) u h1.symm;obtain⟨_,k3,_⟩:=hq (j / 12) (by omega);rw[(hg (j / 12) (by omega)).2] at k3;have:=k3 _ _ k1;rw[cell,ZU] at this;exact⟨V,this,k2⟩
  ·simp only[aeA,jh]
   refine⟨by omega,?_⟩;rw[F',Nat.add_zero,Nat.sub_zero,Nat.mul_div_cancel _ (by omega)]
theorem SN{d:DataW H}{p:List MemPlace}(Yy:Value.okWide Tryz.prog W .any b0 28 v)(h:DataW.Trod enc Tryz.prog W 0 (fun _=>true) true 28 v d p):
  ∃(s:aeE) (sl:Value),s.Ok∧v=.agg #[.int .u8 (s.kind:Int),.int .i8 s.sx,.int .i8 s.sy,.bool s.half,sl]∧
   (sl=.slice none 0 0∨∃(μ:Nat→Eng.Place) (ds:List aeN),(∀d∈ds,d.Ok)∧aeL W.heap.size μ [.cells false 12 (fO ds)] W∧aeA μ 1 (.slice 0 0 ds.length none) sl):=by
 obtain⟨fuel,hf⟩:=h;have hu:=Tryz.underlying28;simp only[Value.okWide,hu] at Yy;obtain⟨cs,rfl,YO,ts,hts,_,YE⟩:=Yy;have Y3:(Value.agg cs).cells.toList.length=5:=by simp only[Value.cells,Array.length_toList,YO];kernel_rfl
 obtain⟨xs,k,hk,hxy,_,hxl,hg⟩:=DataW.trod_struct hu hf;obtain⟨vs,ZB⟩:∃vs,vs=(Value.agg cs).cells.toList:=⟨_,rfl⟩
 rw[←ZB] at Y3 hg
 match xs,hxl,vs,Y3 with
 | [y0,y1],_,[v0,v1,v2,v3,v4],_=>
  have g0:=hg 0 _ rfl;have g1:=hg 1 _ rfl;have c0:Tryz.prog.cellsOf 25=4:=by kernel_rfl
  have c1:Tryz.prog.cellsOf 26=1:=by kernel_rfl
  simp[c0,c1] at g0 g1;obtain⟨zs,k',hk',_,_,hzl,hz⟩:=DataW.trod_struct Tryz.underlying25 g0
  match zs,hzl with
  | [z0,z1,z2],_=>
   have f0:=hz 0 _ rfl;have f1:=hz 1 _ rfl;have f2:=hz 2 _ rfl;have d0:Tryz.prog.cellsOf 5=1:=by kernel_rfl
   have d1:Tryz.prog.cellsOf 23=2:=by kernel_rfl
   have d2:Tryz.prog.cellsOf 4=1:=by kernel_rfl
   have d3:Tryz.prog.cellsOf 22=1:=by kernel_rfl
   simp[d0,d1,d2] at f0 f1 f2;obtain⟨k0,l0,rfl⟩:=wY f0;obtain⟨_,_,t1⟩:=rA Tryz.underlying23 d3 f1 0 v1 (by decide) rfl;obtain⟨_,_,t2⟩:=rA Tryz.underlying23 d3 f1 1 v2 (by decide) rfl;obtain⟨k1,l1,rfl⟩:=jO t1;obtain⟨k2,l2,rfl⟩:=jO t2;obtain⟨bv,hbv,_⟩:=DataW.trod_bool Tryz.underlying4 f2;simp only[List.cons.injEq,and_true] at hbv;subst hbv;have e4:cs[4]? =some v4:=by have:(Value.agg cs).cells.toList=cs.toList:=rfl;rw[this] at ZB;have:=congrArg (fun l=>l[4]?) ZB;simpa using this.symm
   obtain⟨u,hu4,XW⟩:=YE 4 v4 e4;have aef :Tryz.prog.cellTypes Tryz.prog.depth 28=some [5,22,22,4,26]:=by kernel_rfl
   rw[aef] at hts;cases hts;simp at hu4;subst hu4;refine⟨⟨k0,k1,k2,bv⟩,v4,⟨l0,l1.1,l1.2,l2.1,l2.2⟩,?_,PT XW g1⟩;congr 1;apply Array.ext';have:(Value.agg cs).cells.toList=cs.toList:=rfl;rw[this] at ZB;rw[←ZB]
end
end Go.Proofs.YtgafjliihahjgaaGreatDoor
namespace Go.Proofs.YtgafjliihahjgaaGreatDoor
open Go.ChangeShapes Go.WideShapes Go.ChangeAt Go.WideMaps Go.WideElems Go.RowKit Go.Eng
theorem NH{μ:Nat→Eng.Place}{n:Nat}{s:aeE}{a:AV}{sl:Value}(h:aeA μ n a sl):aeA μ n (iA s a) (.agg #[.int .u8 (s.kind:Int),.int .i8 s.sx,.int .i8 s.sy,.bool s.half,sl]):=by unfold iA;simp only[aeA];exact⟨_,rfl,bo.2 ⟨by simp[aeA],bo.2 ⟨by simp[aeA],bo.2 ⟨by simp[aeA],bo.2 ⟨by simp[aeA],bo.2 ⟨h,by simp[aeC]⟩⟩⟩⟩⟩⟩
theorem Mr(W:World):aeL W.heap.size (fun _=>⟨0,0,0,0⟩) [.kO] W:=by
 refine⟨Nat.le_refl _,fun b x hx=>?_,?_⟩
 ·match b,hx with
  |0,hx=>cases hx;simp[aeO]
  |b+1,hx=>simp at hx
 ·rintro b b' s' ⟨s,hs,ho⟩
  match b,hs with
  |0,hs=>cases hs;cases ho
  |b+1,hs=>simp at hs
theorem Kn:∀b,¬ei [.kO] b:=by
 rintro b ⟨s,hs,ho⟩
 match b,hs with
 |0,hs=>cases hs;cases ho
 |b+1,hs=>simp at hs
section
variable {H:Type}{enc:TypeId×Value→H}{W:World}
end
end Go.Proofs.YtgafjliihahjgaaGreatDoor
namespace Go.Proofs.YtgafjliihahjgaaGreatDoor
open Go.ChangeShapes Go.WideShapes Go.ChangeAt Go.WideMaps Go.WideElems Go.RowKit Go.Eng
section
variable {H:Type}{enc:TypeId×Value→H}{W:World}
theorem Wc{b0:Nat}{v:Value}{d:DataW H}{p:List MemPlace}(Yy:Value.okWide Tryz.prog W .any b0 55 v)(h:DataW.Trod enc Tryz.prog W 0 (fun _=>true) true 55 v d p):
  ∃x:Z3,z8 x∧∀μ m,aeA μ m (zB x) v:=by
 obtain⟨fuel,hf⟩:=h;have hu:=Tryz.underlying55;simp only[Value.okWide,hu] at Yy;obtain⟨cs,rfl,YO,_⟩:=Yy;have Y3:(Value.agg cs).cells.toList.length=3:=by simp only[Value.cells,Array.length_toList,YO];kernel_rfl
 obtain⟨vs,ZB⟩:∃vs,vs=(Value.agg cs).cells.toList:=⟨_,rfl⟩
 rw[←ZB] at Y3 hf
 match vs,Y3 with
 | [w0,w1,w2],_=>
  have c1:Tryz.prog.cellsOf 22=1:=by kernel_rfl
  have a:=rA hu c1 hf;obtain⟨_,_,t0⟩:=a 0 w0 (by decide) rfl;obtain⟨_,_,t1⟩:=a 1 w1 (by decide) rfl;obtain⟨_,_,t2⟩:=a 2 w2 (by decide) rfl;obtain⟨k0,l0,rfl⟩:=jO t0;obtain⟨k1,l1,rfl⟩:=jO t1;obtain⟨k2,l2,rfl⟩:=jO t2;refine⟨(k0,k1,k2),⟨l0,l1,l2⟩,fun μ m=>?_⟩;have e:cs.toList=[.int .i8 k0,.int .i8 k1,.int .i8 k2]:=ZB.symm;simp only[aeA,zB];refine⟨[.int .i8 k0,.int .i8 k1,.int .i8 k2],?_,by simp[aeC,aeA]⟩;rw[←e]
end
theorem qm(os:Os)(aaa:os.Started)(H:Type)(enc:TypeId×Value→H):
  ReturnsInHanded {} Tryz.checked os 4 .any (fun w args=>(Rows.historyReturnsSpec.pre enc Tryz.prog Tryz.f4 [] false w args∧laidMetH Tryz.prog oa w)∧sizedMet enc Tryz.prog Tryz.f4 (OpenSpec.ofChange Rows.historyReturnsSpec) false w args)
   (Rows.historyReturnsSpec.post enc Tryz.prog Tryz.f4 false true false false):=by
 refine returnsInHanded_of_change_and (C:=Tryz.checked) (X:=fun w _=>laidMetH Tryz.prog oa w) (fun _ _ _ hh h=>h.of_heap hh) own aaa (by kernel_rfl) Tryz.func4
  (ChangeSpec.witness_shaped (enc:=enc) (C:=Tryz.checked) (os:=os) (X:=fun w _=>laidMetH Tryz.prog oa w) false (World.doorLaid Tryz.prog 400 os) #[.agg #[.int .u8 0,.int .i8 0,.int .i8 0,.bool false,.slice none 0 0],.agg #[.int .i8 0,.int .i8 0,.int .i8 0]] 8 rfl (World.shaped_of_RefB (by kernel_rfl) (by kernel_rfl)) (by kernel_rfl) (by kernel_rfl) (by kernel_rfl) (Ut os _)) ?_
 intro W base args ds gs Yr acr hW _ _ hL _;have Yy:∀(j:Nat) t v,Tryz.f4.params[j]? =some t→args[j]? =some v→Value.okWide Tryz.prog W .any base t v:=acr
 have hW' :=hW;obtain⟨p,q,hA0,hV,hpq,hfz,Z0⟩:=hW;have hA:DataW.TrodAll enc Tryz.prog W 0 (fun _=>true) true Tryz.f4.params.toList args.toList ds p:=hA0;have ac0:Tryz.f4.params= #[28,55]:=rfl;rw[ac0] at hA Yy;obtain⟨v0,v1,d0,d1,p0,p1,Zi,rfl,rfl,h0,h1⟩:=trodAll_two hA;subst Zi;obtain⟨rfl,rfl⟩:=trodVars_none hV;have hG:=J5 hL;have A':∀x∈Yr,x.block<W.heap.size:=hW'.lt
 have Zg:∀(W' :World),Below W.heap.size W W' →Rows.historyReturnsSpec.post enc Tryz.prog Tryz.f4 false true false false W #[v0,v1] (.bool true) W' :=by
  intro W' hb;refine SS rfl hW' hb hpq rfl rfl rfl fun sp hsp=>?_
  rw[ac0];rw[List.append_nil];have hm:∀x∈p0++p1,x∈Yr:=fun x hx=>by rw[hpq,List.append_nil];exact hx
  have m0:∀x∈p0,x∈p0++p1:=fun x hx=>List.mem_append_left _ hx
  have m1:∀x∈p1,x∈p0++p1:=fun x hx=>List.mem_append_right _ hx
  exact trodAll_mk2 (Trod_stays Sp (by kernel_rfl) (of_decide_eq_true (by kernel_rfl)) h0 (fun x hx=>hb.same (A' x (hm x (m0 x hx)))) (fun x hx=>hsp x (hm x (m0 x hx))))
   (Trod_stays Sp (by kernel_rfl) (of_decide_eq_true (by kernel_rfl)) h1 (fun x hx=>hb.same (A' x (hm x (m1 x hx)))) (fun x hx=>hsp x (hm x (m1 x hx))))
 obtain⟨s,sl,hs,hv,YT⟩:=SN (Yy 0 28 v0 rfl rfl) h0;obtain⟨x,hx,hdv⟩:=Wc (Yy 1 55 v1 rfl rfl) h1;rcases YT with hn | ⟨μ,D,hD,hH,ZB⟩
 ·refine((jP s hs [] (fun d h=>by cases h) .kO .kK (.inl ⟨rfl,rfl⟩) (.inl rfl) x hx).2 W.heap.size _ W [v0,v1] hG (Mr W) (bo.2 ⟨by rw[hv];exact NH (by rw[hn];simp[aeA]),bo.2 ⟨hdv _ _,by simp[aeC]⟩⟩)).mono ?_
  rintro e W' ⟨V,v',m',μ',rfl,q1,q2,q3,rfl,rfl⟩;simp only[aeA] at q1;subst q1;exact⟨_,rfl,Zg W' (Sk q3 Kn)⟩
 ·refine((jP s hs D hD (.cells false 12 (fO D)) (.slice 0 0 D.length none) (.inr ⟨rfl,rfl⟩) (.inr rfl) x hx).2 W.heap.size μ W [v0,v1] hG hH (bo.2 ⟨by rw[hv];exact NH ZB,bo.2 ⟨hdv _ _,by simp[aeC]⟩⟩)).mono ?_
  rintro e W' ⟨V,v',m',μ',rfl,q1,q2,q3,rfl,rfl⟩;simp only[aeA] at q1;subst q1;exact⟨_,rfl,Zg W' (Sk q3 (SF _ _))⟩
end Go.Proofs.YtgafjliihahjgaaGreatDoor
namespace Go.Proofs.YtgafjliihahjgaaGreatDoor
open Go.ChangeShapes Go.WideShapes Go.ChangeAt Go.WideMaps Go.WideElems Go.RowKit Go.Eng
theorem uX:Rows.HistoryReturnsSaid:=
 OpenClaim.holds_of_wide 4 Tryz.f4 rfl rfl rfl rfl rfl rfl rfl ⟨rfl,rfl,rfl,rfl,rfl⟩ rfl rfl rfl rfl rfl (by as_aux_lemma=>kernel_rfl) Tryz.func4 rM
  (of_decide_eq_true (by as_aux_lemma=>kernel_rfl)) (by unfold Func.isWrapper;first | (rw[if_pos (by decide +kernel)];kernel_rfl) | (rw[if_neg (by decide +kernel)];exact⟨rfl,rfl⟩))
  (fun os aaa H enc _=>qm os aaa H enc)
end Go.Proofs.YtgafjliihahjgaaGreatDoor
namespace Go.Proofs.YtgafjliihahjgaaGreatDoor
open Go.ChangeShapes Go.WideShapes Go.ChangeAt Go.WideMaps Go.WideElems Go.RowKit Go.Eng
theorem historyReturns_card:Rows.HistoryReturnsCardSaid:=
 Claim7.holds_tied_plain_at .later [] [.data,.data,.data,.sentinel,.sentinel] true (true,"38f41fdbcb41c24cbc49437be12605b477909db92ecfa6392cc0b6bdb1584288") true
  uX (fun _ h=>by cases h) (by as_aux_lemma=>kernel_rfl) (fun _ h=>by cases h) historyReturns_row_tie rfl ⟨rfl,rfl⟩ (by as_aux_lemma=>kernel_rfl) rfl
  (fun f fn hf hfn=>by
   obtain rfl:f=4:=Option.some.inj ((show Tryz.prog.funcNamed Rows.historyReturnsRow.func=some 4 by as_aux_lemma=>kernel_rfl).symm.trans hf) |>.symm
   obtain rfl:fn=Tryz.f4:=(Option.some.inj (Tryz.func4.symm.trans hfn)).symm;exact⟨by as_aux_lemma=>kernel_rfl,fun j t ht=>by
    have hp:Tryz.f4.params= #[28,55]:=rfl;rw[hp] at ht
    match j,ht with
    |0,ht=>simp at ht;subst ht;exact(show Tryz.prog.wantsStandIn 28=false by as_aux_lemma=>kernel_rfl)
    |1,ht=>simp at ht;subst ht;exact(show Tryz.prog.wantsStandIn 55=false by as_aux_lemma=>kernel_rfl)
    |j+2,ht=>simp at ht⟩)
  (by as_aux_lemma=>kernel_rfl)
#print axioms historyReturns_card
end Go.Proofs.YtgafjliihahjgaaGreatDoor
