/-
The law HistoryMoves of package klippelaw30 returns true for every plan, every place by three small numbers and every index, and the deeds read afterwards as they read before.
Conditions: those of the given row alone: the package-level variables that it lists hold at the start what the program's text lays (the given tie closes that); nothing is asked of the arguments beyond what a Go program can hold.
How: an executable engine over abstract values, proved sound over the library's fenced calculus (parts Q01 to Q08), contracts of the program's functions by runs of that engine (Q10 to Q52), the plain laws of numbers, places, sheets and deeds (Q09, Q41, Q48), the closed run of known by the kernel, cut into remembered calls (Q36), small quotients by the kernel (Q42 to Q44), the law in stages (Q51, Q52), the row and its card (the last parts).
-/
import Derived.Test.YtgafjliihahjgaaGreatDoorQ53
import Derived.Test.YtgafjliihahjgaaGreatDoorQ52
import Derived.Deep.Slices
set_option linter.all false
namespace Go.Proofs.YtgafjliihahjgaaGreatDoor
open Go.ChangeShapes Go.WideShapes Go.ChangeAt Go.WideMaps Go.WideElems Go.RowKit Go.Eng
section
variable {H:Type}{enc:TypeId×Value→H}{P:Program}{w:World}{base:Nat}{spare:Nat→Bool}{held:Bool}
theorem PJ{n:Nat}{t e:TypeId}{fuel:Nat}{cs:List Value}{x:DataW H×List MemPlace}(ht:P.underlying t=some (.slice e)) (ce:P.cellsOf e=n) (h:DataW.trod enc P w base spare held fuel t cs=some x):
  cs=[.slice none 0 0]∨∃(a:Addr) (len cap:Nat),cs=[.slice (some a) len cap]∧len≤cap∧cap≤maxLen∧(spare a.block=true→∀i,i<cap→∃vs:List Value,vs.length=n∧(∀j v,vs[j]? =some v→w.cell? (a.add (i*n+j))=some v)∧∃m y,DataW.trod enc P w base spare held m e vs=some y):=by
 rcases Deep.open_slice ht h with h0 | ⟨a,len,cap,m,n',D,Pl,rfl,hb,hl,hm,hmm,rfl,hx⟩
 ·exact Or.inl h0.1
 right;refine⟨a,len,cap,rfl,hl,hm,fun hsp i hi=>?_⟩;rw[hsp,if_pos rfl] at hmm;obtain⟨cs',h1,h2⟩:=hx i (by omega);rw[ce] at h1;obtain⟨_,hlen,hcell⟩:=World.cells?_some h1;refine⟨cs',hlen,fun j v hj=>?_,_,_,h2⟩;have:=hcell j (by rw[←hlen];exact(List.getElem?_eq_some_iff.1 hj).1);rw[Deep.add_add] at this;rw[this,hj]
theorem pD{n:Nat}{t e:TypeId}{fuel:Nat}{cs:List Value}{x:DataW H×List MemPlace}(ht:P.underlying t=some (.array n e)) (ce:P.cellsOf e=1) (h:DataW.trod enc P w base spare held fuel t cs=some x) (i:Nat) (v:Value) (hi:i<n) (hv:cs[i]? =some v):
  ∃m y,DataW.trod enc P w base spare held m e [v]=some y:=by
 obtain⟨xs,m,_,_,_,hl,hf⟩:=DataW.trod_array ht h;have:=hf i hi;rw[ce,Nat.mul_one] at this;have e1:(cs.drop i).take 1=[v]:=by have hlt:=(List.getElem?_eq_some_iff.1 hv).1;rw[List.drop_eq_getElem_cons hlt];rw[List.getElem?_eq_getElem hlt] at hv;simp only[List.take_succ_cons,List.take_zero];rw[Option.some.inj hv]
 rw[e1] at this;exact⟨m,xs[i],by rw[this,List.getElem?_eq_getElem]⟩
end
theorem yT{α β:Type}{f:α→List β}{n:Nat}(hf:∀a,(f a).length=n):∀(l:List α) (i r:Nat),r<n→(l.flatMap f)[i*n+r]? =(l[i]?).bind fun a=>(f a)[r]?
 | [],i,r,_=>by simp
 |a::l,0,r,hr=>by rw[List.flatMap_cons,Nat.zero_mul,Nat.zero_add,List.getElem?_append_left (by rw[hf];exact hr)];simp
 |a::l,i+1,r,hr=>by rw[List.flatMap_cons,List.getElem?_append_right (by rw[hf,Nat.succ_mul];omega),hf,Nat.succ_mul,show i*n+n+r-n=i*n+r by omega,yT hf l i r hr];simp
theorem Rd{W:World}{blk off cap es:Nat}{cur:Array Value}{el:TypeId}{fr:Nat×Nat}{cs:List AV}(hb:W.heap[blk]? =some (.cells cur el fr)) (hes:0<es∧es<1000) (hcap:cs.length≤cap)
  (hc:∀j u,cs[j]? =some u→∃V,cur[off+j]? =some V∧∀μ m,VRel μ m u V):HRel W.heap.size (fun _=>⟨blk,off,cap,es⟩) [.cells false es cs] W:=by
 refine⟨Nat.le_refl _,?_,?_⟩
 ·intro b s hs
  cases b with
  |succ b=>simp at hs
  |zero=>
   simp at hs;subst hs;simp only[SRel];refine⟨cur,el,fr,hb,⟨by show es=es%1000;omega,fun h=>by omega⟩,hcap,fun j v hj=>?_,fun h=>by cases h⟩;obtain⟨V,h1,h2⟩:=hc j v hj;exact⟨V,h1,h2 _ _⟩
 ·rintro b b' s' ⟨s,hs,ho⟩
  cases b with
  |succ b=>simp at hs
  |zero=>simp at hs;subst hs;cases ho
end Go.Proofs.YtgafjliihahjgaaGreatDoor
namespace Go.Proofs.YtgafjliihahjgaaGreatDoor
open Go.ChangeShapes Go.WideShapes Go.ChangeAt Go.WideMaps Go.WideElems Go.RowKit Go.Eng
def R6(d:Deed):List Value:=[.int .u8 d.kind,.int .i8 d.A.1,.int .i8 d.A.2.1,.int .i8 d.A.2.2,.int .i8 d.B.1,.int .i8 d.B.2.1,.int .i8 d.B.2.2,.int .i8 d.N,.int .u8 d.K.1,.int .u8 d.K.2.1,.int .u8 d.K.2.2.1,.int .u8 d.K.2.2.2]
theorem Q8(d:Deed) (r:Nat) (u:AV) (h:d.cells[r]? =some u):∃V,(R6 d)[r]? =some V∧∀μ m,VRel μ m u V:=by
 unfold Deed.cells at h
 match r,h with
 |0,h | 1,h | 2,h | 3,h | 4,h | 5,h | 6,h | 7,h | 8,h | 9,h | 10,h | 11,h=>simp at h;subst h;exact⟨_,rfl,fun μ m=>by simp[VRel]⟩
 |r+12,h=>simp at h
section
variable {H:Type}{enc:TypeId×Value→H}{W:World}
theorem uM{n:Nat}{y:DataW H×List MemPlace}{x:Value}(hx:DataW.trod enc Tryz.prog W 0 (fun _=>true) true n 5 [x]=some y):∃k:Nat,k<256∧x=.int .u8 (k:Int):=by obtain⟨z,hz,_,hw⟩:=DataW.trod_int Tryz.underlying5 hx;simp only[List.cons.injEq,and_true] at hz;simp only[Lit.wf,Bool.and_eq_true,decide_eq_true_eq] at hw;have h1:IntKind.u8.min=0:=rfl;have h2:IntKind.u8.max=255:=rfl;rw[h1,h2] at hw;exact⟨z.toNat,by omega,by rw[hz,Int.toNat_of_nonneg hw.1]⟩
theorem iQ{n:Nat}{y:DataW H×List MemPlace}{x:Value}(hx:DataW.trod enc Tryz.prog W 0 (fun _=>true) true n 22 [x]=some y):∃k:Int,xh k∧x=.int .i8 k:=by obtain⟨z,hz,_,hw⟩:=DataW.trod_int Tryz.underlying22 hx;simp only[List.cons.injEq,and_true] at hz;exact⟨z,bounds_i8 hw,hz⟩
set_option maxRecDepth 100000 in
theorem PH{n:Nat}{y:DataW H×List MemPlace}{vs:List Value}(hl:vs.length=12) (hx:DataW.trod enc Tryz.prog W 0 (fun _=>true) true n 94 vs=some y):∃d:Deed,d.Ok∧vs=R6 d:=by
 obtain⟨xs,k,hk,hxy,_,hxl,hf⟩:=DataW.trod_struct Tryz.underlying94 hx
 match xs,hxl,vs,hl with
 | [y0,y1,y2,y3,y4],_,[v0,v1,v2,v3,v4,v5,v6,v7,v8,v9,v10,v11],_=>
  have g0:=hf 0 _ rfl;have g1:=hf 1 _ rfl;have g2:=hf 2 _ rfl;have g3:=hf 3 _ rfl;have g4:=hf 4 _ rfl;have c0:Tryz.prog.cellsOf 5=1:=by kernel_rfl
  have c1:Tryz.prog.cellsOf 22=1:=by kernel_rfl
  have c2:Tryz.prog.cellsOf 55=3:=by kernel_rfl
  have c3:Tryz.prog.cellsOf 92=4:=by kernel_rfl
  simp[c0,c1,c2,c3] at g0 g1 g2 g3 g4;obtain⟨k0,l0,rfl⟩:=uM g0;obtain⟨k7,l7,rfl⟩:=iQ g3;have a:=pD Tryz.underlying55 c1 g1;have b:=pD Tryz.underlying55 c1 g2;have c:=pD Tryz.underlying92 c0 g4;obtain⟨_,_,t1⟩:=a 0 v1 (by decide) rfl;obtain⟨_,_,t2⟩:=a 1 v2 (by decide) rfl;obtain⟨_,_,t3⟩:=a 2 v3 (by decide) rfl;obtain⟨_,_,t4⟩:=b 0 v4 (by decide) rfl;obtain⟨_,_,t5⟩:=b 1 v5 (by decide) rfl;obtain⟨_,_,t6⟩:=b 2 v6 (by decide) rfl;obtain⟨_,_,t8⟩:=c 0 v8 (by decide) rfl;obtain⟨_,_,t9⟩:=c 1 v9 (by decide) rfl;obtain⟨_,_,t10⟩:=c 2 v10 (by decide) rfl;obtain⟨_,_,t11⟩:=c 3 v11 (by decide) rfl;obtain⟨k1,l1,rfl⟩:=iQ t1;obtain⟨k2,l2,rfl⟩:=iQ t2;obtain⟨k3,l3,rfl⟩:=iQ t3;obtain⟨k4,l4,rfl⟩:=iQ t4;obtain⟨k5,l5,rfl⟩:=iQ t5;obtain⟨k6,l6,rfl⟩:=iQ t6;obtain⟨k8,l8,rfl⟩:=uM t8;obtain⟨k9,l9,rfl⟩:=uM t9;obtain⟨k10,l10,rfl⟩:=uM t10;obtain⟨k11,l11,rfl⟩:=uM t11;exact⟨⟨k0,(k1,k2,k3),(k4,k5,k6),k7,(k8,k9,k10,k11)⟩,⟨l0,⟨l1,l2,l3⟩,⟨l4,l5,l6⟩,l7,⟨l8,l9,l10,l11⟩⟩,rfl⟩
set_option maxRecDepth 100000 in
theorem Nb{n:Nat}{x:DataW H×List MemPlace}{b0:Nat}{v:Value}(hval:Cell.okWide Tryz.prog W .any b0 26 v) (h:DataW.trod enc Tryz.prog W 0 (fun _=>true) true n 26 [v]=some x):
  v=.slice none 0 0∨∃(μ:Nat→Eng.Place) (ds:List Deed),(∀d∈ds,d.Ok)∧HRel W.heap.size μ [.cells false 12 (eO ds)] W∧VRel μ 1 (.slice 0 0 ds.length none) v:=by
 have hu:=Tryz.underlying26;simp only[Cell.okWide,hu] at hval;rcases PJ hu (n:=12) (by kernel_rfl) h with h1 | ⟨a',len',cap',h1,h2,h3,h4⟩
 ·left
  simpa using h1
 ·right
  simp only[List.cons.injEq,and_true] at h1;subst h1;simp only[Cell.ok,hu] at hval;obtain⟨_,_,_,hsp,row,cells,hsh,_⟩:=hval;have h7:=h4 rfl;obtain⟨q,hq⟩:=Deep.choose_lt h7;obtain⟨cur,el,fr,hb⟩:∃cur el fr,W.heap[a'.block]? =some (.cells cur el fr):=by
   unfold World.shape? at hsh;split at hsh
   ·rename_i c e f hh;exact⟨_,_,_,hh⟩
   ·cases hsh
  obtain⟨blk,off,spot⟩:=a';simp only at hsp hb;subst hsp;have cell:∀k,W.cell? ((⟨blk,off,none⟩:Addr).add k)=cur[off+k]? :=by intro k;rw[show(⟨blk,off,none⟩:Addr).add k=⟨blk,off+k,none⟩ from add_plain _ _ _];unfold World.cell?;simp only;rw[hb];rfl
  have hk:∀i,i<cap' →∃d:Deed,d.Ok∧q i=R6 d:=by intro i hi;obtain⟨g1,_,m,y,g3⟩:=hq i hi;exact PH g1 g3
  have:Inhabited Deed:=⟨⟨0,(0,0,0),(0,0,0),0,(0,0,0,0)⟩⟩;obtain⟨g,hg⟩:=Deep.choose_lt hk;obtain⟨B,hB⟩:∃B,B=(List.range len').map g:=⟨_,rfl⟩
  have hlen:B.length=len' :=by rw[hB];simp
  have hget:∀i,i<len' →B[i]? =some (g i):=fun i hi=>by rw[hB];simp[hi]
  have hdl:(eO B).length=len' *12:=by
   rw[←hlen];clear hlen hB hget;induction B with
   |nil=>rfl
   |cons d B ih=>simp only[eO,List.flatMap_cons,List.length_append,List.length_cons] at ih ⊢;rw[ih];simp[Deed.cells];omega
  refine⟨fun _=>⟨blk,off,cap' *12,12⟩,B,fun b hb=>?_,Rd hb (by decide) (by rw[hdl];omega) fun j u hj=>?_,?_⟩
  ·rw[hB,List.mem_map] at hb
   obtain⟨i,hi,rfl⟩:=hb;exact(hg i (by have:=List.mem_range.1 hi;omega)).1
  ·have hj2:j<len' *12:=by have:=(List.getElem?_eq_some_iff.1 hj).1;rw[hdl] at this;exact this
   have hi:j / 12<len' :=by omega
   have hr:j%12<12:=Nat.mod_lt _ (by decide);have hje:j / 12*12+j%12=j:=by omega
   have h1:=yT (f:=Deed.cells) (n:=12) (fun _=>rfl) B (j / 12) (j%12) hr;rw[hje,show B.flatMap Deed.cells=eO B from rfl,hj,hget _ hi] at h1;simp only[Option.bind_some] at h1;obtain⟨V,k1,k2⟩:=Q8 (g (j / 12)) (j%12) u h1.symm;obtain⟨_,k3,_⟩:=hq (j / 12) (by omega);rw[(hg (j / 12) (by omega)).2] at k3;have:=k3 _ _ k1;rw[cell,hje] at this;exact⟨V,this,k2⟩
  ·simp only[VRel,ib]
   refine⟨by omega,?_⟩;rw[hlen,Nat.add_zero,Nat.sub_zero,Nat.mul_div_cancel _ (by omega)]
set_option maxRecDepth 100000 in
theorem PI{b0:Nat}{v:Value}{d:DataW H}{p:List MemPlace}(hval:Value.okWide Tryz.prog W .any b0 28 v) (h:DataW.Trod enc Tryz.prog W 0 (fun _=>true) true 28 v d p):
  ∃(s:Sheet) (sl:Value),s.Ok∧v=.agg #[.int .u8 (s.kind:Int),.int .i8 s.sx,.int .i8 s.sy,.bool s.half,sl]∧
   (sl=.slice none 0 0∨∃(μ:Nat→Eng.Place) (ds:List Deed),(∀d∈ds,d.Ok)∧HRel W.heap.size μ [.cells false 12 (eO ds)] W∧VRel μ 1 (.slice 0 0 ds.length none) sl):=by
 obtain⟨fuel,hf⟩:=h;have hu:=Tryz.underlying28;simp only[Value.okWide,hu] at hval;obtain⟨cs,rfl,hcs,ts,hts,_,hrow⟩:=hval;have hcl:(Value.agg cs).cells.toList.length=5:=by simp only[Value.cells,Array.length_toList,hcs];kernel_rfl
 obtain⟨xs,k,hk,hxy,_,hxl,hg⟩:=DataW.trod_struct hu hf;obtain⟨vs,hvs⟩:∃vs,vs=(Value.agg cs).cells.toList:=⟨_,rfl⟩
 rw[←hvs] at hcl hg
 match xs,hxl,vs,hcl with
 | [y0,y1],_,[v0,v1,v2,v3,v4],_=>
  have g0:=hg 0 _ rfl;have g1:=hg 1 _ rfl;have c0:Tryz.prog.cellsOf 25=4:=by kernel_rfl
  have c1:Tryz.prog.cellsOf 26=1:=by kernel_rfl
  simp[c0,c1] at g0 g1;obtain⟨zs,k',hk',_,_,hzl,hz⟩:=DataW.trod_struct Tryz.underlying25 g0
  match zs,hzl with
  | [z0,z1,z2],_=>
   have f0:=hz 0 _ rfl;have f1:=hz 1 _ rfl;have f2:=hz 2 _ rfl;have d0:Tryz.prog.cellsOf 5=1:=by kernel_rfl
   have d1:Tryz.prog.cellsOf 23=2:=by kernel_rfl
   have d2:Tryz.prog.cellsOf 4=1:=by kernel_rfl
   have d3:Tryz.prog.cellsOf 22=1:=by kernel_rfl
   simp[d0,d1,d2] at f0 f1 f2;obtain⟨k0,l0,rfl⟩:=uM f0;obtain⟨_,_,t1⟩:=pD Tryz.underlying23 d3 f1 0 v1 (by decide) rfl;obtain⟨_,_,t2⟩:=pD Tryz.underlying23 d3 f1 1 v2 (by decide) rfl;obtain⟨k1,l1,rfl⟩:=iQ t1;obtain⟨k2,l2,rfl⟩:=iQ t2;obtain⟨bv,hbv,_⟩:=DataW.trod_bool Tryz.underlying4 f2;simp only[List.cons.injEq,and_true] at hbv;subst hbv;have e4:cs[4]? =some v4:=by have:(Value.agg cs).cells.toList=cs.toList:=rfl;rw[this] at hvs;have:=congrArg (fun l=>l[4]?) hvs;simpa using this.symm
   obtain⟨u,hu4,hok⟩:=hrow 4 v4 e4;have hts' :Tryz.prog.cellTypes Tryz.prog.depth 28=some [5,22,22,4,26]:=by kernel_rfl
   rw[hts'] at hts;cases hts;simp at hu4;subst hu4;refine⟨⟨k0,k1,k2,bv⟩,v4,⟨l0,l1.1,l1.2,l2.1,l2.2⟩,?_,Nb hok g1⟩;congr 1;apply Array.ext';have:(Value.agg cs).cells.toList=cs.toList:=rfl;rw[this] at hvs;rw[←hvs]
end
end Go.Proofs.YtgafjliihahjgaaGreatDoor
namespace Go.Proofs.YtgafjliihahjgaaGreatDoor
open Go.ChangeShapes Go.WideShapes Go.ChangeAt Go.WideMaps Go.WideElems Go.RowKit Go.Eng
theorem KZ{μ:Nat→Eng.Place}{n:Nat}{s:Sheet}{a:AV}{sl:Value}(h:VRel μ n a sl):VRel μ n (gx s a) (.agg #[.int .u8 (s.kind:Int),.int .i8 s.sx,.int .i8 s.sy,.bool s.half,sl]):=by unfold gx;simp only[VRel];exact⟨_,rfl,aY.2 ⟨by simp[VRel],aY.2 ⟨by simp[VRel],aY.2 ⟨by simp[VRel],aY.2 ⟨by simp[VRel],aY.2 ⟨h,by simp[VRels]⟩⟩⟩⟩⟩⟩
theorem JY(W:World):HRel W.heap.size (fun _=>⟨0,0,0,0⟩) [.absent] W:=by
 refine⟨Nat.le_refl _,fun b x hx=>?_,?_⟩
 ·match b,hx with
  |0,hx=>cases hx;simp[SRel]
  |b+1,hx=>simp at hx
 ·rintro b b' s' ⟨s,hs,ho⟩
  match b,hs with
  |0,hs=>cases hs;cases ho
  |b+1,hs=>simp at hs
theorem HQ:∀b,¬dF [.absent] b:=by
 rintro b ⟨s,hs,ho⟩
 match b,hs with
 |0,hs=>cases hs;cases ho
 |b+1,hs=>simp at hs
section
variable {H:Type}{enc:TypeId×Value→H}{W:World}
end
end Go.Proofs.YtgafjliihahjgaaGreatDoor
namespace Go.Proofs.YtgafjliihahjgaaGreatDoor
open Go.ChangeShapes Go.WideShapes Go.ChangeAt Go.WideMaps Go.WideElems Go.RowKit Go.Eng
section
variable {H:Type}{enc:TypeId×Value→H}{W:World}
set_option maxRecDepth 100000 in
theorem Sr{b0:Nat}{v:Value}{d:DataW H}{p:List MemPlace}(hval:Value.okWide Tryz.prog W .any b0 55 v) (h:DataW.Trod enc Tryz.prog W 0 (fun _=>true) true 55 v d p):
  ∃x:Z3,z8 x∧∀μ m,VRel μ m (zB x) v:=by
 obtain⟨fuel,hf⟩:=h;have hu:=Tryz.underlying55;simp only[Value.okWide,hu] at hval;obtain⟨cs,rfl,hcs,_⟩:=hval;have hcl:(Value.agg cs).cells.toList.length=3:=by simp only[Value.cells,Array.length_toList,hcs];kernel_rfl
 obtain⟨vs,hvs⟩:∃vs,vs=(Value.agg cs).cells.toList:=⟨_,rfl⟩
 rw[←hvs] at hcl hf
 match vs,hcl with
 | [w0,w1,w2],_=>
  have c1:Tryz.prog.cellsOf 22=1:=by kernel_rfl
  have a:=pD hu c1 hf;obtain⟨_,_,t0⟩:=a 0 w0 (by decide) rfl;obtain⟨_,_,t1⟩:=a 1 w1 (by decide) rfl;obtain⟨_,_,t2⟩:=a 2 w2 (by decide) rfl;obtain⟨k0,l0,rfl⟩:=iQ t0;obtain⟨k1,l1,rfl⟩:=iQ t1;obtain⟨k2,l2,rfl⟩:=iQ t2;refine⟨(k0,k1,k2),⟨l0,l1,l2⟩,fun μ m=>?_⟩;have e:cs.toList=[.int .i8 k0,.int .i8 k1,.int .i8 k2]:=hvs.symm;simp only[VRel,zB];refine⟨[.int .i8 k0,.int .i8 k1,.int .i8 k2],?_,by simp[VRels,VRel]⟩;rw[←e]
end
set_option maxRecDepth 100000 in
theorem rb(os:Os) (started:os.Started) (H:Type) (enc:TypeId×Value→H):
  ReturnsInHanded {} Tryz.checked os 5 .any (fun w args=>(Rows.historyMovesSpec.pre enc Tryz.prog Tryz.f5 [] false w args∧laidMetH Tryz.prog mG w)∧sizedMet enc Tryz.prog Tryz.f5 (OpenSpec.ofChange Rows.historyMovesSpec) false w args)
   (Rows.historyMovesSpec.post enc Tryz.prog Tryz.f5 false true false false):=by
 refine returnsInHanded_of_change_and (C:=Tryz.checked) (X:=fun w _=>laidMetH Tryz.prog mG w) (fun _ _ _ hh h=>h.of_heap hh) own started (by kernel_rfl) Tryz.func5
  (ChangeSpec.witness_shaped (enc:=enc) (C:=Tryz.checked) (os:=os) (X:=fun w _=>laidMetH Tryz.prog mG w) false (World.doorLaid Tryz.prog 400 os) #[.agg #[.int .u8 0,.int .i8 0,.int .i8 0,.bool false,.slice none 0 0],.agg #[.int .i8 0,.int .i8 0,.int .i8 0],.int .i64 0] 8 rfl (World.shaped_of_RefB (by kernel_rfl) (by kernel_rfl)) (by kernel_rfl) (by kernel_rfl) (by kernel_rfl) (Q9 os _)) ?_
 intro W base args ds gs before hval0 hW _ _ hL _;have hval:∀(j:Nat) t v,Tryz.f5.params[j]? =some t→args[j]? =some v→Value.okWide Tryz.prog W .any base t v:=hval0
 have hW' :=hW;obtain⟨p,q,hA0,hV,hpq,hfz,hnd⟩:=hW;have hA:DataW.TrodAll enc Tryz.prog W 0 (fun _=>true) true Tryz.f5.params.toList args.toList ds p:=hA0;have hpar:Tryz.f5.params= #[28,55,3]:=rfl;rw[hpar] at hA hval;obtain⟨v0,v1,v2,d0,d1,d2,p0,p1,p2,hargs,rfl,rfl,h0,h1,h2⟩:=trodAll_three hA;subst hargs;obtain⟨rfl,rfl⟩:=trodVars_none hV;have hG:=HC hL;have hlt:∀x∈before,x.block<W.heap.size:=hW'.lt
 have fin:∀(W' :World),Below W.heap.size W W' →Rows.historyMovesSpec.post enc Tryz.prog Tryz.f5 false true false false W #[v0,v1,v2] (.bool true) W' :=by
  intro W' hb;refine PO rfl hW' hb hpq rfl rfl rfl fun sp hsp=>?_
  rw[hpar];rw[List.append_nil,List.append_assoc];have hm:∀x∈p0++(p1++p2),x∈before:=fun x hx=>by rw[hpq,List.append_nil,List.append_assoc];exact hx
  have m0:∀x∈p0,x∈p0++(p1++p2):=fun x hx=>List.mem_append_left _ hx
  have m1:∀x∈p1,x∈p0++(p1++p2):=fun x hx=>List.mem_append_right _ (List.mem_append_left _ hx)
  have m2:∀x∈p2,x∈p0++(p1++p2):=fun x hx=>List.mem_append_right _ (List.mem_append_right _ hx)
  exact trodAll_mk3 (Trod_stays J4 (by kernel_rfl) (of_decide_eq_true (by kernel_rfl)) h0 (fun x hx=>hb.same (hlt x (hm x (m0 x hx)))) (fun x hx=>hsp x (hm x (m0 x hx))))
   (Trod_stays J4 (by kernel_rfl) (of_decide_eq_true (by kernel_rfl)) h1 (fun x hx=>hb.same (hlt x (hm x (m1 x hx)))) (fun x hx=>hsp x (hm x (m1 x hx))))
   (Trod_stays J4 (by kernel_rfl) (of_decide_eq_true (by kernel_rfl)) h2 (fun x hx=>hb.same (hlt x (hm x (m2 x hx)))) (fun x hx=>hsp x (hm x (m2 x hx))))
 obtain⟨s,sl,hs,hv,hsl⟩:=PI (hval 0 28 v0 rfl rfl) h0;obtain⟨x,hx,hdv⟩:=Sr (hval 1 55 v1 rfl rfl) h1;obtain⟨i,rfl,_,_,_⟩:=open_int Tryz.underlying3 (hval 2 3 v2 rfl rfl) h2;rcases hsl with hn | ⟨μ,D,hD,hH,hvs⟩
 ·refine((jY s hs [] (fun d h=>by cases h) .absent .nilslice (.inl ⟨rfl,rfl⟩) (.inl rfl) x hx i).2 W.heap.size _ W [v0,v1,.int .i64 i] hG (JY W) (aY.2 ⟨by rw[hv];exact KZ (by rw[hn];simp[VRel]),aY.2 ⟨hdv _ _,aY.2 ⟨by simp[VRel],by simp[VRels]⟩⟩⟩)).mono ?_
  rintro e W' ⟨V,v',m',μ',rfl,q1,q2,q3,rfl,rfl⟩;simp only[VRel] at q1;subst q1;exact⟨_,rfl,fin W' (Pm q3 HQ)⟩
 ·refine((jY s hs D hD (.cells false 12 (eO D)) (.slice 0 0 D.length none) (.inr ⟨rfl,rfl⟩) (.inr rfl) x hx i).2 W.heap.size μ W [v0,v1,.int .i64 i] hG hH (aY.2 ⟨by rw[hv];exact KZ hvs,aY.2 ⟨hdv _ _,aY.2 ⟨by simp[VRel],by simp[VRels]⟩⟩⟩)).mono ?_
  rintro e W' ⟨V,v',m',μ',rfl,q1,q2,q3,rfl,rfl⟩;simp only[VRel] at q1;subst q1;exact⟨_,rfl,fin W' (Pm q3 (Pz _ _))⟩
end Go.Proofs.YtgafjliihahjgaaGreatDoor
namespace Go.Proofs.YtgafjliihahjgaaGreatDoor
open Go.ChangeShapes Go.WideShapes Go.ChangeAt Go.WideMaps Go.WideElems Go.RowKit Go.Eng
set_option maxHeartbeats 40000000 in
set_option maxRecDepth 100000 in
theorem wT:Rows.HistoryMovesSaid:=
 OpenClaim.holds_of_wide 5 Tryz.f5 rfl rfl rfl rfl rfl rfl rfl ⟨rfl,rfl,rfl,rfl,rfl⟩ rfl rfl rfl rfl rfl (by as_aux_lemma=>kernel_rfl) Tryz.func5 sI
  (of_decide_eq_true (by as_aux_lemma=>kernel_rfl)) (by unfold Func.isWrapper;first | (rw[if_pos (by decide +kernel)];kernel_rfl) | (rw[if_neg (by decide +kernel)];exact⟨rfl,rfl⟩))
  (fun os started H enc _=>rb os started H enc)
end Go.Proofs.YtgafjliihahjgaaGreatDoor
namespace Go.Proofs.YtgafjliihahjgaaGreatDoor
open Go.ChangeShapes Go.WideShapes Go.ChangeAt Go.WideMaps Go.WideElems Go.RowKit Go.Eng
set_option maxHeartbeats 40000000 in
set_option maxRecDepth 100000 in
theorem historyMoves_card:Rows.HistoryMovesCardSaid:=
 Claim7.holds_tied_plain_at .later [] [.data,.data,.data,.sentinel,.sentinel] true (true,"38f41fdbcb41c24cbc49437be12605b477909db92ecfa6392cc0b6bdb1584288") true
  wT (fun _ h=>by cases h) (by as_aux_lemma=>kernel_rfl) (fun _ h=>by cases h) historyMoves_row_tie rfl ⟨rfl,rfl⟩ (by as_aux_lemma=>kernel_rfl) rfl
  (fun f fn hf hfn=>by
   obtain rfl:f=5:=Option.some.inj ((show Tryz.prog.funcNamed Rows.historyMovesRow.func=some 5 by as_aux_lemma=>kernel_rfl).symm.trans hf) |>.symm
   obtain rfl:fn=Tryz.f5:=(Option.some.inj (Tryz.func5.symm.trans hfn)).symm;exact⟨by as_aux_lemma=>kernel_rfl,fun j t ht=>by
    have hp:Tryz.f5.params= #[28,55,3]:=rfl;rw[hp] at ht
    match j,ht with
    |0,ht=>simp at ht;subst ht;exact(show Tryz.prog.wantsStandIn 28=false by as_aux_lemma=>kernel_rfl)
    |1,ht=>simp at ht;subst ht;exact(show Tryz.prog.wantsStandIn 55=false by as_aux_lemma=>kernel_rfl)
    |2,ht=>simp at ht;subst ht;exact(show Tryz.prog.wantsStandIn 3=false by as_aux_lemma=>kernel_rfl)
    |j+3,ht=>simp at ht⟩)
  (by as_aux_lemma=>kernel_rfl)
#print axioms historyMoves_card
end Go.Proofs.YtgafjliihahjgaaGreatDoor
