/-
The law HistoryFollows of package klippelaw30 returns true for every plan and every place by three small numbers, and the deeds read afterwards as they read before.
Conditions: those of the given row alone: the package-level variables that it lists hold at the start what the program's text lays (the given tie closes that); nothing is asked of the arguments beyond what a Go program can hold.
How: an executable engine over abstract values, proved sound over the library's fenced calculus (parts F01 to F05), contracts of the program's functions by runs of that engine (F07 to F52), the plain laws of numbers, places, sheets and deeds (F06, F36, F41, F46, F47), the closed run of known by the kernel, cut into remembered calls (F31), small quotients by the kernel (F37 to F39), the law in stages (F51, F52), the row and its card (the last parts).
-/
import Derived.Test.YtgafjliihahjgaaGreatDoorF53
import Derived.Test.YtgafjliihahjgaaGreatDoorF52
import Derived.Deep.Slices
set_option linter.all false
set_option maxRecDepth 100000
set_option maxHeartbeats 40000000
namespace Go.Proofs.YtgafjliihahjgaaGreatDoor
open Go.ChangeShapes Go.WideShapes Go.ChangeAt Go.WideMaps Go.WideElems Go.RowKit Go.Eng
variable{cs:List Value}{fuel n:Nat}
section
variable {H:Type}{enc:TypeId×Value→H}{P:Program}{w:World}{base:Nat}{aaQ:Nat→Bool}{acn:Bool}
theorem U1{t e:TypeId}{x:DataW H×List MemPlace}(I:P.underlying t=some (.slice e))(R:P.cellsOf e=n)(h:DataW.trod enc P w base aaQ acn fuel t cs=some x):
  cs=[.slice none 0 0]∨∃(a:Addr) (G A:Nat),cs=[.slice (some a) G A]∧G≤A∧A≤maxLen∧(aaQ a.block=true→∀i,i<A→∃Z:List Value,Z.length=n∧(∀j v,Z[j]? =some v→w.cell? (a.add (i*n+j))=some v)∧∃m y,DataW.trod enc P w base aaQ acn m e Z=some y):=by
 rcases Deep.open_slice I h with h0 | ⟨a,G,A,m,z,D,u,rfl,Y,J,F,X,rfl,C⟩
 ·exact Or.inl h0.1
 right;refine⟨a,G,A,rfl,J,F,fun W i hi=>?_⟩;rw[W,if_pos rfl] at X;obtain⟨V,O,B⟩:=C i (by omega);rw[R] at O;obtain⟨_,M,S⟩:=World.cells?_some O;refine⟨V,M,fun j v K=>?_,_,_,B⟩;have:=S j (by rw[←M];exact(gL K));rw[Deep.add_add] at this;rw[this,K]
theorem sE{t e:TypeId}{x:DataW H×List MemPlace}(G:P.underlying t=some (.array n e))(I:P.cellsOf e=1)(h:DataW.trod enc P w base aaQ acn fuel t cs=some x)(i:Nat)(v:Value)(R:i<n)(A:cs[i]? =some v):
  ∃m y,DataW.trod enc P w base aaQ acn m e [v]=some y:=by
 obtain⟨X,m,_,_,_,S,W⟩:=DataW.trod_array G h;have:=W i R;rw[I,Nat.mul_one] at this;have V:(cs.drop i).take 1=[v]:=by have Z:=gL A;rw[List.drop_eq_getElem_cons Z];rw[List.getElem?_eq_getElem Z] at A;simp only[List.take_succ_cons,List.take_zero];rw[Option.some.inj A]
 rw[V] at this;exact⟨m,X[i],by rw[this,List.getElem?_eq_getElem]⟩
end
theorem BZ{α β:Type}{f:α→List β}{n:Nat}(A:∀a,(f a).length=n):∀(l:List α) (i r:Nat),r<n→(l.flatMap f)[i*n+r]? =(l[i]?).bind fun a=>(f a)[r]?
 | [],i,r,_=>by simp
 |a::l,0,r,hr=>by rw[List.flatMap_cons,Nat.zero_mul,Nat.zero_add,List.getElem?_append_left (by rw[A];exact hr)];simp
 |a::l,i+1,r,hr=>by rw[List.flatMap_cons,List.getElem?_append_right (by rw[A,Nat.succ_mul];omega),A,Nat.succ_mul,show i*n+n+r-n=i*n+r by omega,BZ A l i r hr];simp
theorem WI{W:World}{A off G es:Nat}{cur:Array Value}{el:TypeId}{fr:Nat×Nat}{cs:List AV}(I:W.heap[A]? =some (.cells cur el fr))(R:0<es∧es<1000)(H:cs.length≤G)(hc:∀j u,cs[j]? =some u→∃V,cur[off+j]? =some V∧∀μ m,aeU μ m u V):ae5 W.heap.size (fun _=>⟨A,off,G,es⟩) [.cells false es cs] W:=by
 refine⟨Nat.le_refl _,?_,?_⟩
 ·intro b s Z
  cases b with
  |succ b=>simp at Z
  |zero=>
   simp at Z;subst Z;simp only[ae7];refine⟨cur,el,fr,I,⟨by show es=es%1000;omega,fun h=>by omega⟩,H,fun j v X=>?_,fun h=>by cases h⟩;obtain⟨V,S,O⟩:=hc j v X;exact⟨V,S,O _ _⟩
 ·rintro b b' s' ⟨s,Z,ho⟩
  cases b with
  |succ b=>simp at Z
  |zero=>simp at Z;subst Z;cases ho
end Go.Proofs.YtgafjliihahjgaaGreatDoor
namespace Go.Proofs.YtgafjliihahjgaaGreatDoor
open Go.ChangeShapes Go.WideShapes Go.ChangeAt Go.WideMaps Go.WideElems Go.RowKit Go.Eng
def XU(d:ae6):List Value:=[.int .u8 d.kind,.int .i8 d.A.1,.int .i8 d.A.2.1,.int .i8 d.A.2.2,.int .i8 d.B.1,.int .i8 d.B.2.1,.int .i8 d.B.2.2,.int .i8 d.N,.int .u8 d.K.1,.int .u8 d.K.2.1,.int .u8 d.K.2.2.1,.int .u8 d.K.2.2.2]
theorem Wz(d:ae6)(r:Nat)(u:AV)(h:d.cells[r]? =some u):∃V,(XU d)[r]? =some V∧∀μ m,aeU μ m u V:=by
 unfold ae6.cells at h
 match r,h with
 |0,h | 1,h | 2,h | 3,h | 4,h | 5,h | 6,h | 7,h | 8,h | 9,h | 10,h | 11,h=>simp at h;subst h;exact⟨_,rfl,fun μ m=>by simp[aeU]⟩
 |r+12,h=>simp at h
variable{b0:Nat}{v x:Value}
section
variable {H:Type}{enc:TypeId×Value→H}{W:World}
theorem xQ{n:Nat}{y:DataW H×List MemPlace}(A:DataW.trod enc Tryz.prog W 0 (fun _=>true) true n 5 [x]=some y):∃k:Nat,k<256∧x=.int .u8 (k:Int):=by obtain⟨z,X,_,Z⟩:=DataW.trod_int Tryz.underlying5 A;simp only[List.cons.injEq,and_true] at X;simp only[Lit.wf,Bool.and_eq_true,decide_eq_true_eq] at Z;have V:IntKind.u8.min=0:=rfl;have S:IntKind.u8.max=255:=rfl;rw[V,S] at Z;exact⟨z.toNat,by omega,by rw[X,Int.toNat_of_nonneg Z.1]⟩
theorem jX{n:Nat}{y:DataW H×List MemPlace}(A:DataW.trod enc Tryz.prog W 0 (fun _=>true) true n 22 [x]=some y):∃k:Int,Ak k∧x=.int .i8 k:=by obtain⟨z,Z,_,X⟩:=DataW.trod_int Tryz.underlying22 A;simp only[List.cons.injEq,and_true] at Z;exact⟨z,bounds_i8 X,Z⟩
theorem UZ{n:Nat}{y:DataW H×List MemPlace}{vs:List Value}(A:vs.length=12)(G:DataW.trod enc Tryz.prog W 0 (fun _=>true) true n 94 vs=some y):∃d:ae6,d.Ok∧vs=XU d:=by
 obtain⟨z,k,hk,u,_,X,Z⟩:=DataW.trod_struct Tryz.underlying94 G
 match z,X,vs,A with
 | [y0,y1,y2,y3,y4],_,[v0,v1,v2,v3,v4,v5,v6,v7,v8,v9,v10,v11],_=>
  have J:=Z 0 _ rfl;have F:=Z 1 _ rfl;have D:=Z 2 _ rfl;have g3:=Z 3 _ rfl;have C:=Z 4 _ rfl;have B:Tryz.prog.cellsOf 5=1:=by kernel_rfl
  have V:Tryz.prog.cellsOf 22=1:=by kernel_rfl
  have m:Tryz.prog.cellsOf 55=3:=by kernel_rfl
  have j:Tryz.prog.cellsOf 92=4:=by kernel_rfl
  simp[B,V,m,j] at J F D g3 C;obtain⟨Y,R,rfl⟩:=xQ J;obtain⟨I,l7,rfl⟩:=jX g3;have a:=sE Tryz.underlying55 V F;have b:=sE Tryz.underlying55 V D;have c:=sE Tryz.underlying92 B C;obtain⟨_,_,t1⟩:=a 0 v1 (by decide) rfl;obtain⟨_,_,t2⟩:=a 1 v2 (by decide) rfl;obtain⟨_,_,t3⟩:=a 2 v3 (by decide) rfl;obtain⟨_,_,t4⟩:=b 0 v4 (by decide) rfl;obtain⟨_,_,t5⟩:=b 1 v5 (by decide) rfl;obtain⟨_,_,t6⟩:=b 2 v6 (by decide) rfl;obtain⟨_,_,t8⟩:=c 0 v8 (by decide) rfl;obtain⟨_,_,t9⟩:=c 1 v9 (by decide) rfl;obtain⟨_,_,t10⟩:=c 2 v10 (by decide) rfl;obtain⟨_,_,t11⟩:=c 3 v11 (by decide) rfl;obtain⟨k1,l1,rfl⟩:=jX t1;obtain⟨k2,l2,rfl⟩:=jX t2;obtain⟨k3,l3,rfl⟩:=jX t3;obtain⟨k4,l4,rfl⟩:=jX t4;obtain⟨k5,l5,rfl⟩:=jX t5;obtain⟨k6,l6,rfl⟩:=jX t6;obtain⟨k8,l8,rfl⟩:=xQ t8;obtain⟨k9,l9,rfl⟩:=xQ t9;obtain⟨S,O,rfl⟩:=xQ t10;obtain⟨M,K,rfl⟩:=xQ t11;exact⟨⟨Y,(k1,k2,k3),(k4,k5,k6),I,(k8,k9,S,M)⟩,⟨R,⟨l1,l2,l3⟩,⟨l4,l5,l6⟩,l7,⟨l8,l9,O,K⟩⟩,rfl⟩
theorem R2{n:Nat}{x:DataW H×List MemPlace}(A:Cell.okWide Tryz.prog W .any b0 26 v)(h:DataW.trod enc Tryz.prog W 0 (fun _=>true) true n 26 [v]=some x):
  v=.slice none 0 0∨∃(μ:Nat→Eng.Place) (ds:List ae6),(∀d∈ds,d.Ok)∧ae5 W.heap.size μ [.cells false 12 (fU ds)] W∧aeU μ 1 (.slice 0 0 ds.length none) v:=by
 have hu:=Tryz.underlying26;simp only[Cell.okWide,hu] at A;rcases U1 hu (n:=12) (by kernel_rfl) h with O | ⟨a',Z,D,O,h2,h3,h4⟩
 ·left
  simpa using O
 ·right
  simp only[List.cons.injEq,and_true] at O;subst O;simp only[Cell.ok,hu] at A;obtain⟨_,_,_,C,row,cells,M,_⟩:=A;have h7:=h4 rfl;obtain⟨q,hq⟩:=Deep.choose_lt h7;obtain⟨K,el,fr,F⟩:∃K el fr,W.heap[a'.block]? =some (.cells K el fr):=by
   unfold World.shape? at M;split at M
   next c e f hh=>exact⟨_,_,_,hh⟩
   ·cases M
  obtain⟨S,X,aeO⟩:=a';simp only at C F;subst C;have cell:∀k,W.cell? ((⟨S,X,none⟩:Addr).add k)=K[X+k]? :=by intro k;rw[show(⟨S,X,none⟩:Addr).add k=⟨S,X+k,none⟩ from add_plain _ _ _];unfold World.cell?;simp only;rw[F];rfl
  have hk:∀i,i<D →∃d:ae6,d.Ok∧q i=XU d:=by intro i J;obtain⟨g1,_,m,y,g3⟩:=hq i J;exact UZ g1 g3
  have:Inhabited ae6:=⟨⟨0,(0,0,0),(0,0,0),0,(0,0,0,0)⟩⟩;obtain⟨g,hg⟩:=Deep.choose_lt hk;obtain⟨B,I⟩:=xE ((List.range Z).map g);have G:B.length=Z :=by rw[I];simp
  have z:∀i,i<Z →B[i]? =some (g i):=fun i J=>by rw[I];simp[J]
  have Y:(fU B).length=Z *12:=by
   rw[←G];clear G I z;induction B with
   |nil=>rfl
   |cons d B ih=>simp only[fU,List.flatMap_cons,List.length_append,List.length_cons] at ih ⊢;rw[ih];simp[ae6.cells];omega
  refine⟨fun _=>⟨S,X,D *12,12⟩,B,fun b F=>?_,WI F (by decide) (by rw[Y];omega) fun j u hj=>?_,?_⟩
  ·rw[I,List.mem_map] at F
   obtain⟨i,J,rfl⟩:=F;exact(hg i (by have:=List.mem_range.1 J;omega)).1
  ·have hj2:j<Z *12:=by have:=gL hj;rw[Y] at this;exact this
   have J:j / 12<Z :=by omega
   have hr:j%12<12:=Nat.mod_lt _ (by decide);have R:j / 12*12+j%12=j:=by omega
   have O:=BZ (f:=ae6.cells) (n:=12) (fun _=>rfl) B (j / 12) (j%12) hr;rw[R,show B.flatMap ae6.cells=fU B from rfl,hj,z _ J] at O;simp only[Option.bind_some] at O;obtain⟨V,k1,k2⟩:=Wz (g (j / 12)) (j%12) u O.symm;obtain⟨_,k3,_⟩:=hq (j / 12) (by omega);rw[(hg (j / 12) (by omega)).2] at k3;have:=k3 _ _ k1;rw[cell,R] at this;exact⟨V,this,k2⟩
  ·simp only[aeU,jl]
   refine⟨by omega,?_⟩;rw[G,Nat.add_zero,Nat.sub_zero,Nat.mul_div_cancel _ (by omega)]
theorem U0{d:DataW H}{p:List MemPlace}(A:Value.okWide Tryz.prog W .any b0 28 v)(h:DataW.Trod enc Tryz.prog W 0 (fun _=>true) true 28 v d p):
  ∃(s:aeX) (G:Value),s.Ok∧v=.agg #[.int .u8 (s.kind:Int),.int .i8 s.sx,.int .i8 s.sy,.bool s.half,G]∧
   (G=.slice none 0 0∨∃(μ:Nat→Eng.Place) (ds:List ae6),(∀d∈ds,d.Ok)∧ae5 W.heap.size μ [.cells false 12 (fU ds)] W∧aeU μ 1 (.slice 0 0 ds.length none) G):=by
 obtain⟨j,hf⟩:=h;have hu:=Tryz.underlying28;simp only[Value.okWide,hu] at A;obtain⟨X,rfl,K,ts,V,_,J⟩:=A;have S:(Value.agg X).cells.toList.length=5:=by simp only[Value.cells,Array.length_toList,K];kernel_rfl
 obtain⟨xs,k,hk,hxy,_,F,D⟩:=DataW.trod_struct hu hf;obtain⟨vs,Z⟩:=xE ((Value.agg X).cells.toList);rw[←Z] at S D
 match xs,F,vs,S with
 | [y0,y1],_,[v0,v1,v2,v3,v4],_=>
  have Y:=D 0 _ rfl;have R:=D 1 _ rfl;have c0:Tryz.prog.cellsOf 25=4:=by kernel_rfl
  have c1:Tryz.prog.cellsOf 26=1:=by kernel_rfl
  simp[c0,c1] at Y R;obtain⟨zs,k',hk',_,_,C,B⟩:=DataW.trod_struct Tryz.underlying25 Y
  match zs,C with
  | [z0,z1,z2],_=>
   have f0:=B 0 _ rfl;have f1:=B 1 _ rfl;have f2:=B 2 _ rfl;have d0:Tryz.prog.cellsOf 5=1:=by kernel_rfl
   have d1:Tryz.prog.cellsOf 23=2:=by kernel_rfl
   have d2:Tryz.prog.cellsOf 4=1:=by kernel_rfl
   have d3:Tryz.prog.cellsOf 22=1:=by kernel_rfl
   simp[d0,d1,d2] at f0 f1 f2;obtain⟨k0,l0,rfl⟩:=xQ f0;obtain⟨_,_,t1⟩:=sE Tryz.underlying23 d3 f1 0 v1 (by decide) rfl;obtain⟨_,_,t2⟩:=sE Tryz.underlying23 d3 f1 1 v2 (by decide) rfl;obtain⟨k1,I,rfl⟩:=jX t1;obtain⟨k2,l2,rfl⟩:=jX t2;obtain⟨bv,O,_⟩:=DataW.trod_bool Tryz.underlying4 f2;simp only[List.cons.injEq,and_true] at O;subst O;have e4:X[4]? =some v4:=by have:(Value.agg X).cells.toList=X.toList:=rfl;rw[this] at Z;have:=congrArg (fun l=>l[4]?) Z;simpa using this.symm
   obtain⟨u,M,z⟩:=J 4 v4 e4;have m :Tryz.prog.cellTypes Tryz.prog.depth 28=some [5,22,22,4,26]:=by kernel_rfl
   rw[m] at V;cases V;simp at M;subst M;refine⟨⟨k0,k1,k2,bv⟩,v4,⟨l0,I.1,I.2,l2.1,l2.2⟩,?_,R2 z R⟩;congr 1;apply Array.ext';have:(Value.agg X).cells.toList=X.toList:=rfl;rw[this] at Z;rw[←Z]
end
end Go.Proofs.YtgafjliihahjgaaGreatDoor
namespace Go.Proofs.YtgafjliihahjgaaGreatDoor
open Go.ChangeShapes Go.WideShapes Go.ChangeAt Go.WideMaps Go.WideElems Go.RowKit Go.Eng
theorem PY{μ:Nat→Eng.Place}{n:Nat}{s:aeX}{a:AV}{A:Value}(h:aeU μ n a A):aeU μ n (iH s a) (.agg #[.int .u8 (s.kind:Int),.int .i8 s.sx,.int .i8 s.sy,.bool s.half,A]):=by unfold iH;simp only[aeU];exact⟨_,rfl,br.2 ⟨by simp[aeU],br.2 ⟨by simp[aeU],br.2 ⟨by simp[aeU],br.2 ⟨by simp[aeU],br.2 ⟨h,by simp[aeV]⟩⟩⟩⟩⟩⟩
theorem OM(W:World):ae5 W.heap.size (fun _=>⟨0,0,0,0⟩) [.aeP] W:=by
 refine⟨Nat.le_refl _,fun b x Z=>?_,?_⟩
 ·match b,Z with
  |0,Z=>cases Z;simp[ae7]
  |b+1,Z=>simp at Z
 ·rintro b b' s' ⟨s,hs,ho⟩
  match b,hs with
  |0,hs=>cases hs;cases ho
  |b+1,hs=>simp at hs
theorem Md:∀b,¬eh [.aeP] b:=by
 rintro b ⟨s,hs,ho⟩
 match b,hs with
 |0,hs=>cases hs;cases ho
 |b+1,hs=>simp at hs
section
variable {H:Type}{enc:TypeId×Value→H}{W:World}
end
section
variable {H:Type}{enc:TypeId×Value→H}{W:World}
theorem Ym{b0:Nat}{v:Value}{d:DataW H}{p:List MemPlace}(A:Value.okWide Tryz.prog W .any b0 55 v)(h:DataW.Trod enc Tryz.prog W 0 (fun _=>true) true 55 v d p):
  ∃x:Z3,z8 x∧∀μ m,aeU μ m (zB x) v:=by
 obtain⟨J,F⟩:=h;have hu:=Tryz.underlying55;simp only[Value.okWide,hu] at A;obtain⟨V,rfl,S,_⟩:=A;have Z:(Value.agg V).cells.toList.length=3:=by simp only[Value.cells,Array.length_toList,S];kernel_rfl
 obtain⟨D,X⟩:=xE ((Value.agg V).cells.toList);rw[←X] at Z F
 match D,Z with
 | [w0,w1,w2],_=>
  have C:Tryz.prog.cellsOf 22=1:=by kernel_rfl
  have a:=sE hu C F;obtain⟨_,_,t0⟩:=a 0 w0 (by decide) rfl;obtain⟨_,_,t1⟩:=a 1 w1 (by decide) rfl;obtain⟨_,_,t2⟩:=a 2 w2 (by decide) rfl;obtain⟨O,B,rfl⟩:=jX t0;obtain⟨M,z,rfl⟩:=jX t1;obtain⟨K,u,rfl⟩:=jX t2;refine⟨(O,M,K),⟨B,z,u⟩,fun μ m=>?_⟩;have e:V.toList=[.int .i8 O,.int .i8 M,.int .i8 K]:=X.symm;simp only[aeU,zB];refine⟨[.int .i8 O,.int .i8 M,.int .i8 K],?_,by simp[aeV,aeU]⟩;rw[←e]
end
theorem qW(os:Os)(aaB:os.Started)(H:Type)(enc:TypeId×Value→H):
  ReturnsInHanded {} Tryz.checked os 6 .any (fun w Z=>(Rows.historyFollowsSpec.pre enc Tryz.prog Tryz.f6 [] false w Z∧laidMetH Tryz.prog oO w)∧sizedMet enc Tryz.prog Tryz.f6 (OpenSpec.ofChange Rows.historyFollowsSpec) false w Z)
   (Rows.historyFollowsSpec.post enc Tryz.prog Tryz.f6 false true false false):=by
 refine returnsInHanded_of_change_and (C:=Tryz.checked) (X:=fun w _=>laidMetH Tryz.prog oO w) (fun _ _ _ hh h=>h.of_heap hh) own aaB (by kernel_rfl) Tryz.func6
  (ChangeSpec.witness_shaped (enc:=enc) (C:=Tryz.checked) (os:=os) (X:=fun w _=>laidMetH Tryz.prog oO w) false (World.doorLaid Tryz.prog 400 os) #[.agg #[.int .u8 0,.int .i8 0,.int .i8 0,.bool false,.slice none 0 0],.agg #[.int .i8 0,.int .i8 0,.int .i8 0]] 8 rfl (World.shaped_of_RefB (by kernel_rfl) (by kernel_rfl)) (by kernel_rfl) (by kernel_rfl) (by kernel_rfl) (WB os _)) ?_
 intro W K Z ds gs J ac1 hW _ _ hL _;have O:∀(j:Nat) t v,Tryz.f6.params[j]? =some t→Z[j]? =some v→Value.okWide Tryz.prog W .any K t v:=ac1
 have F :=hW;obtain⟨p,q,hA0,hV,B,hfz,hnd⟩:=hW;have hA:DataW.TrodAll enc Tryz.prog W 0 (fun _=>true) true Tryz.f6.params.toList Z.toList ds p:=hA0;have z:Tryz.f6.params= #[28,55]:=rfl;rw[z] at hA O;obtain⟨R,I,d0,d1,G,A,aaw,rfl,rfl,h0,h1⟩:=trodAll_two hA;subst aaw;obtain⟨rfl,rfl⟩:=trodVars_none hV;have hG:=LU hL;have FS:∀x∈J,x.block<W.heap.size:=F.lt
 have u:∀(M :World),Below W.heap.size W M →Rows.historyFollowsSpec.post enc Tryz.prog Tryz.f6 false true false false W #[R,I] (.bool true) M :=by
  intro M hb;refine U8 rfl F hb B rfl rfl rfl fun sp m=>?_
  rw[z];rw[List.append_nil];have hm:∀x∈G++A,x∈J:=fun x S=>by rw[B,List.append_nil];exact S
  have m0:∀x∈G,x∈G++A:=fun x S=>List.mem_append_left _ S
  have m1:∀x∈A,x∈G++A:=fun x S=>List.mem_append_right _ S
  exact trodAll_mk2 (Trod_stays UE (by kernel_rfl) (of_decide_eq_true (by kernel_rfl)) h0 (fun x S=>hb.same (FS x (hm x (m0 x S)))) (fun x S=>m x (hm x (m0 x S))))
   (Trod_stays UE (by kernel_rfl) (of_decide_eq_true (by kernel_rfl)) h1 (fun x S=>hb.same (FS x (hm x (m1 x S)))) (fun x S=>m x (hm x (m1 x S))))
 obtain⟨s,sl,hs,hv,hsl⟩:=U0 (O 0 28 R rfl rfl) h0;obtain⟨x,S,Y⟩:=Ym (O 1 55 I rfl rfl) h1;rcases hsl with hn | ⟨μ,D,hD,hH,hvs⟩
 ·refine((jY s hs [] (fun d h=>by cases h) .aeP .y9 (.inl ⟨rfl,rfl⟩) (.inl rfl) x S).2 W.heap.size _ W [R,I] hG (OM W) (br.2 ⟨by rw[hv];exact PY (by rw[hn];simp[aeU]),br.2 ⟨Y _ _,by simp[aeV]⟩⟩)).mono ?_
  rintro e M ⟨V,v',m',μ',rfl,q1,q2,q3,rfl,rfl⟩;simp only[aeU] at q1;subst q1;exact⟨_,rfl,u M (UB q3 Md)⟩
 ·refine((jY s hs D hD (.cells false 12 (fU D)) (.slice 0 0 D.length none) (.inr ⟨rfl,rfl⟩) (.inr rfl) x S).2 W.heap.size μ W [R,I] hG hH (br.2 ⟨by rw[hv];exact PY hvs,br.2 ⟨Y _ _,by simp[aeV]⟩⟩)).mono ?_
  rintro e M ⟨V,v',m',μ',rfl,q1,q2,q3,rfl,rfl⟩;simp only[aeU] at q1;subst q1;exact⟨_,rfl,u M (UB q3 (UP _ _))⟩
theorem vT:Rows.HistoryFollowsSaid:=
 OpenClaim.holds_of_wide 6 Tryz.f6 rfl rfl rfl rfl rfl rfl rfl ⟨rfl,rfl,rfl,rfl,rfl⟩ rfl rfl rfl rfl rfl (by as_aux_lemma=>kernel_rfl) Tryz.func6 sP
  (of_decide_eq_true (by as_aux_lemma=>kernel_rfl)) (by unfold Func.isWrapper;first | (rw[if_pos (by decide +kernel)];kernel_rfl) | (rw[if_neg (by decide +kernel)];exact⟨rfl,rfl⟩))
  (fun W Z H X _=>qW W Z H X)
theorem historyFollows_card:Rows.HistoryFollowsCardSaid:=
 Claim7.holds_tied_plain_at .later [] [.data,.data,.data,.sentinel,.sentinel] true (true,"38f41fdbcb41c24cbc49437be12605b477909db92ecfa6392cc0b6bdb1584288") true
  vT (fun _ h=>by cases h) (by as_aux_lemma=>kernel_rfl) (fun _ h=>by cases h) historyFollows_row_tie rfl ⟨rfl,rfl⟩ (by as_aux_lemma=>kernel_rfl) rfl
  (fun f fn W X=>by
   obtain rfl:f=6:=Option.some.inj ((show Tryz.prog.funcNamed Rows.historyFollowsRow.func=some 6 by as_aux_lemma=>kernel_rfl).symm.trans W) |>.symm
   obtain rfl:fn=Tryz.f6:=(Option.some.inj (Tryz.func6.symm.trans X)).symm;exact⟨by as_aux_lemma=>kernel_rfl,fun j t Z=>by
    have V:Tryz.f6.params= #[28,55]:=rfl;rw[V] at Z
    match j,Z with
    |0,Z=>simp at Z;subst Z;exact(show Tryz.prog.wantsStandIn 28=false by as_aux_lemma=>kernel_rfl)
    |1,Z=>simp at Z;subst Z;exact(show Tryz.prog.wantsStandIn 55=false by as_aux_lemma=>kernel_rfl)
    |j+2,Z=>simp at Z⟩)
  (by as_aux_lemma=>kernel_rfl)
#print axioms historyFollows_card
end Go.Proofs.YtgafjliihahjgaaGreatDoor
