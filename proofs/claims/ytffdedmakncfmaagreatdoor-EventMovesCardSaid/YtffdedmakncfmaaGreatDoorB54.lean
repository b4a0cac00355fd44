/-
The law EventMoves of package klippelaw29 returns true for every sheet, every sketch and every place by small numbers, and all three read afterwards as they read before.
Conditions: those of the given row alone: the package-level variables that it lists hold at the start what the program's text lays (the given tie closes that); nothing is asked of the arguments beyond what a Go program can hold.
How: an executable engine over abstract values, proved sound over the library's fenced calculus (parts B01 to B05), contracts of the program's functions by runs of that engine (B07 to B50), the plain laws of numbers, places, sheets and sketches (B06), the closed run of known by the kernel (B48), Undo, Do and the reference's moved at every kind of event (B46 to B51), the law by one run over each shape of made rows (B52), the row and its card (the last parts).
-/
import Derived.Test.YtffdedmakncfmaaGreatDoorB53
import Derived.Test.YtffdedmakncfmaaGreatDoorB52
import Derived.Deep.Slices
set_option linter.all false
set_option maxRecDepth 100000
set_option maxHeartbeats 40000000
namespace Go.Proofs.YtffdedmakncfmaaGreatDoor
open Go.ChangeShapes Go.WideShapes Go.ChangeAt Go.WideMaps Go.WideElems Go.RowKit Go.Eng
section
variable {H:Type}{enc:TypeId×Value→H}{P:Program}{w:World}{base:Nat}{abQ:Nat→Bool}{adl:Bool}
theorem GM{n:Nat}{t e:TypeId}{fuel:Nat}{cs:List Value}{x:DataW H×List MemPlace}(J:P.underlying t=some (.array n e))(W:P.cellsOf e=1)(h:DataW.trod enc P w base abQ adl fuel t cs=some x)(i:Nat)(v:Value)(Y:i<n)(I:cs[i]? =some v):
  ∃m y,DataW.trod enc P w base abQ adl m e [v]=some y:=by
 obtain⟨X,m,_,_,_,S,V⟩:=DataW.trod_array J h;have:=V i Y;rw[W,Nat.mul_one] at this;have U:(cs.drop i).take 1=[v]:=by have Z:=gL I;rw[List.drop_eq_getElem_cons Z];rw[List.getElem?_eq_getElem Z] at I;simp only[List.take_succ_cons,List.take_zero];rw[Option.some.inj I]
 rw[U] at this;exact⟨m,X[i],by rw[this,List.getElem?_eq_getElem]⟩
end
def i8V(L:List Int):List Value:=L.map fun z=>.int .i8 z
theorem OO(μ:Nat→Eng.Place)(m:Nat):∀L:List Int,ae7 μ m (i8C L) (i8V L)
 | []=>rfl
 |z::L=>by have:=OO μ m L;unfold i8C i8V at*;simp only[List.map_cons];exact bK.2 ⟨by simp[ae5],this⟩
theorem lL{μ:Nat→Eng.Place}{m:Nat}{b:List AV}{B:List Value}(y:ae7 μ m b B):∀{a:List AV} {A:List Value},ae7 μ m a A→ae7 μ m (a++b) (A++B)
 | [],A,ha=>by simp only[ae7] at ha;subst ha;exact y
 |v::a,A,ha=>by simp only[ae7] at ha;obtain⟨U,V,rfl,Z,X⟩:=ha;exact bK.2 ⟨Z,lL y X⟩
def NU(h:Hts):List Value:=i8V h.v++[.bool h.half]
def TG(x:ae4):List Value:=[.int .u8 (x.kind:Int)]++(NU x.base++(NU x.s0++(NU x.s1++(i8V x.N++i8V x.T))))
theorem NV(μ:Nat→Eng.Place)(m:Nat)(h:Hts):ae7 μ m h.cells (NU h):=lL (bK.2 ⟨by simp[ae5],by simp[ae7]⟩) (OO μ m h.v)
theorem Xe(μ:Nat→Eng.Place)(m:Nat)(x:ae4):ae7 μ m x.cells (TG x):=
 lL (a:=[AV.int .u8 x.kind]) (lL (lL (lL (lL (OO μ m x.T) (OO μ m x.N)) (NV μ m x.s1)) (NV μ m x.s0)) (NV μ m x.base)) (bK.2 ⟨by simp[ae5],by simp[ae7]⟩)
theorem SR:∀{cs:List Value},(∀v∈cs,∃k:Int,AD k∧v=.int .i8 k)→∃L:List Int,(∀z∈L,AD z)∧cs=i8V L
 | [],_=>⟨[],fun z Z=>by simp at Z,rfl⟩
 |v::cs,h=>by
  obtain⟨k,X,rfl⟩:=h v (by simp);obtain⟨L,V,rfl⟩:=SR (cs:=cs) fun v U=>h v (by simp[U])
  exact⟨k::L,fun z Z=>by rcases List.mem_cons.1 Z with rfl | Z;exact X;exact V z Z,rfl⟩
variable{b0 fuel n:Nat}{cs:List Value}{p:List MemPlace}{v x:Value}
section
variable {H:Type}{enc:TypeId×Value→H}{W:World}
theorem Ot{y:DataW H×List MemPlace}(I:DataW.trod enc Tryz.prog W 0 (fun _=>true) true n 5 [x]=some y):∃k:Nat,k<256∧x=.int .u8 (k:Int):=by obtain⟨z,X,_,Z⟩:=DataW.trod_int Tryz.underlying5 I;simp only[List.cons.injEq,and_true] at X;simp only[Lit.wf,Bool.and_eq_true,decide_eq_true_eq] at Z;have V:IntKind.u8.min=0:=rfl;have U:IntKind.u8.max=255:=rfl;rw[V,U] at Z;exact⟨z.toNat,by omega,by rw[X,Int.toNat_of_nonneg Z.1]⟩
theorem Oq{y:DataW H×List MemPlace}(I:DataW.trod enc Tryz.prog W 0 (fun _=>true) true n 22 [x]=some y):∃k:Int,AD k∧x=.int .i8 k:=by obtain⟨z,Z,_,X⟩:=DataW.trod_int Tryz.underlying22 I;simp only[List.cons.injEq,and_true] at Z;exact⟨z,bounds_i8 X,Z⟩
theorem ci8:Tryz.prog.cellsOf 22=1:=by kernel_rfl
theorem GO{t:TypeId}{x:DataW H×List MemPlace}(I:Tryz.prog.underlying t=some (.array n 22))(y:cs.length=n)(h:DataW.trod enc Tryz.prog W 0 (fun _=>true) true fuel t cs=some x):∃L:List Int,L.length=n∧(∀z∈L,AD z)∧cs=i8V L:=by
 obtain⟨L,X,e⟩:=SR (cs:=cs) fun v V=>by obtain⟨i,Z⟩:=List.getElem?_of_mem V;obtain⟨_,_,t⟩:=GM I ci8 h i v (by rw[←y];exact(gL Z)) Z;exact Oq t
 refine⟨L,?_,X,e⟩;rw[←y,e];simp[i8V]
theorem GN{x:DataW H×List MemPlace}(I:cs.length=7)(h:DataW.trod enc Tryz.prog W 0 (fun _=>true) true fuel 28 cs=some x):∃y:Hts,y.Ok∧cs=NU y:=by
 obtain⟨Q,k,F,D,_,X,V⟩:=DataW.trod_struct Tryz.underlying28 h
 match Q,X,cs,I with
 | [y0,y1],_,[v0,v1,v2,v3,v4,v5,v6],_=>
  have U:=V 0 _ rfl;have S:=V 1 _ rfl;have O:Tryz.prog.cellsOf 26=6:=by kernel_rfl
  have N:Tryz.prog.cellsOf 4=1:=by kernel_rfl
  simp[O,N] at U S;obtain⟨L,M,K,G⟩:=GO Tryz.underlying26 rfl U;obtain⟨R,Z,_⟩:=DataW.trod_bool Tryz.underlying4 S;simp only[List.cons.injEq,and_true] at Z;subst Z;refine⟨⟨L,R⟩,⟨M,K⟩,?_⟩;show [v0,v1,v2,v3,v4,v5]++[Value.bool R]=_
  rw[G];rfl
theorem Xf(vs:List Value)(h:vs.length=34):vs=(vs.drop 0).take 1++((vs.drop 1).take 7++((vs.drop 8).take 7++((vs.drop 15).take 7++((vs.drop 22).take 8++(vs.drop 30).take 4)))):=by
 have e:∀(a b:Nat),(vs.drop a)=(vs.drop a).take b++vs.drop (a+b):=fun a b=>by rw[←List.drop_drop,List.take_append_drop]
 have Z:(vs.drop 30).take 4=vs.drop 30:=List.take_of_length_le (by simp[h]);rw[Z,←e 22 8,←e 15 7,←e 8 7,←e 1 7,←e 0 1];rfl
theorem N6{d:DataW H}(y:Value.okWide Tryz.prog W .any b0 34 v)(h:DataW.Trod enc Tryz.prog W 0 (fun _=>true) true 34 v d p):
  ∃x:ae4,x.Ok∧∀μ m,ae5 μ m (.agg x.cells) v:=by
 obtain⟨fuel,o⟩:=h;have G:=Tryz.underlying34;simp only[Value.okWide,G] at y;obtain⟨cs,rfl,j,_⟩:=y;have X:(Value.agg cs).cells.toList.length=34:=by simp only[Value.cells,Array.length_toList,j];kernel_rfl
 obtain⟨Y,k,hk,ZC,_,O,V⟩:=DataW.trod_struct G o;obtain⟨Z,U⟩:=xE ((Value.agg cs).cells.toList);rw[←U] at X V
 match Y,O with
 | [y0,y1,y2,y3,y4],_=>
  have M:DataW.trod enc Tryz.prog W 0 (fun _=>true) true k 5 ((Z.drop 0).take (Tryz.prog.cellsOf 5))=some y0:=V 0 _ rfl;have F:DataW.trod enc Tryz.prog W 0 (fun _=>true) true k 28 ((Z.drop 1).take (Tryz.prog.cellsOf 28))=some y1:=V 1 _ rfl;have D:DataW.trod enc Tryz.prog W 0 (fun _=>true) true k 29 ((Z.drop 8).take (Tryz.prog.cellsOf 29))=some y2:=V 2 _ rfl;have g3:DataW.trod enc Tryz.prog W 0 (fun _=>true) true k 30 ((Z.drop 22).take (Tryz.prog.cellsOf 30))=some y3:=V 3 _ rfl;have C:DataW.trod enc Tryz.prog W 0 (fun _=>true) true k 32 ((Z.drop 30).take (Tryz.prog.cellsOf 32))=some y4:=V 4 _ rfl;have J:Tryz.prog.cellsOf 5=1:=by kernel_rfl
  have B:Tryz.prog.cellsOf 28=7:=by kernel_rfl
  have I:Tryz.prog.cellsOf 29=14:=by kernel_rfl
  have c3:Tryz.prog.cellsOf 30=8:=by kernel_rfl
  have c4:Tryz.prog.cellsOf 32=4:=by kernel_rfl
  rw[J] at M;rw[B] at F;rw[I] at D;rw[c3] at g3;rw[c4] at C;have S:∃v,(Z.drop 0).take 1=[v]:=by
   match Z,X with
   |v::Z,_=>exact⟨v,rfl⟩
  obtain⟨v0,S⟩:=S;rw[S] at M;obtain⟨L,l0,rfl⟩:=Ot M;obtain⟨K,ob,eb⟩:=GN (by simp[X]) F;obtain⟨zs,_,_,_,_,hzl,u⟩:=DataW.trod_array Tryz.underlying29 D;have f0:=u 0 (by decide);have f1:=u 1 (by decide);rw[B] at f0 f1;rw[List.getElem?_eq_getElem (by omega)] at f0 f1;obtain⟨R,o0,q0⟩:=GN (by simp[X]) f0;obtain⟨Q,o1,q1⟩:=GN (by simp[X]) f1;obtain⟨N,n1,n2,n3⟩:=GO Tryz.underlying30 (by simp[X]) g3;obtain⟨T,t1,t2,t3⟩:=GO Tryz.underlying32 (by simp[X]) C;refine⟨⟨L,K,R,Q,N,T⟩,⟨l0,ob,o0,o1,n1,n2,t1,t2⟩,fun μ m=>?_⟩;have r0:(Z.drop 8).take 7=NU R:=by rw[←q0];simp[List.take_take]
  have r1:(Z.drop 15).take 7=NU Q:=by rw[←q1];simp[List.drop_take,List.take_take]
  have e:Z=TG ⟨L,K,R,Q,N,T⟩:=by rw[Xf Z X,S,eb,r0,r1,n3,t3];rfl
  simp only[ae5];refine⟨TG ⟨L,K,R,Q,N,T⟩,?_,Xe μ m _⟩;rw[←e,U];rfl
theorem Q3{d:DataW H}(y:Value.okWide Tryz.prog W .any b0 25 v)(h:DataW.Trod enc Tryz.prog W 0 (fun _=>true) true 25 v d p):
  ∃s:afh,s.Ok∧∀μ m,ae5 μ m s.av v:=by
 obtain⟨fuel,G⟩:=h;have N:=Tryz.underlying25;simp only[Value.okWide,N] at y;obtain⟨cs,rfl,F,_⟩:=y;have M:(Value.agg cs).cells.toList.length=4:=by simp only[Value.cells,Array.length_toList,F];kernel_rfl
 obtain⟨D,o,C,_,_,U,V⟩:=DataW.trod_struct N G;obtain⟨B,Z⟩:=xE ((Value.agg cs).cells.toList);rw[←Z] at M V
 match D,U,B,M with
 | [z0,z1,z2],_,[v0,v1,v2,v3],_=>
  have f0:=V 0 _ rfl;have f1:=V 1 _ rfl;have f2:=V 2 _ rfl;have d0:Tryz.prog.cellsOf 5=1:=by kernel_rfl
  have d1:Tryz.prog.cellsOf 23=2:=by kernel_rfl
  have d2:Tryz.prog.cellsOf 4=1:=by kernel_rfl
  simp[d0,d1,d2] at f0 f1 f2;obtain⟨S,u,rfl⟩:=Ot f0;obtain⟨_,_,t1⟩:=GM Tryz.underlying23 ci8 f1 0 v1 (by decide) rfl;obtain⟨_,_,t2⟩:=GM Tryz.underlying23 ci8 f1 1 v2 (by decide) rfl;obtain⟨R,L,rfl⟩:=Oq t1;obtain⟨Q,K,rfl⟩:=Oq t2;obtain⟨O,X,_⟩:=DataW.trod_bool Tryz.underlying4 f2;simp only[List.cons.injEq,and_true] at X;subst X;refine⟨⟨S,R,Q,O⟩,⟨u,L.1,L.2,K.1,K.2⟩,fun μ m=>?_⟩;have e:cs.toList=[.int .u8 (S:Int),.int .i8 R,.int .i8 Q,.bool O]:=Z.symm;simp only[ae5,afh.av];refine⟨[.int .u8 (S:Int),.int .i8 R,.int .i8 Q,.bool O],?_,by simp[ae7,ae5]⟩;rw[←e]
end
end Go.Proofs.YtffdedmakncfmaaGreatDoor
namespace Go.Proofs.YtffdedmakncfmaaGreatDoor
open Go.ChangeShapes Go.WideShapes Go.ChangeAt Go.WideMaps Go.WideElems Go.RowKit Go.Eng
section
variable {H:Type}{enc:TypeId×Value→H}{W:World}
theorem Vz{n:Nat}{y:DataW H×List MemPlace}{x:Value}(I:DataW.trod enc Tryz.prog W 0 (fun _=>true) true n 35 [x]=some y):∃k:Int,(-32768≤k∧k≤32767)∧x=.int .i16 k:=by obtain⟨z,X,_,Z⟩:=DataW.trod_int Tryz.underlying35 I;simp only[List.cons.injEq,and_true] at X;simp only[Lit.wf,Bool.and_eq_true,decide_eq_true_eq] at Z;have V:IntKind.i16.min= -32768:=rfl;have U:IntKind.i16.max=32767:=rfl;rw[V,U] at Z;exact⟨z,Z,X⟩
theorem yd{n:Nat}{y:DataW H×List MemPlace}{a b:Value}(I:DataW.trod enc Tryz.prog W 0 (fun _=>true) true n 37 [a,b]=some y):∃q:Int×Nat,WN q∧[a,b]=[.int .i16 q.1,.int .u8 (q.2:Int)]:=by
 obtain⟨R,k,K,G,_,Z,X⟩:=DataW.trod_struct Tryz.underlying37 I
 match R,Z with
 | [y0,y1],_=>
  have Q:Tryz.prog.cellsOf 35=1:=by kernel_rfl
  have O:Tryz.prog.cellsOf 5=1:=by kernel_rfl
  have V:=X 0 _ rfl;have U:=X 1 _ rfl;simp[Q,O] at V U;obtain⟨N,S,rfl⟩:=Vz V;obtain⟨M,L,rfl⟩:=Ot U;exact⟨(N,M),⟨S.1,S.2,L⟩,rfl⟩
theorem Q2{b0:Nat}{v:Value}{d:DataW H}{p:List MemPlace}(y:Value.okWide Tryz.prog W .any b0 39 v)(h:DataW.Trod enc Tryz.prog W 0 (fun _=>true) true 39 v d p):
  ∃q:Pl,Xp q∧∀μ m,ae5 μ m (.agg (plC q)) v:=by
 obtain⟨Q,G⟩:=h;have O:=Tryz.underlying39;simp only[Value.okWide,O] at y;obtain⟨R,rfl,F,_⟩:=y;have N:(Value.agg R).cells.toList.length=6:=by simp only[Value.cells,Array.length_toList,F];kernel_rfl
 obtain⟨Y,J,D,_,_,C,S⟩:=DataW.trod_array O G;obtain⟨B,Z⟩:=xE ((Value.agg R).cells.toList);rw[←Z] at N S
 match B,N with
 | [v0,v1,v2,v3,v4,v5],_=>
  have f0:=S 0 (by decide);have f1:=S 1 (by decide);have f2:=S 2 (by decide);have d0:Tryz.prog.cellsOf 37=2:=by kernel_rfl
  rw[List.getElem?_eq_getElem (by omega)] at f0 f1 f2;simp only[d0,Nat.zero_mul,Nat.one_mul,Nat.reduceMul,List.drop_zero,List.drop_succ_cons,List.take_succ_cons,List.take_zero] at f0 f1 f2;obtain⟨X,u,M⟩:=yd f0;obtain⟨V,o,L⟩:=yd f1;obtain⟨U,j,K⟩:=yd f2;simp only[List.cons.injEq,and_true] at M L K;obtain⟨rfl,rfl⟩:=M;obtain⟨rfl,rfl⟩:=L;obtain⟨rfl,rfl⟩:=K;refine⟨(X,V,U),⟨u,o,j⟩,fun μ m=>?_⟩;have e:R.toList=[.int .i16 X.1,.int .u8 (X.2:Int),.int .i16 V.1,.int .u8 (V.2:Int),.int .i16 U.1,.int .u8 (U.2:Int)]:=Z.symm;simp only[ae5,plC,smC];refine⟨[.int .i16 X.1,.int .u8 (X.2:Int),.int .i16 V.1,.int .u8 (V.2:Int),.int .i16 U.1,.int .u8 (U.2:Int)],?_,by simp[ae7,ae5]⟩;rw[←e]
end
theorem xV(os:Os)(y:os.Started)(H:Type)(enc:TypeId×Value→H):
  ReturnsInHanded {} Tryz.checked os 3 .any (fun w U=>(Rows.eventMovesSpec.pre enc Tryz.prog Tryz.f3 [] false w U∧laidMetH Tryz.prog ph w)∧sizedMet enc Tryz.prog Tryz.f3 (OpenSpec.ofChange Rows.eventMovesSpec) false w U)
   (Rows.eventMovesSpec.post enc Tryz.prog Tryz.f3 false true false false):=by
 refine returnsInHanded_of_change_and (C:=Tryz.checked) (X:=fun w _=>laidMetH Tryz.prog ph w) (fun _ _ _ hh h=>h.of_heap hh) own y (by kernel_rfl) Tryz.func3
  (ChangeSpec.witness_shaped (enc:=enc) (C:=Tryz.checked) (os:=os) (X:=fun w _=>laidMetH Tryz.prog ph w) false (World.doorLaid Tryz.prog 400 os) #[.agg #[.int .u8 0,.int .i8 0,.int .i8 0,.bool false],.agg #[.int .u8 0,.int .i8 0,.int .i8 0,.int .i8 0,.int .i8 0,.int .i8 0,.int .i8 0,.bool false,.int .i8 0,.int .i8 0,.int .i8 0,.int .i8 0,.int .i8 0,.int .i8 0,.bool false,.int .i8 0,.int .i8 0,.int .i8 0,.int .i8 0,.int .i8 0,.int .i8 0,.bool false,.int .i8 0,.int .i8 0,.int .i8 0,.int .i8 0,.int .i8 0,.int .i8 0,.int .i8 0,.int .i8 0,.int .i8 0,.int .i8 0,.int .i8 0,.int .i8 0],.agg #[.int .i16 0,.int .u8 0,.int .i16 0,.int .u8 0,.int .i16 0,.int .u8 0]] 8 rfl (World.shaped_of_RefB (by kernel_rfl) (by kernel_rfl)) (by kernel_rfl) (by kernel_rfl) (by kernel_rfl) (UZ os _)) ?_
 intro W Q U ds gs YD u hW _ _ hL _;have D:∀(j:Nat) t v,Tryz.f3.params[j]? =some t→U[j]? =some v→Value.okWide Tryz.prog W .any Q t v:=u
 have O :=hW;obtain⟨p,q,ZN,hV,N,hfz,hnd⟩:=hW;have hA:DataW.TrodAll enc Tryz.prog W 0 (fun _=>true) true Tryz.f3.params.toList U.toList ds p:=ZN;have M:Tryz.f3.params= #[25,34,39]:=rfl;rw[M] at hA D;obtain⟨v0,o,m,d0,d1,d2,L,K,G,Zm,rfl,rfl,h0,h1,h2⟩:=trodAll_three hA;subst Zm;obtain⟨rfl,rfl⟩:=trodVars_none hV;have hG:=KZ hL;have Y:∀x∈YD,x.block<W.heap.size:=O.lt
 have J:∀(F :World),Below W.heap.size W F →Rows.eventMovesSpec.post enc Tryz.prog Tryz.f3 false true false false W #[v0,o,m] (.bool true) F :=by
  intro F B;refine Ts rfl O B N rfl rfl rfl fun sp S=>?_
  rw[M];rw[List.append_nil,List.append_assoc];have R:∀x∈L++(K++G),x∈YD:=fun x Z=>by rw[N,List.append_nil,List.append_assoc];exact Z
  have m0:∀x∈L,x∈L++(K++G):=fun x Z=>List.mem_append_left _ Z
  have m1:∀x∈K,x∈L++(K++G):=fun x Z=>List.mem_append_right _ (List.mem_append_left _ Z)
  have m2:∀x∈G,x∈L++(K++G):=fun x Z=>List.mem_append_right _ (List.mem_append_right _ Z)
  exact trodAll_mk3 (Trod_stays NY (by kernel_rfl) (of_decide_eq_true (by kernel_rfl)) h0 (fun x Z=>B.same (Y x (R x (m0 x Z)))) (fun x Z=>S x (R x (m0 x Z))))
   (Trod_stays NY (by kernel_rfl) (of_decide_eq_true (by kernel_rfl)) h1 (fun x Z=>B.same (Y x (R x (m1 x Z)))) (fun x Z=>S x (R x (m1 x Z))))
   (Trod_stays NY (by kernel_rfl) (of_decide_eq_true (by kernel_rfl)) h2 (fun x Z=>B.same (Y x (R x (m2 x Z)))) (fun x Z=>S x (R x (m2 x Z))))
 obtain⟨s,hs,hv⟩:=Q3 (D 0 25 v0 rfl rfl) h0;obtain⟨x,Z,I⟩:=N6 (D 1 34 o rfl rfl) h1;obtain⟨pl,hpl,hpv⟩:=Q2 (D 2 39 m rfl rfl) h2;refine((zq s hs x Z pl hpl).2 W.heap.size _ W [v0,o,m] hG (QO W) (bK.2 ⟨hv _ _,bK.2 ⟨I _ _,bK.2 ⟨hpv _ _,by simp[ae7]⟩⟩⟩)).mono ?_;rintro e F ⟨V,v',m',μ',rfl,q1,q2,q3,rfl,rfl⟩;simp only[ae5] at q1;subst q1;exact⟨_,rfl,J F (Wj q3 Th)⟩
theorem Ea:Rows.EventMovesSaid:=
 OpenClaim.holds_of_wide 3 Tryz.f3 rfl rfl rfl rfl rfl rfl rfl ⟨rfl,rfl,rfl,rfl,rfl⟩ rfl rfl rfl rfl rfl (by as_aux_lemma=>kernel_rfl) Tryz.func3 Ag
  (of_decide_eq_true (by as_aux_lemma=>kernel_rfl)) (by unfold Func.isWrapper;first | (rw[if_pos (by decide +kernel)];kernel_rfl) | (rw[if_neg (by decide +kernel)];exact⟨rfl,rfl⟩))
  (fun V Z H X _=>xV V Z H X)
theorem eventMoves_card:Rows.EventMovesCardSaid:=
 Claim7.holds_tied_plain_at .later [] [.data,.data,.data,.sentinel,.sentinel] true (true,"0318d65ae98803e99901f72db5e29a71d1d17f289d7c99a9c651880203b8b6ca") true
  Ea (fun _ h=>by cases h) (by as_aux_lemma=>kernel_rfl) (fun _ h=>by cases h) eventMoves_row_tie rfl ⟨rfl,rfl⟩ (by as_aux_lemma=>kernel_rfl) rfl
  (fun f fn V X=>by
   obtain rfl:f=3:=Option.some.inj ((show Tryz.prog.funcNamed Rows.eventMovesRow.func=some 3 by as_aux_lemma=>kernel_rfl).symm.trans V) |>.symm
   obtain rfl:fn=Tryz.f3:=(Option.some.inj (Tryz.func3.symm.trans X)).symm;exact⟨by as_aux_lemma=>kernel_rfl,fun j t Z=>by
    have U:Tryz.f3.params= #[25,34,39]:=rfl;rw[U] at Z
    match j,Z with
    |0,Z=>simp at Z;subst Z;exact(show Tryz.prog.wantsStandIn 25=false by as_aux_lemma=>kernel_rfl)
    |1,Z=>simp at Z;subst Z;exact(show Tryz.prog.wantsStandIn 34=false by as_aux_lemma=>kernel_rfl)
    |2,Z=>simp at Z;subst Z;exact(show Tryz.prog.wantsStandIn 39=false by as_aux_lemma=>kernel_rfl)
    |j+3,Z=>simp at Z⟩)
  (by as_aux_lemma=>kernel_rfl)
#print axioms eventMoves_card
end Go.Proofs.YtffdedmakncfmaaGreatDoor
