/-
The law EventBack of package klippelaw29 returns true for every sheet, sketch and place by small numbers, and all three read afterwards as before.
Conditions: those of the given row alone.
-/
import Derived.Test.YtffdedmakncfmaaGreatDoorC53
import Derived.Test.YtffdedmakncfmaaGreatDoorC52
import Derived.Deep.Slices
set_option linter.all false
set_option maxRecDepth 100000
set_option maxHeartbeats 40000000
namespace Go.Proofs.YtffdedmakncfmaaGreatDoor
open Go.ChangeShapes Go.WideShapes Go.ChangeAt Go.WideMaps Go.WideElems Go.RowKit Go.Eng
section
variable {H:Type}{enc:TypeId×Value→H}{P:Program}{w:World}{base:Nat}{acB:Nat→Bool}{ad6:Bool}
theorem HD{n:Nat}{t e:TypeId}{fuel:Nat}{cs:List Value}{x:DataW H×List MemPlace}(J:P.underlying t=some (.array n e))(W:P.cellsOf e=1)(h:DataW.trod enc P w base acB ad6 fuel t cs=some x)(i:Nat)(v:Value)(Y:i<n)(I:cs[i]? =some v):
  ∃m y,DataW.trod enc P w base acB ad6 m e [v]=some y:=by
 obtain⟨X,m,_,_,_,S,V⟩:=DataW.trod_array J h;have:=V i Y;rw[W,Nat.mul_one] at this;have U:(cs.drop i).take 1=[v]:=by have Z:=gL I;rw[List.drop_eq_getElem_cons Z];rw[List.getElem?_eq_getElem Z] at I;simp only[List.take_succ_cons,List.take_zero];rw[Option.some.inj I]
 rw[U] at this;exact⟨m,X[i],by rw[this,List.getElem?_eq_getElem]⟩
end
def i8V(L:List Int):List Value:=L.map fun z=>.int .i8 z
theorem P6(μ:Nat→Eng.Place)(m:Nat):∀L:List Int,afS μ m (i8C L) (i8V L)
 | []=>rfl
 |z::L=>by have:=P6 μ m L;unfold i8C i8V at*;simp only[List.map_cons];exact bO.2 ⟨by simp[afQ],this⟩
theorem mA{μ:Nat→Eng.Place}{m:Nat}{b:List AV}{B:List Value}(y:afS μ m b B):∀{a:List AV} {A:List Value},afS μ m a A→afS μ m (a++b) (A++B)
 | [],A,ha=>by simp only[afS] at ha;subst ha;exact y
 |v::a,A,ha=>by simp only[afS] at ha;obtain⟨U,V,rfl,Z,X⟩:=ha;exact bO.2 ⟨Z,mA y X⟩
def O6(h:Hts):List Value:=i8V h.v++[.bool h.half]
def U9(x:afO):List Value:=[.int .u8 (x.kind:Int)]++(O6 x.base++(O6 x.s0++(O6 x.s1++(i8V x.N++i8V x.T))))
theorem O7(μ:Nat→Eng.Place)(m:Nat)(h:Hts):afS μ m h.cells (O6 h):=mA (bO.2 ⟨by simp[afQ],by simp[afS]⟩) (P6 μ m h.v)
theorem Ze(μ:Nat→Eng.Place)(m:Nat)(x:afO):afS μ m x.cells (U9 x):=
 mA (a:=[AV.int .u8 x.kind]) (mA (mA (mA (mA (P6 μ m x.T) (P6 μ m x.N)) (O7 μ m x.s1)) (O7 μ m x.s0)) (O7 μ m x.base)) (bO.2 ⟨by simp[afQ],by simp[afS]⟩)
theorem Uv:∀{cs:List Value},(∀v∈cs,∃k:Int,Bn k∧v=.int .i8 k)→∃L:List Int,(∀z∈L,Bn z)∧cs=i8V L
 | [],_=>⟨[],fun z Z=>by simp at Z,rfl⟩
 |v::cs,h=>by
  obtain⟨k,X,rfl⟩:=h v (by simp);obtain⟨L,V,rfl⟩:=Uv (cs:=cs) fun v U=>h v (by simp[U])
  exact⟨k::L,fun z Z=>by rcases List.mem_cons.1 Z with rfl | Z;exact X;exact V z Z,rfl⟩
variable{b0 fuel n:Nat}{cs:List Value}{p:List MemPlace}{v x:Value}
section
variable {H:Type}{enc:TypeId×Value→H}{W:World}
theorem PF{y:DataW H×List MemPlace}(I:DataW.trod enc Tryz.prog W 0 (fun _=>true) true n 5 [x]=some y):∃k:Nat,k<256∧x=.int .u8 (k:Int):=by obtain⟨z,X,_,Z⟩:=DataW.trod_int Tryz.underlying5 I;simp only[List.cons.injEq,and_true] at X;simp only[Lit.wf,Bool.and_eq_true,decide_eq_true_eq] at Z;have V:IntKind.u8.min=0:=rfl;have U:IntKind.u8.max=255:=rfl;rw[V,U] at Z;exact⟨z.toNat,by omega,by rw[X,Int.toNat_of_nonneg Z.1]⟩
theorem PE{y:DataW H×List MemPlace}(I:DataW.trod enc Tryz.prog W 0 (fun _=>true) true n 22 [x]=some y):∃k:Int,Bn k∧x=.int .i8 k:=by obtain⟨z,Z,_,X⟩:=DataW.trod_int Tryz.underlying22 I;simp only[List.cons.injEq,and_true] at Z;exact⟨z,bounds_i8 X,Z⟩
theorem ci8:Tryz.prog.cellsOf 22=1:=by kernel_rfl
theorem HF{t:TypeId}{x:DataW H×List MemPlace}(I:Tryz.prog.underlying t=some (.array n 22))(y:cs.length=n)(h:DataW.trod enc Tryz.prog W 0 (fun _=>true) true fuel t cs=some x):∃L:List Int,L.length=n∧(∀z∈L,Bn z)∧cs=i8V L:=by
 obtain⟨L,X,e⟩:=Uv (cs:=cs) fun v V=>by obtain⟨i,Z⟩:=List.getElem?_of_mem V;obtain⟨_,_,t⟩:=HD I ci8 h i v (by rw[←y];exact(gL Z)) Z;exact PE t
 refine⟨L,?_,X,e⟩;rw[←y,e];simp[i8V]
theorem HE{x:DataW H×List MemPlace}(I:cs.length=7)(h:DataW.trod enc Tryz.prog W 0 (fun _=>true) true fuel 28 cs=some x):∃y:Hts,y.Ok∧cs=O6 y:=by
 obtain⟨Q,k,D,O,_,X,V⟩:=DataW.trod_struct Tryz.underlying28 h
 match Q,X,cs,I with
 | [y0,y1],_,[v0,v1,v2,v3,v4,v5,v6],_=>
  have U:=V 0 _ rfl;have S:=V 1 _ rfl;have N:Tryz.prog.cellsOf 26=6:=by kernel_rfl
  have M:Tryz.prog.cellsOf 4=1:=by kernel_rfl
  simp[N,M] at U S;obtain⟨L,K,G,F⟩:=HF Tryz.underlying26 rfl U;obtain⟨R,Z,_⟩:=DataW.trod_bool Tryz.underlying4 S;simp only[List.cons.injEq,and_true] at Z;subst Z;refine⟨⟨L,R⟩,⟨K,G⟩,?_⟩;show [v0,v1,v2,v3,v4,v5]++[Value.bool R]=_
  rw[F];rfl
theorem Zf(vs:List Value)(h:vs.length=34):vs=(vs.drop 0).take 1++((vs.drop 1).take 7++((vs.drop 8).take 7++((vs.drop 15).take 7++((vs.drop 22).take 8++(vs.drop 30).take 4)))):=by
 have e:∀(a b:Nat),(vs.drop a)=(vs.drop a).take b++vs.drop (a+b):=fun a b=>by rw[←List.drop_drop,List.take_append_drop]
 have Z:(vs.drop 30).take 4=vs.drop 30:=List.take_of_length_le (by simp[h]);rw[Z,←e 22 8,←e 15 7,←e 8 7,←e 1 7,←e 0 1];rfl
theorem Pm{d:DataW H}(y:Value.okWide Tryz.prog W .any b0 34 v)(h:DataW.Trod enc Tryz.prog W 0 (fun _=>true) true 34 v d p):
  ∃x:afO,x.Ok∧∀μ m,afQ μ m (.agg x.cells) v:=by
 obtain⟨fuel,j⟩:=h;have F:=Tryz.underlying34;simp only[Value.okWide,F] at y;obtain⟨cs,rfl,O,_⟩:=y;have Z:(Value.agg cs).cells.toList.length=34:=by simp only[Value.cells,Array.length_toList,O];kernel_rfl
 obtain⟨Y,k,hk,J,_,M,V⟩:=DataW.trod_struct F j;obtain⟨X,U⟩:=xE ((Value.agg cs).cells.toList);rw[←U] at Z V
 match Y,M with
 | [y0,y1,y2,y3,y4],_=>
  have L:DataW.trod enc Tryz.prog W 0 (fun _=>true) true k 5 ((X.drop 0).take (Tryz.prog.cellsOf 5))=some y0:=V 0 _ rfl;have D:DataW.trod enc Tryz.prog W 0 (fun _=>true) true k 28 ((X.drop 1).take (Tryz.prog.cellsOf 28))=some y1:=V 1 _ rfl;have C:DataW.trod enc Tryz.prog W 0 (fun _=>true) true k 29 ((X.drop 8).take (Tryz.prog.cellsOf 29))=some y2:=V 2 _ rfl;have g3:DataW.trod enc Tryz.prog W 0 (fun _=>true) true k 30 ((X.drop 22).take (Tryz.prog.cellsOf 30))=some y3:=V 3 _ rfl;have B:DataW.trod enc Tryz.prog W 0 (fun _=>true) true k 32 ((X.drop 30).take (Tryz.prog.cellsOf 32))=some y4:=V 4 _ rfl;have I:Tryz.prog.cellsOf 5=1:=by kernel_rfl
  have u:Tryz.prog.cellsOf 28=7:=by kernel_rfl
  have c2:Tryz.prog.cellsOf 29=14:=by kernel_rfl
  have c3:Tryz.prog.cellsOf 30=8:=by kernel_rfl
  have c4:Tryz.prog.cellsOf 32=4:=by kernel_rfl
  rw[I] at L;rw[u] at D;rw[c2] at C;rw[c3] at g3;rw[c4] at B;have S:∃v,(X.drop 0).take 1=[v]:=by
   match X,Z with
   |v::X,_=>exact⟨v,rfl⟩
  obtain⟨v0,S⟩:=S;rw[S] at L;obtain⟨K,l0,rfl⟩:=PF L;obtain⟨G,ob,eb⟩:=HE (by simp[Z]) D;obtain⟨zs,_,_,_,_,hzl,o⟩:=DataW.trod_array Tryz.underlying29 C;have f0:=o 0 (by decide);have f1:=o 1 (by decide);rw[u] at f0 f1;rw[List.getElem?_eq_getElem (by omega)] at f0 f1;obtain⟨R,o0,q0⟩:=HE (by simp[Z]) f0;obtain⟨Q,o1,q1⟩:=HE (by simp[Z]) f1;obtain⟨N,n1,n2,n3⟩:=HF Tryz.underlying30 (by simp[Z]) g3;obtain⟨T,t1,t2,t3⟩:=HF Tryz.underlying32 (by simp[Z]) B;refine⟨⟨K,G,R,Q,N,T⟩,⟨l0,ob,o0,o1,n1,n2,t1,t2⟩,fun μ m=>?_⟩;have r0:(X.drop 8).take 7=O6 R:=by rw[←q0];simp[List.take_take]
  have r1:(X.drop 15).take 7=O6 Q:=by rw[←q1];simp[List.drop_take,List.take_take]
  have e:X=U9 ⟨K,G,R,Q,N,T⟩:=by rw[Zf X Z,S,eb,r0,r1,n3,t3];rfl
  simp only[afQ];refine⟨U9 ⟨K,G,R,Q,N,T⟩,?_,Ze μ m _⟩;rw[←e,U];rfl
theorem SB{d:DataW H}(y:Value.okWide Tryz.prog W .any b0 25 v)(h:DataW.Trod enc Tryz.prog W 0 (fun _=>true) true 25 v d p):
  ∃s:af1,s.Ok∧∀μ m,afQ μ m s.av v:=by
 obtain⟨fuel,F⟩:=h;have L:=Tryz.underlying25;simp only[Value.okWide,L] at y;obtain⟨cs,rfl,S,_⟩:=y;have Z:(Value.agg cs).cells.toList.length=4:=by simp only[Value.cells,Array.length_toList,S];kernel_rfl
 obtain⟨D,o,C,_,_,R,U⟩:=DataW.trod_struct L F;obtain⟨B,X⟩:=xE ((Value.agg cs).cells.toList);rw[←X] at Z U
 match D,R,B,Z with
 | [z0,z1,z2],_,[v0,v1,v2,v3],_=>
  have f0:=U 0 _ rfl;have f1:=U 1 _ rfl;have f2:=U 2 _ rfl;have d0:Tryz.prog.cellsOf 5=1:=by kernel_rfl
  have d1:Tryz.prog.cellsOf 23=2:=by kernel_rfl
  have d2:Tryz.prog.cellsOf 4=1:=by kernel_rfl
  simp[d0,d1,d2] at f0 f1 f2;obtain⟨Q,u,rfl⟩:=PF f0;obtain⟨_,_,t1⟩:=HD Tryz.underlying23 ci8 f1 0 v1 (by decide) rfl;obtain⟨_,_,t2⟩:=HD Tryz.underlying23 ci8 f1 1 v2 (by decide) rfl;obtain⟨O,K,rfl⟩:=PE t1;obtain⟨N,G,rfl⟩:=PE t2;obtain⟨M,V,_⟩:=DataW.trod_bool Tryz.underlying4 f2;simp only[List.cons.injEq,and_true] at V;subst V;refine⟨⟨Q,O,N,M⟩,⟨u,K.1,K.2,G.1,G.2⟩,fun μ m=>?_⟩;have e:cs.toList=[.int .u8 (Q:Int),.int .i8 O,.int .i8 N,.bool M]:=X.symm;simp only[afQ,af1.av];refine⟨[.int .u8 (Q:Int),.int .i8 O,.int .i8 N,.bool M],?_,by simp[afS,afQ]⟩;rw[←e]
end
end Go.Proofs.YtffdedmakncfmaaGreatDoor
namespace Go.Proofs.YtffdedmakncfmaaGreatDoor
open Go.ChangeShapes Go.WideShapes Go.ChangeAt Go.WideMaps Go.WideElems Go.RowKit Go.Eng
section
variable {H:Type}{enc:TypeId×Value→H}{W:World}
theorem Xc{n:Nat}{y:DataW H×List MemPlace}{x:Value}(I:DataW.trod enc Tryz.prog W 0 (fun _=>true) true n 35 [x]=some y):∃k:Int,(-32768≤k∧k≤32767)∧x=.int .i16 k:=by obtain⟨z,X,_,Z⟩:=DataW.trod_int Tryz.underlying35 I;simp only[List.cons.injEq,and_true] at X;simp only[Lit.wf,Bool.and_eq_true,decide_eq_true_eq] at Z;have V:IntKind.i16.min= -32768:=rfl;have U:IntKind.i16.max=32767:=rfl;rw[V,U] at Z;exact⟨z,Z,X⟩
theorem yY{n:Nat}{y:DataW H×List MemPlace}{a b:Value}(I:DataW.trod enc Tryz.prog W 0 (fun _=>true) true n 37 [a,b]=some y):∃q:Int×Nat,YG q∧[a,b]=[.int .i16 q.1,.int .u8 (q.2:Int)]:=by
 obtain⟨R,k,G,Q,_,Z,X⟩:=DataW.trod_struct Tryz.underlying37 I
 match R,Z with
 | [y0,y1],_=>
  have O:Tryz.prog.cellsOf 35=1:=by kernel_rfl
  have N:Tryz.prog.cellsOf 5=1:=by kernel_rfl
  have V:=X 0 _ rfl;have U:=X 1 _ rfl;simp[O,N] at V U;obtain⟨M,S,rfl⟩:=Xc V;obtain⟨L,K,rfl⟩:=PF U;exact⟨(M,L),⟨S.1,S.2,K⟩,rfl⟩
theorem SA{b0:Nat}{v:Value}{d:DataW H}{p:List MemPlace}(y:Value.okWide Tryz.prog W .any b0 39 v)(h:DataW.Trod enc Tryz.prog W 0 (fun _=>true) true 39 v d p):
  ∃q:Pl,Zp q∧∀μ m,afQ μ m (.agg (plC q)) v:=by
 obtain⟨N,F⟩:=h;have M:=Tryz.underlying39;simp only[Value.okWide,M] at y;obtain⟨Q,rfl,O,_⟩:=y;have Z:(Value.agg Q).cells.toList.length=6:=by simp only[Value.cells,Array.length_toList,O];kernel_rfl
 obtain⟨Y,J,D,_,_,C,R⟩:=DataW.trod_array M F;obtain⟨B,X⟩:=xE ((Value.agg Q).cells.toList);rw[←X] at Z R
 match B,Z with
 | [v0,v1,v2,v3,v4,v5],_=>
  have f0:=R 0 (by decide);have f1:=R 1 (by decide);have f2:=R 2 (by decide);have d0:Tryz.prog.cellsOf 37=2:=by kernel_rfl
  rw[List.getElem?_eq_getElem (by omega)] at f0 f1 f2;simp only[d0,Nat.zero_mul,Nat.one_mul,Nat.reduceMul,List.drop_zero,List.drop_succ_cons,List.take_succ_cons,List.take_zero] at f0 f1 f2;obtain⟨V,u,L⟩:=yY f0;obtain⟨U,o,K⟩:=yY f1;obtain⟨S,j,G⟩:=yY f2;simp only[List.cons.injEq,and_true] at L K G;obtain⟨rfl,rfl⟩:=L;obtain⟨rfl,rfl⟩:=K;obtain⟨rfl,rfl⟩:=G;refine⟨(V,U,S),⟨u,o,j⟩,fun μ m=>?_⟩;have e:Q.toList=[.int .i16 V.1,.int .u8 (V.2:Int),.int .i16 U.1,.int .u8 (U.2:Int),.int .i16 S.1,.int .u8 (S.2:Int)]:=X.symm;simp only[afQ,plC,smC];refine⟨[.int .i16 V.1,.int .u8 (V.2:Int),.int .i16 U.1,.int .u8 (U.2:Int),.int .i16 S.1,.int .u8 (S.2:Int)],?_,by simp[afS,afQ]⟩;rw[←e]
end
theorem AX(os:Os)(y:os.Started)(H:Type)(enc:TypeId×Value→H):
  ReturnsInHanded {} Tryz.checked os 5 .any (fun w U=>(Rows.eventBackSpec.pre enc Tryz.prog Tryz.f5 [] false w U∧laidMetH Tryz.prog qt w)∧sizedMet enc Tryz.prog Tryz.f5 (OpenSpec.ofChange Rows.eventBackSpec) false w U)
   (Rows.eventBackSpec.post enc Tryz.prog Tryz.f5 false true false false):=by
 refine returnsInHanded_of_change_and (C:=Tryz.checked) (X:=fun w _=>laidMetH Tryz.prog qt w) (fun _ _ _ hh h=>h.of_heap hh) own y (by kernel_rfl) Tryz.func5
  (ChangeSpec.witness_shaped (enc:=enc) (C:=Tryz.checked) (os:=os) (X:=fun w _=>laidMetH Tryz.prog qt w) false (World.doorLaid Tryz.prog 400 os) #[.agg #[.int .u8 0,.int .i8 0,.int .i8 0,.bool false],.agg #[.int .u8 0,.int .i8 0,.int .i8 0,.int .i8 0,.int .i8 0,.int .i8 0,.int .i8 0,.bool false,.int .i8 0,.int .i8 0,.int .i8 0,.int .i8 0,.int .i8 0,.int .i8 0,.bool false,.int .i8 0,.int .i8 0,.int .i8 0,.int .i8 0,.int .i8 0,.int .i8 0,.bool false,.int .i8 0,.int .i8 0,.int .i8 0,.int .i8 0,.int .i8 0,.int .i8 0,.int .i8 0,.int .i8 0,.int .i8 0,.int .i8 0,.int .i8 0,.int .i8 0],.agg #[.int .i16 0,.int .u8 0,.int .i16 0,.int .u8 0,.int .i16 0,.int .u8 0]] 8 rfl (World.shaped_of_RefB (by kernel_rfl) (by kernel_rfl)) (by kernel_rfl) (by kernel_rfl) (by kernel_rfl) (WD os _)) ?_
 intro W O U ds gs N o hW _ _ hL _;have S:∀(j:Nat) t v,Tryz.f5.params[j]? =some t→U[j]? =some v→Value.okWide Tryz.prog W .any O t v:=o
 have M :=hW;obtain⟨p,q,m,hV,L,hfz,hnd⟩:=hW;have hA:DataW.TrodAll enc Tryz.prog W 0 (fun _=>true) true Tryz.f5.params.toList U.toList ds p:=m;have K:Tryz.f5.params= #[25,34,39]:=rfl;rw[K] at hA S;obtain⟨v0,Y,J,d0,d1,d2,G,F,D,I,rfl,rfl,h0,h1,h2⟩:=trodAll_three hA;subst I;obtain⟨rfl,rfl⟩:=trodVars_none hV;have hG:=Mc hL;have FS:∀x∈N,x.block<W.heap.size:=M.lt
 have fin:∀(B :World),Below W.heap.size W B →Rows.eventBackSpec.post enc Tryz.prog Tryz.f5 false true false false W #[v0,Y,J] (.bool true) B :=by
  intro B u;refine UQ rfl M u L rfl rfl rfl fun sp R=>?_
  rw[K];rw[List.append_nil,List.append_assoc];have Q:∀x∈G++(F++D),x∈N:=fun x Z=>by rw[L,List.append_nil,List.append_assoc];exact Z
  have m0:∀x∈G,x∈G++(F++D):=fun x Z=>List.mem_append_left _ Z
  have m1:∀x∈F,x∈G++(F++D):=fun x Z=>List.mem_append_right _ (List.mem_append_left _ Z)
  have m2:∀x∈D,x∈G++(F++D):=fun x Z=>List.mem_append_right _ (List.mem_append_right _ Z)
  exact trodAll_mk3 (Trod_stays Pc (by kernel_rfl) (of_decide_eq_true (by kernel_rfl)) h0 (fun x Z=>u.same (FS x (Q x (m0 x Z)))) (fun x Z=>R x (Q x (m0 x Z))))
   (Trod_stays Pc (by kernel_rfl) (of_decide_eq_true (by kernel_rfl)) h1 (fun x Z=>u.same (FS x (Q x (m1 x Z)))) (fun x Z=>R x (Q x (m1 x Z))))
   (Trod_stays Pc (by kernel_rfl) (of_decide_eq_true (by kernel_rfl)) h2 (fun x Z=>u.same (FS x (Q x (m2 x Z)))) (fun x Z=>R x (Q x (m2 x Z))))
 obtain⟨s,hs,hv⟩:=SB (S 0 25 v0 rfl rfl) h0;obtain⟨x,Z,hxv⟩:=Pm (S 1 34 Y rfl rfl) h1;obtain⟨pl,hpl,hpv⟩:=SA (S 2 39 J rfl rfl) h2;refine((BH s hs x Z pl hpl).2 W.heap.size _ W [v0,Y,J] hG (Si W) (bO.2 ⟨hv _ _,bO.2 ⟨hxv _ _,bO.2 ⟨hpv _ _,by simp[afS]⟩⟩⟩)).mono ?_;rintro e B ⟨V,v',m',μ',rfl,q1,q2,q3,rfl,rfl⟩;simp only[afQ] at q1;subst q1;exact⟨_,rfl,fin B (XZ q3 UI)⟩
theorem Hv:Rows.EventBackSaid:=
 OpenClaim.holds_of_wide 5 Tryz.f5 rfl rfl rfl rfl rfl rfl rfl ⟨rfl,rfl,rfl,rfl,rfl⟩ rfl rfl rfl rfl rfl (by as_aux_lemma=>kernel_rfl) Tryz.func5 CW
  (of_decide_eq_true (by as_aux_lemma=>kernel_rfl)) (by unfold Func.isWrapper;first | (rw[if_pos (by decide +kernel)];kernel_rfl) | (rw[if_neg (by decide +kernel)];exact⟨rfl,rfl⟩))
  (fun V Z H X _=>AX V Z H X)
theorem eventBack_card:Rows.EventBackCardSaid:=
 Claim7.holds_tied_plain_at .later [] [.data,.data,.data,.sentinel,.sentinel] true (true,"0318d65ae98803e99901f72db5e29a71d1d17f289d7c99a9c651880203b8b6ca") true
  Hv (fun _ h=>by cases h) (by as_aux_lemma=>kernel_rfl) (fun _ h=>by cases h) eventBack_row_tie rfl ⟨rfl,rfl⟩ (by as_aux_lemma=>kernel_rfl) rfl
  (fun f fn V X=>by
   obtain rfl:f=5:=Option.some.inj ((show Tryz.prog.funcNamed Rows.eventBackRow.func=some 5 by as_aux_lemma=>kernel_rfl).symm.trans V) |>.symm
   obtain rfl:fn=Tryz.f5:=(Option.some.inj (Tryz.func5.symm.trans X)).symm;exact⟨by as_aux_lemma=>kernel_rfl,fun j t Z=>by
    have U:Tryz.f5.params= #[25,34,39]:=rfl;rw[U] at Z
    match j,Z with
    |0,Z=>simp at Z;subst Z;exact(show Tryz.prog.wantsStandIn 25=false by as_aux_lemma=>kernel_rfl)
    |1,Z=>simp at Z;subst Z;exact(show Tryz.prog.wantsStandIn 34=false by as_aux_lemma=>kernel_rfl)
    |2,Z=>simp at Z;subst Z;exact(show Tryz.prog.wantsStandIn 39=false by as_aux_lemma=>kernel_rfl)
    |j+3,Z=>simp at Z⟩)
  (by as_aux_lemma=>kernel_rfl)
#print axioms eventBack_card
end Go.Proofs.YtffdedmakncfmaaGreatDoor
