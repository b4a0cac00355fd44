/-
The law EventReturns of package klippelaw29 returns true for every sheet, sketch and place by small numbers, and all three read afterwards as before.
Conditions: those of the given row alone.
-/
import Derived.Test.YthpgbelancmpjaaGreatDoorE53
import Derived.Test.YthpgbelancmpjaaGreatDoorRows
import Derived.Test.YthpgbelancmpjaaGreatDoorTie
import Derived.Test.YthpgbelancmpjaaGreatDoorCards
import Derived.ProofKit
import Derived.LaidMore
import Derived.OpenShut
import Derived.ChangeSame
import Derived.ChangeVars
import Derived.JoinedOf
import Derived.RowKit
import Derived.LaidLaws
import Derived.LaidHandle
import Derived.MakeChecks
import Derived.Deep.SlicePairs
import Derived.Carry
import Derived.Stop.Joined
import Derived.SevenTiedAt
import Derived.Deep.Slices
set_option linter.all false
set_option maxRecDepth 100000
set_option maxHeartbeats 40000000
namespace Go.Proofs.YthpgbelancmpjaaGreatDoor
open Go.ChangeShapes Go.WideShapes Go.ChangeAt Go.WideMaps Go.WideElems Go.RowKit Go.Eng
theorem own:ownKnob Tryz.prog.godebug=none:=by kernel_rfl
theorem M2:laidOutB Tryz.prog=true:=by kernel_rfl
def oV:List (String×DataW Unit):=Rows.eventNumbersRow.laid
theorem Uk(os:Os)(args:Array Value):laidMetH Tryz.prog oV ((World.doorLaid Tryz.prog 400 os).forCall (fun _ _=>0) ⟨#[],args,[]⟩).memory:=
 laidMetH_of_parts3 (fuel:=8) (laidMet_of_run' 8 (by kernel_rfl) (by kernel_rfl)) (by kernel_rfl) (by kernel_rfl)
theorem U1:xF=(oV.getD 2 ("",.nil)).1:=by kernel_rfl
variable{W:World}
theorem Kb(h:laidMetH Tryz.prog oV W):GOk Tryz.prog W.heap.size W:=by
 rw[MakeChecks.laidMetH_plain _ _ _ (by kernel_rfl)] at h;obtain⟨ps,⟨g0,t0,M,f0,p0,q0,L,K,G,Zf,⟨F,t1,D,f1,p1,q1,X,C,Z,B,⟨A,t2,V,f2,p2,q2,u,U,S,R,_,_⟩,_⟩,_⟩,_,_⟩:=h;constructor
 ·have e1:Tryz.prog.globals.size=6:=by kernel_rfl
  have O:Tryz.prog.globalNamed (oV.getD 1 ("",.nil)).1=some 5:=by kernel_rfl
  have N:F=5:=(Option.some.inj (X.symm.trans O));subst N;have:=World.var?_cell X Z;unfold World.var? at Z;rw[X] at Z;simp only[Option.bind_some] at Z;split at Z
  ·rename_i o
   have:=(Array.getElem?_eq_some_iff.1 o).1;omega
  ·cases Z
 ·have O:Tryz.prog.globalNamed (oV.getD 2 ("",.nil)).1=some 3:=by kernel_rfl
  have N:A=3:=(Option.some.inj (u.symm.trans O));subst N;have m:(Tryz.prog.globals[3]?).map (·.type)=some 344:=by kernel_rfl
  have j:t2=344:=(Option.some.inj (U.symm.trans m));subst j;have Y:Tryz.prog.underlying 344=some (.array 20 293):=by kernel_rfl
  have J:Tryz.prog.underlying 293=some (.int .u64):=by kernel_rfl
  have I:=Lib.cells_of_tab (k:=.u64) (zs:=Lib.pow10Tab) Y J (by kernel_rfl) (by kernel_rfl) R;have H:W.var? Tryz.prog xF=W.var? Tryz.prog (oV.getD 2 ("",.nil)).1:=by rw[U1]
  have e9:V=(Lib.pow10Tab.map fun z=>Value.int .u64 z).toArray:=by rw[←I]
  unfold Lib.TabIs;rw[H,←e9];exact S
theorem VN{w w' :World}{H :Mem}{μ μ' :Nat→Eng.Place}{mem:Mem}{m0:Nat}(h:Step m0 μ mem w μ' H w')(I:∀b,¬dQ mem b):Below w.heap.size w w' :=
 ⟨h.os,h.tape,h.output,h.size,fun k Z=>h.frame k Z fun b X=>absurd X (I b)⟩
theorem Sw{H:Type}{enc:TypeId×Value→H}{f:Func}{s:ChangeSpec}{abD J aa3 acq:Bool}{W' :World}{args:Array Value}{I gs:List (DataW H)}{Y p:List MemPlace}(hsv:s.vars=[])(hW:DataW.Whole enc Tryz.prog f.params.toList s.vars abD W args.toList I gs Y)(hb:Below W.heap.size W W')(hp:Y=p)(hg:gs=[])(hrt:f.resultTypes= #[4])(hs:s.fn H I={ results:=[.lit (.bool true)],args:=I })(M:∀Z:Nat→Bool,(∀x∈Y,Z x.block=true)→DataW.TrodAll enc Tryz.prog W' 0 Z true f.params.toList args.toList I p):
  s.post enc Tryz.prog f abD J aa3 acq W args (.bool true) W' :=by
 subst hg;have L:∀p∈Y,(fun b=>decide (b<W.heap.size)) p.block=true:=fun p hp=>by simpa using hW.lt p hp
 have O:∀(b:Nat) (Z:Nat→Bool) (N:Bool),DataW.TrodAll enc Tryz.prog W' b Z N f.resultTypes.toList ((Value.bool true).resultList f.resultTypes.size) (s.fn H (I++[])).results []:=by intro b Z N;rw[List.append_nil,hs,hrt];exact trodAll_mk1 (shut_bool Tryz.underlying4 _)
 have U :∀Z:Nat→Bool,(∀x∈Y,Z x.block=true)→DataW.TrodAll enc Tryz.prog W' 0 Z true f.params.toList args.toList (s.fn H (I++[])).args p:=by intro Z h;rw[List.append_nil,hs];exact M Z h
 have S:∀Z:Nat→Bool,DataW.TrodVars enc Tryz.prog W' Z s.vars (s.fn H (I++[])).vars []:=by intro Z;rw[List.append_nil,hs,hsv];exact rfl
 refine⟨I,[],Y,[],p,[],hW,O _ _ _,U _ L,S _,World.keptBut_mono (fun q X=>⟨X,?_⟩) (hb.frame _),fun _=>?_⟩
 ·rw[hp] at X
  exact Or.inr (Or.inl X)
 ·have K:=hW.lt
  obtain⟨_,_,_,_,_,G,F⟩:=hW;refine⟨ok_one hrt rfl (okWide_bool_mk Tryz.underlying4 _),_,_,([]++p)++[],⟨[]++p,[],trodAll_append (U _ (fun _ _=>rfl)) (O _ _ _),S _,rfl,?_,?_⟩,?_⟩
  ·intro b V X
   have R :MemPlace.cell b V∈Y:=by rw[hp];simpa using X
   rw[hb.frozen (p:=⟨b,V,none⟩) (K _ R)];exact G b V R
  ·intro D
   have:=F D;rw[hp] at this;simpa using this
  ·intro q X _
   rw[hp];simpa using X
end Go.Proofs.YthpgbelancmpjaaGreatDoor
namespace Go.Proofs.YthpgbelancmpjaaGreatDoor
open Go.ChangeShapes Go.WideShapes Go.ChangeAt Go.WideMaps Go.WideElems Go.RowKit Go.Eng
theorem Si:∀b,¬dQ [] b:=by rintro b ⟨s,hs,_⟩;simp at hs
theorem PU(W:World):aes W.heap.size (fun _=>⟨0,0,0,0⟩) [] W:=⟨Nat.le_refl _,fun b s Z=>by simp at Z,fun b U S X=>by obtain⟨x,V,_⟩:=X;simp at V⟩
theorem vG:joinedFacts Tryz.prog 5 Tryz.f5 Rows.eventReturnsSpec Rows.eventReturnsRow=true:=by
 unfold joinedFacts;simp only[Bool.and_eq_true]
 repeat' apply And.intro
 all_goals (as_aux_lemma=>kernel_rfl)
section
variable {H:Type}{enc:TypeId×Value→H}{P:Program}{w:World}{base:Nat}{abF:Nat→Bool}{acU:Bool}
theorem F4{n:Nat}{t e:TypeId}{fuel:Nat}{cs:List Value}{x:DataW H×List MemPlace}(J:P.underlying t=some (.array n e))(W:P.cellsOf e=1)(h:DataW.trod enc P w base abF acU fuel t cs=some x)(i:Nat)(v:Value)(Y:i<n)(I:cs[i]? =some v):
  ∃m y,DataW.trod enc P w base abF acU m e [v]=some y:=by
 obtain⟨X,m,_,_,_,S,V⟩:=DataW.trod_array J h;have:=V i Y;rw[W,Nat.mul_one] at this;have U:(cs.drop i).take 1=[v]:=by have Z:=gL I;rw[List.drop_eq_getElem_cons Z];rw[List.getElem?_eq_getElem Z] at I;simp only[List.take_succ_cons,List.take_zero];rw[Option.some.inj I]
 rw[U] at this;exact⟨m,X[i],by rw[this,List.getElem?_eq_getElem]⟩
end
def i8V(L:List Int):List Value:=L.map fun z=>.int .i8 z
theorem NV(μ:Nat→Eng.Place)(m:Nat):∀L:List Int,aeh μ m (i8C L) (i8V L)
 | []=>rfl
 |z::L=>by have:=NV μ m L;unfold i8C i8V at*;simp only[List.map_cons];exact bE.2 ⟨by simp[aeg],this⟩
theorem k8{μ:Nat→Eng.Place}{m:Nat}{b:List AV}{B:List Value}(H:aeh μ m b B):∀{a:List AV} {A:List Value},aeh μ m a A→aeh μ m (a++b) (A++B)
 | [],A,ha=>by simp only[aeh] at ha;subst ha;exact H
 |v::a,A,ha=>by simp only[aeh] at ha;obtain⟨U,V,rfl,Z,X⟩:=ha;exact bE.2 ⟨Z,k8 H X⟩
def MX(h:Hts):List Value:=i8V h.v++[.bool h.half]
def SR(x:aed):List Value:=[.int .u8 (x.kind:Int)]++(MX x.base++(MX x.s0++(MX x.s1++(i8V x.N++i8V x.T))))
theorem MY(μ:Nat→Eng.Place)(m:Nat)(h:Hts):aeh μ m h.cells (MX h):=k8 (bE.2 ⟨by simp[aeg],by simp[aeh]⟩) (NV μ m h.v)
theorem WY(μ:Nat→Eng.Place)(m:Nat)(x:aed):aeh μ m x.cells (SR x):=
 k8 (a:=[AV.int .u8 x.kind]) (k8 (k8 (k8 (k8 (NV μ m x.T) (NV μ m x.N)) (MY μ m x.s1)) (MY μ m x.s0)) (MY μ m x.base)) (bE.2 ⟨by simp[aeg],by simp[aeh]⟩)
theorem RY:∀{cs:List Value},(∀v∈cs,∃k:Int,z8 k∧v=.int .i8 k)→∃L:List Int,(∀z∈L,z8 z)∧cs=i8V L
 | [],_=>⟨[],fun z Z=>by simp at Z,rfl⟩
 |v::cs,h=>by
  obtain⟨k,X,rfl⟩:=h v (by simp);obtain⟨L,V,rfl⟩:=RY (cs:=cs) fun v U=>h v (by simp[U])
  exact⟨k::L,fun z Z=>by rcases List.mem_cons.1 Z with rfl | Z;exact X;exact V z Z,rfl⟩
variable{b0 fuel n:Nat}{cs:List Value}{p:List MemPlace}{v x:Value}
section
variable {H:Type}{enc:TypeId×Value→H}{W:World}
theorem Nw{y:DataW H×List MemPlace}(I:DataW.trod enc Tryz.prog W 0 (fun _=>true) true n 5 [x]=some y):∃k:Nat,k<256∧x=.int .u8 (k:Int):=by obtain⟨z,X,_,Z⟩:=DataW.trod_int Tryz.underlying5 I;simp only[List.cons.injEq,and_true] at X;simp only[Lit.wf,Bool.and_eq_true,decide_eq_true_eq] at Z;have V:IntKind.u8.min=0:=rfl;have U:IntKind.u8.max=255:=rfl;rw[V,U] at Z;exact⟨z.toNat,by omega,by rw[X,Int.toNat_of_nonneg Z.1]⟩
theorem Nv{y:DataW H×List MemPlace}(I:DataW.trod enc Tryz.prog W 0 (fun _=>true) true n 22 [x]=some y):∃k:Int,z8 k∧x=.int .i8 k:=by obtain⟨z,Z,_,X⟩:=DataW.trod_int Tryz.underlying22 I;simp only[List.cons.injEq,and_true] at Z;exact⟨z,bounds_i8 X,Z⟩
theorem ci8:Tryz.prog.cellsOf 22=1:=by kernel_rfl
theorem F6{t:TypeId}{x:DataW H×List MemPlace}(J:Tryz.prog.underlying t=some (.array n 22))(I:cs.length=n)(h:DataW.trod enc Tryz.prog W 0 (fun _=>true) true fuel t cs=some x):∃L:List Int,L.length=n∧(∀z∈L,z8 z)∧cs=i8V L:=by
 obtain⟨L,X,e⟩:=RY (cs:=cs) fun v V=>by obtain⟨i,Z⟩:=List.getElem?_of_mem V;obtain⟨_,_,t⟩:=F4 J ci8 h i v (by rw[←I];exact(gL Z)) Z;exact Nv t
 refine⟨L,?_,X,e⟩;rw[←I,e];simp[i8V]
theorem F5{x:DataW H×List MemPlace}(I:cs.length=7)(h:DataW.trod enc Tryz.prog W 0 (fun _=>true) true fuel 28 cs=some x):∃y:Hts,y.Ok∧cs=MX y:=by
 obtain⟨O,k,D,C,_,X,V⟩:=DataW.trod_struct Tryz.underlying28 h
 match O,X,cs,I with
 | [y0,y1],_,[v0,v1,v2,v3,v4,v5,v6],_=>
  have U:=V 0 _ rfl;have S:=V 1 _ rfl;have N:Tryz.prog.cellsOf 26=6:=by kernel_rfl
  have M:Tryz.prog.cellsOf 4=1:=by kernel_rfl
  simp[N,M] at U S;obtain⟨L,K,G,F⟩:=F6 Tryz.underlying26 rfl U;obtain⟨R,Z,_⟩:=DataW.trod_bool Tryz.underlying4 S;simp only[List.cons.injEq,and_true] at Z;subst Z;refine⟨⟨L,R⟩,⟨K,G⟩,?_⟩;show [v0,v1,v2,v3,v4,v5]++[Value.bool R]=_
  rw[F];rfl
theorem WZ(vs:List Value)(h:vs.length=34):vs=(vs.drop 0).take 1++((vs.drop 1).take 7++((vs.drop 8).take 7++((vs.drop 15).take 7++((vs.drop 22).take 8++(vs.drop 30).take 4)))):=by
 have e:∀(a b:Nat),(vs.drop a)=(vs.drop a).take b++vs.drop (a+b):=fun a b=>by rw[←List.drop_drop,List.take_append_drop]
 have Z:(vs.drop 30).take 4=vs.drop 30:=List.take_of_length_le (by simp[h]);rw[Z,←e 22 8,←e 15 7,←e 8 7,←e 1 7,←e 0 1];rfl
theorem Na{d:DataW H}(I:Value.okWide Tryz.prog W .any b0 34 v)(h:DataW.Trod enc Tryz.prog W 0 (fun _=>true) true 34 v d p):
  ∃x:aed,x.Ok∧∀μ m,aeg μ m (.agg x.cells) v:=by
 obtain⟨fuel,o⟩:=h;have F:=Tryz.underlying34;simp only[Value.okWide,F] at I;obtain⟨cs,rfl,j,_⟩:=I;have X:(Value.agg cs).cells.toList.length=34:=by simp only[Value.cells,Array.length_toList,j];kernel_rfl
 obtain⟨Y,k,hk,ZV,_,M,V⟩:=DataW.trod_struct F o;obtain⟨Z,U⟩:=xE ((Value.agg cs).cells.toList);rw[←U] at X V
 match Y,M with
 | [y0,y1,y2,y3,y4],_=>
  have L:DataW.trod enc Tryz.prog W 0 (fun _=>true) true k 5 ((Z.drop 0).take (Tryz.prog.cellsOf 5))=some y0:=V 0 _ rfl;have D:DataW.trod enc Tryz.prog W 0 (fun _=>true) true k 28 ((Z.drop 1).take (Tryz.prog.cellsOf 28))=some y1:=V 1 _ rfl;have C:DataW.trod enc Tryz.prog W 0 (fun _=>true) true k 29 ((Z.drop 8).take (Tryz.prog.cellsOf 29))=some y2:=V 2 _ rfl;have g3:DataW.trod enc Tryz.prog W 0 (fun _=>true) true k 30 ((Z.drop 22).take (Tryz.prog.cellsOf 30))=some y3:=V 3 _ rfl;have B:DataW.trod enc Tryz.prog W 0 (fun _=>true) true k 32 ((Z.drop 30).take (Tryz.prog.cellsOf 32))=some y4:=V 4 _ rfl;have J:Tryz.prog.cellsOf 5=1:=by kernel_rfl
  have A:Tryz.prog.cellsOf 28=7:=by kernel_rfl
  have c2:Tryz.prog.cellsOf 29=14:=by kernel_rfl
  have c3:Tryz.prog.cellsOf 30=8:=by kernel_rfl
  have c4:Tryz.prog.cellsOf 32=4:=by kernel_rfl
  rw[J] at L;rw[A] at D;rw[c2] at C;rw[c3] at g3;rw[c4] at B;have S:∃v,(Z.drop 0).take 1=[v]:=by
   match Z,X with
   |v::Z,_=>exact⟨v,rfl⟩
  obtain⟨v0,S⟩:=S;rw[S] at L;obtain⟨K,l0,rfl⟩:=Nw L;obtain⟨G,ob,eb⟩:=F5 (by simp[X]) D;obtain⟨zs,_,_,_,_,hzl,u⟩:=DataW.trod_array Tryz.underlying29 C;have f0:=u 0 (by decide);have f1:=u 1 (by decide);rw[A] at f0 f1;rw[List.getElem?_eq_getElem (by omega)] at f0 f1;obtain⟨R,o0,q0⟩:=F5 (by simp[X]) f0;obtain⟨O,o1,q1⟩:=F5 (by simp[X]) f1;obtain⟨N,n1,n2,n3⟩:=F6 Tryz.underlying30 (by simp[X]) g3;obtain⟨T,t1,t2,t3⟩:=F6 Tryz.underlying32 (by simp[X]) B;refine⟨⟨K,G,R,O,N,T⟩,⟨l0,ob,o0,o1,n1,n2,t1,t2⟩,fun μ m=>?_⟩;have r0:(Z.drop 8).take 7=MX R:=by rw[←q0];simp[List.take_take]
  have r1:(Z.drop 15).take 7=MX O:=by rw[←q1];simp[List.drop_take,List.take_take]
  have e:Z=SR ⟨K,G,R,O,N,T⟩:=by rw[WZ Z X,S,eb,r0,r1,n3,t3];rfl
  simp only[aeg];refine⟨SR ⟨K,G,R,O,N,T⟩,?_,WY μ m _⟩;rw[←e,U];rfl
theorem Qd{d:DataW H}(I:Value.okWide Tryz.prog W .any b0 25 v)(h:DataW.Trod enc Tryz.prog W 0 (fun _=>true) true 25 v d p):
  ∃s:aeo,s.Ok∧∀μ m,aeg μ m s.av v:=by
 obtain⟨fuel,F⟩:=h;have M:=Tryz.underlying25;simp only[Value.okWide,M] at I;obtain⟨cs,rfl,D,_⟩:=I;have L:(Value.agg cs).cells.toList.length=4:=by simp only[Value.cells,Array.length_toList,D];kernel_rfl
 obtain⟨C,o,B,_,_,U,V⟩:=DataW.trod_struct M F;obtain⟨A,Z⟩:=xE ((Value.agg cs).cells.toList);rw[←Z] at L V
 match C,U,A,L with
 | [z0,z1,z2],_,[v0,v1,v2,v3],_=>
  have f0:=V 0 _ rfl;have f1:=V 1 _ rfl;have f2:=V 2 _ rfl;have d0:Tryz.prog.cellsOf 5=1:=by kernel_rfl
  have d1:Tryz.prog.cellsOf 23=2:=by kernel_rfl
  have d2:Tryz.prog.cellsOf 4=1:=by kernel_rfl
  simp[d0,d1,d2] at f0 f1 f2;obtain⟨S,u,rfl⟩:=Nw f0;obtain⟨_,_,t1⟩:=F4 Tryz.underlying23 ci8 f1 0 v1 (by decide) rfl;obtain⟨_,_,t2⟩:=F4 Tryz.underlying23 ci8 f1 1 v2 (by decide) rfl;obtain⟨R,K,rfl⟩:=Nv t1;obtain⟨O,G,rfl⟩:=Nv t2;obtain⟨N,X,_⟩:=DataW.trod_bool Tryz.underlying4 f2;simp only[List.cons.injEq,and_true] at X;subst X;refine⟨⟨S,R,O,N⟩,⟨u,K.1,K.2,G.1,G.2⟩,fun μ m=>?_⟩;have e:cs.toList=[.int .u8 (S:Int),.int .i8 R,.int .i8 O,.bool N]:=Z.symm;simp only[aeg,aeo.av];refine⟨[.int .u8 (S:Int),.int .i8 R,.int .i8 O,.bool N],?_,by simp[aeh,aeg]⟩;rw[←e]
end
end Go.Proofs.YthpgbelancmpjaaGreatDoor
namespace Go.Proofs.YthpgbelancmpjaaGreatDoor
open Go.ChangeShapes Go.WideShapes Go.ChangeAt Go.WideMaps Go.WideElems Go.RowKit Go.Eng
section
variable {H:Type}{enc:TypeId×Value→H}{W:World}
theorem U3{n:Nat}{y:DataW H×List MemPlace}{x:Value}(I:DataW.trod enc Tryz.prog W 0 (fun _=>true) true n 35 [x]=some y):∃k:Int,(-32768≤k∧k≤32767)∧x=.int .i16 k:=by obtain⟨z,X,_,Z⟩:=DataW.trod_int Tryz.underlying35 I;simp only[List.cons.injEq,and_true] at X;simp only[Lit.wf,Bool.and_eq_true,decide_eq_true_eq] at Z;have V:IntKind.i16.min= -32768:=rfl;have U:IntKind.i16.max=32767:=rfl;rw[V,U] at Z;exact⟨z,Z,X⟩
theorem xK{n:Nat}{y:DataW H×List MemPlace}{a b:Value}(I:DataW.trod enc Tryz.prog W 0 (fun _=>true) true n 37 [a,b]=some y):∃q:Int×Nat,Wo q∧[a,b]=[.int .i16 q.1,.int .u8 (q.2:Int)]:=by
 obtain⟨R,k,G,F,_,Z,X⟩:=DataW.trod_struct Tryz.underlying37 I
 match R,Z with
 | [y0,y1],_=>
  have O:Tryz.prog.cellsOf 35=1:=by kernel_rfl
  have N:Tryz.prog.cellsOf 5=1:=by kernel_rfl
  have V:=X 0 _ rfl;have U:=X 1 _ rfl;simp[O,N] at V U;obtain⟨M,S,rfl⟩:=U3 V;obtain⟨L,K,rfl⟩:=Nw U;exact⟨(M,L),⟨S.1,S.2,K⟩,rfl⟩
theorem Qc{b0:Nat}{v:Value}{d:DataW H}{p:List MemPlace}(I:Value.okWide Tryz.prog W .any b0 39 v)(h:DataW.Trod enc Tryz.prog W 0 (fun _=>true) true 39 v d p):
  ∃q:Pl,Xa q∧∀μ m,aeg μ m (.agg (plC q)) v:=by
 obtain⟨O,F⟩:=h;have N:=Tryz.underlying39;simp only[Value.okWide,N] at I;obtain⟨R,rfl,D,_⟩:=I;have M:(Value.agg R).cells.toList.length=6:=by simp only[Value.cells,Array.length_toList,D];kernel_rfl
 obtain⟨Y,J,C,_,_,B,S⟩:=DataW.trod_array N F;obtain⟨A,Z⟩:=xE ((Value.agg R).cells.toList);rw[←Z] at M S
 match A,M with
 | [v0,v1,v2,v3,v4,v5],_=>
  have f0:=S 0 (by decide);have f1:=S 1 (by decide);have f2:=S 2 (by decide);have d0:Tryz.prog.cellsOf 37=2:=by kernel_rfl
  rw[List.getElem?_eq_getElem (by omega)] at f0 f1 f2;simp only[d0,Nat.zero_mul,Nat.one_mul,Nat.reduceMul,List.drop_zero,List.drop_succ_cons,List.take_succ_cons,List.take_zero] at f0 f1 f2;obtain⟨X,u,L⟩:=xK f0;obtain⟨V,o,K⟩:=xK f1;obtain⟨U,j,G⟩:=xK f2;simp only[List.cons.injEq,and_true] at L K G;obtain⟨rfl,rfl⟩:=L;obtain⟨rfl,rfl⟩:=K;obtain⟨rfl,rfl⟩:=G;refine⟨(X,V,U),⟨u,o,j⟩,fun μ m=>?_⟩;have e:R.toList=[.int .i16 X.1,.int .u8 (X.2:Int),.int .i16 V.1,.int .u8 (V.2:Int),.int .i16 U.1,.int .u8 (U.2:Int)]:=Z.symm;simp only[aeg,plC,smC];refine⟨[.int .i16 X.1,.int .u8 (X.2:Int),.int .i16 V.1,.int .u8 (V.2:Int),.int .i16 U.1,.int .u8 (U.2:Int)],?_,by simp[aeh,aeg]⟩;rw[←e]
end
theorem uu(os:Os)(Z9:os.Started)(H:Type)(enc:TypeId×Value→H):
  ReturnsInHanded {} Tryz.checked os 5 .any (fun w U=>(Rows.eventReturnsSpec.pre enc Tryz.prog Tryz.f5 [] false w U∧laidMetH Tryz.prog oV w)∧sizedMet enc Tryz.prog Tryz.f5 (OpenSpec.ofChange Rows.eventReturnsSpec) false w U)
   (Rows.eventReturnsSpec.post enc Tryz.prog Tryz.f5 false true false false):=by
 refine returnsInHanded_of_change_and (C:=Tryz.checked) (X:=fun w _=>laidMetH Tryz.prog oV w) (fun _ _ _ hh h=>h.of_heap hh) own Z9 (by kernel_rfl) Tryz.func5
  (ChangeSpec.witness_shaped (enc:=enc) (C:=Tryz.checked) (os:=os) (X:=fun w _=>laidMetH Tryz.prog oV w) false (World.doorLaid Tryz.prog 400 os) #[.agg #[.int .u8 0,.int .i8 0,.int .i8 0,.bool false],.agg #[.int .u8 0,.int .i8 0,.int .i8 0,.int .i8 0,.int .i8 0,.int .i8 0,.int .i8 0,.bool false,.int .i8 0,.int .i8 0,.int .i8 0,.int .i8 0,.int .i8 0,.int .i8 0,.bool false,.int .i8 0,.int .i8 0,.int .i8 0,.int .i8 0,.int .i8 0,.int .i8 0,.bool false,.int .i8 0,.int .i8 0,.int .i8 0,.int .i8 0,.int .i8 0,.int .i8 0,.int .i8 0,.int .i8 0,.int .i8 0,.int .i8 0,.int .i8 0,.int .i8 0],.agg #[.int .i16 0,.int .u8 0,.int .i16 0,.int .u8 0,.int .i16 0,.int .u8 0]] 8 rfl (World.shaped_of_RefB (by kernel_rfl) (by kernel_rfl)) (by kernel_rfl) (by kernel_rfl) (by kernel_rfl) (Uk os _)) ?_
 intro W O U ds gs Yt u hW _ _ hL _;have B:∀(j:Nat) t v,Tryz.f5.params[j]? =some t→U[j]? =some v→Value.okWide Tryz.prog W .any O t v:=u
 have N :=hW;obtain⟨p,q,o,hV,M,hfz,hnd⟩:=hW;have hA:DataW.TrodAll enc Tryz.prog W 0 (fun _=>true) true Tryz.f5.params.toList U.toList ds p:=o;have L:Tryz.f5.params= #[25,34,39]:=rfl;rw[L] at hA B;obtain⟨v0,m,Y,d0,d1,d2,K,G,F,Y8,rfl,rfl,h0,h1,h2⟩:=trodAll_three hA;subst Y8;obtain⟨rfl,rfl⟩:=trodVars_none hV;have hG:=Kb hL;have J:∀x∈Yt,x.block<W.heap.size:=N.lt
 have Y7:∀(D :World),Below W.heap.size W D →Rows.eventReturnsSpec.post enc Tryz.prog Tryz.f5 false true false false W #[v0,m,Y] (.bool true) D :=by
  intro D A;refine Sw rfl N A M rfl rfl rfl fun sp S=>?_
  rw[L];rw[List.append_nil,List.append_assoc];have R:∀x∈K++(G++F),x∈Yt:=fun x Z=>by rw[M,List.append_nil,List.append_assoc];exact Z
  have m0:∀x∈K,x∈K++(G++F):=fun x Z=>List.mem_append_left _ Z
  have m1:∀x∈G,x∈K++(G++F):=fun x Z=>List.mem_append_right _ (List.mem_append_left _ Z)
  have m2:∀x∈F,x∈K++(G++F):=fun x Z=>List.mem_append_right _ (List.mem_append_right _ Z)
  exact trodAll_mk3 (Trod_stays M2 (by kernel_rfl) (of_decide_eq_true (by kernel_rfl)) h0 (fun x Z=>A.same (J x (R x (m0 x Z)))) (fun x Z=>S x (R x (m0 x Z))))
   (Trod_stays M2 (by kernel_rfl) (of_decide_eq_true (by kernel_rfl)) h1 (fun x Z=>A.same (J x (R x (m1 x Z)))) (fun x Z=>S x (R x (m1 x Z))))
   (Trod_stays M2 (by kernel_rfl) (of_decide_eq_true (by kernel_rfl)) h2 (fun x Z=>A.same (J x (R x (m2 x Z)))) (fun x Z=>S x (R x (m2 x Z))))
 obtain⟨s,hs,hv⟩:=Qd (B 0 25 v0 rfl rfl) h0;obtain⟨x,Z,I⟩:=Na (B 1 34 m rfl rfl) h1;obtain⟨pl,hpl,hpv⟩:=Qc (B 2 39 Y rfl rfl) h2;refine((uP s hs x Z pl hpl).2 W.heap.size _ W [v0,m,Y] hG (PU W) (bE.2 ⟨hv _ _,bE.2 ⟨I _ _,bE.2 ⟨hpv _ _,by simp[aeh]⟩⟩⟩)).mono ?_;rintro e D ⟨V,v',m',μ',rfl,q1,q2,q3,rfl,rfl⟩;simp only[aeg] at q1;subst q1;exact⟨_,rfl,Y7 D (VN q3 Si)⟩
theorem zE:Rows.EventReturnsSaid:=
 OpenClaim.holds_of_wide 5 Tryz.f5 rfl rfl rfl rfl rfl rfl rfl ⟨rfl,rfl,rfl,rfl,rfl⟩ rfl rfl rfl rfl rfl (by as_aux_lemma=>kernel_rfl) Tryz.func5 vG
  (of_decide_eq_true (by as_aux_lemma=>kernel_rfl)) (by unfold Func.isWrapper;first | (rw[if_pos (by decide +kernel)];kernel_rfl) | (rw[if_neg (by decide +kernel)];exact⟨rfl,rfl⟩))
  (fun X V H Z _=>uu X V H Z)
theorem eventReturns_card:Rows.EventReturnsCardSaid:=
 Claim7.holds_tied_plain_at .later [] [.data,.data,.data,.sentinel,.sentinel] true (true,"74a34921920eb3870d68da733564cd9dee90ad52aeb7b3408c8480495735d049") true
  zE (fun _ h=>by cases h) (by as_aux_lemma=>kernel_rfl) (fun _ h=>by cases h) eventReturns_row_tie rfl ⟨rfl,rfl⟩ (by as_aux_lemma=>kernel_rfl) rfl
  (fun f fn V X=>by
   obtain rfl:f=5:=Option.some.inj ((show Tryz.prog.funcNamed Rows.eventReturnsRow.func=some 5 by as_aux_lemma=>kernel_rfl).symm.trans V) |>.symm
   obtain rfl:fn=Tryz.f5:=(Option.some.inj (Tryz.func5.symm.trans X)).symm;exact⟨by as_aux_lemma=>kernel_rfl,fun j t Z=>by
    have U:Tryz.f5.params= #[25,34,39]:=rfl;rw[U] at Z
    match j,Z with
    |0,Z=>simp at Z;subst Z;exact(show Tryz.prog.wantsStandIn 25=false by as_aux_lemma=>kernel_rfl)
    |1,Z=>simp at Z;subst Z;exact(show Tryz.prog.wantsStandIn 34=false by as_aux_lemma=>kernel_rfl)
    |2,Z=>simp at Z;subst Z;exact(show Tryz.prog.wantsStandIn 39=false by as_aux_lemma=>kernel_rfl)
    |j+3,Z=>simp at Z⟩)
  (by as_aux_lemma=>kernel_rfl)
#print axioms eventReturns_card
end Go.Proofs.YthpgbelancmpjaaGreatDoor
