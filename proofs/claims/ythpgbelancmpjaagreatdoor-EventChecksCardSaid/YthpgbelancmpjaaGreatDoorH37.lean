/- See H38. -/
import Derived.Test.YthpgbelancmpjaaGreatDoorH27
import Derived.Test.YthpgbelancmpjaaGreatDoorRows
import Derived.Test.YthpgbelancmpjaaGreatDoorTie
import Derived.Test.YthpgbelancmpjaaGreatDoorCards
import Derived.ProofKit
import Derived.LaidMore
import Derived.OpenShut
import Derived.ChangeSame
import Derived.ChangeVars
import Derived.JoinedOf
import Derived.RowKit
import Derived.LaidLaws
import Derived.LaidHandle
import Derived.MakeChecks
import Derived.Deep.SlicePairs
import Derived.Carry
import Derived.Stop.Joined
import Derived.SevenTiedAt
import Derived.Deep.Slices
set_option linter.all false
set_option maxRecDepth 100000
set_option maxHeartbeats 40000000
namespace Go.Proofs.YthpgbelancmpjaaGreatDoor
open Go.ChangeShapes Go.WideShapes Go.ChangeAt Go.WideMaps Go.WideElems Go.RowKit Go.Eng
theorem own:ownKnob Tryz.prog.godebug=none:=by kernel_rfl
theorem NV:laidOutB Tryz.prog=true:=by kernel_rfl
def pY:List (String×DataW Unit):=Rows.eventNumbersRow.laid
theorem Wt(os:Os)(args:Array Value):laidMetH Tryz.prog pY ((World.doorLaid Tryz.prog 400 os).forCall (fun _ _=>0) ⟨#[],args,[]⟩).memory:=
 laidMetH_of_parts3 (fuel:=8) (laidMet_of_run' 8 (by kernel_rfl) (by kernel_rfl)) (by kernel_rfl) (by kernel_rfl)
theorem W4:yE=(pY.getD 2 ("",.nil)).1:=by kernel_rfl
variable{W:World}
theorem Lv(h:laidMetH Tryz.prog pY W):GOk Tryz.prog W.heap.size W:=by
 rw[MakeChecks.laidMetH_plain _ _ _ (by kernel_rfl)] at h;obtain⟨ps,⟨g0,t0,M,f0,p0,q0,K,G,F,D,⟨g1,t1,C,f1,p1,q1,X,B,Z,y,⟨u,t2,V,f2,p2,q2,U,S,R,Q,_,_⟩,_⟩,_⟩,_,_⟩:=h;constructor
 .have e1:Tryz.prog.globals.size=6:=by kernel_rfl
  have O:Tryz.prog.globalNamed (pY.getD 1 ("",.nil)).1=some 5:=by kernel_rfl
  have N:g1=5:=(QQc (X.symm.trans O));subst N;have:=World.var?_cell X Z;unfold World.var? at Z;rw[X] at Z;simp only[Option.bind_some] at Z;split at Z
  .rename_i o
   have:=(J1.1 o).1;omega
  .cases Z
 .have O:Tryz.prog.globalNamed (pY.getD 2 ("",.nil)).1=some 3:=by kernel_rfl
  have N:u=3:=(QQc (U.symm.trans O));subst N;have m:(Tryz.prog.globals[3]?).map (·.type)=some 344:=by kernel_rfl
  have j:t2=344:=(QQc (S.symm.trans m));subst j;have Y:Tryz.prog.underlying 344=some (.array 20 293):=by kernel_rfl
  have J:Tryz.prog.underlying 293=some (.int .u64):=by kernel_rfl
  have I:=Lib.cells_of_tab (k:=.u64) (zs:=Lib.pow10Tab) Y J (by kernel_rfl) (by kernel_rfl) Q;have H:W.var? Tryz.prog yE=W.var? Tryz.prog (pY.getD 2 ("",.nil)).1:=by rw[W4]
  have e9:V=(Lib.pow10Tab.map fun z=>Value.int .u64 z).toArray:=by rw[<-I]
  unfold Lib.TabIs;rw[H,<-e9];exact R
theorem XQ{w w' :World}{H :Mem}{μ μ' :Nat->Eng.Place}{mem:Mem}{m0:Nat}(h:Step m0 μ mem w μ' H w')(I:∀b,¬eH mem b):Below w.heap.size w w' :=
 ⟨h.os,h.tape,h.output,h.size,fun k Z=>h.frame k Z fun b X=>absurd X (I b)⟩
theorem UW{H:Type}{enc:TypeId×Value->H}{f:Func}{s:ChangeSpec}{acK Y ab7 adF:Bool}{W' :World}{args:Array Value}{J gs:List (DataW H)}{I p:List MemPlace}(hsv:s.vars=[])(hW:DataW.Whole enc Tryz.prog f.params.toList s.vars acK W args.toList J gs I)(hb:Below W.heap.size W W')(hp:I=p)(hg:gs=[])(hrt:f.resultTypes= #[4])(hs:s.fn H J={ results:=[.lit (.bool true)],args:=J })(O:∀Z:Nat->Bool,(∀x∈I,Z x.block=true)->DataW.TrodAll enc Tryz.prog W' 0 Z true f.params.toList args.toList J p):
  s.post enc Tryz.prog f acK Y ab7 adF W args (.bool true) W' :=by
 subst hg;have N:∀p∈I,(fun b=>decide (b<W.heap.size)) p.block=true:=fun p hp=>by simpa using hW.lt p hp
 have U:∀(b:Nat) (Z:Nat->Bool) (M:Bool),DataW.TrodAll enc Tryz.prog W' b Z M f.resultTypes.toList ((Value.bool true).resultList f.resultTypes.size) (s.fn H (J++[])).results []:=by intro b Z M;rw[List.append_nil,hs,hrt];exact trodAll_mk1 (shut_bool Tryz.underlying4 _)
 have S :∀Z:Nat->Bool,(∀x∈I,Z x.block=true)->DataW.TrodAll enc Tryz.prog W' 0 Z true f.params.toList args.toList (s.fn H (J++[])).args p:=by intro Z h;rw[List.append_nil,hs];exact O Z h
 have R:∀Z:Nat->Bool,DataW.TrodVars enc Tryz.prog W' Z s.vars (s.fn H (J++[])).vars []:=by intro Z;rw[List.append_nil,hs,hsv];exact rfl
 refine⟨J,[],I,[],p,[],hW,U _ _ _,S _ N,R _,World.keptBut_mono (fun q X=>⟨X,?_⟩) (hb.frame _),fun _=>?_⟩
 .rw[hp] at X
  exact Or.inr (Or.inl X)
 .have K:=hW.lt
  obtain⟨_,_,_,_,_,G,F⟩:=hW;refine⟨ok_one hrt rfl (okWide_bool_mk Tryz.underlying4 _),_,_,([]++p)++[],⟨[]++p,[],trodAll_append (S _ (fun _ _=>rfl)) (U _ _ _),R _,rfl,?_,?_⟩,?_⟩
  .intro b V X
   have Q :MemPlace.cell b V∈I:=by rw[hp];simpa using X
   rw[hb.frozen (p:=⟨b,V,none⟩) (K _ Q)];exact G b V Q
  .intro D
   have:=F D;rw[hp] at this;simpa using this
  .intro q X _
   rw[hp];simpa using X
end Go.Proofs.YthpgbelancmpjaaGreatDoor
namespace Go.Proofs.YthpgbelancmpjaaGreatDoor
open Go.ChangeShapes Go.WideShapes Go.ChangeAt Go.WideMaps Go.WideElems Go.RowKit Go.Eng
theorem UK:∀b,¬eH [] b:=by rintro b ⟨s,hs,_⟩;simp at hs
theorem Re(W:World):afJ W.heap.size (fun _=>⟨0,0,0,0⟩) [] W:=⟨Es _,fun b s Z=>by simp at Z,fun b U S X=>by obtain⟨x,V,_⟩:=X;simp at V⟩
section
variable {H:Type}{enc:TypeId×Value->H}{P:Program}{w:World}{base:Nat}{acM:Nat->Bool}{aed:Bool}
theorem Hk{n:Nat}{t e:TypeId}{fuel:Nat}{cs:List Value}{x:DataW H×List MemPlace}(J:P.underlying t=some (.array n e))(W:P.cellsOf e=1)(h:DataW.trod enc P w base acM aed fuel t cs=some x)(i:Nat)(v:Value)(Y:i<n)(I:cs[i]? =some v):
  ∃m y,DataW.trod enc P w base acM aed m e [v]=some y:=by
 obtain⟨X,m,_,_,_,S,V⟩:=DataW.trod_array J h;have:=V i Y;rw[W,Nat.mul_one] at this;have U:(cs.drop i).take 1=[v]:=by have Z:=gL I;rw[LU Z];rw[LB Z] at I;simp only[List.take_succ_cons,List.take_zero];rw[QQc I]
 rw[U] at this;exact⟨m,X[i],by rw[this,LB]⟩
end
def i8V(L:List Int):List Value:=L.map fun z=>.int .i8 z
theorem OO(μ:Nat->Eng.Place)(m:Nat):∀L:List Int,afy μ m (i8C L) (i8V L)
 | []=>rfl
 |z::L=>by have:=OO μ m L;unfold i8C i8V at*;simp only[List.map_cons];exact bW.2 ⟨by simp[afx],this⟩
theorem mA{μ:Nat->Eng.Place}{m:Nat}{b:List AV}{B:List Value}(H:afy μ m b B):∀{a:List AV} {A:List Value},afy μ m a A->afy μ m (a++b) (A++B)
 | [],A,ha=>by simp only[afy] at ha;subst ha;exact H
 |v::a,A,ha=>by simp only[afy] at ha;obtain⟨U,V,rfl,Z,X⟩:=ha;exact bW.2 ⟨Z,mA H X⟩
def NQ(h:Hts):List Value:=i8V h.v++[.bool h.half]
def Va(x:afv):List Value:=[.int .u8 (x.kind:Int)]++(NQ x.base++(NQ x.s0++(NQ x.s1++(i8V x.N++i8V x.T))))
theorem NR(μ:Nat->Eng.Place)(m:Nat)(h:Hts):afy μ m h.cells (NQ h):=mA (bW.2 ⟨by simp[afx],by simp[afy]⟩) (OO μ m h.v)
theorem Za(μ:Nat->Eng.Place)(m:Nat)(x:afv):afy μ m x.cells (Va x):=
 mA (a:=[AV.int .u8 x.kind]) (mA (mA (mA (mA (OO μ m x.T) (OO μ m x.N)) (NR μ m x.s1)) (NR μ m x.s0)) (NR μ m x.base)) (bW.2 ⟨by simp[afx],by simp[afy]⟩)
theorem Uv:∀{cs:List Value},(∀v∈cs,∃k:Int,AS k/\v=.int .i8 k)->∃L:List Int,(∀z∈L,AS z)/\cs=i8V L
 | [],_=>⟨[],fun z Z=>by simp at Z,rfl⟩
 |v::cs,h=>by
  obtain⟨k,X,rfl⟩:=h v (by simp);obtain⟨L,V,rfl⟩:=Uv (cs:=cs) fun v U=>h v (by simp[U])
  exact⟨k::L,fun z Z=>by rcases List.mem_cons.1 Z with rfl | Z;exact X;exact V z Z,rfl⟩
variable{b0 fuel n:Nat}{cs:List Value}{p:List MemPlace}{v x:Value}
section
variable {H:Type}{enc:TypeId×Value->H}{W:World}
theorem Oo{y:DataW H×List MemPlace}(hx:DataW.trod enc Tryz.prog W 0 (fun _=>true) true n 5 [x]=some y):∃k:Nat,k<256/\x=.int .u8 (k:Int):=by obtain⟨z,X,_,Z⟩:=DataW.trod_int Tryz.underlying5 hx;simp only[List.cons.injEq,and_true] at X;simp only[Lit.wf,Ar,Cs] at Z;have V:IntKind.u8.min=0:=rfl;have U:IntKind.u8.max=255:=rfl;rw[V,U] at Z;exact⟨z.toNat,by omega,by rw[X,QQb Z.1]⟩
theorem On{y:DataW H×List MemPlace}(hx:DataW.trod enc Tryz.prog W 0 (fun _=>true) true n 22 [x]=some y):∃k:Int,AS k/\x=.int .i8 k:=by obtain⟨z,Z,_,X⟩:=DataW.trod_int Tryz.underlying22 hx;simp only[List.cons.injEq,and_true] at Z;exact⟨z,bounds_i8 X,Z⟩
theorem ci8:Tryz.prog.cellsOf 22=1:=by kernel_rfl
theorem Hm{t:TypeId}{x:DataW H×List MemPlace}(J:Tryz.prog.underlying t=some (.array n 22))(I:cs.length=n)(h:DataW.trod enc Tryz.prog W 0 (fun _=>true) true fuel t cs=some x):∃L:List Int,L.length=n/\(∀z∈L,AS z)/\cs=i8V L:=by
 obtain⟨L,X,e⟩:=Uv (cs:=cs) fun v V=>by obtain⟨i,Z⟩:=QXJ V;obtain⟨_,_,t⟩:=Hk J ci8 h i v (by rw[<-I];exact(gL Z)) Z;exact On t
 refine⟨L,?_,X,e⟩;rw[<-I,e];simp[i8V]
theorem Hl{x:DataW H×List MemPlace}(I:cs.length=7)(h:DataW.trod enc Tryz.prog W 0 (fun _=>true) true fuel 28 cs=some x):∃y:Hts,y.Ok/\cs=NQ y:=by
 obtain⟨R,k,F,Q,_,X,V⟩:=DataW.trod_struct Tryz.underlying28 h
 match R,X,cs,I with
 | [y0,y1],_,[v0,v1,v2,v3,v4,v5,v6],_=>
  have U:=V 0 _ rfl;have g1:=V 1 _ rfl;have O:Tryz.prog.cellsOf 26=6:=by kernel_rfl
  have N:Tryz.prog.cellsOf 4=1:=by kernel_rfl
  simp[O,N] at U g1;obtain⟨L,M,K,G⟩:=Hm Tryz.underlying26 rfl U;obtain⟨S,Z,_⟩:=DataW.trod_bool Tryz.underlying4 g1;simp only[List.cons.injEq,and_true] at Z;subst Z;refine⟨⟨L,S⟩,⟨M,K⟩,?_⟩;show [v0,v1,v2,v3,v4,v5]++[Value.bool S]=_
  rw[G];rfl
theorem Zc(vs:List Value)(h:vs.length=34):vs=(vs.drop 0).take 1++((vs.drop 1).take 7++((vs.drop 8).take 7++((vs.drop 15).take 7++((vs.drop 22).take 8++(vs.drop 30).take 4)))):=by
 have e:∀(a b:Nat),(vs.drop a)=(vs.drop a).take b++vs.drop (a+b):=fun a b=>by rw[<-QXQ,List.take_append_drop]
 have Z:(vs.drop 30).take 4=vs.drop 30:=An (by simp[h]);rw[Z,<-e 22 8,<-e 15 7,<-e 8 7,<-e 1 7,<-e 0 1];rfl
theorem N4{d:DataW H}(I:Value.okWide Tryz.prog W .any b0 34 v)(h:DataW.Trod enc Tryz.prog W 0 (fun _=>true) true 34 v d p):
  ∃x:afv,x.Ok/\∀μ m,afx μ m (.agg x.cells) v:=by
 obtain⟨fuel,o⟩:=h;have D:=Tryz.underlying34;simp only[Value.okWide,D] at I;obtain⟨cs,rfl,O,_⟩:=I;have Z:(Value.agg cs).cells.toList.length=34:=by simp only[Value.cells,QQl,O];kernel_rfl
 obtain⟨j,k,hk,Y,_,M,V⟩:=DataW.trod_struct D o;obtain⟨X,U⟩:=xE ((Value.agg cs).cells.toList);rw[<-U] at Z V
 match j,M with
 | [y0,y1,y2,y3,y4],_=>
  have K:DataW.trod enc Tryz.prog W 0 (fun _=>true) true k 5 ((X.drop 0).take (Tryz.prog.cellsOf 5))=some y0:=V 0 _ rfl;have g1:DataW.trod enc Tryz.prog W 0 (fun _=>true) true k 28 ((X.drop 1).take (Tryz.prog.cellsOf 28))=some y1:=V 1 _ rfl;have C:DataW.trod enc Tryz.prog W 0 (fun _=>true) true k 29 ((X.drop 8).take (Tryz.prog.cellsOf 29))=some y2:=V 2 _ rfl;have g3:DataW.trod enc Tryz.prog W 0 (fun _=>true) true k 30 ((X.drop 22).take (Tryz.prog.cellsOf 30))=some y3:=V 3 _ rfl;have B:DataW.trod enc Tryz.prog W 0 (fun _=>true) true k 32 ((X.drop 30).take (Tryz.prog.cellsOf 32))=some y4:=V 4 _ rfl;have J:Tryz.prog.cellsOf 5=1:=by kernel_rfl
  have y:Tryz.prog.cellsOf 28=7:=by kernel_rfl
  have c2:Tryz.prog.cellsOf 29=14:=by kernel_rfl
  have c3:Tryz.prog.cellsOf 30=8:=by kernel_rfl
  have c4:Tryz.prog.cellsOf 32=4:=by kernel_rfl
  rw[J] at K;rw[y] at g1;rw[c2] at C;rw[c3] at g3;rw[c4] at B;have S:∃v,(X.drop 0).take 1=[v]:=by
   match X,Z with
   |v::X,_=>exact⟨v,rfl⟩
  obtain⟨v0,S⟩:=S;rw[S] at K;obtain⟨G,l0,rfl⟩:=Oo K;obtain⟨F,ob,eb⟩:=Hl (by simp[Z]) g1;obtain⟨zs,_,_,_,_,hzl,u⟩:=DataW.trod_array Tryz.underlying29 C;have f0:=u 0 (by decide);have f1:=u 1 (by decide);rw[y] at f0 f1;rw[LB (by omega)] at f0 f1;obtain⟨R,o0,q0⟩:=Hl (by simp[Z]) f0;obtain⟨Q,o1,q1⟩:=Hl (by simp[Z]) f1;obtain⟨N,n1,n2,n3⟩:=Hm Tryz.underlying30 (by simp[Z]) g3;obtain⟨T,t1,t2,t3⟩:=Hm Tryz.underlying32 (by simp[Z]) B;refine⟨⟨G,F,R,Q,N,T⟩,⟨l0,ob,o0,o1,n1,n2,t1,t2⟩,fun μ m=>?_⟩;have r0:(X.drop 8).take 7=NQ R:=by rw[<-q0];simp[List.take_take]
  have r1:(X.drop 15).take 7=NQ Q:=by rw[<-q1];simp[List.drop_take,List.take_take]
  have e:X=Va ⟨G,F,R,Q,N,T⟩:=by rw[Zc X Z,S,eb,r0,r1,n3,t3];rfl
  simp only[afx];refine⟨Va ⟨G,F,R,Q,N,T⟩,?_,Za μ m _⟩;rw[<-e,U];rfl
theorem Ru{d:DataW H}(I:Value.okWide Tryz.prog W .any b0 25 v)(h:DataW.Trod enc Tryz.prog W 0 (fun _=>true) true 25 v d p):
  ∃s:afI,s.Ok/\∀μ m,afx μ m s.av v:=by
 obtain⟨fuel,D⟩:=h;have K:=Tryz.underlying25;simp only[Value.okWide,K] at I;obtain⟨cs,rfl,S,_⟩:=I;have Z:(Value.agg cs).cells.toList.length=4:=by simp only[Value.cells,QQl,S];kernel_rfl
 obtain⟨C,o,B,_,_,R,U⟩:=DataW.trod_struct K D;obtain⟨y,X⟩:=xE ((Value.agg cs).cells.toList);rw[<-X] at Z U
 match C,R,y,Z with
 | [z0,z1,z2],_,[v0,v1,v2,v3],_=>
  have f0:=U 0 _ rfl;have f1:=U 1 _ rfl;have f2:=U 2 _ rfl;have d0:Tryz.prog.cellsOf 5=1:=by kernel_rfl
  have d1:Tryz.prog.cellsOf 23=2:=by kernel_rfl
  have d2:Tryz.prog.cellsOf 4=1:=by kernel_rfl
  simp[d0,d1,d2] at f0 f1 f2;obtain⟨Q,u,rfl⟩:=Oo f0;obtain⟨_,_,t1⟩:=Hk Tryz.underlying23 ci8 f1 0 v1 (by decide) rfl;obtain⟨_,_,t2⟩:=Hk Tryz.underlying23 ci8 f1 1 v2 (by decide) rfl;obtain⟨O,G,rfl⟩:=On t1;obtain⟨N,F,rfl⟩:=On t2;obtain⟨M,V,_⟩:=DataW.trod_bool Tryz.underlying4 f2;simp only[List.cons.injEq,and_true] at V;subst V;refine⟨⟨Q,O,N,M⟩,⟨u,G.1,G.2,F.1,F.2⟩,fun μ m=>?_⟩;have e:cs.toList=[.int .u8 (Q:Int),.int .i8 O,.int .i8 N,.bool M]:=X.symm;simp only[afx,afI.av];refine⟨[.int .u8 (Q:Int),.int .i8 O,.int .i8 N,.bool M],?_,by simp[afy,afx]⟩;rw[<-e]
end
end Go.Proofs.YthpgbelancmpjaaGreatDoor
