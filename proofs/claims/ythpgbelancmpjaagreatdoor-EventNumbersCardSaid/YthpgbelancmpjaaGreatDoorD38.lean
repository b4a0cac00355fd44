/-
The law EventNumbers of package klippelaw29 returns true for every sheet, sketch and place by small numbers, and all three read afterwards as before.
Conditions: those of the given row alone.
-/
import Derived.Test.YthpgbelancmpjaaGreatDoorD37
import Derived.Test.YthpgbelancmpjaaGreatDoorRows
import Derived.Test.YthpgbelancmpjaaGreatDoorTie
import Derived.Test.YthpgbelancmpjaaGreatDoorCards
import Derived.ProofKit
import Derived.LaidMore
import Derived.OpenShut
import Derived.ChangeSame
import Derived.ChangeVars
import Derived.JoinedOf
import Derived.RowKit
import Derived.LaidLaws
import Derived.LaidHandle
import Derived.MakeChecks
import Derived.Deep.SlicePairs
import Derived.Carry
import Derived.Stop.Joined
import Derived.SevenTiedAt
import Derived.Deep.Slices
set_option linter.all false
set_option maxRecDepth 100000
set_option maxHeartbeats 40000000
namespace Go.Proofs.YthpgbelancmpjaaGreatDoor
open Go.ChangeShapes Go.WideShapes Go.ChangeAt Go.WideMaps Go.WideElems Go.RowKit Go.Eng
theorem own:ownKnob Tryz.prog.godebug=none:=by kernel_rfl
theorem Og:laidOutB Tryz.prog=true:=by kernel_rfl
def pJ:List (String×DataW Unit):=Rows.eventNumbersRow.laid
theorem Vv(os:Os)(args:Array Value):laidMetH Tryz.prog pJ ((World.doorLaid Tryz.prog 400 os).forCall (fun _ _=>0) ⟨#[],args,[]⟩).memory:=
 laidMetH_of_parts3 (fuel:=8) (laidMet_of_run' 8 (by kernel_rfl) (by kernel_rfl)) (by kernel_rfl) (by kernel_rfl)
theorem V8:xW=(pJ.getD 2 ("",.nil)).1:=by kernel_rfl
variable{W:World}
theorem Lu(h:laidMetH Tryz.prog pJ W):GOk Tryz.prog W.heap.size W:=by
 rw[MakeChecks.laidMetH_plain _ _ _ (by kernel_rfl)] at h;obtain⟨ps,⟨g0,t0,M,f0,p0,q0,L,K,G,F,⟨D,t1,C,f1,p1,q1,X,B,Z,u,⟨o,t2,V,f2,p2,q2,m,U,S,R,_,_⟩,_⟩,_⟩,_,_⟩:=h;constructor
 .have e1:Tryz.prog.globals.size=6:=by kernel_rfl
  have O:Tryz.prog.globalNamed (pJ.getD 1 ("",.nil)).1=some 5:=by kernel_rfl
  have N:D=5:=(ZQ (X.symm.trans O));subst N;have:=World.var?_cell X Z;unfold World.var? at Z;rw[X] at Z;simp only[Option.bind_some] at Z;split at Z
  .rename_i j
   have:=(Nm.1 j).1;omega
  .cases Z
 .have O:Tryz.prog.globalNamed (pJ.getD 2 ("",.nil)).1=some 3:=by kernel_rfl
  have N:o=3:=(ZQ (m.symm.trans O));subst N;have Y:(Tryz.prog.globals[3]?).map (·.type)=some 344:=by kernel_rfl
  have J:t2=344:=(ZQ (U.symm.trans Y));subst J;have I:Tryz.prog.underlying 344=some (.array 20 293):=by kernel_rfl
  have H:Tryz.prog.underlying 293=some (.int .u64):=by kernel_rfl
  have hc:=Lib.cells_of_tab (k:=.u64) (zs:=Lib.pow10Tab) I H (by kernel_rfl) (by kernel_rfl) R;have e8:W.var? Tryz.prog xW=W.var? Tryz.prog (pJ.getD 2 ("",.nil)).1:=by rw[V8]
  have e9:V=(Lib.pow10Tab.map fun z=>Value.int .u64 z).toArray:=by rw[<-hc]
  unfold Lib.TabIs;rw[e8,<-e9];exact S
theorem WY{w w' :World}{H :Mem}{μ μ' :Nat->Eng.Place}{mem:Mem}{m0:Nat}(h:Step m0 μ mem w μ' H w')(I:∀b,¬eJ mem b):Below w.heap.size w w' :=
 ⟨h.os,h.tape,h.output,h.size,fun k Z=>h.frame k Z fun b X=>absurd X (I b)⟩
theorem TQ{H:Type}{enc:TypeId×Value->H}{f:Func}{s:ChangeSpec}{ab' J abz ac4:Bool}{W' :World}{args:Array Value}{I gs:List (DataW H)}{Y p:List MemPlace}(hsv:s.vars=[])(hW:DataW.Whole enc Tryz.prog f.params.toList s.vars ab' W args.toList I gs Y)(hb:Below W.heap.size W W')(hp:Y=p)(hg:gs=[])(hrt:f.resultTypes= #[4])(hs:s.fn H I={ results:=[.lit (.bool true)],args:=I })(O:∀Z:Nat->Bool,(∀x∈Y,Z x.block=true)->DataW.TrodAll enc Tryz.prog W' 0 Z true f.params.toList args.toList I p):
  s.post enc Tryz.prog f ab' J abz ac4 W args (.bool true) W' :=by
 subst hg;have L:∀p∈Y,(fun b=>decide (b<W.heap.size)) p.block=true:=fun p hp=>by simpa using hW.lt p hp
 have N:∀(b:Nat) (Z:Nat->Bool) (M:Bool),DataW.TrodAll enc Tryz.prog W' b Z M f.resultTypes.toList ((Value.bool true).resultList f.resultTypes.size) (s.fn H (I++[])).results []:=by intro b Z M;rw[List.append_nil,hs,hrt];exact trodAll_mk1 (shut_bool Tryz.underlying4 _)
 have U :∀Z:Nat->Bool,(∀x∈Y,Z x.block=true)->DataW.TrodAll enc Tryz.prog W' 0 Z true f.params.toList args.toList (s.fn H (I++[])).args p:=by intro Z h;rw[List.append_nil,hs];exact O Z h
 have S:∀Z:Nat->Bool,DataW.TrodVars enc Tryz.prog W' Z s.vars (s.fn H (I++[])).vars []:=by intro Z;rw[List.append_nil,hs,hsv];exact rfl
 refine⟨I,[],Y,[],p,[],hW,N _ _ _,U _ L,S _,World.keptBut_mono (fun q X=>⟨X,?_⟩) (hb.frame _),fun _=>?_⟩
 .rw[hp] at X
  exact Or.inr (Or.inl X)
 .have K:=hW.lt
  obtain⟨_,_,_,_,_,G,F⟩:=hW;refine⟨ok_one hrt rfl (okWide_bool_mk Tryz.underlying4 _),_,_,([]++p)++[],⟨[]++p,[],trodAll_append (U _ (fun _ _=>rfl)) (N _ _ _),S _,rfl,?_,?_⟩,?_⟩
  .intro b V X
   have R :MemPlace.cell b V∈Y:=by rw[hp];simpa using X
   rw[hb.frozen (p:=⟨b,V,none⟩) (K _ R)];exact G b V R
  .intro D
   have:=F D;rw[hp] at this;simpa using this
  .intro q X _
   rw[hp];simpa using X
end Go.Proofs.YthpgbelancmpjaaGreatDoor
namespace Go.Proofs.YthpgbelancmpjaaGreatDoor
open Go.ChangeShapes Go.WideShapes Go.ChangeAt Go.WideMaps Go.WideElems Go.RowKit Go.Eng
theorem TE:∀b,¬eJ [] b:=by rintro b ⟨s,hs,_⟩;simp at hs
theorem Rf(W:World):afv W.heap.size (fun _=>⟨0,0,0,0⟩) [] W:=⟨L9 _,fun b s Z=>by simp at Z,fun b U S X=>by obtain⟨x,V,_⟩:=X;simp at V⟩
theorem wB:joinedFacts Tryz.prog 4 Tryz.f4 Rows.eventNumbersSpec Rows.eventNumbersRow=true:=by
 unfold joinedFacts;simp only[C0]
 repeat' apply And.intro
 all_goals (as_aux_lemma=>kernel_rfl)
section
variable {H:Type}{enc:TypeId×Value->H}{P:Program}{w:World}{base:Nat}{acb:Nat->Bool}{adG:Bool}
theorem GV{n:Nat}{t e:TypeId}{fuel:Nat}{cs:List Value}{x:DataW H×List MemPlace}(J:P.underlying t=some (.array n e))(W:P.cellsOf e=1)(h:DataW.trod enc P w base acb adG fuel t cs=some x)(i:Nat)(v:Value)(Y:i<n)(I:cs[i]? =some v):
  ∃m y,DataW.trod enc P w base acb adG m e [v]=some y:=by
 obtain⟨X,m,_,_,_,S,V⟩:=DataW.trod_array J h;have:=V i Y;rw[W,Nat.mul_one] at this;have U:(cs.drop i).take 1=[v]:=by have Z:=gL I;rw[N0 Z];rw[GT Z] at I;simp only[List.take_succ_cons,List.take_zero];rw[ZQ I]
 rw[U] at this;exact⟨m,X[i],by rw[this,GT]⟩
end
def i8V(L:List Int):List Value:=L.map fun z=>.int .i8 z
theorem O6(μ:Nat->Eng.Place)(m:Nat):∀L:List Int,afk μ m (i8C L) (i8V L)
 | []=>rfl
 |z::L=>by have:=O6 μ m L;unfold i8C i8V at*;simp only[List.map_cons];exact bV.2 ⟨by simp[afj],this⟩
theorem mx{μ:Nat->Eng.Place}{m:Nat}{b:List AV}{B:List Value}(H:afk μ m b B):∀{a:List AV} {A:List Value},afk μ m a A->afk μ m (a++b) (A++B)
 | [],A,ha=>by simp only[afk] at ha;subst ha;exact H
 |v::a,A,ha=>by simp only[afk] at ha;obtain⟨U,V,rfl,Z,X⟩:=ha;exact bV.2 ⟨Z,mx H X⟩
def Oc(h:Hts):List Value:=i8V h.v++[.bool h.half]
def T9(x:afg):List Value:=[.int .u8 (x.kind:Int)]++(Oc x.base++(Oc x.s0++(Oc x.s1++(i8V x.N++i8V x.T))))
theorem Od(μ:Nat->Eng.Place)(m:Nat)(h:Hts):afk μ m h.cells (Oc h):=mx (bV.2 ⟨by simp[afj],by simp[afk]⟩) (O6 μ m h.v)
theorem X8(μ:Nat->Eng.Place)(m:Nat)(x:afg):afk μ m x.cells (T9 x):=
 mx (a:=[AV.int .u8 x.kind]) (mx (mx (mx (mx (O6 μ m x.T) (O6 μ m x.N)) (Od μ m x.s1)) (Od μ m x.s0)) (Od μ m x.base)) (bV.2 ⟨by simp[afj],by simp[afk]⟩)
theorem Tq:∀{cs:List Value},(∀v∈cs,∃k:Int,AD k/\v=.int .i8 k)->∃L:List Int,(∀z∈L,AD z)/\cs=i8V L
 | [],_=>⟨[],fun z Z=>by simp at Z,rfl⟩
 |v::cs,h=>by
  obtain⟨k,X,rfl⟩:=h v (by simp);obtain⟨L,V,rfl⟩:=Tq (cs:=cs) fun v U=>h v (by simp[U])
  exact⟨k::L,fun z Z=>by rcases List.mem_cons.1 Z with rfl | Z;exact X;exact V z Z,rfl⟩
variable{b0 fuel n:Nat}{cs:List Value}{p:List MemPlace}{v x:Value}
section
variable {H:Type}{enc:TypeId×Value->H}{W:World}
theorem OL{y:DataW H×List MemPlace}(I:DataW.trod enc Tryz.prog W 0 (fun _=>true) true n 5 [x]=some y):∃k:Nat,k<256/\x=.int .u8 (k:Int):=by obtain⟨z,X,_,Z⟩:=DataW.trod_int Tryz.underlying5 I;simp only[List.cons.injEq,and_true] at X;simp only[Lit.wf,C0,Es] at Z;have V:IntKind.u8.min=0:=rfl;have U:IntKind.u8.max=255:=rfl;rw[V,U] at Z;exact⟨z.toNat,by omega,by rw[X,QQd Z.1]⟩
theorem OK{y:DataW H×List MemPlace}(I:DataW.trod enc Tryz.prog W 0 (fun _=>true) true n 22 [x]=some y):∃k:Int,AD k/\x=.int .i8 k:=by obtain⟨z,Z,_,X⟩:=DataW.trod_int Tryz.underlying22 I;simp only[List.cons.injEq,and_true] at Z;exact⟨z,bounds_i8 X,Z⟩
theorem ci8:Tryz.prog.cellsOf 22=1:=by kernel_rfl
theorem GX{t:TypeId}{x:DataW H×List MemPlace}(J:Tryz.prog.underlying t=some (.array n 22))(I:cs.length=n)(h:DataW.trod enc Tryz.prog W 0 (fun _=>true) true fuel t cs=some x):∃L:List Int,L.length=n/\(∀z∈L,AD z)/\cs=i8V L:=by
 obtain⟨L,X,e⟩:=Tq (cs:=cs) fun v V=>by obtain⟨i,Z⟩:=QXa V;obtain⟨_,_,t⟩:=GV J ci8 h i v (by rw[<-I];exact(gL Z)) Z;exact OK t
 refine⟨L,?_,X,e⟩;rw[<-I,e];simp[i8V]
theorem GW{x:DataW H×List MemPlace}(I:cs.length=7)(h:DataW.trod enc Tryz.prog W 0 (fun _=>true) true fuel 28 cs=some x):∃y:Hts,y.Ok/\cs=Oc y:=by
 obtain⟨O,k,C,N,_,X,V⟩:=DataW.trod_struct Tryz.underlying28 h
 match O,X,cs,I with
 | [y0,y1],_,[v0,v1,v2,v3,v4,v5,v6],_=>
  have U:=V 0 _ rfl;have S:=V 1 _ rfl;have M:Tryz.prog.cellsOf 26=6:=by kernel_rfl
  have K:Tryz.prog.cellsOf 4=1:=by kernel_rfl
  simp[M,K] at U S;obtain⟨L,G,F,D⟩:=GX Tryz.underlying26 rfl U;obtain⟨R,Z,_⟩:=DataW.trod_bool Tryz.underlying4 S;simp only[List.cons.injEq,and_true] at Z;subst Z;refine⟨⟨L,R⟩,⟨G,F⟩,?_⟩;show [v0,v1,v2,v3,v4,v5]++[Value.bool R]=_
  rw[D];rfl
theorem X9(vs:List Value)(h:vs.length=34):vs=(vs.drop 0).take 1++((vs.drop 1).take 7++((vs.drop 8).take 7++((vs.drop 15).take 7++((vs.drop 22).take 8++(vs.drop 30).take 4)))):=by
 have e:∀(a b:Nat),(vs.drop a)=(vs.drop a).take b++vs.drop (a+b):=fun a b=>by rw[<-QQk,List.take_append_drop]
 have Z:(vs.drop 30).take 4=vs.drop 30:=B5 (by simp[h]);rw[Z,<-e 22 8,<-e 15 7,<-e 8 7,<-e 1 7,<-e 0 1];rfl
theorem Oq{d:DataW H}(I:Value.okWide Tryz.prog W .any b0 34 v)(h:DataW.Trod enc Tryz.prog W 0 (fun _=>true) true 34 v d p):
  ∃x:afg,x.Ok/\∀μ m,afj μ m (.agg x.cells) v:=by
 obtain⟨fuel,Y⟩:=h;have D:=Tryz.underlying34;simp only[Value.okWide,D] at I;obtain⟨cs,rfl,M,_⟩:=I;have Z:(Value.agg cs).cells.toList.length=34:=by simp only[Value.cells,QQm,M];kernel_rfl
 obtain⟨J,k,hk,hxy,_,L,V⟩:=DataW.trod_struct D Y;obtain⟨X,U⟩:=xE ((Value.agg cs).cells.toList);rw[<-U] at Z V
 match J,L with
 | [y0,y1,y2,y3,y4],_=>
  have K:DataW.trod enc Tryz.prog W 0 (fun _=>true) true k 5 ((X.drop 0).take (Tryz.prog.cellsOf 5))=some y0:=V 0 _ rfl;have C:DataW.trod enc Tryz.prog W 0 (fun _=>true) true k 28 ((X.drop 1).take (Tryz.prog.cellsOf 28))=some y1:=V 1 _ rfl;have B:DataW.trod enc Tryz.prog W 0 (fun _=>true) true k 29 ((X.drop 8).take (Tryz.prog.cellsOf 29))=some y2:=V 2 _ rfl;have g3:DataW.trod enc Tryz.prog W 0 (fun _=>true) true k 30 ((X.drop 22).take (Tryz.prog.cellsOf 30))=some y3:=V 3 _ rfl;have u:DataW.trod enc Tryz.prog W 0 (fun _=>true) true k 32 ((X.drop 30).take (Tryz.prog.cellsOf 32))=some y4:=V 4 _ rfl;have c0:Tryz.prog.cellsOf 5=1:=by kernel_rfl
  have o:Tryz.prog.cellsOf 28=7:=by kernel_rfl
  have c2:Tryz.prog.cellsOf 29=14:=by kernel_rfl
  have c3:Tryz.prog.cellsOf 30=8:=by kernel_rfl
  have c4:Tryz.prog.cellsOf 32=4:=by kernel_rfl
  rw[c0] at K;rw[o] at C;rw[c2] at B;rw[c3] at g3;rw[c4] at u;have S:∃v,(X.drop 0).take 1=[v]:=by
   match X,Z with
   |v::X,_=>exact⟨v,rfl⟩
  obtain⟨v0,S⟩:=S;rw[S] at K;obtain⟨G,l0,rfl⟩:=OL K;obtain⟨F,ob,eb⟩:=GW (by simp[Z]) C;obtain⟨zs,_,_,_,_,hzl,j⟩:=DataW.trod_array Tryz.underlying29 B;have f0:=j 0 (by decide);have f1:=j 1 (by decide);rw[o] at f0 f1;rw[GT (by omega)] at f0 f1;obtain⟨R,o0,q0⟩:=GW (by simp[Z]) f0;obtain⟨O,o1,q1⟩:=GW (by simp[Z]) f1;obtain⟨N,n1,n2,n3⟩:=GX Tryz.underlying30 (by simp[Z]) g3;obtain⟨T,t1,t2,t3⟩:=GX Tryz.underlying32 (by simp[Z]) u;refine⟨⟨G,F,R,O,N,T⟩,⟨l0,ob,o0,o1,n1,n2,t1,t2⟩,fun μ m=>?_⟩;have r0:(X.drop 8).take 7=Oc R:=by rw[<-q0];simp[List.take_take]
  have r1:(X.drop 15).take 7=Oc O:=by rw[<-q1];simp[List.drop_take,List.take_take]
  have e:X=T9 ⟨G,F,R,O,N,T⟩:=by rw[X9 X Z,S,eb,r0,r1,n3,t3];rfl
  simp only[afj];refine⟨T9 ⟨G,F,R,O,N,T⟩,?_,X8 μ m _⟩;rw[<-e,U];rfl
theorem Ru{d:DataW H}(I:Value.okWide Tryz.prog W .any b0 25 v)(h:DataW.Trod enc Tryz.prog W 0 (fun _=>true) true 25 v d p):
  ∃s:afq,s.Ok/\∀μ m,afj μ m s.av v:=by
 obtain⟨fuel,D⟩:=h;have K:=Tryz.underlying25;simp only[Value.okWide,K] at I;obtain⟨cs,rfl,S,_⟩:=I;have Z:(Value.agg cs).cells.toList.length=4:=by simp only[Value.cells,QQm,S];kernel_rfl
 obtain⟨C,j,B,_,_,R,U⟩:=DataW.trod_struct K D;obtain⟨u,X⟩:=xE ((Value.agg cs).cells.toList);rw[<-X] at Z U
 match C,R,u,Z with
 | [z0,z1,z2],_,[v0,v1,v2,v3],_=>
  have f0:=U 0 _ rfl;have f1:=U 1 _ rfl;have f2:=U 2 _ rfl;have d0:Tryz.prog.cellsOf 5=1:=by kernel_rfl
  have d1:Tryz.prog.cellsOf 23=2:=by kernel_rfl
  have d2:Tryz.prog.cellsOf 4=1:=by kernel_rfl
  simp[d0,d1,d2] at f0 f1 f2;obtain⟨O,o,rfl⟩:=OL f0;obtain⟨_,_,t1⟩:=GV Tryz.underlying23 ci8 f1 0 v1 (by decide) rfl;obtain⟨_,_,t2⟩:=GV Tryz.underlying23 ci8 f1 1 v2 (by decide) rfl;obtain⟨N,G,rfl⟩:=OK t1;obtain⟨M,F,rfl⟩:=OK t2;obtain⟨L,V,_⟩:=DataW.trod_bool Tryz.underlying4 f2;simp only[List.cons.injEq,and_true] at V;subst V;refine⟨⟨O,N,M,L⟩,⟨o,G.1,G.2,F.1,F.2⟩,fun μ m=>?_⟩;have e:cs.toList=[.int .u8 (O:Int),.int .i8 N,.int .i8 M,.bool L]:=X.symm;simp only[afj,afq.av];refine⟨[.int .u8 (O:Int),.int .i8 N,.int .i8 M,.bool L],?_,by simp[afk,afj]⟩;rw[<-e]
end
end Go.Proofs.YthpgbelancmpjaaGreatDoor
namespace Go.Proofs.YthpgbelancmpjaaGreatDoor
open Go.ChangeShapes Go.WideShapes Go.ChangeAt Go.WideMaps Go.WideElems Go.RowKit Go.Eng
section
variable {H:Type}{enc:TypeId×Value->H}{W:World}
theorem V9{n:Nat}{y:DataW H×List MemPlace}{x:Value}(I:DataW.trod enc Tryz.prog W 0 (fun _=>true) true n 35 [x]=some y):∃k:Int,(-32768<=k/\k<=32767)/\x=.int .i16 k:=by obtain⟨z,X,_,Z⟩:=DataW.trod_int Tryz.underlying35 I;simp only[List.cons.injEq,and_true] at X;simp only[Lit.wf,C0,Es] at Z;have V:IntKind.i16.min= -32768:=rfl;have U:IntKind.i16.max=32767:=rfl;rw[V,U] at Z;exact⟨z,Z,X⟩
theorem ya{n:Nat}{y:DataW H×List MemPlace}{a b:Value}(I:DataW.trod enc Tryz.prog W 0 (fun _=>true) true n 37 [a,b]=some y):∃q:Int×Nat,Xt q/\[a,b]=[.int .i16 q.1,.int .u8 (q.2:Int)]:=by
 obtain⟨R,k,F,O,_,Z,X⟩:=DataW.trod_struct Tryz.underlying37 I
 match R,Z with
 | [y0,y1],_=>
  have N:Tryz.prog.cellsOf 35=1:=by kernel_rfl
  have M:Tryz.prog.cellsOf 5=1:=by kernel_rfl
  have V:=X 0 _ rfl;have U:=X 1 _ rfl;simp[N,M] at V U;obtain⟨L,S,rfl⟩:=V9 V;obtain⟨K,G,rfl⟩:=OL U;exact⟨(L,K),⟨S.1,S.2,G⟩,rfl⟩
theorem Rt{b0:Nat}{v:Value}{d:DataW H}{p:List MemPlace}(I:Value.okWide Tryz.prog W .any b0 39 v)(h:DataW.Trod enc Tryz.prog W 0 (fun _=>true) true 39 v d p):
  ∃q:Pl,Yt q/\∀μ m,afj μ m (.agg (plC q)) v:=by
 obtain⟨M,D⟩:=h;have L:=Tryz.underlying39;simp only[Value.okWide,L] at I;obtain⟨O,rfl,N,_⟩:=I;have Z:(Value.agg O).cells.toList.length=6:=by simp only[Value.cells,QQm,N];kernel_rfl
 obtain⟨J,k',C,_,_,B,R⟩:=DataW.trod_array L D;obtain⟨u,X⟩:=xE ((Value.agg O).cells.toList);rw[<-X] at Z R
 match u,Z with
 | [v0,v1,v2,v3,v4,v5],_=>
  have f0:=R 0 (by decide);have f1:=R 1 (by decide);have f2:=R 2 (by decide);have d0:Tryz.prog.cellsOf 37=2:=by kernel_rfl
  rw[GT (by omega)] at f0 f1 f2;simp only[d0,Nat.zero_mul,Nat.one_mul,Nat.reduceMul,List.drop_zero,List.drop_succ_cons,List.take_succ_cons,List.take_zero] at f0 f1 f2;obtain⟨V,o,K⟩:=ya f0;obtain⟨U,j,G⟩:=ya f1;obtain⟨S,Y,F⟩:=ya f2;simp only[List.cons.injEq,and_true] at K G F;obtain⟨rfl,rfl⟩:=K;obtain⟨rfl,rfl⟩:=G;obtain⟨rfl,rfl⟩:=F;refine⟨(V,U,S),⟨o,j,Y⟩,fun μ m=>?_⟩;have e:O.toList=[.int .i16 V.1,.int .u8 (V.2:Int),.int .i16 U.1,.int .u8 (U.2:Int),.int .i16 S.1,.int .u8 (S.2:Int)]:=X.symm;simp only[afj,plC,smC];refine⟨[.int .i16 V.1,.int .u8 (V.2:Int),.int .i16 U.1,.int .u8 (U.2:Int),.int .i16 S.1,.int .u8 (S.2:Int)],?_,by simp[afk,afj]⟩;rw[<-e]
end
theorem uS(os:Os)(I:os.Started)(H:Type)(enc:TypeId×Value->H):
  ReturnsInHanded {} Tryz.checked os 4 .any (fun w U=>(Rows.eventNumbersSpec.pre enc Tryz.prog Tryz.f4 [] false w U/\laidMetH Tryz.prog pJ w)/\sizedMet enc Tryz.prog Tryz.f4 (OpenSpec.ofChange Rows.eventNumbersSpec) false w U)
   (Rows.eventNumbersSpec.post enc Tryz.prog Tryz.f4 false true false false):=by
 refine returnsInHanded_of_change_and (C:=Tryz.checked) (X:=fun w _=>laidMetH Tryz.prog pJ w) (fun _ _ _ hh h=>h.of_heap hh) own I (by kernel_rfl) Tryz.func4
  (ChangeSpec.witness_shaped (enc:=enc) (C:=Tryz.checked) (os:=os) (X:=fun w _=>laidMetH Tryz.prog pJ w) false (World.doorLaid Tryz.prog 400 os) #[.agg #[.int .u8 0,.int .i8 0,.int .i8 0,.bool false],.agg #[.int .u8 0,.int .i8 0,.int .i8 0,.int .i8 0,.int .i8 0,.int .i8 0,.int .i8 0,.bool false,.int .i8 0,.int .i8 0,.int .i8 0,.int .i8 0,.int .i8 0,.int .i8 0,.bool false,.int .i8 0,.int .i8 0,.int .i8 0,.int .i8 0,.int .i8 0,.int .i8 0,.bool false,.int .i8 0,.int .i8 0,.int .i8 0,.int .i8 0,.int .i8 0,.int .i8 0,.int .i8 0,.int .i8 0,.int .i8 0,.int .i8 0,.int .i8 0,.int .i8 0],.agg #[.int .i16 0,.int .u8 0,.int .i16 0,.int .u8 0,.int .i16 0,.int .u8 0]] 8 rfl (World.shaped_of_RefB (by kernel_rfl) (by kernel_rfl)) (by kernel_rfl) (by kernel_rfl) (by kernel_rfl) (Vv os _)) ?_
 intro W O U ds gs ZE o hW _ _ hL _;have B:∀(j:Nat) t v,Tryz.f4.params[j]? =some t->U[j]? =some v->Value.okWide Tryz.prog W .any O t v:=o
 have N :=hW;obtain⟨p,q,m,hV,M,hfz,hnd⟩:=hW;have hA:DataW.TrodAll enc Tryz.prog W 0 (fun _=>true) true Tryz.f4.params.toList U.toList ds p:=m;have L:Tryz.f4.params= #[25,34,39]:=rfl;rw[L] at hA B;obtain⟨v0,Y,J,d0,d1,d2,K,G,F,aae,rfl,rfl,h0,h1,h2⟩:=trodAll_three hA;subst aae;obtain⟨rfl,rfl⟩:=trodVars_none hV;have hG:=Lu hL;have FS:∀x∈ZE,x.block<W.heap.size:=N.lt
 have fin:∀(D :World),Below W.heap.size W D ->Rows.eventNumbersSpec.post enc Tryz.prog Tryz.f4 false true false false W #[v0,Y,J] (.bool true) D :=by
  intro D u;refine TQ rfl N u M rfl rfl rfl fun sp S=>?_
  rw[L];rw[List.append_nil,Y1];have R:∀x∈K++(G++F),x∈ZE:=fun x Z=>by rw[M,List.append_nil,Y1];exact Z
  have m0:∀x∈K,x∈K++(G++F):=fun x Z=>List.mem_append_left _ Z
  have m1:∀x∈G,x∈K++(G++F):=fun x Z=>List.mem_append_right _ (List.mem_append_left _ Z)
  have m2:∀x∈F,x∈K++(G++F):=fun x Z=>List.mem_append_right _ (List.mem_append_right _ Z)
  exact trodAll_mk3 (Trod_stays Og (by kernel_rfl) (of_decide_eq_true (by kernel_rfl)) h0 (fun x Z=>u.same (FS x (R x (m0 x Z)))) (fun x Z=>S x (R x (m0 x Z))))
   (Trod_stays Og (by kernel_rfl) (of_decide_eq_true (by kernel_rfl)) h1 (fun x Z=>u.same (FS x (R x (m1 x Z)))) (fun x Z=>S x (R x (m1 x Z))))
   (Trod_stays Og (by kernel_rfl) (of_decide_eq_true (by kernel_rfl)) h2 (fun x Z=>u.same (FS x (R x (m2 x Z)))) (fun x Z=>S x (R x (m2 x Z))))
 obtain⟨s,hs,hv⟩:=Ru (B 0 25 v0 rfl rfl) h0;obtain⟨x,Z,hxv⟩:=Oq (B 1 34 Y rfl rfl) h1;obtain⟨pl,hpl,hpv⟩:=Rt (B 2 39 J rfl rfl) h2;refine((vz s hs x Z pl hpl).2 W.heap.size _ W [v0,Y,J] hG (Rf W) (bV.2 ⟨hv _ _,bV.2 ⟨hxv _ _,bV.2 ⟨hpv _ _,by simp[afk]⟩⟩⟩)).mono ?_;rintro e D ⟨V,v',m',μ',rfl,q1,q2,q3,rfl,rfl⟩;simp only[afj] at q1;subst q1;exact⟨_,rfl,fin D (WY q3 TE)⟩
theorem Ag:Rows.EventNumbersSaid:=
 OpenClaim.holds_of_wide 4 Tryz.f4 rfl rfl rfl rfl rfl rfl rfl ⟨rfl,rfl,rfl,rfl,rfl⟩ rfl rfl rfl rfl rfl (by as_aux_lemma=>kernel_rfl) Tryz.func4 wB
  (of_decide_eq_true (by as_aux_lemma=>kernel_rfl)) (by unfold Func.isWrapper;first | (rw[if_pos (by decide +kernel)];kernel_rfl) | (rw[if_neg (by decide +kernel)];exact⟨rfl,rfl⟩))
  (fun V Z H X _=>uS V Z H X)
theorem eventNumbers_card:Rows.EventNumbersCardSaid:=
 Claim7.holds_tied_plain_at .later [] [.data,.data,.data,.sentinel,.sentinel] true (true,"74a34921920eb3870d68da733564cd9dee90ad52aeb7b3408c8480495735d049") true
  Ag (fun _ h=>by cases h) (by as_aux_lemma=>kernel_rfl) (fun _ h=>by cases h) eventNumbers_row_tie rfl ⟨rfl,rfl⟩ (by as_aux_lemma=>kernel_rfl) rfl
  (fun f fn V X=>by
   obtain rfl:f=4:=ZQ ((show Tryz.prog.funcNamed Rows.eventNumbersRow.func=some 4 by as_aux_lemma=>kernel_rfl).symm.trans V) |>.symm
   obtain rfl:fn=Tryz.f4:=(ZQ (Tryz.func4.symm.trans X)).symm;exact⟨by as_aux_lemma=>kernel_rfl,fun j t Z=>by
    have U:Tryz.f4.params= #[25,34,39]:=rfl;rw[U] at Z
    match j,Z with
    |0,Z=>simp at Z;subst Z;exact(show Tryz.prog.wantsStandIn 25=false by as_aux_lemma=>kernel_rfl)
    |1,Z=>simp at Z;subst Z;exact(show Tryz.prog.wantsStandIn 34=false by as_aux_lemma=>kernel_rfl)
    |2,Z=>simp at Z;subst Z;exact(show Tryz.prog.wantsStandIn 39=false by as_aux_lemma=>kernel_rfl)
    |j+3,Z=>simp at Z⟩)
  (by as_aux_lemma=>kernel_rfl)
#print axioms eventNumbers_card
end Go.Proofs.YthpgbelancmpjaaGreatDoor
