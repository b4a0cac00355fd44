/-
The law HistoryNumbers of package klippelaw30 returns true for every plan and every place by three texts, and the deeds read afterwards as they read before.
Conditions: those of the given row alone: the package-level variables that it lists hold at the start what the program's text lays (the given tie closes that); nothing is asked of the arguments beyond what a Go program can hold.
How: an executable engine over abstract values, proved sound over the library's fenced calculus (parts I01 to I05), contracts of the program's functions by runs of that engine (I06 to I34), the plain laws of numbers, places, sheets and deeds (in between), the closed run of known by the kernel, cut into remembered calls, the law in stages (I35), the row and its card (the last part).
-/
import Derived.Test.YtgafjliihahjgaaGreatDoorI35
import Derived.Test.YtgafjliihahjgaaGreatDoorRows
import Derived.Test.YtgafjliihahjgaaGreatDoorTie
import Derived.Test.YtgafjliihahjgaaGreatDoorCards
import Derived.ProofKit
import Derived.LaidMore
import Derived.OpenShut
import Derived.ChangeSame
import Derived.ChangeVars
import Derived.JoinedOf
import Derived.RowKit
import Derived.LaidLaws
import Derived.LaidHandle
import Derived.MakeChecks
import Derived.Deep.SlicePairs
import Derived.Carry
import Derived.Stop.Joined
import Derived.SevenTiedAt
import Derived.Deep.Slices
set_option linter.all false
set_option maxRecDepth 100000
set_option maxHeartbeats 40000000
namespace Go.Proofs.YtgafjliihahjgaaGreatDoor
open Go.ChangeShapes Go.WideShapes Go.ChangeAt Go.WideMaps Go.WideElems Go.RowKit Go.Eng
theorem own:ownKnob Tryz.prog.godebug=none:=by kernel_rfl
theorem U7:laidOutB Tryz.prog=true:=by kernel_rfl
def qe:List (String×DataW Unit):=Rows.historyNumbersRow.laid
theorem WU(os:Os)(args:Array Value):laidMetH Tryz.prog qe ((World.doorLaid Tryz.prog 400 os).forCall (fun _ _=>0) ⟨#[],args,[]⟩).memory:=
 laidMetH_of_parts3 (fuel:=8) (laidMet_of_run' 8 (by kernel_rfl) (by kernel_rfl)) (by kernel_rfl) (by kernel_rfl)
theorem XB:ze=(qe.getD 2 ("",.nil)).1:=by kernel_rfl
variable{W:World}
theorem MD(h:laidMetH Tryz.prog qe W):GOk Tryz.prog W.heap.size W:=by
 rw[MakeChecks.laidMetH_plain _ _ _ (by kernel_rfl)] at h;obtain⟨ps,⟨g0,t0,F,f0,p0,q0,D,C,B,A,⟨u,t1,m,f1,p1,q1,X,j,Z,Y,⟨R,t2,V,f2,p2,q2,S,O,M,K,_,_⟩,_⟩,_⟩,_,_⟩:=h;constructor
 .have e1:Tryz.prog.globals.size=6:=by kernel_rfl
  have J:Tryz.prog.globalNamed (qe.getD 1 ("",.nil)).1=some 5:=by kernel_rfl
  have G:u=5:=(QQb (X.symm.trans J));subst G;have:=World.var?_cell X Z;unfold World.var? at Z;rw[X] at Z;simp only[Option.bind_some] at Z;split at Z
  .rename_i Q
   have:=(Ns.1 Q).1;omega
  .cases Z
 .have J:Tryz.prog.globalNamed (qe.getD 2 ("",.nil)).1=some 3:=by kernel_rfl
  have G:R=3:=(QQb (S.symm.trans J));subst G;have I:(Tryz.prog.globals[3]?).map (·.type)=some 354:=by kernel_rfl
  have H:t2=354:=(QQb (O.symm.trans I));subst H;have y:Tryz.prog.underlying 354=some (.array 20 280):=by kernel_rfl
  have e7:Tryz.prog.underlying 280=some (.int .u64):=by kernel_rfl
  have hc:=Lib.cells_of_tab (k:=.u64) (zs:=Lib.pow10Tab) y e7 (by kernel_rfl) (by kernel_rfl) K;have e8:W.var? Tryz.prog ze=W.var? Tryz.prog (qe.getD 2 ("",.nil)).1:=by rw[XB]
  have e9:V=(Lib.pow10Tab.map fun z=>Value.int .u64 z).toArray:=by rw[<-hc]
  unfold Lib.TabIs;rw[e8,<-e9];exact M
theorem U3{w w' :World}{y :Mem}{μ μ' :Nat->Eng.Place}{mem:Mem}{m0:Nat}(h:Step m0 μ mem w μ' y w')(H:∀b,¬fJ mem b):Below w.heap.size w w' :=
 ⟨h.os,h.tape,h.output,h.size,fun k Z=>h.frame k Z fun b X=>absurd X (H b)⟩
theorem Vz{H:Type}{enc:TypeId×Value->H}{f:Func}{s:ChangeSpec}{Y I ab8 adR:Bool}{Q :World}{args:Array Value}{ds gs:List (DataW H)}{y p:List MemPlace}(hsv:s.vars=[])(hW:DataW.Whole enc Tryz.prog f.params.toList s.vars Y W args.toList ds gs y)(hb:Below W.heap.size W Q)(R:y=p)(hg:gs=[])(hrt:f.resultTypes= #[4])(hs:s.fn H ds={ results:=[.lit (.bool true)],args:=ds })(K:∀Z:Nat->Bool,(∀x∈y,Z x.block=true)->DataW.TrodAll enc Tryz.prog Q 0 Z true f.params.toList args.toList ds p):
  s.post enc Tryz.prog f Y I ab8 adR W args (.bool true) Q :=by
 subst hg;have J:∀p∈y,(fun b=>decide (b<W.heap.size)) p.block=true:=fun p R=>by simpa using hW.lt p R
 have V:∀(b:Nat) (Z:Nat->Bool) (G:Bool),DataW.TrodAll enc Tryz.prog Q b Z G f.resultTypes.toList ((Value.bool true).resultList f.resultTypes.size) (s.fn H (ds++[])).results []:=by intro b Z G;rw[List.append_nil,hs,hrt];exact trodAll_mk1 (shut_bool Tryz.underlying4 _)
 have S :∀Z:Nat->Bool,(∀x∈y,Z x.block=true)->DataW.TrodAll enc Tryz.prog Q 0 Z true f.params.toList args.toList (s.fn H (ds++[])).args p:=by intro Z h;rw[List.append_nil,hs];exact K Z h
 have O:∀Z:Nat->Bool,DataW.TrodVars enc Tryz.prog Q Z s.vars (s.fn H (ds++[])).vars []:=by intro Z;rw[List.append_nil,hs,hsv];exact rfl
 refine⟨ds,[],y,[],p,[],hW,V _ _ _,S _ J,O _,World.keptBut_mono (fun q hq=>⟨hq,?_⟩) (hb.frame _),fun _=>?_⟩
 .rw[R] at hq
  exact Or.inr (Or.inl hq)
 .have F:=hW.lt
  obtain⟨_,_,_,_,_,D,C⟩:=hW;refine⟨ok_one hrt rfl (okWide_bool_mk Tryz.underlying4 _),_,_,([]++p)++[],⟨[]++p,[],trodAll_append (S _ (fun _ _=>rfl)) (V _ _ _),O _,rfl,?_,?_⟩,?_⟩
  .intro b X hq
   have M :MemPlace.cell b X∈y:=by rw[R];simpa using hq
   rw[hb.frozen (p:=⟨b,X,none⟩) (F _ M)];exact D b X M
  .intro B
   have:=C B;rw[R] at this;simpa using this
  .intro q hq _
   rw[R];simpa using hq
end Go.Proofs.YtgafjliihahjgaaGreatDoor
namespace Go.Proofs.YtgafjliihahjgaaGreatDoor
open Go.ChangeShapes Go.WideShapes Go.ChangeAt Go.WideMaps Go.WideElems Go.RowKit Go.Eng
theorem Vl(es:Nat)(cs:List AV):∀b,¬fJ [.cells false es cs] b:=by
 rintro b ⟨s,hs,ho⟩;cases b with
 |succ b=>simp at hs
 |zero=>simp at hs;subst hs;cases ho
theorem uy:joinedFacts Tryz.prog 3 Tryz.f3 Rows.historyNumbersSpec Rows.historyNumbersRow=true:=by
 unfold joinedFacts;simp only[Es]
 repeat' apply And.intro
 all_goals (as_aux_lemma=>kernel_rfl)
variable{cs:List Value}{fuel n:Nat}
section
variable {H:Type}{enc:TypeId×Value->H}{P:Program}{w:World}{base:Nat}{abg:Nat->Bool}{ac7:Bool}
theorem Vt{t e:TypeId}{x:DataW H×List MemPlace}(R:P.underlying t=some (.slice e))(Y:P.cellsOf e=n)(h:DataW.trod enc P w base abg ac7 fuel t cs=some x):
  cs=[.slice none 0 0]\/∃(a:Addr) (Q I:Nat),cs=[.slice (some a) Q I]/\Q<=I/\I<=maxLen/\(abg a.block=true->∀i,i<I->∃Z:List Value,Z.length=n/\(∀j v,Z[j]? =some v->w.cell? (a.add (i*n+j))=some v)/\∃m y,DataW.trod enc P w base abg ac7 m e Z=some y):=by
 rcases Deep.open_slice R h with h0 | ⟨a,Q,I,m,B,D,A,rfl,z,J,G,X,rfl,F⟩
 .exact Or.inl h0.1
 right;refine⟨a,Q,I,rfl,J,G,fun W i u=>?_⟩;rw[W,if_pos rfl] at X;obtain⟨V,O,C⟩:=F i (by omega);rw[Y] at O;obtain⟨_,M,S⟩:=World.cells?_some O;refine⟨V,M,fun j v K=>?_,_,_,C⟩;have:=S j (by rw[<-M];exact(gL K));rw[Deep.add_add] at this;rw[this,K]
theorem xV{t e:TypeId}{x:DataW H×List MemPlace}(Q:P.underlying t=some (.array n e))(R:P.cellsOf e=1)(h:DataW.trod enc P w base abg ac7 fuel t cs=some x)(i:Nat)(v:Value)(Y:i<n)(I:cs[i]? =some v):
  ∃m y,DataW.trod enc P w base abg ac7 m e [v]=some y:=by
 obtain⟨X,m,_,_,_,S,W⟩:=DataW.trod_array Q h;have:=W i Y;rw[R,Nat.mul_one] at this;have V:(cs.drop i).take 1=[v]:=by have Z:=gL I;rw[N2 Z];rw[GT Z] at I;simp only[List.take_succ_cons,List.take_zero];rw[QQb I]
 rw[V] at this;exact⟨m,X[i],by rw[this,GT]⟩
end
theorem Dd{α β:Type}{f:α->List β}{n:Nat}(hf:∀a,(f a).length=n):∀(l:List α) (i r:Nat),r<n->(l.flatMap f)[i*n+r]? =(l[i]?).bind fun a=>(f a)[r]?
 | [],i,r,_=>by simp
 |a::l,0,r,hr=>by rw[List.flatMap_cons,Nat.zero_mul,QQZ,Hi (by rw[hf];exact hr)];simp
 |a::l,i+1,r,hr=>by rw[List.flatMap_cons,Pi (by rw[hf,Nat.succ_mul];omega),hf,Nat.succ_mul,show i*n+n+r-n=i*n+r by omega,Dd hf l i r hr];simp
theorem W0{W:World}{y H I es:Nat}{cur:Array Value}{el:TypeId}{R:Nat×Nat}{cs:List AV}(Y:W.heap[y]? =some (.cells cur el R))(hes:0<es/\es<1000)(Q:cs.length<=I)(hc:∀j u,cs[j]? =some u->∃V,cur[H+j]? =some V/\∀μ m,af4 μ m u V):agh W.heap.size (fun _=>⟨y,H,I,es⟩) [.cells false es cs] W:=by
 refine⟨L9 _,?_,?_⟩
 .intro b s Z
  cases b with
  |succ b=>simp at Z
  |zero=>
   simp at Z;subst Z;simp only[agj];refine⟨cur,el,R,Y,⟨by show es=es%1000;omega,fun h=>by omega⟩,Q,fun j v X=>?_,fun h=>by cases h⟩;obtain⟨V,S,O⟩:=hc j v X;exact⟨V,S,O _ _⟩
 .rintro b b' s' ⟨s,Z,ho⟩
  cases b with
  |succ b=>simp at Z
  |zero=>simp at Z;subst Z;cases ho
end Go.Proofs.YtgafjliihahjgaaGreatDoor
namespace Go.Proofs.YtgafjliihahjgaaGreatDoor
open Go.ChangeShapes Go.WideShapes Go.ChangeAt Go.WideMaps Go.WideElems Go.RowKit Go.Eng
def Yi(d:agf):List Value:=[.int .u8 d.kind,.int .i8 d.A.1,.int .i8 d.A.2.1,.int .i8 d.A.2.2,.int .i8 d.B.1,.int .i8 d.B.2.1,.int .i8 d.B.2.2,.int .i8 d.N,.int .u8 d.K.1,.int .u8 d.K.2.1,.int .u8 d.K.2.2.1,.int .u8 d.K.2.2.2]
theorem WT(d:agf)(r:Nat)(u:AV)(h:d.cells[r]? =some u):∃V,(Yi d)[r]? =some V/\∀μ m,af4 μ m u V:=by
 unfold agf.cells at h
 match r,h with
 |0,h | 1,h | 2,h | 3,h | 4,h | 5,h | 6,h | 7,h | 8,h | 9,h | 10,h | 11,h=>simp at h;subst h;exact⟨_,rfl,fun μ m=>by simp[af4]⟩
 |r+12,h=>simp at h
variable{b0:Nat}{v x:Value}
section
variable {H:Type}{enc:TypeId×Value->H}{W:World}
theorem zn{n:Nat}{y:DataW H×List MemPlace}(hx:DataW.trod enc Tryz.prog W 0 (fun _=>true) true n 5 [x]=some y):∃k:Nat,k<256/\x=.int .u8 (k:Int):=by obtain⟨z,X,_,Z⟩:=DataW.trod_int Tryz.underlying5 hx;simp only[List.cons.injEq,and_true] at X;simp only[Lit.wf,Es,L0] at Z;have V:IntKind.u8.min=0:=rfl;have S:IntKind.u8.max=255:=rfl;rw[V,S] at Z;exact⟨z.toNat,by omega,by rw[X,QQe Z.1]⟩
theorem qs{n:Nat}{y:DataW H×List MemPlace}(hx:DataW.trod enc Tryz.prog W 0 (fun _=>true) true n 22 [x]=some y):∃k:Int,Nx k/\x=.int .i8 k:=by obtain⟨z,Z,_,X⟩:=DataW.trod_int Tryz.underlying22 hx;simp only[List.cons.injEq,and_true] at Z;exact⟨z,bounds_i8 X,Z⟩
theorem Vq{n:Nat}{y:DataW H×List MemPlace}{vs:List Value}(I:vs.length=12)(hx:DataW.trod enc Tryz.prog W 0 (fun _=>true) true n 94 vs=some y):∃d:agf,d.Ok/\vs=Yi d:=by
 obtain⟨B,k,hk,A,_,X,Z⟩:=DataW.trod_struct Tryz.underlying94 hx
 match B,X,vs,I with
 | [y0,y1,y2,y3,y4],_,[v0,v1,v2,v3,v4,v5,v6,v7,v8,v9,v10,v11],_=>
  have J:=Z 0 _ rfl;have G:=Z 1 _ rfl;have F:=Z 2 _ rfl;have g3:=Z 3 _ rfl;have D:=Z 4 _ rfl;have C:Tryz.prog.cellsOf 5=1:=by kernel_rfl
  have V:Tryz.prog.cellsOf 22=1:=by kernel_rfl
  have z:Tryz.prog.cellsOf 55=3:=by kernel_rfl
  have u:Tryz.prog.cellsOf 92=4:=by kernel_rfl
  simp[C,V,z,u] at J G F g3 D;obtain⟨m,j,rfl⟩:=zn J;obtain⟨Y,R,rfl⟩:=qs g3;have a:=xV Tryz.underlying55 V G;have b:=xV Tryz.underlying55 V F;have c:=xV Tryz.underlying92 C D;obtain⟨_,_,t1⟩:=a 0 v1 (by decide) rfl;obtain⟨_,_,t2⟩:=a 1 v2 (by decide) rfl;obtain⟨_,_,t3⟩:=a 2 v3 (by decide) rfl;obtain⟨_,_,t4⟩:=b 0 v4 (by decide) rfl;obtain⟨_,_,t5⟩:=b 1 v5 (by decide) rfl;obtain⟨_,_,t6⟩:=b 2 v6 (by decide) rfl;obtain⟨_,_,t8⟩:=c 0 v8 (by decide) rfl;obtain⟨_,_,t9⟩:=c 1 v9 (by decide) rfl;obtain⟨_,_,t10⟩:=c 2 v10 (by decide) rfl;obtain⟨_,_,t11⟩:=c 3 v11 (by decide) rfl;obtain⟨Q,l1,rfl⟩:=qs t1;obtain⟨k2,l2,rfl⟩:=qs t2;obtain⟨k3,l3,rfl⟩:=qs t3;obtain⟨k4,l4,rfl⟩:=qs t4;obtain⟨k5,l5,rfl⟩:=qs t5;obtain⟨k6,l6,rfl⟩:=qs t6;obtain⟨k8,l8,rfl⟩:=zn t8;obtain⟨k9,l9,rfl⟩:=zn t9;obtain⟨S,O,rfl⟩:=zn t10;obtain⟨M,K,rfl⟩:=zn t11;exact⟨⟨m,(Q,k2,k3),(k4,k5,k6),Y,(k8,k9,S,M)⟩,⟨j,⟨l1,l2,l3⟩,⟨l4,l5,l6⟩,R,⟨l8,l9,O,K⟩⟩,rfl⟩
theorem SQ{n:Nat}{x:DataW H×List MemPlace}(I:Cell.okWide Tryz.prog W .any b0 26 v)(h:DataW.trod enc Tryz.prog W 0 (fun _=>true) true n 26 [v]=some x):
  v=.slice none 0 0\/∃(μ:Nat->Eng.Place) (ds:List agf),(∀d∈ds,d.Ok)/\agh W.heap.size μ [.cells false 12 (gD ds)] W/\af4 μ 1 (.slice 0 0 ds.length none) v:=by
 have hu:=Tryz.underlying26;simp only[Cell.okWide,hu] at I;rcases Vt hu (n:=12) (by kernel_rfl) h with O | ⟨Q,Z,F,O,h2,h3,h4⟩
 .left
  simpa using O
 .right
  simp only[List.cons.injEq,and_true] at O;subst O;simp only[Cell.ok,hu] at I;obtain⟨_,_,_,D,row,cells,M,_⟩:=I;have h7:=h4 rfl;obtain⟨q,hq⟩:=Deep.choose_lt h7;obtain⟨K,el,fr,G⟩:∃K el fr,W.heap[Q.block]? =some (.cells K el fr):=by
   unfold World.shape? at M;split at M
   next c e f hh=>exact⟨_,_,_,hh⟩
   .cases M
  obtain⟨S,X,af1⟩:=Q;simp only at D G;subst D;have cell:∀k,W.cell? ((⟨S,X,none⟩:Addr).add k)=K[X+k]? :=by intro k;rw[show(⟨S,X,none⟩:Addr).add k=⟨S,X+k,none⟩ from add_plain _ _ _];unfold World.cell?;simp only;rw[G];rfl
  have hk:∀i,i<F ->∃d:agf,d.Ok/\q i=Yi d:=by intro i J;obtain⟨g1,_,m,y,g3⟩:=hq i J;exact Vq g1 g3
  have:Inhabited agf:=⟨⟨0,(0,0,0),(0,0,0),0,(0,0,0,0)⟩⟩;obtain⟨g,hg⟩:=Deep.choose_lt hk;obtain⟨B,Y⟩:=xE ((List.range Z).map g);have R:B.length=Z :=by rw[Y];simp
  have C:∀i,i<Z ->B[i]? =some (g i):=fun i J=>by rw[Y];simp[J]
  have A:(gD B).length=Z *12:=by
   rw[<-R];clear R Y C;induction B with
   |nil=>rfl
   |cons d B ih=>simp only[gD,List.flatMap_cons,Nm,List.length_cons] at ih |-;rw[ih];simp[agf.cells];omega
  refine⟨fun _=>⟨S,X,F *12,12⟩,B,fun b G=>?_,W0 G (by decide) (by rw[A];omega) fun j u hj=>?_,?_⟩
  .rw[Y,QQj] at G
   obtain⟨i,J,rfl⟩:=G;exact(hg i (by have:=List.mem_range.1 J;omega)).1
  .have hj2:j<Z *12:=by have:=gL hj;rw[A] at this;exact this
   have J:j / 12<Z :=by omega
   have hr:j%12<12:=Nat.mod_lt _ (by decide);have z:j / 12*12+j%12=j:=by omega
   have O:=Dd (f:=agf.cells) (n:=12) (fun _=>rfl) B (j / 12) (j%12) hr;rw[z,show B.flatMap agf.cells=gD B from rfl,hj,C _ J] at O;simp only[Option.bind_some] at O;obtain⟨V,k1,k2⟩:=WT (g (j / 12)) (j%12) u O.symm;obtain⟨_,k3,_⟩:=hq (j / 12) (by omega);rw[(hg (j / 12) (by omega)).2] at k3;have:=k3 _ _ k1;rw[cell,z] at this;exact⟨V,this,k2⟩
  .simp only[af4,qQ]
   refine⟨by omega,?_⟩;rw[R,Nat.add_zero,QXX,Nat.mul_div_cancel _ (by omega)]
theorem Vr{d:DataW H}{p:List MemPlace}(y:Value.okWide Tryz.prog W .any b0 28 v)(h:DataW.Trod enc Tryz.prog W 0 (fun _=>true) true 28 v d p):
  ∃(s:af8) (I:Value),s.Ok/\v=.agg #[.int .u8 (s.kind:Int),.int .i8 s.sx,.int .i8 s.sy,.bool s.half,I]/\
   (I=.slice none 0 0\/∃(μ:Nat->Eng.Place) (ds:List agf),(∀d∈ds,d.Ok)/\agh W.heap.size μ [.cells false 12 (gD ds)] W/\af4 μ 1 (.slice 0 0 ds.length none) I):=by
 obtain⟨z,Q⟩:=h;have hu:=Tryz.underlying28;simp only[Value.okWide,hu] at y;obtain⟨X,rfl,K,ts,V,_,J⟩:=y;have S:(Value.agg X).cells.toList.length=5:=by simp only[Value.cells,QQm,K];kernel_rfl
 obtain⟨xs,k,hk,hxy,_,G,F⟩:=DataW.trod_struct hu Q;obtain⟨vs,Z⟩:=xE ((Value.agg X).cells.toList);rw[<-Z] at S F
 match xs,G,vs,S with
 | [y0,y1],_,[v0,v1,v2,v3,v4],_=>
  have m:=F 0 _ rfl;have j:=F 1 _ rfl;have c0:Tryz.prog.cellsOf 25=4:=by kernel_rfl
  have c1:Tryz.prog.cellsOf 26=1:=by kernel_rfl
  simp[c0,c1] at m j;obtain⟨zs,k',hk',_,_,D,C⟩:=DataW.trod_struct Tryz.underlying25 m
  match zs,D with
  | [z0,z1,z2],_=>
   have f0:=C 0 _ rfl;have f1:=C 1 _ rfl;have f2:=C 2 _ rfl;have d0:Tryz.prog.cellsOf 5=1:=by kernel_rfl
   have d1:Tryz.prog.cellsOf 23=2:=by kernel_rfl
   have d2:Tryz.prog.cellsOf 4=1:=by kernel_rfl
   have d3:Tryz.prog.cellsOf 22=1:=by kernel_rfl
   simp[d0,d1,d2] at f0 f1 f2;obtain⟨k0,l0,rfl⟩:=zn f0;obtain⟨_,_,t1⟩:=xV Tryz.underlying23 d3 f1 0 v1 (by decide) rfl;obtain⟨_,_,t2⟩:=xV Tryz.underlying23 d3 f1 1 v2 (by decide) rfl;obtain⟨k1,Y,rfl⟩:=qs t1;obtain⟨k2,R,rfl⟩:=qs t2;obtain⟨bv,O,_⟩:=DataW.trod_bool Tryz.underlying4 f2;simp only[List.cons.injEq,and_true] at O;subst O;have e4:X[4]? =some v4:=by have:(Value.agg X).cells.toList=X.toList:=rfl;rw[this] at Z;have:=congrArg (fun l=>l[4]?) Z;simpa using this.symm
   obtain⟨u,M,B⟩:=J 4 v4 e4;have A :Tryz.prog.cellTypes Tryz.prog.depth 28=some [5,22,22,4,26]:=by kernel_rfl
   rw[A] at V;cases V;simp at M;subst M;refine⟨⟨k0,k1,k2,bv⟩,v4,⟨l0,Y.1,Y.2,R.1,R.2⟩,?_,SQ B j⟩;congr 1;apply Array.ext';have:(Value.agg X).cells.toList=X.toList:=rfl;rw[this] at Z;rw[<-Z]
end
end Go.Proofs.YtgafjliihahjgaaGreatDoor
namespace Go.Proofs.YtgafjliihahjgaaGreatDoor
open Go.ChangeShapes Go.WideShapes Go.ChangeAt Go.WideMaps Go.WideElems Go.RowKit Go.Eng
theorem Qs{μ:Nat->Eng.Place}{n:Nat}{s:af8}{a:AV}{y:Value}(h:af4 μ n a y):af4 μ n (lP s a) (.agg #[.int .u8 (s.kind:Int),.int .i8 s.sx,.int .i8 s.sy,.bool s.half,y]):=by unfold lP;simp only[af4];exact⟨_,rfl,br.2 ⟨by simp[af4],br.2 ⟨by simp[af4],br.2 ⟨by simp[af4],br.2 ⟨by simp[af4],br.2 ⟨h,by simp[af5]⟩⟩⟩⟩⟩⟩
theorem O7(W:World):agh W.heap.size (fun _=>⟨0,0,0,0⟩) [.HS] W:=by
 refine⟨L9 _,fun b x Z=>?_,?_⟩
 .match b,Z with
  |0,Z=>cases Z;simp[agj]
  |b+1,Z=>simp at Z
 .rintro b b' s' ⟨s,hs,ho⟩
  match b,hs with
  |0,hs=>cases hs;cases ho
  |b+1,hs=>simp at hs
theorem MU:∀b,¬fJ [.HS] b:=by
 rintro b ⟨s,hs,ho⟩
 match b,hs with
 |0,hs=>cases hs;cases ho
 |b+1,hs=>simp at hs
section
variable {H:Type}{enc:TypeId×Value->H}{W:World}
end
section
variable {H:Type}{enc:TypeId×Value->H}{W:World}
theorem Xj{b0:Nat}{v:Value}{d:DataW H}{p:List MemPlace}(y:Value.okWide Tryz.prog W .any b0 31 v)(h:DataW.Trod enc Tryz.prog W 0 (fun _=>true) true 31 v d p):
  ∃(x1 x2 x3:List UInt8),∀μ m,af4 μ m (.agg [.str x1,.str x2,.str x3]) v:=by
 obtain⟨J,A⟩:=h;have hu:=Tryz.underlying31;simp only[Value.okWide,hu] at y;obtain⟨O,rfl,M,_⟩:=y;have Z:(Value.agg O).cells.toList.length=3:=by simp only[Value.cells,QQm,M];kernel_rfl
 obtain⟨z,X⟩:=xE ((Value.agg O).cells.toList);obtain⟨j,n,Q,Y,_,K,S⟩:=DataW.trod_struct hu A;rw[<-X] at Z S
 match j,K,z,Z with
 | [y0,y1,y2],_,[w0,w1,w2],_=>
  have G:=S 0 _ rfl;have F:=S 1 _ rfl;have D:=S 2 _ rfl;have R:Tryz.prog.cellsOf 29=1:=by kernel_rfl
  simp[R] at G F D;obtain⟨i,C,_,_⟩:=DataW.trod_string Tryz.underlying29 G;obtain⟨u,V,_,_⟩:=DataW.trod_string Tryz.underlying29 F;obtain⟨l,B,_,_⟩:=DataW.trod_string Tryz.underlying29 D;simp only[List.cons.injEq,and_true] at C V B;subst C V B;refine⟨i.data.toList,u.data.toList,l.data.toList,fun μ m=>?_⟩;have e:O.toList=[.string i,.string u,.string l]:=X.symm;simp only[af4];refine⟨[.string i,.string u,.string l],?_,by simp[af5,af4]⟩;rw[<-e]
end
theorem sL(os:Os)(y:os.Started)(H:Type)(enc:TypeId×Value->H):
  ReturnsInHanded {} Tryz.checked os 3 .any (fun w Z=>(Rows.historyNumbersSpec.pre enc Tryz.prog Tryz.f3 [] false w Z/\laidMetH Tryz.prog qe w)/\sizedMet enc Tryz.prog Tryz.f3 (OpenSpec.ofChange Rows.historyNumbersSpec) false w Z)
   (Rows.historyNumbersSpec.post enc Tryz.prog Tryz.f3 false true false false):=by
 refine returnsInHanded_of_change_and (C:=Tryz.checked) (X:=fun w _=>laidMetH Tryz.prog qe w) (fun _ _ _ hh h=>h.of_heap hh) own y (by kernel_rfl) Tryz.func3
  (ChangeSpec.witness_shaped (enc:=enc) (C:=Tryz.checked) (os:=os) (X:=fun w _=>laidMetH Tryz.prog qe w) false (World.doorLaid Tryz.prog 400 os) #[.agg #[.int .u8 0,.int .i8 0,.int .i8 0,.bool false,.slice none 0 0],.agg #[.string ⟨#[]⟩,.string ⟨#[]⟩,.string ⟨#[]⟩]] 8 rfl (World.shaped_of_RefB (by kernel_rfl) (by kernel_rfl)) (by kernel_rfl) (by kernel_rfl) (by kernel_rfl) (WU os _)) ?_
 intro W K Z ds gs J adS hW _ _ hL _;have O:∀(j:Nat) t v,Tryz.f3.params[j]? =some t->Z[j]? =some v->Value.okWide Tryz.prog W .any K t v:=adS
 have G :=hW;obtain⟨p,q,hA0,hV,F,hfz,hnd⟩:=hW;have hA:DataW.TrodAll enc Tryz.prog W 0 (fun _=>true) true Tryz.f3.params.toList Z.toList ds p:=hA0;have B:Tryz.f3.params= #[28,31]:=rfl;rw[B] at hA O;obtain⟨m,Y,d0,d1,R,Q,aaO,rfl,rfl,h0,h1⟩:=trodAll_two hA;subst aaO;obtain⟨rfl,rfl⟩:=trodVars_none hV;have hG:=MD hL;have B':∀x∈J,x.block<W.heap.size:=G.lt
 have A:∀(M :World),Below W.heap.size W M ->Rows.historyNumbersSpec.post enc Tryz.prog Tryz.f3 false true false false W #[m,Y] (.bool true) M :=by
  intro M hb;refine Vz rfl G hb F rfl rfl rfl fun sp z=>?_
  rw[B];rw[List.append_nil];have I:∀x∈R++Q,x∈J:=fun x S=>by rw[F,List.append_nil];exact S
  have m0:∀x∈R,x∈R++Q:=fun x S=>List.mem_append_left _ S
  have m1:∀x∈Q,x∈R++Q:=fun x S=>List.mem_append_right _ S
  exact trodAll_mk2 (Trod_stays U7 (by kernel_rfl) (of_decide_eq_true (by kernel_rfl)) h0 (fun x S=>hb.same (B' x (I x (m0 x S)))) (fun x S=>z x (I x (m0 x S))))
   (Trod_stays U7 (by kernel_rfl) (of_decide_eq_true (by kernel_rfl)) h1 (fun x S=>hb.same (B' x (I x (m1 x S)))) (fun x S=>z x (I x (m1 x S))))
 obtain⟨s,sl,hs,hv,hsl⟩:=Vr (O 0 28 m rfl rfl) h0;obtain⟨x1,x2,x3,u⟩:=Xj (O 1 31 Y rfl rfl) h1;rcases hsl with hn | ⟨μ,D,hD,hH,hvs⟩
 .refine((lQ s hs [] (fun d h=>by cases h) .HS .y9 (.inl ⟨rfl,rfl⟩) (.inl rfl) x1 x2 x3).2 W.heap.size _ W [m,Y] hG (O7 W) (br.2 ⟨by rw[hv];exact Qs (by rw[hn];simp[af4]),br.2 ⟨u _ _,by simp[af5]⟩⟩)).mono ?_
  rintro e M ⟨V,v',m',μ',rfl,q1,q2,q3,rfl,rfl⟩;simp only[af4] at q1;subst q1;exact⟨_,rfl,A M (U3 q3 MU)⟩
 .refine((lQ s hs D hD (.cells false 12 (gD D)) (.slice 0 0 D.length none) (.inr ⟨rfl,rfl⟩) (.inr rfl) x1 x2 x3).2 W.heap.size μ W [m,Y] hG hH (br.2 ⟨by rw[hv];exact Qs hvs,br.2 ⟨u _ _,by simp[af5]⟩⟩)).mono ?_
  rintro e M ⟨V,v',m',μ',rfl,q1,q2,q3,rfl,rfl⟩;simp only[af4] at q1;subst q1;exact⟨_,rfl,A M (U3 q3 (Vl _ _))⟩
theorem xG:Rows.HistoryNumbersSaid:=
 OpenClaim.holds_of_wide 3 Tryz.f3 rfl rfl rfl rfl rfl rfl rfl ⟨rfl,rfl,rfl,rfl,rfl⟩ rfl rfl rfl rfl rfl (by as_aux_lemma=>kernel_rfl) Tryz.func3 uy
  (of_decide_eq_true (by as_aux_lemma=>kernel_rfl)) (by unfold Func.isWrapper;first | (rw[if_pos (by decide +kernel)];kernel_rfl) | (rw[if_neg (by decide +kernel)];exact⟨rfl,rfl⟩))
  (fun W Z H X _=>sL W Z H X)
theorem historyNumbers_card:Rows.HistoryNumbersCardSaid:=
 Claim7.holds_tied_plain_at .later [] [.data,.data,.data,.sentinel,.sentinel] true (true,"38f41fdbcb41c24cbc49437be12605b477909db92ecfa6392cc0b6bdb1584288") true
  xG (fun _ h=>by cases h) (by as_aux_lemma=>kernel_rfl) (fun _ h=>by cases h) historyNumbers_row_tie rfl ⟨rfl,rfl⟩ (by as_aux_lemma=>kernel_rfl) rfl
  (fun f fn W X=>by
   obtain rfl:f=3:=QQb ((show Tryz.prog.funcNamed Rows.historyNumbersRow.func=some 3 by as_aux_lemma=>kernel_rfl).symm.trans W) |>.symm
   obtain rfl:fn=Tryz.f3:=(QQb (Tryz.func3.symm.trans X)).symm;exact⟨by as_aux_lemma=>kernel_rfl,fun j t Z=>by
    have V:Tryz.f3.params= #[28,31]:=rfl;rw[V] at Z
    match j,Z with
    |0,Z=>simp at Z;subst Z;exact(show Tryz.prog.wantsStandIn 28=false by as_aux_lemma=>kernel_rfl)
    |1,Z=>simp at Z;subst Z;exact(show Tryz.prog.wantsStandIn 31=false by as_aux_lemma=>kernel_rfl)
    |j+2,Z=>simp at Z⟩)
  (by as_aux_lemma=>kernel_rfl)
#print axioms historyNumbers_card
end Go.Proofs.YtgafjliihahjgaaGreatDoor
