/- See H38. -/
import Derived.Test.YthpgbelancmpjaaGreatDoorH33
set_option linter.all false
set_option maxRecDepth 100000
set_option maxHeartbeats 40000000
namespace Go.Proofs
open Go.Eng
open Tryz
def O7(q:List UInt8):List (List (List UInt8))->List (List (List UInt8))
 | []=>[]
 |L::R=>L.set 0 q::R
variable{L:List (List UInt8)}{N:Mem}{size:Nat}{v:AV}
section
variable {c:Evc}{b u sv kn:AV}{M:Mem}{w i:Int}{nm q:List UInt8}
theorem gn{T:TypeId->Option TyI}{b o m:Nat}{t2:TypeId}:cY T N size t2 (.slice b o m none)=(match N[b]? with
  |some (.cells _ _ cs)=>if o+m*size<=cs.length then some (m,(cs.drop o).take (m*size)) else none
  |_=>if m=0 then some (0,[]) else none):=rfl
theorem Md{T:TypeId->Option TyI}{t2:TypeId}:cY T N size t2 .kO=some (0,[]):=rfl
theorem Yk(L L' :List (List UInt8)):stC (L++L')=stC L++stC L' :=by simp[stC]
theorem Uy(p:List UInt8×List UInt8):∀K:List (List UInt8×List UInt8),kC (K++[p])=kC K++[.str p.1,.str p.2]
 | []=>rfl
 |x::K=>by show _::_::kC (K++[p])=_;rw[Uy p K];rfl
theorem HC(f:Nat->Bool):∀L:List (List UInt8),AV.afD f (stC L)=true
 | []=>rfl
 |_::L=>HC f L
theorem O8(L:List (List UInt8)):(stC L).all AV.adM=true:=by rw[List.all_eq_true];intro x Z;simp only[stC,QQd] at Z;obtain⟨s,_,rfl⟩:=Z;rfl
theorem Xk:∀L:List (List UInt8×List UInt8),(kC L).all AV.adM=true
 | []=>rfl
 |_::L=>Xk L
theorem E7(h:TxW N v L):cY (aL prog) N 1 48 v=some (L.length,stC L):=by
 rcases h.1 with⟨rfl,e,_⟩ | ⟨b,o,rfl,Z⟩
 .rw[List.length_eq_zero_iff.1 e];rfl
 .have e:(stC L).take L.length=stC L:=An (by rw[eu];omega)
  simp[cY,Z,e,eu]
theorem E6(h:TxW N v L):cY (aL prog) N 1 47 v=some (L.length,stC L):=by
 rcases h.1 with⟨rfl,e,_⟩ | ⟨b,o,rfl,Z⟩
 .rw[List.length_eq_zero_iff.1 e];rfl
 .have e:(stC L).take L.length=stC L:=An (by rw[eu];omega)
  simp[cY,Z,e,eu]
theorem QU{K:List (List UInt8×List UInt8)}(h:af5 N v 2 K.length (kC K)):cY (aL prog) N 2 59 v=some (K.length,kC K):=by
 rcases h with⟨rfl,e,_⟩ | ⟨b,o,rfl,Z⟩
 .rw[List.length_eq_zero_iff.1 e];rfl
 .have e:(kC K).take (K.length*2)=kC K:=An (by rw[fU];omega)
  have:=fU K;simp[cY,Z,e];omega
def kV(c:Evc)(z:Int)(i:Int)(nm q:List UInt8):Evc:=
 if z=0 then { c with k:=i } else
 if z=1 then { c with nm:=nm } else
 if z=2 then { c with B:=c.B++[q] } else
 if z=3 then { c with U:=c.U.set (c.U.length-1) nm } else
 if z=4 then { c with U:=c.U++[[111,116,104,101,114]] } else
 if z=5 then { c with S:=O7 q c.S } else
 if z=6 then { c with x9:=q } else
 if z=7 then { c with x5:=[48],x6:=[48],x7:=q } else
 if z=8 then { c with x18:=q } else
 if z=9 then { c with K:=c.K++[(q,[49])] } else
 if z=10 then { c with x23:=q } else
 if z=11 then { c with x24:=nm } else
 if z=12 then { c with t1:=i } else
 { c with x30:=q }
structure SlH (M:Mem)(c:Evc)(b u sv kn:AV):Prop where
 B:TxW M b c.B
 B9:c.B.length<=990
 U:TxW M u c.U
 U9:c.U.length<=990
 S:SfW M sv c.S
 K:af5 M kn 2 c.K.length (kC c.K)
 K9:c.K.length<=990
noncomputable def fR(c:Evc)(b u sv kn:AV)(M:Mem)(w i:Int)(nm q:List UInt8):Option (AV×Mem):=ao (aL prog) (fun _=>[]) (bq prog) bC 1 23 [.agg (c.cells b u sv kn),.agg [.int .u8 w,.int .i64 i,.str nm,.str q]] M
theorem AH(H:SlH M c b u sv kn):bq prog 23=some f23/\(b.adM=true/\u.adM=true/\sv.adM=true/\kn.adM=true)/\((b.known=true/\b.cells=[b])/\(u.known=true/\u.cells=[u])/\(sv.known=true/\sv.cells=[sv])/\kn.known=true/\kn.cells=[kn])/\
  ((∀Z,cY (aL prog) (M++Z) 1 48 u=some (c.U.length,stC c.U))/\∀Z,cY (aL prog) (M++Z) 2 59 kn=some (c.K.length,kC c.K))/\(stC c.U).all AV.adM=true/\(kC c.K).all AV.adM=true/\
  (c.U.length*16<=140737488355328/\c.U.length<=140737488355328/\(c.U.length+1)*16<=140737488355328/\c.U.length+1<=140737488355328/\c.U.length<=(stC c.U).length/\(stC c.U).take c.U.length=stC c.U)/\
  c.K.length*32<=140737488355328/\c.K.length<=140737488355328/\(c.K.length+1)*32<=140737488355328/\c.K.length+1<=140737488355328/\c.K.length*2<=(kC c.K).length/\(kC c.K).take (c.K.length*2)=kC c.K:=by
 have V:=H.U9;have R:=H.K9;obtain⟨Q,_,X,_⟩:=H.S.2;exact⟨by kernel_rfl,⟨H.B.1.ck,H.U.1.ck,X.ck,H.K.ck⟩,⟨H.B.1.kn,H.U.1.kn,X.kn,H.K.kn⟩,⟨fun Z=>E7 (H.U.more Z),fun Z=>QU (H.K.more Z)⟩,O8 _,Xk _,⟨by omega,by omega,by omega,by omega,by rw[eu];omega,An (by rw[eu];omega)⟩,by omega,by omega,by omega,by omega,by rw[fU];omega,An (by rw[fU];omega)⟩
theorem jR{c' :Evc}{p1 p2:Nat}{b' s' :AV}{e:List AV}{P:Mem->Prop}(I:e=c'.cells b' (.slice (M.length+p1) 0 c'.U.length none) s' (.slice (M.length+p2) 0 c'.K.length none))(J:∃Z,fR c b u sv kn M w i nm q=some (.agg e,M++Z)/\Z[p1]? =some (.cells true 1 (stC c'.U))/\Z[p2]? =some (.cells true 2 (kC c'.K))/\P Z)(W:∀Z,P Z->TxW (M++Z) b' c'.B/\SfW (M++Z) s' c'.S)(H:c'.U.length<=1000/\c'.K.length<=1000):
  ∃Z e,bz prog 23 [.agg (c.cells b u sv kn),.agg [.int .u8 w,.int .i64 i,.str nm,.str q]] M (.agg e) (M++Z)/\EvW (M++Z) e c' :=by
 obtain⟨Z,h,X,V,h3⟩:=J;obtain⟨R,Q⟩:=W Z h3;exact⟨Z,_,aX ak (aI _) (ar _) (aQ _) h,_,_,_,_,I,R,⟨.inr ⟨M.length+p1,true,rfl,by rw[mQ,X]⟩,H.1⟩,Q,.inr ⟨M.length+p2,true,rfl,by rw[mQ,V]⟩,H.2⟩
theorem KG:∃Z,bn f23=Z /\Z.map (fun o=>eW o.toList)=[[0,0,0,4,12,28,62,0,128,384,1022,2047,4095,8191],[0,1,3,7,0,16,48,112,240,496,0,1024,4095,8191]]:=⟨_,rfl,by kernel_rfl⟩
theorem sj(f:Nat->Bool)(s:afz)(M:Mem)(k:Nat):bb [k] 0 M ((bB f 0 M).set k s)=M.set k s:=by have:=sk f s [] M k;simpa using this
theorem Yl(x:List UInt8)(L:List (List UInt8))(k:Nat):(stC L).set k (.str x)=stC (L.set k x):=by simp[stC,List.map_set]
theorem HB{T:TypeId->Option TyI}{b:Nat}{t2:TypeId}:cY T N size t2 (.slice b 0 0 none)=some (0,[]):=by rw[gn];split<;>simp
theorem Ig(I:Int.tmod w 14=2)(H:SlH M c b u sv kn):∃X e,bz prog 23 [.agg (c.cells b u sv kn),.agg [.int .u8 w,.int .i64 i,.str nm,.str q]] M (.agg e) (M++X)/\EvW (M++X) e (kV c 2 i nm q):=by
 have f:=AH H;have R:=(H.S.2.elim fun _ h=>h.2.1.refs 11:sv.aft (fun b=>decide (b<M.length+11))=true);have j:=H.B9;obtain⟨Y,y,F⟩:=KG;simp only[bn,cU,f23,lA] at y;subst y;simp only[lB] at F;have s3:=fun Z=>E6 (H.B.more Z)
 have o:(stC c.B).all AV.adM=true:=O8 _;have y3:c.B.length*16<=140737488355328/\c.B.length<=140737488355328/\(c.B.length+1)*16<=140737488355328/\c.B.length+1<=140737488355328/\(stC c.B).length=c.B.length:=⟨by omega,by omega,by omega,by omega,eu _⟩;refine jR (p1:=4) (p2:=6) (b' :=.slice (M.length+10) 0 (c.B.length+1) none) (s' :=sv) (P:=fun X=>X[10]? =some (.cells true 1 (stC c.B++[.str q]))) rfl ?_ (fun X h=>⟨⟨.inr ⟨M.length+10,true,by simp[kV],by rw[mQ,h];simp[kV,stC]⟩,by simp[kV];omega⟩,H.S.more X⟩) ⟨by have:=H.U9;show c.U.length<=1000;omega,by have:=H.K9;show c.K.length<=1000;omega⟩;have O:=H.B.1;clear H;simp only[fR,kV,Evc.cells,Int.reduceEq,↓reduceIte];obtain⟨G,V⟩:=xE (stC c.B);have y4:c.B.length<=G.length/\G.take c.B.length=G:=by rw[V];exact⟨by rw[eu];omega,An (by rw[eu];omega)⟩
 have W:∀f,AV.afD f G=true:=fun f=>by rw[V];exact HC f _
 rw[<-V] at o y3 O |-;rcases O with⟨rfl,J,e2⟩ | ⟨Q,o',rfl,m⟩
 .rw[J,e2]
  simp[-getElem?_pos,-AV.adM,-AV.known,-AV.cells,-List.all_eq_true,vS,rS,mS,-cY,ao,f23,aD,ag,f,I,kV,gn,Md,mg,R,-bB,-bb,-aN,-AV.aft,-afz.aft,cW,oL,rR,rQ,rU,bL,cF,eI,bef,Nat.testBit,qj F.1]
 have hl:=gL m;have G':¬Q =M.length+7:=by omega
 have D:Q <M.length+7/\Q <M.length+8:=⟨by omega,by omega⟩;have C :∀Z:Mem,(M++Z)[Q]? =some (.cells o' 1 G):=fun Z=>gU m _
 simp[-getElem?_pos,-AV.adM,-AV.known,-AV.cells,-List.all_eq_true,vS,rS,mS,-cY,ao,f23,aD,ag,f,I,kV,gn,-bB,-bb,-aN,-AV.aft,-afz.aft,cW,oL,rR,rQ,rU,bL,cF,eI,bef,Nat.testBit,qj F.1,mg,hl,G',D,W,R,C,o,y3,y4]
theorem Ih(I:Int.tmod w 14=3)(H:SlH M c b u sv kn):∃Z e,bz prog 23 [.agg (c.cells b u sv kn),.agg [.int .u8 w,.int .i64 i,.str nm,.str q]] M (.agg e) (M++Z)/\EvW (M++Z) e (kV c 3 i nm q):=by
 have f:=AH H;obtain⟨Y,m,j⟩:=KG;simp only[bn,cU,f23,lA] at m;subst m;simp only[lB] at j;have W:=H.U9;have G:=(H.S.2.elim fun _ h=>h.2.1.refs 7:sv.aft (fun b=>decide (b<M.length+7))=true);have J:=(H.B.1.refs 7:b.aft (fun b=>decide (b<M.length+7))=true);obtain⟨n,F⟩:=xE c.U.length;obtain⟨Q,V⟩:=xE (stC c.U);have D:Q.length=n:=by rw[V,eu,F]
 have rl:∀f,AV.afD f Q=true:=fun f=>by rw[V];exact HC f _
 have R:c.U.length-1<c.U.length->stC (c.U.set (n-1) nm)=Q.take (n-1)++.str nm::Q.drop (n-1+1):=fun h=>by rw[<-Yl,<-V,List.set_eq_take_append_cons_drop,if_pos (by omega)]
 have X:∀f,c.U.length-1<c.U.length->AV.afD f (Q.take (n-1)++.str nm::Q.drop (n-1+1))=true:=fun f h=>by rw[<-R h];exact HC f _
 refine jR (p1:=4) (p2:=6) (P:=fun _=>True) (b' :=b) (s' :=sv) rfl ?_ (fun Z _=>⟨H.B.more Z,H.S.more Z⟩) ⟨by show(c.U.set _ _).length<=1000;rw[QQZ];omega,by have:=H.K9;show c.K.length<=1000;omega⟩;clear H;show∃Z,fR c b u sv kn M w i nm q=some (.agg (c.cells b (.slice (M.length+4) 0 (c.U.set (c.U.length-1) nm).length none) sv (.slice (M.length+6) 0 c.K.length none)),M++Z)/\Z[4]? =some (.cells true 1 (stC (c.U.set (c.U.length-1) nm)))/\Z[6]? =some (.cells true 2 (kC c.K))/\True
 rw[QQZ];simp only[<-F,<-V] at f R X W |-;simp only[fR,Evc.cells];by_cases h0:n=0
 .have e0:Q=[]:=List.length_eq_zero_iff.1 (by omega)
  have e1:c.U=[]:=List.length_eq_zero_iff.1 (by omega);subst h0 e0;rw[e1];simp[-getElem?_pos,-AV.adM,-AV.known,-AV.cells,-List.all_eq_true,vS,rS,mS,-cY,ao,f23,aD,ag,f,I,gn,stC]
 .obtain⟨C,y⟩:=xE (n-1)
  have wu:IntKind.i64.wrap ((n:Int)-1)=(C:Int):=by rw[af];omega
  have A':C<n:=by omega
  have O:0<n:=by omega
  have X:=fun f=>X f (by omega)
  have o:C+1<=n:=by omega
  rw[R (by omega)];rw[<-y] at X |-;clear R F;simp[-getElem?_pos,-AV.adM,-AV.known,-AV.cells,-List.all_eq_true,vS,rS,mS,-cY,ao,f23,aD,ag,f,I,-bB,-bb,-aN,-AV.aft,-afz.aft,cW,oL,rR,rQ,rU,bL,cF,eI,bef,Nat.testBit,gn,D,wu,A',o,O,sk,sj,rl,X,G,J,qj j.2]
theorem Ii(hw:Int.tmod w 14=5)(H:SlH M c b u sv kn)(G':∀L∈c.S,0<L.length):∃new e,bz prog 23 [.agg (c.cells b u sv kn),.agg [.int .u8 w,.int .i64 i,.str nm,.str q]] M (.agg e) (M++new)/\EvW (M++new) e (kV c 5 i nm q):=by
 have f:=AH H;have W:c.U.length<=1000/\c.K.length<=1000:=⟨by have:=H.U9;omega,by have:=H.K9;omega⟩;obtain⟨J,vs,hvl,C,X⟩:=id H.S;have I:=H.B;have hS:=H.S;clear H;show∃new e,bz prog 23 [.agg (c.cells b u sv kn),.agg [.int .u8 w,.int .i64 i,.str nm,.str q]] M (.agg e) (M++new)/\EvW (M++new) e { c with S:=O7 q c.S }
 match hcS:c.S,vs,hvl with
 | [],[],_=>
  rw[hcS] at C hS;have two:=C.two;refine jR (c' :={ c with S:=O7 q [] }) (p1:=4) (p2:=6) (P:=fun _=>True) (b' :=b) (s' :=sv) rfl ?_ (fun new _=>⟨I.more new,hS.more new⟩) W;clear I C hS;simp only[fR,Evc.cells];rcases two with⟨rfl,_⟩ | ⟨sb,rfl⟩<;>simp[-getElem?_pos,-AV.adM,-AV.known,-AV.cells,-List.all_eq_true,vS,rS,mS,-cY,ao,f23,aD,ag,f,hw]
 |L1::R,v1::vr,hvl2=>
  rw[hcS] at C X J G';simp only[List.length_cons] at J hvl2;have hL:=X 0 v1 L1 rfl rfl;have hLl:=hL.2;have m:=G' L1 (List.mem_cons_self ..);obtain⟨fb,fo,rfl,hm⟩:=hL.1.pos m;obtain⟨sb,so,rfl,hs⟩:=C.pos (by simp);have s4:=fun Z=>E6 (hL.more Z)
  obtain⟨V,y⟩:=xE R.length;obtain⟨D,O⟩:=xE L1.length;obtain⟨LF,Q⟩:=xE (stC L1);have hlf:LF.length=D:=by rw[Q,eu,O]
  have z4:LF.all AV.adM=true:=by rw[Q];exact O8 _
  have lsb:=gL hs;have o :∀Z:Mem,(M++Z)[sb]? =some (.cells so 1 (.slice fb 0 D none::vr)):=fun Z=>by rw[O];exact gU hs _
  have s5:∀(Z:Mem) t,cY (aL prog) (M++Z) 1 t (.slice sb 1 V none)=some (V,vr):=fun Z t=>by
   have e:vr.take V=vr:=An (by omega);have e2:1+V<=vr.length+1:=by omega
   simp[gn,o,e,e2]
  have z5:vr.all AV.adM=true:=by rw[List.all_eq_true];intro x Y;obtain⟨j,hj,hjx⟩:=List.mem_iff_getElem.1 Y;exact(X (j+1) x R[j] (by rw[List.getElem?_cons_succ,LB hj,hjx]) (by rw[List.getElem?_cons_succ,LB])).1.ck
  have y3:D*16<=140737488355328/\D<=140737488355328/\(1+V)*24<=140737488355328/\1+V<=140737488355328:=⟨by omega,by omega,by omega,by omega⟩;have hvr:vr.length=V:=by omega
  have e1:L1.set 0 q=q::L1.drop 1:=by
   cases L1 with
   |nil=>simp at m
   |cons x l=>rfl
  have G:∀ps,(∃new,fR c b u (.slice sb 0 (L1::R).length none) kn M w i nm q=some (.agg (c.cells b (.slice (M.length+4) 0 c.U.length none) (.slice (M.length+ps) 0 (1+V) none) (.slice (M.length+6) 0 c.K.length none)),M++new)/\new[4]? =some (.cells true 1 (stC c.U))/\new[6]? =some (.cells true 2 (kC c.K))/\new[8]? =some (.cells true 1 (.str q::LF.drop 1))/\new[ps]? =some (.cells true 1 (.slice (M.length+8) 0 D none::vr)))->
    ∃new e,bz prog 23 [.agg (c.cells b u (.slice sb 0 (L1::R).length none) kn),.agg [.int .u8 w,.int .i64 i,.str nm,.str q]] M (.agg e) (M++new)/\EvW (M++new) e { c with S:=O7 q (L1::R) }:=fun ps hr=>
   jR (c' :={ c with S:=O7 q (L1::R) }) (p1:=4) (p2:=6) (P:=fun new=>new[8]? =some (.cells true 1 (.str q::LF.drop 1))/\new[ps]? =some (.cells true 1 (.slice (M.length+8) 0 D none::vr))) (b' :=b) (s' :=.slice (M.length+ps) 0 (1+V) none) (e:=c.cells b (.slice (M.length+4) 0 c.U.length none) (.slice (M.length+ps) 0 (1+V) none) (.slice (M.length+6) 0 c.K.length none)) rfl hr (fun new ⟨h5,h6⟩=>⟨I.more new,⟨by simp[O7];omega,.slice (M.length+8) 0 D none::vr,by simp[O7];omega,.inr ⟨M.length+ps,true,by simp[O7,y];omega,by rw[mQ,h6]⟩,fun j x L Y F=>by
    cases j with
    |zero=>
     simp only[O7,List.getElem?_cons_zero,Mp] at Y F;subst Y F;refine⟨.inr ⟨M.length+8,true,by rw[QQZ,O],by rw[mQ,h5,show LF.drop 1=stC (L1.drop 1) by rw[Q];simp[stC],e1];rfl⟩,by rw[QQZ];omega⟩
    |succ j=>
     simp only[O7,List.getElem?_cons_succ] at Y F;exact(X (j+1) x L (by rw[List.getElem?_cons_succ];exact Y) (by rw[List.getElem?_cons_succ];exact F)).more new⟩⟩) W
  have hp1:1<=D:=by omega
  by_cases h0:V=0
  .refine G 11 ?_
   clear G I hS C X hL;simp only[<-y,<-O,<-Q,List.length_cons] at s4 m |-;have e0:vr=[]:=List.length_eq_zero_iff.1 (by omega);subst h0 e0;simp only[fR,Evc.cells];simp[-getElem?_pos,-AV.adM,-AV.known,-AV.cells,-List.all_eq_true,vS,rS,mS,-cY,ao,f23,aD,ag,f,hw,HB,hp1,s4,z4,y3,o,m,hlf]
  .refine G 10 ?_
   clear G I hS C X hL;simp only[<-y,<-O,<-Q,List.length_cons] at s4 m |-;have hge:(1:Int)<=(V:Int)+1/\(1:Int)<(V:Int)+1:=by omega
   simp only[fR,Evc.cells];simp[-getElem?_pos,-AV.adM,-AV.known,-AV.cells,-List.all_eq_true,vS,rS,mS,-cY,ao,f23,aD,ag,f,hw,hp1,hge,s4,s5,z4,z5,y3,o,m,hlf,hvr]
theorem P7(I:0<=w)(J:TxW M b c.B)(W:c.B.length<=990)(hU:TxW M u c.U)(Y:c.U.length<=990)(hS:SfW M sv c.S)(hk:af5 M kn 2 c.K.length (kC c.K))(hkl:c.K.length<=990)(G':∀L∈c.S,0<L.length):∃Z e,bz prog 23 [.agg (c.cells b u sv kn),.agg [.int .u8 w,.int .i64 i,.str nm,.str q]] M (.agg e) (M++Z)/\EvW (M++Z) e (kV c (Int.tmod w 14) i nm q):=by
 have R:0<=Int.tmod w 14:=Int.tmod_nonneg _ I;have Q:Int.tmod w 14<14:=Int.tmod_lt_of_pos _ (by decide);have H:SlH M c b u sv kn:=⟨J,W,hU,Y,hS,hk,hkl⟩;have f:=AH H;have X:=fun Z:Mem=>(⟨J.more Z,hS.more Z⟩:TxW (M++Z) b c.B/\SfW (M++Z) sv c.S)
 clear J hU hS hk;obtain⟨z,I⟩:∃z,Int.tmod w 14=z:=⟨_,rfl⟩
 rw[I] at R Q |-;have V:z=2\/z=3\/z=5\/z=4\/z=9\/z=0\/z=1\/z=6\/z=7\/z=8\/z=10\/z=11\/z=12\/z=13:=by omega
 rcases V with rfl | rfl | rfl | rfl | rfl | V
 .exact Ig I H
 .exact Ih I H
 .exact Ii I H G'
 .refine jR (p1:=8) (p2:=6) (P:=fun _=>True) (b' :=b) (s' :=sv) rfl ?_ (fun Z _=>X Z) ⟨by simp[kV];omega,by simp[kV];omega⟩
  clear H X;simp only[fR,kV,Evc.cells,Int.reduceEq,↓reduceIte];simp[-getElem?_pos,-AV.adM,-AV.known,-AV.cells,-List.all_eq_true,vS,rS,mS,-cY,ao,f23,aD,ag,f,I,gn,Yk,show stC [[111,116,104,101,114]]=[.str [111,116,104,101,114]] from rfl]
 .refine jR (p1:=4) (p2:=8) (P:=fun _=>True) (b' :=b) (s' :=sv) rfl ?_ (fun Z _=>X Z) ⟨by simp[kV];omega,by simp[kV];omega⟩
  clear H X;simp only[fR,kV,Evc.cells,Int.reduceEq,↓reduceIte];simp[-getElem?_pos,-AV.adM,-AV.known,-AV.cells,-List.all_eq_true,vS,rS,mS,-cY,ao,f23,aD,ag,f,I,gn,Uy]
 rcases V with rfl | rfl | rfl | rfl | rfl | rfl | rfl | rfl | rfl<;>
 .refine jR (p1:=4) (p2:=6) (P:=fun _=>True) (b' :=b) (s' :=sv) rfl ?_ (fun Z _=>X Z) ⟨by simp[kV];omega,by simp[kV];omega⟩
  clear H X;simp only[fR,kV,Evc.cells,Int.reduceEq,↓reduceIte];simp[-getElem?_pos,-AV.adM,-AV.known,-AV.cells,-List.all_eq_true,vS,rS,mS,-cY,ao,f23,aD,ag,f,I,gn]
end
end Go.Proofs
namespace Go.Proofs
open Go.Eng
open Tryz
section
variable {c:Evc}{b u sv kn:AV}{M:Mem}
theorem HO{v:AV}{L:List (List UInt8)}(h:TxW M v L):∃X r,bz prog 77 [v] M r (M++X)/\TxW (M++X) r L/\r.adM=true:=by
 have S:bq prog 77=some f77:=by kernel_rfl
 have R:=fun Z=>E7 (h.more Z)
 have Q:(stC L).all AV.adM=true:=O8 _;have O:=h.2;have N:L.length*16<=140737488355328/\L.length<=140737488355328:=⟨by omega,by omega⟩;rcases h.1 with⟨rfl,e,_⟩ | ⟨b,o,rfl,G⟩
 .have V:∃X,ao (aL prog) (fun _=>[]) (bq prog) bC 1 77 [.kO] M=some (.kO,M++X):=by simp[ao,S,f77,Wk]
  obtain⟨X,U⟩:=V;rw[List.length_eq_zero_iff.1 e];exact⟨X,_,aX ak (aI _) (ar _) (aQ _) U,TxW.nil _,rfl⟩
 .have V:∃X,ao (aL prog) (fun _=>[]) (bq prog) bC 1 77 [.slice b 0 L.length none] M=some (.slice (M.length+1) 0 L.length none,M++X)/\X[1]? =some (.cells true 1 (stC L)):=by simp[-cY,ao,S,f77,Wk,R,Q,N]
  obtain⟨X,U,K⟩:=V;exact⟨X,_,aX ak (aI _) (ar _) (aQ _) U,⟨.inr ⟨M.length+1,true,rfl,by rw[mQ,K]⟩,O⟩,rfl⟩
end
def unC(c:Evc):List (List UInt8):=if c.k=1 then c.U else if c.k=4 then [c.x24] else []
section
variable {c:Evc}{b u sv kn:AV}{M:Mem}
theorem Iw{e:List AV}(h:EvW M e c):∃Z r,bz prog 28 [.agg e] M r (M++Z)/\TxW (M++Z) r (unC c):=by
 obtain⟨b,u,sv,kn,rfl,U,X,hS,S,H⟩:=h;have G:bq prog 28=some f28:=by kernel_rfl
 have F:=U.1.ck;have D:=X.1.ck;have C:=hS.2.elim fun _ h=>h.2.1.ck
 have B:=S.ck;have y:=U.1.kn;have o:=X.1.kn;have m:=hS.2.elim fun _ h=>h.2.1.kn
 have j:=S.kn;unfold unC;by_cases N:c.k=1
 .rw[if_pos N]
  obtain⟨E,hE⟩:=xE (α:=Mem) [.cells true 0 (c.cells b u sv kn)];obtain⟨Z,r,V,J,hc⟩:=HO (X.more E);have Y:afs prog (nD [(77,[u],M++E,⟨r,none,Z⟩)]):=wT fun e I=>by simp only[lM] at I;subst I;exact⟨by simpa [afw.mem] using V,by simp⟩
  have W:nD [(77,[u],M++E,⟨r,none,Z⟩)] (.fn 77) [u] (M++E)=some ⟨r,none,Z⟩:=by simp[nD]
  obtain⟨O,R⟩:=xE (nD [(77,[u],M++E,⟨r,none,Z⟩)]);rw[<-R] at Y W;have Q:ao (aL prog) (fun _=>[]) (bq prog) O 1 28 [.agg (c.cells b u sv kn)] M=some (r,M++(E++Z)):=by clear Y U X hS S V J R;subst hE;simp only[Evc.cells,N] at W |-;simp[-getElem?_pos,-AV.adM,-AV.known,-AV.cells,-ay,-List.all_eq_true,vS,rS,mS,ao,G,f28,F,D,C,B,y,o,m,j,W]
  exact⟨E++Z,r,aX ak (aI _) Y (aQ _) Q,by rw[<-S2];exact J⟩
 .rw[if_neg N]
  by_cases K:c.k=4
  .rw[if_pos K]
   have Q:∃Z,ao (aL prog) (fun _=>[]) (bq prog) bC 1 28 [.agg (c.cells b u sv kn)] M=some (.slice (M.length+1) 0 1 none,M++Z)/\Z[1]? =some (.cells true 1 [.str c.x24]):=by clear U X hS S;simp only[Evc.cells,K];simp[-getElem?_pos,-AV.adM,-AV.known,-AV.cells,-ay,-List.all_eq_true,vS,rS,mS,ao,G,f28,aD,ag,F,D,C,B,y,o,m,j]
   obtain⟨Z,V,hn⟩:=Q;exact⟨Z,_,aX ak (aI _) (ar _) (aQ _) V,.inr ⟨M.length+1,true,rfl,by rw[mQ,hn];rfl⟩,by simp⟩
  .rw[if_neg K]
   have Q:∃Z,ao (aL prog) (fun _=>[]) (bq prog) bC 1 28 [.agg (c.cells b u sv kn)] M=some (.kO,M++Z):=by clear U X hS S;simp only[Evc.cells];simp[-getElem?_pos,-AV.adM,-AV.known,-AV.cells,-ay,-List.all_eq_true,vS,rS,mS,ao,G,f28,F,D,C,B,y,o,m,j,N,K]
   obtain⟨Z,V⟩:=Q;exact⟨Z,_,aX ak (aI _) (ar _) (aQ _) V,TxW.nil _⟩
end
end Go.Proofs
namespace Go.Proofs
open Go.Eng
section
variable {c:Evc}{z i:Int}{nm q:List UInt8}
theorem qp{P:Evc->Prop}(h0:P { c with k:=i })(Y:P { c with nm:=nm })(W:P { c with B:=c.B++[q] })(h3:P { c with U:=c.U.set (c.U.length-1) nm })(J:P { c with U:=c.U++[[111,116,104,101,114]] })(I:P { c with S:=O7 q c.S })(H:P { c with x9:=q })(h7:P { c with x5:=[48],x6:=[48],x7:=q })(h8:P { c with x18:=q })(h9:P { c with K:=c.K++[(q,[49])] })(R:P { c with x23:=q })(Q:P { c with x24:=nm })(O:P { c with t1:=i })(N:P { c with x30:=q }):P (kV c z i nm q):=by
 unfold kV;by_cases M:z=0
 .rw[if_pos M];exact h0
 rw[if_neg M];by_cases G:z=1
 .rw[if_pos G];exact Y
 rw[if_neg G];by_cases F:z=2
 .rw[if_pos F];exact W
 rw[if_neg F];by_cases D:z=3
 .rw[if_pos D];exact h3
 rw[if_neg D];by_cases C:z=4
 .rw[if_pos C];exact J
 rw[if_neg C];by_cases y:z=5
 .rw[if_pos y];exact I
 rw[if_neg y];by_cases u:z=6
 .rw[if_pos u];exact H
 rw[if_neg u];by_cases o:z=7
 .rw[if_pos o];exact h7
 rw[if_neg o];by_cases m:z=8
 .rw[if_pos m];exact h8
 rw[if_neg m];by_cases j:z=9
 .rw[if_pos j];exact h9
 rw[if_neg j];by_cases Z:z=10
 .rw[if_pos Z];exact R
 rw[if_neg Z];by_cases X:z=11
 .rw[if_pos X];exact Q
 rw[if_neg X];by_cases V:z=12
 .rw[if_pos V];exact O
 rw[if_neg V];exact N
theorem Yh(h:c.Br)(H:nm.length<=40)(hq:q.length<=40):(kV c z i nm q).Br:=by
 refine qp ?_ ?_ ?_ ?_ ?_ ?_ ?_ ?_ ?_ ?_ ?_ ?_ ?_ ?_
 .exact⟨h.n5,h.x8,h.n9,h.n12,h.n16,h.n19,h.x22,h.x23,h.x24,h.n29,h.t,h.k⟩
 .exact⟨h.n5,h.x8,h.n9,h.n12,h.n16,h.n19,h.x22,h.x23,h.x24,h.n29,h.t,h.k⟩
 .exact⟨h.n5,h.x8,h.n9,h.n12,h.n16,h.n19,h.x22,h.x23,h.x24,h.n29,h.t,h.k⟩
 .exact⟨h.n5,h.x8,h.n9,h.n12,h.n16,h.n19,h.x22,h.x23,h.x24,h.n29,h.t,h.k⟩
 .exact⟨h.n5,h.x8,h.n9,h.n12,h.n16,h.n19,h.x22,h.x23,h.x24,h.n29,h.t,h.k⟩
 .exact⟨h.n5,h.x8,h.n9,h.n12,h.n16,h.n19,h.x22,h.x23,h.x24,h.n29,h.t,h.k⟩
 .exact⟨h.n5,h.x8,⟨hq,h.n9.2⟩,h.n12,h.n16,h.n19,h.x22,h.x23,h.x24,h.n29,h.t,h.k⟩
 .exact⟨⟨by show([48]:List UInt8).length<=40;decide,by show([48]:List UInt8).length<=40;decide,hq⟩,h.x8,h.n9,h.n12,h.n16,h.n19,h.x22,h.x23,h.x24,h.n29,h.t,h.k⟩
 .exact⟨h.n5,h.x8,h.n9,h.n12,⟨h.n16.1,h.n16.2.1,hq⟩,h.n19,h.x22,h.x23,h.x24,h.n29,h.t,h.k⟩
 .exact⟨h.n5,h.x8,h.n9,h.n12,h.n16,h.n19,h.x22,h.x23,h.x24,h.n29,h.t,fun p Z=>(QXK.1 Z).elim (h.k p) fun Z=>by rw[List.mem_singleton.1 Z];exact⟨hq,by show([49]:List UInt8).length<=40;decide⟩⟩
 .exact⟨h.n5,h.x8,h.n9,h.n12,h.n16,h.n19,h.x22,hq,h.x24,h.n29,h.t,h.k⟩
 .exact⟨h.n5,h.x8,h.n9,h.n12,h.n16,h.n19,h.x22,h.x23,H,h.n29,h.t,h.k⟩
 .exact⟨h.n5,h.x8,h.n9,h.n12,h.n16,h.n19,h.x22,h.x23,h.x24,h.n29,h.t,h.k⟩
 .exact⟨h.n5,h.x8,h.n9,h.n12,h.n16,h.n19,h.x22,h.x23,h.x24,⟨h.n29.1,hq,h.n29.2.2⟩,h.t,h.k⟩
theorem XZ{S:List (List (List UInt8))}(h:∀X∈S,∀t∈X,t.length<=40)(hq:q.length<=40):∀X∈O7 q S,∀t∈X,t.length<=40:=by
 intro X Z t V;cases S with
 |nil=>cases Z
 |cons L R=>
  rcases List.mem_cons.1 Z with rfl | Z
  .rcases List.mem_or_eq_of_mem_set V with V | rfl
   .exact h L (List.mem_cons_self ..) t V
   .exact hq
  .exact h X (List.mem_cons_of_mem _ Z) t V
theorem WV(S:List (List (List UInt8))):(O7 q S).length=S.length:=by cases S<;>rfl
theorem Yg(h:c.Bd)(H:nm.length<=40)(hq:q.length<=40):(kV c z i nm q).Bd:=by
 refine qp ?_ ?_ ?_ ?_ ?_ ?_ ?_ ?_ ?_ ?_ ?_ ?_ ?_ ?_
 .exact⟨h.B,h.U,h.S⟩
 .exact⟨h.B,h.U,h.S⟩
 .exact⟨fun t Z=>(QXK.1 Z).elim (h.B t) fun Z=>by rw[List.mem_singleton.1 Z];exact hq,h.U,h.S⟩
 .exact⟨h.B,fun t Z=>(List.mem_or_eq_of_mem_set Z).elim (h.U t) fun Z=>by rw[Z];exact H,h.S⟩
 .exact⟨h.B,fun t Z=>(QXK.1 Z).elim (h.U t) fun Z=>by rw[List.mem_singleton.1 Z];decide,h.S⟩
 .exact⟨h.B,h.U,XZ h.S hq⟩
 .exact⟨h.B,h.U,h.S⟩
 .exact⟨h.B,h.U,h.S⟩
 .exact⟨h.B,h.U,h.S⟩
 .exact⟨h.B,h.U,h.S⟩
 .exact⟨h.B,h.U,h.S⟩
 .exact⟨h.B,h.U,h.S⟩
 .exact⟨h.B,h.U,h.S⟩
 .exact⟨h.B,h.U,h.S⟩
theorem Yi(h:c.nm.length<=40)(H:nm.length<=40):(kV c z i nm q).nm.length<=40:=by
 refine qp (P:=fun c=>c.nm.length<=40) ?_ ?_ ?_ ?_ ?_ ?_ ?_ ?_ ?_ ?_ ?_ ?_ ?_ ?_
 .exact h
 .exact H
 .exact h
 .exact h
 .exact h
 .exact h
 .exact h
 .exact h
 .exact h
 .exact h
 .exact h
 .exact h
 .exact h
 .exact h
theorem Zb(h:c.S.length<=2):(kV c z i nm q).S.length<=2:=by
 refine qp (P:=fun c=>c.S.length<=2) ?_ ?_ ?_ ?_ ?_ ?_ ?_ ?_ ?_ ?_ ?_ ?_ ?_ ?_
 .exact h
 .exact h
 .exact h
 .exact h
 .exact h
 .exact(by show(O7 q c.S).length<=2;rw[WV];exact h)
 .exact h
 .exact h
 .exact h
 .exact h
 .exact h
 .exact h
 .exact h
 .exact h
end
end Go.Proofs
namespace Go.Proofs
open Go.Eng
open Tryz
variable{k:Nat}
theorem XT{q:Rat}(h:dg k k q)(h0:0<k)(h1:k<=3):(aJ q).length<=40:=by have:=Fa h0 h;omega
theorem Yo{v:V3}(h:vDg k v)(h0:0<k)(h1:k<=3):tx4 (aJ v.1,aJ v.2.1,aJ v.2.2):=⟨XT h.1 h0 h1,XT h.2.1 h0 h1,XT h.2.2 h0 h1⟩
section
variable (x:afv)(n:Nat)
include x n
theorem YZ:(cSk x n).Br:=by
 have Z:=Yo (W8 (A9 x) (k:=1) (by decide) (by decide)) (by decide) (by decide);have V:=XT (Li (z:=iC (x.n 6)) (k:=1) (by have:=dO (x.n 6);omega) (by decide)) (by decide) (by decide);have U:=nd (x.n 7);have S:=XT (Li (z:=ps9 (x.n 7)) (k:=1) (by omega) (by decide)) (by decide) (by decide);have R:=Yo (YO (Cw x) (k:=3) (by decide) (by decide)) (by decide) (by decide);have Q:=Yo (W8 (Cw x) (k:=3) (by decide) (by decide)) (by decide) (by decide);have z:tx4 ([],[],[]):=⟨Nat.zero_le _,Nat.zero_le _,Nat.zero_le _⟩;have e:([]:List UInt8).length<=40:=Nat.zero_le _;have t0:(0:Int).natAbs<=20/\(0:Int).natAbs<=20/\(0:Int).natAbs<=20:=by decide
 have X:∀q∈([]:List (List UInt8×List UInt8)),q.1.length<=40/\q.2.length<=40:=fun q h=>by cases h
 unfold cSk;split
 .exact⟨z,e,z,z,z,z,e,e,e,z,t0,X⟩
 .exact⟨Z,V,R,z,z,z,e,e,e,z,t0,X⟩
 .refine⟨z,e,z,Z,Q,z,e,e,e,z,t0,fun p U=>?_⟩
  obtain⟨q,O,rfl⟩:=QQd.1 U;have:=LA (c:=ctM x) (by have:=rN x;omega) O;exact⟨XT this.1 (by decide) (by decide),XT this.2 (by decide) (by decide)⟩
 .exact⟨z,e,z,z,z,Z,V,S,(by show([110,95,114,111,99,107]:List UInt8).length<=40;decide),z,t0,X⟩
 .have:=Pd x
  unfold tLe at this;exact⟨z,e,z,z,z,z,e,e,e,Z,(by show(oO x).2.1.natAbs<=20/\(oO x).2.2.1.natAbs<=20/\(oO x).2.2.2.natAbs<=20;omega),X⟩
theorem Y3:(cSk x n).nm.length<=40:=by unfold cSk;split<;>show([110]:List UInt8).length<=40<;>decide
theorem aaf:(cSk x n).S.length<=2:=by
 unfold cSk;split
 .show((zH x n (ctN x)).map hS).length<=2
  rw[QQm];rcases fC x with h | h | h<;>rw[h]<;>simp[zH]
 all_goals exact Nat.zero_le _
theorem ZG(H:0<n):∀L∈(cSk x n).S,0<L.length:=by
 unfold cSk;split
 .intro L V
  obtain⟨Z,X,rfl⟩:=QQd.1 V;rw[zq];rcases fC x with h | h | h<;>rw[h] at X<;>simp[zH] at X
  .rw[X,eG];exact H
  .rcases X with rfl | rfl<;>rw[eG]<;>exact H
 all_goals exact fun L V=>by cases V
theorem Y0(H:n<=990):(cSk x n).B.length<=990/\(cSk x n).U.length<=990/\(cSk x n).K.length<=990:=by
 unfold cSk;split
 .refine⟨?_,?_,Nat.zero_le _⟩
  .show(hS _).length<=990
   rw[zq,Hts.afY];exact H
  .show(uNm _).length<=990
   rw[Vf (fC x)];have:=fC x;omega
 .exact⟨Nat.zero_le _,Nat.zero_le _,Nat.zero_le _⟩
 .refine⟨Nat.zero_le _,Nat.zero_le _,?_⟩
  show(kT _).length<=990
  have:=rN x;simp only[kT,QQm,afv.agf];omega
 all_goals exact⟨Nat.zero_le _,Nat.zero_le _,Nat.zero_le _⟩
end
theorem YN{Z:List Int}(h:∀z∈Z,z.natAbs<1000):∀t∈hS Z,t.length<=40:=by
 intro t X;unfold hS qH at X;rw[List.map_map] at X;obtain⟨z,V,rfl⟩:=QQd.1 X;have:=CR (h z V);show(aJ (hQ z)).length<=40
 omega
theorem YY(x:afv)(n:Nat):(cSk x n).Bd:=by
 have O:∀z∈x.base.l n,z.natAbs<1000:=fun z U=>by have:=lV x n z U;omega
 have S:∀z∈upL x.s0 (x.base.l n) n,z.natAbs<1000:=fun z U=>by have:=sK x n z U;omega
 have R:∀z∈upL x.s1 (upL x.s0 (x.base.l n) n) n,z.natAbs<1000:=by intro z U;unfold upL at U;obtain⟨k,Q,rfl⟩:=QQd.1 U;have Q:=List.mem_range.1 Q;have N:=sK x n _ (pX (l:=upL x.s0 (x.base.l n) n) (k:=k) (by rw[eG];exact Q));have:=x.s1.ahq k;unfold upL at N;omega
 unfold cSk;split
 .refine⟨YN O,?_,?_⟩
  .show∀t∈uNm (ctN x),t.length<=40
   rcases fC x with h | h | h<;>rw[h]<;>decide
  .intro X M
   obtain⟨Z,V,rfl⟩:=QQd.1 M;refine YN ?_;rcases fC x with h | h | h<;>rw[h] at V<;>simp only[zH,lM] at V
   .rw[V];exact S
   .rcases V with rfl | rfl
    .exact S
    .exact R
 all_goals exact⟨fun t h=>(by cases h),fun t h=>(by cases h),fun t h=>(by cases h)⟩
theorem UT{n:V3}{o:Rat}(H:vDg 200 n)(I:dg 200 200 o)(hz:¬Vk n):HJ (aJ n.1,aJ n.2.1,aJ n.2.2) (aJ o)=0:=by
 have h:jj [aJ n.1,aJ n.2.1,aJ n.2.2,aJ o]=0:=by simp[jj,jT H.1,jT H.2.1,jT H.2.2,jT I]
 unfold HJ;rw[if_pos h,if_neg (by unfold RY;rw[Mm hz];decide)]
theorem TP{v n:V3}(H:vDg 200 v)(hd:xA v n=0):TO (aJ v.1,aJ v.2.1,aJ v.2.2) (aJ n.1,aJ n.2.1,aJ n.2.2)=0:=by have h:txN (aJ v.1,aJ v.2.1,aJ v.2.2)=0:=UM H;unfold TO;rw[if_pos h];simp only[aE,Option.getD_some];exact if_pos hd
variable{c:Evc}
theorem XM(h1:txN c.n12=0)(h2:RY c.n12=false)(h3:knE c.K=0)(h4:TO c.n16 c.n12=0):Vo c=0:=by unfold Vo;rw[if_pos h1,h2,if_neg (by decide),if_pos h3,h4]
theorem UL:∀{Z:List Int},(∀z∈Z,z.natAbs<1000)->jj (hS Z)=0
 | [],_=>rfl
 |z::Z,h=>by
  show(if iz (aJ (hQ z))=0 then jj (hS Z) else _)=0
  rw[if_pos (jT ((YH (h z (by simp))).mono (by omega) (by omega))),UL fun y X=>h y (by simp[X])]
theorem UC:∀{A B:List Int},(∀(i:Nat) z y,A[i]? =some z->B[i]? =some y->z<=y)->leZ ((hS A).zip (hS B))=true
 | [],_,_=>rfl
 |z::A,[],_=>rfl
 |z::A,y::B,h=>by
  have Z:=ZB (h 0 z y rfl rfl);have X:=UC (A:=A) (B:=B) fun i a b V U=>h (i+1) a b V U
  show(!decide (0<vf (qL (aJ (hQ z))) (qL (aJ (hQ y))))&&leZ ((hS A).zip (hS B)))=true
  rw[X];unfold qL;have:=Hb.2 Z;simp only[aE,Option.getD_some,Bool.and_true,Bool.not_eq_true',decide_eq_false_iff_not];omega
section
variable (x:afv)(n:Nat)
include x n
theorem WY:(∀z∈x.base.l n,z.natAbs<1000)/\(∀z∈upL x.s0 (x.base.l n) n,z.natAbs<1000)/\∀z∈upL x.s1 (upL x.s0 (x.base.l n) n) n,z.natAbs<1000:=by refine⟨fun z Z=>by have:=lV x n z Z;omega,fun z Z=>by have:=sK x n z Z;omega,fun z Z=>?_⟩;unfold upL at Z;obtain⟨k,X,rfl⟩:=QQd.1 Z;have X:=List.mem_range.1 X;have V:=sK x n _ (pX (l:=upL x.s0 (x.base.l n) n) (k:=k) (by rw[eG];exact X));have:=x.s1.ahq k;unfold upL at V;omega
theorem ZA:RU n (EB x n (ctN x)).B (EB x n (ctN x)).U (EB x n (ctN x)).S=.int .i64 0:=by
 obtain⟨O,X,V⟩:=WY x n;have f:∀{Z:List Int},Z.length=n->(∀z∈Z,z.natAbs<1000)->mF n (hS Z)=0:=fun N M=>by unfold mF;rw[if_pos (by rw[zq,N]),UL M]
 have f0:=f (x.base.afY n) O;have f1:=f (eG x.s0 (x.base.l n) n) X;have f2:=f (eG x.s1 (upL x.s0 (x.base.l n) n) n) V;have g1:=UC (A:=x.base.l n) (B:=upL x.s0 (x.base.l n) n) fun i z y R Q=>Xv R Q
 have K:=UC (A:=upL x.s0 (x.base.l n) n) (B:=upL x.s1 (upL x.s0 (x.base.l n) n) n) fun i z y R Q=>Xv R Q
 unfold RU;rcases fC x with h | h | h<;>rw[h]<;>simp only[EB,zH,List.map_cons,List.map_nil]
 .have e:jK (qK (uNm 1)) 0 (uNm 1)=none:=by kernel_rfl
  rw[if_pos f0,if_neg (by decide),if_neg (by decide),e];rfl
 .have e:jK (qK (uNm 2)) 0 (uNm 2)=none:=by kernel_rfl
  rw[if_pos f0,if_neg (by decide),if_neg (by decide),e];show Option.getD (match sH n _ _ 0 _ with | some v=>some v | none=>none) _=_
  simp[sH,f1,g1]
 .have e:jK (qK (uNm 3)) 0 (uNm 3)=none:=by kernel_rfl
  rw[if_pos f0,if_neg (by decide),if_neg (by decide),e];simp[jK,sH,f1,f2,g1,K,uNm]
theorem Zz:RT n (cSk x n)=.int .i64 0:=by
 have X:=(W8 (A9 x) (k:=1) (by decide) (by decide)).mono (m:=200) (by omega);have U:=ZO (WL x);have S:=(Li (z:=iC (x.n 6)) (k:=1) (by have:=dO (x.n 6);omega) (by decide)).mono (n' :=200) (d' :=200) (by omega) (by omega);have R:=XF (fL x) (iC (x.n 3),iC (x.n 4),iC (x.n 5));have Z:∀{c:Evc}(k:Int),c.k=k->(1<=k/\k<=5)->c.nm=[110]->tK c=true->DP n c=.int .i64 0->RT n c=.int .i64 0:=fun k C B V h3 Q=>by unfold RT;rw[if_neg (by omega),V,if_pos (by decide),if_pos h3,Q]
 unfold cSk;split
 .exact Z 1 rfl (by decide) rfl rfl (ZA x n)
 .refine Z 2 rfl (by decide) rfl rfl ?_
  have h:Xd (vd [110] (zQ (fL x)) (hQ (iC (x.n 6))) (hV (DO x)))=0:=(if_pos (UT X S U)).trans (TP ((YO (Cw x) (k:=3) (by decide) (by decide)).mono (by omega)) (YP R));simp only[DP,vd] at h |-;simp[h]
 .refine Z 3 rfl (by decide) rfl rfl ?_
  have y:=rN x;have O:knE (kT (x.af0 (ctM x)))=0:=XR (by rw[afv.agf];omega) (fun q N=>by have:=LA (c:=ctM x) (by omega) N;exact⟨this.1.mono (by omega),this.2.mono (by omega)⟩) (fun i a b M K=>WH M K)
  have z:RY (aJ (zQ (fL x)).1,aJ (zQ (fL x)).2.1,aJ (zQ (fL x)).2.2)=false:=Mm U;have t:txN (aJ (zQ (fL x)).1,aJ (zQ (fL x)).2.1,aJ (zQ (fL x)).2.2)=0:=UM X;have G:=TP ((W8 (Cw x) (k:=3) (by decide) (by decide)).mono (m:=200) (by omega)) (Xw R);have h:Vo (mR [110] (zQ (fL x)) (x.af0 (ctM x)) (zQ (DO x)))=0:=XM t z O G;simp only[DP,mR] at h |-;simp[h]
 .refine Z 4 rfl (by decide) rfl rfl ?_
  have u:=nd (x.n 7);have w0:iz (aJ (hQ (ps9 (x.n 7))))=0:=jT ((Li (z:=ps9 (x.n 7)) (k:=1) (by omega) (by decide)).mono (by omega) (by omega));have w1:¬kU ((dZ (aJ (hQ (ps9 (x.n 7))))).getD 0)<=0:=by
   rw[aE];have:=YK (w:=ps9 (x.n 7)) (by omega);have V:=Hz (a:=hQ (ps9 (x.n 7))) (b:=0);rw[show hQ (ps9 (x.n 7))-0=hQ (ps9 (x.n 7)) by grind] at V;show¬kU (hQ (ps9 (x.n 7)))<=0
   rw[V]
   grind
  have h:Xa (CF [110] (zQ (fL x)) (hQ (iC (x.n 6))) (hQ (ps9 (x.n 7))) [110,95,114,111,99,107])=0:=(if_pos (UT X S U)).trans ((if_pos w0).trans ((if_neg w1).trans (if_pos (show jA [110,95,114,111,99,107]=true by decide))));simp only[DP,CF] at h |-;simp[h]
 .refine Z 5 rfl (by decide) rfl rfl ?_
  have F:=Pd x;have D:=W6 x;have r:Xq ((oO x).1,(oO x).2.1,(oO x).2.2.1,(oO x).2.2.2)=0:=
   (if_neg (show¬1000000<(oO x).1.natAbs by have:=F.1;omega)).trans (if_neg D)
  have h:Yz (CG [110] (oO x) (zQ (fL x)))=0:=(if_pos r).trans (UM X);simp only[DP,CG] at h |-;simp[h]
end
def Mo(r:Int):Int:=if r=0 then 2 else r
theorem TU(r:Int):Mo r≠0:=by unfold Mo;split<;>omega
abbrev z12:List AV:=[.str [],.str [],.str [],.str [],.str [],.str [],.str [],.str [],.str [],.str [],.str [],.str []]
structure Tryz.agD (N:Mem)(mv:AV) (e e' :List AV)(r:Int)(g:Bool):Prop where
 ahP:∀Z,bz prog 24 [mv,.agg e'] (N++Z) (.int .i64 r) (N++Z)
 chk:∀Z,bz prog 25 [mv,.agg e'] (N++Z) (.int .i64 r) (N++Z)
 ahx:∀Z,bz prog 25 [mv,.agg e] (N++Z) (.int .i64 0) (N++Z)
 eq:∀Z,bz prog 26 [.agg e,.agg e'] (N++Z) (.bool g) (N++Z)
 same:∀Z,bz prog 27 [.agg e,.agg e'] (N++Z) (.bool g) (N++Z)
 self:∀Z,bz prog 26 [.agg e',.agg e'] (N++Z) (.bool true) (N++Z)
 num:∀Z,bz prog 18 [mv,.agg e',.agg [.str [],.str [],.str []]] (N++Z) (.tuple [.int .i64 0,.int .i64 (Mo r)]) (N++Z)
 ahA:∀Z,bz prog 21 [mv,.agg e',.agg [.str [],.str [],.str []]] (N++Z) (.tuple [.agg [.str [],.str [],.str []],.int .i64 (Mo r)]) (N++Z)
 doo:∀Z,bz prog 20 [mv,.agg e',.agg [.str [],.str [],.str []]] (N++Z) (.tuple [.agg [.str [],.str [],.str []],.int .i64 (Mo r)]) (N++Z)
 ends:r≠0->∀Z,bz prog 19 [mv,.agg e',.int .i64 0] (N++Z) (.tuple [.str [],.bool false,.int .i64 r]) (N++Z)
 back:r≠0->∀Z,bz prog 29 [mv,.agg e',.int .i64 0] (N++Z) (.tuple [.agg z12,.int .i64 r]) (N++Z)
 agP:r≠0->∀Z,bz prog 11 [mv,.agg e',.int .i64 0] (N++Z) (.tuple [.kO,.int .i64 r]) (N++Z)
theorem Wy(c:Evc):eqC c c=true:=by simp[eqC,evB,RW,xB,T8,Ve]
theorem agO.w{N:Mem}{e:List AV}(h:agO N e c)(H:c.B.length<=1000)(I:c.U.length<=1000)(hS:c.S.length<=1000)(J:∀L∈c.S,L.length<=1000)(W:c.K.length<=1000):EvW N e c:=by obtain⟨b,u,s,kn,rfl,X,V,⟨R,Q,O,M⟩,G⟩:=h;exact⟨b,u,s,kn,rfl,⟨X.w,H⟩,⟨V.w,I⟩,⟨hS,R,Q,O.w,fun i x L F Z=>⟨(M i x L F Z).w,J L (Lo Z)⟩⟩,G.w,W⟩
section
variable {s:afI}{x:afv}{M:Mem}{p t:Nat}{e:List AV}{w i:Int}{nm q:List UInt8}
theorem Qy{N:Mem}{c' :Evc}{e' :List AV}(W:0<s.P.length/\s.P.length<=1000)(hp:∃o,N[p]? =some (.cells o 2 (pC s.P)))(ht:∃o,N[t]? =some (.cells o 3 (tC s.T)))(hE:EvW N e c)(hSA:c.S.length<=2)(hcA:c.Br)(hdA:c.Bd)(hnA:c.nm.length<=40)(h0A:RT s.P.length c=.int .i64 0)(I :EvW N e' c')(hS:c'.S.length<=2)(hc:c'.Br)(hd:c'.Bd)(J:c'.nm.length<=40):∃r g,agD N (.agg [.slice p 0 s.P.length none,.slice t 0 s.T.length none]) e e' r g:=by
 obtain⟨r,j⟩:=AM s.P.length c';obtain⟨o,hp⟩:=hp;obtain⟨G,ht⟩:=ht;have V :∀Z:Mem,(N++Z)[p]? =some (.cells o 2 (pC s.P)):=fun Z=>gU hp _
 have U :∀Z:Mem,(N++Z)[t]? =some (.cells G 3 (tC s.T)):=fun Z=>gU ht _
 have D:=fun Z=>MB W ⟨o,V Z⟩ ⟨G,U Z⟩ hS hc hd J (I.more Z)
 have R:=fun Z=>Bj W ⟨o,V Z⟩ ⟨G,U Z⟩ hS hc hd J (I.more Z)
 rw[j] at D R;obtain⟨b,u,F,kn,rfl,C,B,⟨_,vs,_,y,_⟩,m,_⟩:=id I;have H:EvK (.slice p 0 s.P.length none) (.slice t 0 s.T.length none) b u F kn:=⟨⟨rfl,rfl⟩,⟨C.1.ck,B.1.ck,y.ck,m.ck⟩,C.1.kn,B.1.kn,y.kn,m.kn⟩;have more:∀{f:FuncId}{a:List AV}{v:AV},(∀Z,bz prog f a (N++Z) v (N++Z))->∀Z Y,bz prog f a (N++Z++Y) v (N++Z++Y):=fun h Z Y=>by rw[S2];exact h _
 have Q:∀Z,bz prog 57 [.agg [.slice p 0 s.P.length none,.slice t 0 s.T.length none],.agg (c'.cells b u F kn),.agg [.str [],.str [],.str []]] (N++Z) (.int .i64 (Mo r)) (N++Z):=fun Z=>by
  unfold Mo;by_cases X:r=0
  .rw[if_pos X];subst X;exact Pn H (more R Z)
  .rw[if_neg X];exact Pm H (more R Z) X
 have O:∀k Z,bz prog 59 [.agg [.slice p 0 s.P.length none,.slice t 0 s.T.length none],.agg (c'.cells b u F kn),.agg [.str [],.str [],.str []],.str k] (N++Z) (.tuple [.agg [.str [],.str [],.str []],.int .i64 (Mo r)]) (N++Z):=fun k Z=>PF H (more Q Z) (TU r)
 have K:r≠0->∀Z,bz prog 58 [.agg [.slice p 0 s.P.length none,.slice t 0 s.T.length none],.agg (c'.cells b u F kn),.int .i64 0] (N++Z) (.int .i64 r) (N++Z):=fun X Z=>PQ H (more R Z) X
 exact⟨r,eqC c c',D,R,fun Z=>by have:=Bj W ⟨o,V Z⟩ ⟨G,U Z⟩ hSA hcA hdA hnA (hE.more Z);rwa [h0A] at this,fun Z=>xI (hE.more Z) (I.more Z),fun Z=>HX (hE.more Z) (I.more Z),fun Z=>by have:=xI (I.more Z) (I.more Z);rwa [Wy] at this,
  fun Z=>PK H (more Q Z) (TU r),fun Z=>M7 H (more (O _) Z),fun Z=>R4 H (more (O _) Z),fun X Z=>Pz H (more (K X) Z) X,fun X Z=>Mt H (more (K X) Z) X,fun X Z=>PO H (more R Z) X⟩
end
end Go.Proofs
namespace Go.Proofs
open Go.Eng
open Tryz
theorem RG(s:afI):s.P.length<=990:=by
 have h:∀k<8,(ej k).length<=990:=by decide
 have:=h (s.kind%8) (Nat.mod_lt _ (by decide));unfold afI.P
 rwa [QQm]
theorem aae(x:afv)(n:Nat)(H:n<=1000):∀L∈(cSk x n).S,L.length<=1000:=by
 unfold cSk;split
 .intro L V
  obtain⟨Z,X,rfl⟩:=QQd.1 V;rw[zq];rcases fC x with h | h | h<;>rw[h] at X<;>simp[zH] at X
  .rw[X,eG];exact H
  .rcases X with rfl | rfl<;>rw[eG]<;>exact H
 all_goals exact fun L V=>by cases V
variable{M:Mem}
theorem Nv{s:afI}{x:afv}{p t:Nat}{e:List AV}{w i:Int}{nm q:List UInt8}(W:0<=w)(H:nm.length<=40)(hq:q.length<=40)(I:∃o,M[p]? =some (.cells o 2 (pC s.P)))(J:∃o,M[t]? =some (.cells o 3 (tC s.T)))(hE:agO M e (cSk x s.P.length)):
  ∃Z X Q r g,bz prog 23 [.agg e,.agg [.int .u8 w,.int .i64 i,.str nm,.str q]] M (.agg X) (M++Z)/\EvW (M++Z) X Q /\agD (M++Z) (.agg [.slice p 0 s.P.length none,.slice t 0 s.T.length none]) e X r g:=by
 have U:=FL s;have O:=RG s;obtain⟨K,G,F⟩:=Y0 x s.P.length O;have V:=aaf x s.P.length;have S:EvW M e (cSk x s.P.length):=hE.w (by omega) (by omega) (by omega) (aae x _ U.2) (by omega);obtain⟨b,u,sv,kn,rfl,D,C,hS,B,y⟩:=id S;obtain⟨Z,X,m,R⟩:=P7 (i:=i) (nm:=nm) (q:=q) W D K C G hS B F (ZG x _ U.1);obtain⟨o,I⟩:=I;obtain⟨j,J⟩:=J;obtain⟨r,g,Y⟩:=Qy (N:=M++Z) (p:=p) (t:=t) U ⟨o,gU I _⟩ ⟨j,gU J _⟩ (S.more Z) V (YZ x _) (YY x _) (Y3 x _) (Zz x _) R (Zb V) (Yh (YZ x _) H hq) (Yg (YY x _) H hq) (Yi (Y3 x _) H);exact⟨Z,X,_,r,g,m,R,Y⟩
theorem yV:(bn f6).map (fun o=>eW o.toList)=[[0,0,3,0,15,31,63,63,255,511,1023,2047,4095,4095,16383,4095,4095,131071,262143,524287,1048575,2097151,2097151,8388607,16777215,33554431],[0,0,3,7,0,0,48,112,255]]:=by kernel_rfl
theorem IG{O:afu}{m0:Nat}{v w p7 p9 p10:AV}{L:List (List UInt8)}(I:TxW M v L)(J:TxW M w L){b:Code}(H:ah f6=[b]):
  ∃G:Env->Bool->Env×Bool,∀env d,((aa env 11=v/\aa env 12=w/\aa env 7=p7/\aa env 9=p9/\aa env 10=p10)/\aa env 13=.int .i64 0)->aO (aL prog) (fun _=>[13,13,13]) O 1100 253 m0 true (.loop b) ⟨env,M,d⟩=some (.exit 1,⟨(G env d).1,M,(G env d).2⟩)/\(fun env=>aa env 11=v/\aa env 12=w/\aa env 7=p7/\aa env 9=p9/\aa env 10=p10) (G env d).1:=by
 have j:=I.2;obtain⟨Z,U⟩:∃Z,bn f6=Z :=⟨_,rfl⟩
 have F :=cR U yV;simp only[bn,cU,f6,lA] at U;subst U;simp only[lB] at F;simp[ah,aw,f6] at H;obtain⟨G,C⟩:=lr (T:=aL prog) (lv:=fun _=>[13,13,13]) (O:=O) (K:=1100) (N:=253) (m0:=m0) (ex:=1) (cnt:=13) (res:=6) (b:=b) (M:=M) (L:=L) (L' :=L) (Q:=fun env=>aa env 11=v/\aa env 12=w/\aa env 7=p7/\aa env 9=p9/\aa env 10=p10) rfl rfl (by omega)
  (fun env i x y d ⟨a0,a1,a7,a9,a10⟩ ac hx hy=>by
   rw[hx] at hy;cases hy;rw[if_pos rfl];have S:i<L.length:=gL hx;obtain⟨B,Y,rfl,X⟩:=I.1.pos (by omega);obtain⟨W,o2,rfl,V⟩:=J.1.pos (by omega);have g1:=gL X;have u:=gL V;have D:IntKind.i64.wrap ((i:Int)+1)=((i+1:Nat):Int):=by rw[af];omega
   obtain⟨m1,R⟩:=xE (i+1);rw[<-R] at D |-;have o:=qD hx;subst H;simp[-getElem?_pos,-AV.adM,-AV.known,-AV.cells,-ay,-List.all_eq_true,vS,rS,mS,-bB,-bb,-aN,-AV.aft,-afz.aft,cW,bU,bD,fJ,dy,bL,cF,eI,bef,Nat.testBit,a0,a1,a7,a9,a10,ac,S,X,V,D,g1,u,aK F.2,o])
  (fun env d ⟨a0,a1,a7,a9,a10⟩ ac=>by
   subst H;rcases I.1.two with⟨rfl,m⟩ | ⟨B,rfl⟩
   .rw[m] at ac
    simp[a0,a1,a7,a9,a10,ac]
   .simp[a0,a1,a7,a9,a10,ac])
  (fun z' env h=>by subst H;simpa [au] using h)
 refine⟨G,fun env d h=>?_⟩;obtain⟨g1,_,g3⟩:=C env d h;rw[if_pos rfl] at g1;exact⟨g1,g3 rfl⟩
end Go.Proofs
