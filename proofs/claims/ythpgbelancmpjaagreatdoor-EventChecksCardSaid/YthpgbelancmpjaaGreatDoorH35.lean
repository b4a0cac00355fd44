/- See H38. -/
import Derived.Test.YthpgbelancmpjaaGreatDoorH34
set_option linter.all false
set_option maxRecDepth 100000
set_option maxHeartbeats 40000000
namespace Go.Proofs
open Go.Eng
open Tryz
def sqD:Nat->Code->Code
 |0,c=>c
 |n+1,.seq _ c=>sqD n c
 |_+1,c=>c
def sqA:Nat->Code->Code
 |0,.seq a _=>a
 |n+1,.seq _ c=>sqA n c
 |_,c=>c
noncomputable def aM:Code:=match f6.body with
 |some c=>c
 |none=>.skip
noncomputable def nP:Code:=sqD 4 aM
noncomputable def nQ:Code:=sqD 5 aM
noncomputable def qX:Code:=sqD 6 aM
noncomputable def qY:Code:=sqD 7 aM
noncomputable def qZ:Code:=sqD 8 aM
noncomputable def ra:Code:=sqD 9 aM
noncomputable def gD:Code:=sqD 10 aM
noncomputable def nJ:Code:=sqD 11 aM
noncomputable def lx:Code:=sqD 12 aM
noncomputable def ly:Code:=sqD 13 aM
noncomputable def nK:Code:=sqD 15 aM
noncomputable def nM:Code:=sqD 17 aM
noncomputable def nO:Code:=sqD 19 aM
theorem ID:f6.body=some (.seq (sqA 0 aM) (.seq (sqA 1 aM) (.seq (sqA 2 aM) (.seq (sqA 3 aM) (nP))))):=by kernel_rfl
theorem Sa:nP=.seq (sqA 4 aM) (nQ):=by kernel_rfl
theorem Sb:nQ=.seq (sqA 5 aM) (qX):=by kernel_rfl
theorem Sc:qX=.seq (sqA 6 aM) (qY):=by kernel_rfl
theorem Se:qY=.seq (sqA 7 aM) (qZ):=by kernel_rfl
theorem Sf:qZ=.seq (sqA 8 aM) (ra):=by kernel_rfl
theorem Sg:ra=.seq (sqA 9 aM) (gD):=by kernel_rfl
theorem Qg:gD=.seq (sqA 10 aM) (nJ):=by kernel_rfl
theorem Qh:nJ=.seq (sqA 11 aM) (lx):=by kernel_rfl
theorem EZ:lx=.seq (sqA 12 aM) (ly):=by kernel_rfl
theorem Qi:ly=.seq (sqA 13 aM) (.seq (sqA 14 aM) (nK)):=by kernel_rfl
theorem Qj:nK=.seq (sqA 15 aM) (.seq (sqA 16 aM) (nM)):=by kernel_rfl
theorem Qk:nM=.seq (sqA 17 aM) (.seq (sqA 18 aM) (nO)):=by kernel_rfl
theorem Ql:nO=.seq (sqA 19 aM) .ret:=by kernel_rfl
noncomputable def dz:Array Oper:=match sqA 19 aM with
 |.region _ ops _=>ops
 |_=> #[]
noncomputable def BA:List Oper:=(dz.toList.drop 0).take 16
noncomputable def BB:List Oper:=(dz.toList.drop 16).take 10
noncomputable def BC:List Oper:=(dz.toList.drop 26).take 10
noncomputable def BD:List Oper:=(dz.toList.drop 36).take 10
noncomputable def BE:List Oper:=(dz.toList.drop 46).take 15
theorem Sh:dz.toList=BA++(BB++(BC++(BD++BE))):=by kernel_rfl
theorem Vv:(dz[2]?).bind (fun x=>x.dst)=some 195/\(dz[7]?).bind (fun x=>x.dst)=some 200/\(dz[11]?).bind (fun x=>x.dst)=some 204/\(dz[15]?).bind (fun x=>x.dst)=some 208/\(dz[20]?).bind (fun x=>x.dst)=some 213/\(dz[25]?).bind (fun x=>x.dst)=some 218/\(dz[30]?).bind (fun x=>x.dst)=some 223/\(dz[35]?).bind (fun x=>x.dst)=some 228/\(dz[40]?).bind (fun x=>x.dst)=some 233/\(dz[45]?).bind (fun x=>x.dst)=some 238/\(dz[50]?).bind (fun x=>x.dst)=some 243/\(dz[55]?).bind (fun x=>x.dst)=some 248:=by refine⟨?_,?_,?_,?_,?_,?_,?_,?_,?_,?_,?_,?_⟩<;>kernel_rfl
def ecH(r:Int)(q25 q27 H:Nat)(env:Env):Prop:=aa env 10=.int .i64 r/\aa env 20=.int .i64 0/\aa env 21=.int .i64 r/\aa env 22=.str []/\aa env 23=.bool false/\aa env 24=.int .i64 r/\aa env 25=.ptr q25 0/\aa env 26=.int .i64 r/\aa env 27=.ptr q27 0/\aa env 28=.int .i64 r/\aa env 29=.ptr H 0/\aa env 30=.int .i64 r/\aa env 31=.kO/\aa env 32=.int .i64 r
theorem Vw:(∀d,kS (aL prog) (d+2) 54 (.agg [.str [],.str [],.str []]) (.agg [.str [],.str [],.str []])=some true)/\kS (aL prog) 20 102 (.agg z12) (.agg z12)=some true/\aD (aL prog) 54 []=some (.agg [.str [],.str [],.str []])/\aD (aL prog) 102 []=some (.agg z12):=by
 refine⟨fun d=>?_,?_,?_,?_⟩
 .rw[fH];rfl
 all_goals kernel_rfl
section
variable {O:afu}{m0:Nat}{env:Env}{mem:Mem}{d:Bool}{q25 q27 q29:Nat}{r:Int}(h:ecH r q25 q27 q29 env)(m25:mem[q25]? =some (.cells true 0 [.str [],.str [],.str []]))(m27:mem[q27]? =some (.cells true 0 [.str [],.str [],.str []]))(m29:mem[q29]? =some (.cells true 0 z12))
include h m25 m27 m29
theorem vW:(∃Z,cr (aL prog) O 253 m0 dz BA ⟨env,mem,d⟩=some ⟨Z,mem,d⟩/\ecH r q25 q27 q29 Z /\aa Z 208=.bool true)/\(aa env 208=.bool true->∃Z,cr (aL prog) O 253 m0 dz BB ⟨env,mem,d⟩=some ⟨Z,mem,d⟩/\ecH r q25 q27 q29 Z /\aa Z 218=.bool true)/\(aa env 218=.bool true->∃Z,cr (aL prog) O 253 m0 dz BC ⟨env,mem,d⟩=some ⟨Z,mem,d⟩/\ecH r q25 q27 q29 Z /\aa Z 228=.bool true)/\(aa env 228=.bool true->∃Z,cr (aL prog) O 253 m0 dz BD ⟨env,mem,d⟩=some ⟨Z,mem,d⟩/\ecH r q25 q27 q29 Z /\aa Z 238=.bool true)/\(aa env 238=.bool true->∃Z,cr (aL prog) O 253 m0 dz BE ⟨env,mem,d⟩=some ⟨Z,mem,d⟩/\aa Z 6=.bool true):=by obtain⟨C,B,X,V,U,S,R,Q,N,M,K,G⟩:=Vv;obtain⟨z1,y,z3,u⟩:=Vw;unfold ecH at*;simp only[z12] at m29 y u;obtain⟨o,m,j,Y,W,J,I,H,l27,l28,l29,l30,l31,l32⟩:=h;obtain⟨ops,D⟩:=xE dz;rw[<-D] at C B X V U S R Q N M K G |-;clear D;refine⟨?_,fun F=>?_,fun F=>?_,fun F=>?_,fun F=>?_⟩<;>simp (maxSteps:=1000000) [-getElem?_pos,-AV.adM,-AV.known,-AV.cells,-ay,-List.all_eq_true,vS,rS,mS,BA,BB,BC,BD,BE,dz,sqA,aM,f6, *]
end
def bV(O:afu)(K:Nat)(T:Code)(N:Mem)(env:Env):Prop:=
 ∀d:Bool,∃r:Env×Mem×Bool,aO (aL prog) (fun _=>[13,13,13]) O K 253 0 true T ⟨env,N,d⟩=some (.ret,⟨r.1,r.2.1,r.2.2⟩)/\aa r.1 6=.bool true
theorem Ni{O:afu}{K:Nat}{N:Mem}{q25 q27 W:Nat}{r:Int}(H:N[q25]? =some (.cells true 0 [.str [],.str [],.str []]))(I:N[q27]? =some (.cells true 0 [.str [],.str [],.str []]))(J:N[W]? =some (.cells true 0 z12)):
  ∀env,ecH r q25 q27 W env->bV O K nO N env:=by
 intro env h d;obtain⟨j,V,U,S⟩:=(vW (O:=O) (m0:=0) (d:=d) h H I J).1;obtain⟨Y,R,Q,M⟩:=(vW (O:=O) (m0:=0) (d:=d) U H I J).2.1 S;obtain⟨e2,G,F,D⟩:=(vW (O:=O) (m0:=0) (d:=d) Q H I J).2.2.1 M;obtain⟨e3,C,B,y⟩:=(vW (O:=O) (m0:=0) (d:=d) F H I J).2.2.2.1 D;obtain⟨u,o,m⟩:=(vW (O:=O) (m0:=0) (d:=d) B H I J).2.2.2.2 y;have X:=cg V (cg R (cg G (cg C o)));rw[<-Sh] at X;refine⟨(u,N,d),?_,m⟩;rw[Ql];have Z:∃i,sqA 19 aM=.region i dz false:=by unfold dz;exact⟨34,by kernel_rfl⟩
 obtain⟨i,Z⟩:=Z;rw[Z,Lq,zm,X];rfl
variable{K:Nat}
section
variable{O:afu}
include O
theorem Qv{N:Mem}{I J:Nat}{o7 o9:Bool}{e:List AV}{x y:AV}{r:Int}(cx:x.adM=true)(cy:y.adM=true)(nx:x.known=true/\x.cells=[x])(ny:y.known=true/\y.cells=[y])(he:e.length=32)(ce:e.all AV.adM=true)(W:∀Z:Mem,(N++Z)[I]? =some (.cells o7 0 [x,y]))(Y:∀Z:Mem,(N++Z)[J]? =some (.cells o9 0 e))(H:∀Z:Mem,O (.fn 29) [.agg [x,y],.agg e,.int .i64 0] (N++Z)=some ⟨.tuple [.agg z12,.int .i64 r],none,[]⟩)(e6:∀Z:Mem,O (.fn 11) [.agg [x,y],.agg e,.int .i64 0] (N++Z)=some ⟨.tuple [.kO,.int .i64 r],none,[]⟩){q25 q27:Nat}(hT:∀env,(aa env 10=.int .i64 r/\aa env 20=.int .i64 0/\aa env 21=.int .i64 r/\aa env 22=.str []/\aa env 23=.bool false/\aa env 24=.int .i64 r/\aa env 25=.ptr q25 0/\aa env 26=.int .i64 r/\aa env 27=.ptr q27 0/\aa env 28=.int .i64 r/\aa env 29=.ptr N.length 0/\aa env 30=.int .i64 r/\aa env 31=.kO/\aa env 32=.int .i64 r)->bV O K nO (N++[.cells true 0 z12]) env):
  ∀env,(aa env 7=.ptr I 0/\aa env 9=.ptr J 0/\aa env 10=.int .i64 r/\aa env 20=.int .i64 0/\aa env 21=.int .i64 r/\aa env 22=.str []/\aa env 23=.bool false/\aa env 24=.int .i64 r/\aa env 25=.ptr q25 0/\aa env 26=.int .i64 r/\aa env 27=.ptr q27 0/\aa env 28=.int .i64 r)->bV O K nM N env:=by
 rintro env ⟨l7,l9,l10,l20,l21,l22,l23,l24,l25,l26,l27,l28⟩ d;rw[Qk];have t32:e.take 32=e:=An (by omega);have U:=W [];have S:=Y [];rw[List.append_nil] at U S;have X:=H [];rw[List.append_nil] at X;have R:=e6 [];rw[List.append_nil] at R;obtain⟨F,Q⟩:=dY (β:=Env×Mem×Bool) (fun env d h=>hT env h d);have M:=fun env d h=>(Q env d h).1
 have D:=fun env d h=>(Q env d h).2
 clear Q hT;obtain⟨T,V⟩:=xE nO;rw[<-V];simp only[<-V] at M;have h:∃G,aO (aL prog) (fun _=>[13,13,13]) O K 253 0 true (.seq (sqA 17 aM) (.seq (sqA 18 aM) T)) ⟨env,N,d⟩=some (.ret,G)/\aa G.env 6=.bool true:=by clear V;simp only[z12] at M H X;simp[-getElem?_pos,-AV.adM,-AV.known,-AV.cells,-ay,-List.all_eq_true,vS,rS,mS,aD,ag,aM,f6,sqA,l7,l9,l10,l20,l21,l22,l23,l24,l25,l26,l27,l28,W,Y,U,S,t32,he,ce,cx,cy,nx,ny,H,X,e6,R,M,D]
 obtain⟨⟨C,B,u⟩,o,m⟩:=h;exact⟨(C,B,u),o,m⟩
theorem Qu{N:Mem}{H I:Nat}{Y o9:Bool}{e:List AV}{x y:AV}{r:Int}(cx:x.adM=true)(cy:y.adM=true)(nx:x.known=true/\x.cells=[x])(ny:y.known=true/\y.cells=[y])(he:e.length=32)(ce:e.all AV.adM=true)(J:∀Z:Mem,(N++Z)[H]? =some (.cells Y 0 [x,y]))(W:∀Z:Mem,(N++Z)[I]? =some (.cells o9 0 e))(e2:∀Z:Mem,O (.fn 21) [.agg [x,y],.agg e,.agg [.str [],.str [],.str []]] (N++Z)=some ⟨.tuple [.agg [.str [],.str [],.str []],.int .i64 r],none,[]⟩)(e3:∀Z:Mem,O (.fn 20) [.agg [x,y],.agg e,.agg [.str [],.str [],.str []]] (N++Z)=some ⟨.tuple [.agg [.str [],.str [],.str []],.int .i64 r],none,[]⟩)(hT:∀env,(aa env 7=.ptr H 0/\aa env 9=.ptr I 0/\aa env 10=.int .i64 r/\aa env 20=.int .i64 0/\aa env 21=.int .i64 r/\aa env 22=.str []/\aa env 23=.bool false/\aa env 24=.int .i64 r/\aa env 25=.ptr N.length 0/\aa env 26=.int .i64 r/\aa env 27=.ptr (N.length+1) 0/\aa env 28=.int .i64 r)->bV O K nM (N++[.cells true 0 [.str [],.str [],.str []],.cells true 0 [.str [],.str [],.str []]]) env):
  ∀env,(aa env 7=.ptr H 0/\aa env 9=.ptr I 0/\aa env 10=.int .i64 r/\aa env 20=.int .i64 0/\aa env 21=.int .i64 r/\aa env 22=.str []/\aa env 23=.bool false/\aa env 24=.int .i64 r)->bV O K nK N env:=by
 rintro env ⟨l7,l9,l10,l20,l21,l22,l23,l24⟩ d;rw[Qj];have t32:e.take 32=e:=An (by omega);have V:=J [];have U:=W [];rw[List.append_nil] at V U;have S:=e2 [];rw[List.append_nil] at S;have R:=e3 [];rw[List.append_nil] at R;obtain⟨F,Q⟩:=dY (β:=Env×Mem×Bool) (fun env d h=>hT env h d);have M:=fun env d h=>(Q env d h).1
 have D:=fun env d h=>(Q env d h).2
 clear Q hT;obtain⟨T,X⟩:=xE nM;rw[<-X];simp only[<-X] at M;have h:∃G,aO (aL prog) (fun _=>[13,13,13]) O K 253 0 true (.seq (sqA 15 aM) (.seq (sqA 16 aM) T)) ⟨env,N,d⟩=some (.ret,G)/\aa G.env 6=.bool true:=by clear X;simp[-getElem?_pos,-AV.adM,-AV.known,-AV.cells,-ay,-List.all_eq_true,vS,rS,mS,aD,ag,aM,f6,sqA,l7,l9,l10,l20,l21,l22,l23,l24,J,W,V,U,t32,he,ce,cx,cy,nx,ny,e2,S,e3,R,M,D]
 obtain⟨⟨C,e2,e3⟩,B,u⟩:=h;exact⟨(C,e2,e3),B,u⟩
theorem Qt{N:Mem}{H I:Nat}{o7 o9:Bool}{e:List AV}{x y:AV}{r:Int}(cx:x.adM=true)(cy:y.adM=true)(nx:x.known=true/\x.cells=[x])(ny:y.known=true/\y.cells=[y])(he:e.length=32)(ce:e.all AV.adM=true)(J:∀Z:Mem,(N++Z)[H]? =some (.cells o7 0 [x,y]))(W:∀Z:Mem,(N++Z)[I]? =some (.cells o9 0 e))(e1:∀Z:Mem,O (.fn 18) [.agg [x,y],.agg e,.agg [.str [],.str [],.str []]] (N++Z)=some ⟨.tuple [.int .i64 0,.int .i64 r],none,[]⟩)(Y:∀Z:Mem,O (.fn 19) [.agg [x,y],.agg e,.int .i64 0] (N++Z)=some ⟨.tuple [.str [],.bool false,.int .i64 r],none,[]⟩)(hT:∀env,(aa env 7=.ptr H 0/\aa env 9=.ptr I 0/\aa env 10=.int .i64 r/\aa env 20=.int .i64 0/\aa env 21=.int .i64 r/\aa env 22=.str []/\aa env 23=.bool false/\aa env 24=.int .i64 r)->bV O K nK N env):
  ∀env,(aa env 7=.ptr H 0/\aa env 9=.ptr I 0/\aa env 10=.int .i64 r)->bV O K ly N env:=by
 rintro env ⟨l7,l9,l10⟩ d;rw[Qi];have t32:e.take 32=e:=An (by omega);have V:=J [];have U:=W [];rw[List.append_nil] at V U;have S:=e1 [];rw[List.append_nil] at S;have R:=Y [];rw[List.append_nil] at R;obtain⟨F,Q⟩:=dY (β:=Env×Mem×Bool) (fun env d h=>hT env h d);have M:=fun env d h=>(Q env d h).1
 have D:=fun env d h=>(Q env d h).2
 clear Q hT;obtain⟨T,X⟩:=xE nK;rw[<-X];simp only[<-X] at M;have h:∃G,aO (aL prog) (fun _=>[13,13,13]) O K 253 0 true (.seq (sqA 13 aM) (.seq (sqA 14 aM) T)) ⟨env,N,d⟩=some (.ret,G)/\aa G.env 6=.bool true:=by clear X;simp[-getElem?_pos,-AV.adM,-AV.known,-AV.cells,-ay,-List.all_eq_true,vS,rS,mS,aD,ag,aM,f6,sqA,l7,l9,l10,J,W,V,U,t32,he,ce,cx,cy,nx,ny,e1,S,Y,R,M,D]
 obtain⟨⟨e1,C,B⟩,u,o⟩:=h;exact⟨(e1,C,B),u,o⟩
theorem Ng{N:Mem}{H I:Nat}{Y o9:Bool}{e:List AV}{x y:AV}{r:Int}(cx:x.adM=true)(cy:y.adM=true)(nx:x.known=true/\x.cells=[x])(ny:y.known=true/\y.cells=[y])(he:e.length=32)(ce:e.all AV.adM=true)(J:∀Z:Mem,(N++Z)[H]? =some (.cells Y 0 [x,y]))(W:∀Z:Mem,(N++Z)[I]? =some (.cells o9 0 e))(hr:r≠0)(hT:∀env,(aa env 7=.ptr H 0/\aa env 9=.ptr I 0/\aa env 10=.int .i64 r)->bV O K ly N env):
  ∀env,(aa env 7=.ptr H 0/\aa env 9=.ptr I 0/\aa env 10=.int .i64 r)->bV O K lx N env:=by
 rintro env ⟨l7,l9,l10⟩ d;rw[EZ];have t32:e.take 32=e:=An (by omega);have V:=J [];have U:=W [];rw[List.append_nil] at V U;obtain⟨F,S⟩:=dY (β:=Env×Mem×Bool) (fun env d h=>hT env h d);have R:=fun env d h=>(S env d h).1
 have M:=fun env d h=>(S env d h).2
 clear S hT;obtain⟨T,X⟩:=xE ly;rw[<-X];simp only[<-X] at R;have h:∃Q,aO (aL prog) (fun _=>[13,13,13]) O K 253 0 true (.seq (sqA 12 aM) T) ⟨env,N,d⟩=some (.ret,Q)/\aa Q.env 6=.bool true:=by clear X;simp[-getElem?_pos,-AV.adM,-AV.known,-AV.cells,-ay,-List.all_eq_true,vS,rS,mS,aD,ag,aM,f6,sqA,l7,l9,l10,J,W,V,U,t32,he,ce,cx,cy,nx,ny,R,M,hr]
 obtain⟨⟨G,D,C⟩,B,u⟩:=h;exact⟨(G,D,C),B,u⟩
theorem Nh{N:Mem}{H I:Nat}{Y o9:Bool}{e:List AV}{x y:AV}{r:Int}(cx:x.adM=true)(cy:y.adM=true)(nx:x.known=true/\x.cells=[x])(ny:y.known=true/\y.cells=[y])(he:e.length=32)(ce:e.all AV.adM=true)(J:∀Z:Mem,(N++Z)[H]? =some (.cells Y 0 [x,y]))(W:∀Z:Mem,(N++Z)[I]? =some (.cells o9 0 e))(e1:∀Z:Mem,O (.fn 18) [.agg [x,y],.agg e,.agg [.str [],.str [],.str []]] (N++Z)=some ⟨.tuple [.int .i64 0,.int .i64 2],none,[]⟩)(e2:∀Z:Mem,O (.fn 21) [.agg [x,y],.agg e,.agg [.str [],.str [],.str []]] (N++Z)=some ⟨.tuple [.agg [.str [],.str [],.str []],.int .i64 2],none,[]⟩)(e3:∀Z:Mem,O (.fn 20) [.agg [x,y],.agg e,.agg [.str [],.str [],.str []]] (N++Z)=some ⟨.tuple [.agg [.str [],.str [],.str []],.int .i64 2],none,[]⟩)(hr:r=0):
  ∀env,(aa env 7=.ptr H 0/\aa env 9=.ptr I 0/\aa env 10=.int .i64 r)->bV O K lx N env:=by
 rintro env ⟨l7,l9,l10⟩ d;rw[EZ];have t32:e.take 32=e:=An (by omega);have X:=J [];have V:=W [];rw[List.append_nil] at X V;have U:=e1 [];rw[List.append_nil] at U;have S:=e2 [];rw[List.append_nil] at S;have R:=e3 [];rw[List.append_nil] at R;obtain⟨T,Q⟩:=xE ly;rw[<-Q];have h:∃M,aO (aL prog) (fun _=>[13,13,13]) O K 253 0 true (.seq (sqA 12 aM) T) ⟨env,N,d⟩=some (.ret,M)/\aa M.env 6=.bool true:=by clear Q;subst hr;simp[-getElem?_pos,-AV.adM,-AV.known,-AV.cells,-ay,-List.all_eq_true,vS,rS,mS,aD,ag,aM,f6,sqA,l7,l9,l10,J,W,X,V,t32,he,ce,cx,cy,nx,ny,e1,U,e2,S,e3,R]
 obtain⟨⟨e1,e2,e3⟩,G,F⟩:=h;exact⟨(e1,e2,e3),G,F⟩
end
noncomputable def Bz:Code:=match sqA 11 aM with
 |.seq _ (.block _ (.loop b))=>b
 |_=>.skip
noncomputable def By:Code:=match sqA 11 aM with
 |.seq a _=>a
 |_=>.skip
theorem Qm:ah f6=[Bz]:=by kernel_rfl
theorem Qo:sqA 11 aM=.seq By (.block 1 (.loop Bz)):=by kernel_rfl
variable{L:List (List UInt8)}{b kn sv u v w:AV}{c:Evc}{new:Mem}
section
variable {O:afu}{N:Mem}{q7 q8 q9:Nat}{o7 o8 o9:Bool}{e ea:List AV}{x y:AV}{r:Int}
theorem Qs(H:TxW N v L)(I:TxW N w L)(hT:∀env,(aa env 7=.ptr q7 0/\aa env 9=.ptr q9 0/\aa env 10=.int .i64 r)->bV O 1100 lx N env):
  ∀env,(aa env 7=.ptr q7 0/\aa env 9=.ptr q9 0/\aa env 10=.int .i64 r/\aa env 11=v/\aa env 12=w)->bV O 1100 nJ N env:=by
 rintro env ⟨l7,l9,l10,l11,l12⟩ d;rw[Qh,Qo];obtain⟨G,X⟩:=IG (O:=O) (m0:=0) (p7:=.ptr q7 0) (p9:=.ptr q9 0) (p10:=.int .i64 r) H I Qm;have V:=fun env d h=>(X env d h).1
 have U:=fun env d h=>(X env d h).2.2.2.1
 have S:=fun env d h=>(X env d h).2.2.2.2.1
 have R:=fun env d h=>(X env d h).2.2.2.2.2
 clear X;obtain⟨b,M⟩:=xE Bz;rw[<-M] at V |-;obtain⟨F,Q⟩:=dY (β:=Env×Mem×Bool) (fun env d h=>hT env h d);have D:=fun env d h=>(Q env d h).1
 have B:=fun env d h=>(Q env d h).2
 clear Q hT;obtain⟨T,Z⟩:=xE lx;rw[<-Z];simp only[<-Z] at D;have h:∃C,aO (aL prog) (fun _=>[13,13,13]) O 1100 253 0 true (.seq (.seq By (.block 1 (.loop b))) T) ⟨env,N,d⟩=some (.ret,C)/\aa C.env 6=.bool true:=by clear Z M;simp[-getElem?_pos,-AV.adM,-AV.known,-AV.cells,-ay,-List.all_eq_true,vS,rS,mS,aD,ag,aM,f6,sqA,l7,l9,l10,l11,l12,D,B,By,V,U,S,R]
 obtain⟨⟨o,m,j⟩,Y,W⟩:=h;exact⟨(o,m,j),Y,W⟩
theorem Qq(H:TxW N v L)(I:TxW N w L)(hT:∀env,(aa env 7=.ptr q7 0/\aa env 9=.ptr q9 0/\aa env 10=.int .i64 r/\aa env 11=v/\aa env 12=w)->bV O 1100 nJ N env):
  ∀env,(aa env 7=.ptr q7 0/\aa env 9=.ptr q9 0/\aa env 10=.int .i64 r/\aa env 11=v/\aa env 12=w)->bV O 1100 gD N env:=by
 rintro env ⟨l7,l9,l10,l11,l12⟩ d;rw[Qg];have Q:=fA H.1 (.inl rfl);have M:=fA I.1 (.inl rfl);have X:=H.1.kn;have V:=I.1.kn;clear H I;obtain⟨F,U⟩:=dY (β:=Env×Mem×Bool) (fun env d h=>hT env h d);have S:=fun env d h=>(U env d h).1
 have G:=fun env d h=>(U env d h).2
 clear U hT;obtain⟨T,Z⟩:=xE nJ;rw[<-Z];simp only[<-Z] at S;have h:∃R,aO (aL prog) (fun _=>[13,13,13]) O 1100 253 0 true (.seq (sqA 10 aM) T) ⟨env,N,d⟩=some (.ret,R)/\aa R.env 6=.bool true:=by clear Z;simp[-getElem?_pos,-AV.adM,-AV.known,-AV.cells,-ay,-List.all_eq_true,vS,rS,mS,aD,ag,aM,f6,sqA,l7,l9,l10,l11,l12,S,G,-ym,Q,M,X,V]
 obtain⟨⟨D,C,B⟩,X,V⟩:=h;exact⟨(D,C,B),X,V⟩
theorem Qp(I:TxW N u c.U)(H:∀Z:Mem,(N++Z)[q9]? =some (.cells o9 0 (c.cells b u sv kn)))(hT:∀w Z env,TxW (N++Z) w (unC c)->(aa env 7=.ptr q7 0/\aa env 9=.ptr q9 0/\aa env 10=.int .i64 r/\aa env 11=v/\aa env 12=w)->bV O 1100 gD (N++Z) env):
  ∀env,(aa env 7=.ptr q7 0/\aa env 9=.ptr q9 0/\aa env 10=.int .i64 r/\aa env 11=v/\aa env 12=.kO)->bV O 1100 ra N env:=by
 rintro env ⟨l7,l9,l10,l11,l12⟩ d;rw[Sg];have V:=H [];rw[List.append_nil] at V;have Y:=I.1.ck;have W:=I.1.kn;unfold unC at hT;simp only[Evc.cells] at H V;by_cases M:c.k=1
 .have hT:∀env,(aa env 7=.ptr q7 0/\aa env 9=.ptr q9 0/\aa env 10=.int .i64 r/\aa env 11=v/\aa env 12=u)->bV O 1100 gD N env:=fun env h=>by have:=hT u [] env (by rw[if_pos M,List.append_nil];exact I) h;rwa [List.append_nil] at this
  obtain⟨F,S⟩:=dY (β:=Env×Mem×Bool) (fun env d h=>hT env h d);have R:=fun env d h=>(S env d h).1
  have G:=fun env d h=>(S env d h).2
  clear S hT;obtain⟨T,X⟩:=xE gD;rw[<-X];simp only[<-X] at R;have h:∃Q,aO (aL prog) (fun _=>[13,13,13]) O 1100 253 0 true (.seq (sqA 9 aM) T) ⟨env,N,d⟩=some (.ret,Q)/\aa Q.env 6=.bool true:=by clear X;simp[-getElem?_pos,-AV.adM,-AV.known,-AV.cells,-ay,-List.all_eq_true,vS,rS,mS,aD,ag,aM,f6,sqA,l7,l9,l10,l11,l12 ,H,V,Y,W,M,R,G]
  obtain⟨⟨D,C,B⟩,o,m⟩:=h;exact⟨(D,C,B),o,m⟩
 by_cases j:c.k=4
 .have hT:∀env,(aa env 7=.ptr q7 0/\aa env 9=.ptr q9 0/\aa env 10=.int .i64 r/\aa env 11=v/\aa env 12=(.slice N.length 0 1 none))->bV O 1100 gD (N++[.cells true 1 [.str c.x24]]) env:=fun env h=>hT (.slice N.length 0 1 none) [.cells true 1 [.str c.x24]] env (by rw[if_neg M,if_pos j];exact⟨.inr ⟨N.length,true,rfl,by rw[qc];rfl⟩,by simp⟩) h
  obtain⟨F,S⟩:=dY (β:=Env×Mem×Bool) (fun env d h=>hT env h d);have R:=fun env d h=>(S env d h).1
  have G:=fun env d h=>(S env d h).2
  clear S hT;obtain⟨T,X⟩:=xE gD;rw[<-X];simp only[<-X] at R;have h:∃Q,aO (aL prog) (fun _=>[13,13,13]) O 1100 253 0 true (.seq (sqA 9 aM) T) ⟨env,N,d⟩=some (.ret,Q)/\aa Q.env 6=.bool true:=by clear X;simp[-getElem?_pos,-AV.adM,-AV.known,-AV.cells,-ay,-List.all_eq_true,vS,rS,mS,aD,ag,aM,f6,sqA,l7,l9,l10,l11,l12 ,H,V,Y,W,M,j,R,G]
  obtain⟨⟨D,C,B⟩,o,m⟩:=h;exact⟨(D,C,B),o,m⟩
 .have hT:∀env,(aa env 7=.ptr q7 0/\aa env 9=.ptr q9 0/\aa env 10=.int .i64 r/\aa env 11=v/\aa env 12=.kO)->bV O 1100 gD N env:=fun env h=>by have:=hT .kO [] env (by rw[if_neg M,if_neg j];exact TxW.nil _) h;rwa [List.append_nil] at this
  obtain⟨F,S⟩:=dY (β:=Env×Mem×Bool) (fun env d h=>hT env h d);have R:=fun env d h=>(S env d h).1
  have G:=fun env d h=>(S env d h).2
  clear S hT;obtain⟨T,X⟩:=xE gD;rw[<-X];simp only[<-X] at R;have h:∃Q,aO (aL prog) (fun _=>[13,13,13]) O 1100 253 0 true (.seq (sqA 9 aM) T) ⟨env,N,d⟩=some (.ret,Q)/\aa Q.env 6=.bool true:=by clear X;simp[-getElem?_pos,-AV.adM,-AV.known,-AV.cells,-ay,-List.all_eq_true,vS,rS,mS,aD,ag,aM,f6,sqA,l7,l9,l10,l11,l12 ,H,V,Y,W,M,j,R,G]
  obtain⟨⟨D,C,B⟩,o,m⟩:=h;exact⟨(D,C,B),o,m⟩
theorem So(H:∀Z:Mem,(N++Z)[q9]? =some (.cells o9 0 (c.cells b u sv kn)))(hT:∀env,(aa env 7=.ptr q7 0/\aa env 9=.ptr q9 0/\aa env 10=.int .i64 r/\aa env 11=v/\aa env 12=.kO)->bV O 1100 ra N env):
  ∀env,(aa env 7=.ptr q7 0/\aa env 9=.ptr q9 0/\aa env 10=.int .i64 r/\aa env 11=v)->bV O 1100 qZ N env:=by
 rintro env ⟨l7,l9,l10,l11⟩ d;rw[Sf];have X:=H [];rw[List.append_nil] at X;simp only[Evc.cells] at H X;obtain⟨F,U⟩:=dY (β:=Env×Mem×Bool) (fun env d h=>hT env h d);have S:=fun env d h=>(U env d h).1
 have Q:=fun env d h=>(U env d h).2
 clear U hT;obtain⟨T,V⟩:=xE ra;rw[<-V];simp only[<-V] at S;have h:∃R,aO (aL prog) (fun _=>[13,13,13]) O 1100 253 0 true (.seq (sqA 8 aM) T) ⟨env,N,d⟩=some (.ret,R)/\aa R.env 6=.bool true:=by clear V;simp[-getElem?_pos,-AV.adM,-AV.known,-AV.cells,-ay,-List.all_eq_true,vS,rS,mS,aD,ag,aM,f6,sqA,l7,l9,l10,l11,H,X,S,Q]
 obtain⟨⟨M,G,D⟩,C,B⟩:=h;exact⟨(M,G,D),C,B⟩
section
variable (cx:x.adM=true)(cy:y.adM=true)(nx:x.known=true/\x.cells=[x])(ny:y.known=true/\y.cells=[y])(he:e.length=32)(ce:e.all AV.adM=true)(hea:ea.length=32)(cea:ea.all AV.adM=true)
include cx cy nx ny he ce hea cea
theorem Sl(H:∀Z:Mem,(N++Z)[q9]? =some (.cells o9 0 e))(I:v.known=true/\v.cells=[v])(e1:O (.fn 28) [.agg e] N=some ⟨v,none,new⟩)(hT:∀env,(aa env 7=.ptr q7 0/\aa env 9=.ptr q9 0/\aa env 10=.int .i64 r/\aa env 11=v)->bV O 1100 qZ (N++new) env):
  ∀env,(aa env 7=.ptr q7 0/\aa env 9=.ptr q9 0/\aa env 10=.int .i64 r)->bV O 1100 qY N env:=by
 rintro env ⟨l7,l9,l10⟩ d;rw[Se];have t32:e.take 32=e:=An (by omega);have V:=H [];rw[List.append_nil] at V;obtain⟨F,U⟩:=dY (β:=Env×Mem×Bool) (fun env d h=>hT env h d);have S:=fun env d h=>(U env d h).1
 have Q:=fun env d h=>(U env d h).2
 clear U hT;obtain⟨T,X⟩:=xE qZ;rw[<-X];simp only[<-X] at S;have h:∃R,aO (aL prog) (fun _=>[13,13,13]) O 1100 253 0 true (.seq (sqA 7 aM) T) ⟨env,N,d⟩=some (.ret,R)/\aa R.env 6=.bool true:=by clear X;simp[-getElem?_pos,-AV.adM,-AV.known,-AV.cells,-ay,-List.all_eq_true,vS,rS,mS,aD,ag,aM,f6,sqA,l7,l9,l10,H,V,t32,he,ce,I,e1,S,Q]
 obtain⟨⟨e1,M,G⟩,D,C⟩:=h;exact⟨(e1,M,G),D,C⟩
section
variable (m7:∀Z:Mem,(N++Z)[q7]? =some (.cells o7 0 [x,y]))
include m7
theorem Sk(I:∀Z:Mem,(N++Z)[q8]? =some (.cells o8 0 ea))(J:∀Z:Mem,(N++Z)[q9]? =some (.cells o9 0 e)){g:Bool}(W:O (.fn 25) [.agg [x,y],.agg e] N=some ⟨.int .i64 r,none,[]⟩)(Y:O (.fn 25) [.agg [x,y],.agg ea] N=some ⟨.int .i64 0,none,[]⟩)(c3:O (.fn 26) [.agg ea,.agg e] N=some ⟨.bool g,none,[]⟩)(c4:O (.fn 27) [.agg ea,.agg e] N=some ⟨.bool g,none,[]⟩)(c5:O (.fn 26) [.agg e,.agg e] N=some ⟨.bool true,none,[]⟩)(H:∀k,x.aft (fun b=>decide (b<N.length+k))=true/\y.aft (fun b=>decide (b<N.length+k))=true/\AV.afD (fun b=>decide (b<N.length+k)) e=true/\AV.afD (fun b=>decide (b<N.length+k)) ea=true)(hT:∀env,(aa env 7=.ptr q7 0/\aa env 9=.ptr q9 0/\aa env 10=.int .i64 r)->bV O 1100 qY N env):
  ∀env,(aa env 7=.ptr q7 0/\aa env 9=.ptr q9 0/\aa env 10=.int .i64 r/\aa env 8=.ptr q8 0)->bV O 1100 qX N env:=by
 rintro env ⟨l7,l9,l10,l8⟩ d;rw[Sc];have t32:e.take 32=e:=An (by omega);have M:ea.take 32=ea:=An (by omega);have V:=m7 [];have U:=I [];have S:=J [];rw[List.append_nil] at V U S;obtain⟨H,C,B,R⟩:=H 0;rw[Nat.add_zero] at H C B R;obtain⟨Q,G⟩:∃Q,bn f6=Q :=⟨_,rfl⟩
 have o :=cR G yV;simp only[bn,cU,f6,lA] at G;subst G;simp only[lB] at o;obtain⟨F,D⟩:=dY (β:=Env×Mem×Bool) (fun env d h=>hT env h d);have m:=fun env d h=>(D env d h).1
 have J':=fun env d h=>(D env d h).2
 clear D hT;obtain⟨T,X⟩:=xE qY;rw[<-X];simp only[<-X] at m;have h:∃j,aO (aL prog) (fun _=>[13,13,13]) O 1100 253 0 true (.seq (sqA 6 aM) T) ⟨env,N,d⟩=some (.ret,j)/\aa j.env 6=.bool true:=by clear X;simp[-getElem?_pos,-AV.adM,-AV.known,-AV.cells,-ay,-List.all_eq_true,vS,rS,mS,aD,ag,aM,f6,sqA,l7,l8,l9,l10,V,U,S,t32,M,he,hea,ce,cea,cx,cy,nx,ny,H,C,B,R,W,Y,c3,c4,c5,-bB,-bb,-aN,-AV.aft,-afz.aft,cW,bU,bD,fJ,dy,bL,cF,eI,bef,Nat.testBit,aK o.1,m,J']
 obtain⟨⟨e1,e2,e3⟩,k1,k2⟩:=h;exact⟨(e1,e2,e3),k1,k2⟩
theorem Sj(H:∀Z:Mem,(N++Z)[q9]? =some (.cells o9 0 e))(I:O (.fn 24) [.agg [x,y],.agg e] N=some ⟨.int .i64 r,none,[]⟩)(hT:∀env,(aa env 7=.ptr q7 0/\aa env 9=.ptr q9 0/\aa env 10=.int .i64 r/\aa env 8=.ptr q8 0)->bV O 1100 qX N env):
  ∀env,(aa env 7=.ptr q7 0/\aa env 9=.ptr q9 0/\aa env 8=.ptr q8 0)->bV O 1100 nQ N env:=by
 rintro env ⟨l7,l9,l8⟩ d;rw[Sb];have t32:e.take 32=e:=An (by omega);have V:=m7 [];have U:=H [];rw[List.append_nil] at V U;obtain⟨F,S⟩:=dY (β:=Env×Mem×Bool) (fun env d h=>hT env h d);have R:=fun env d h=>(S env d h).1
 have M:=fun env d h=>(S env d h).2
 clear S hT;obtain⟨T,X⟩:=xE qX;rw[<-X];simp only[<-X] at R;have h:∃Q,aO (aL prog) (fun _=>[13,13,13]) O 1100 253 0 true (.seq (sqA 5 aM) T) ⟨env,N,d⟩=some (.ret,Q)/\aa Q.env 6=.bool true:=by clear X;simp[-getElem?_pos,-AV.adM,-AV.known,-AV.cells,-ay,-List.all_eq_true,vS,rS,mS,aD,ag,aM,f6,sqA,l7,l8,l9,V,U,t32,he,ce,cx,cy,nx,ny,I,R,M]
 obtain⟨⟨G,D,C⟩,B,o⟩:=h;exact⟨(G,D,C),B,o⟩
end
end
theorem Si{q5:Nat}{I:Bool}{w i:Int}{nm q:List UInt8}(J:e.length=32)(W:e.all AV.adM=true)(H:ea.length=32)(Y:N[q5]? =some (.cells I 0 [.int .u8 w,.int .i64 i,.str nm,.str q]))(m8:N[q8]? =some (.cells o8 0 ea))(c1:O (.fn 23) [.agg ea,.agg [.int .u8 w,.int .i64 i,.str nm,.str q]] N=some ⟨.agg e,none,new⟩)(hT:∀env,(aa env 7=.ptr q7 0/\aa env 9=.ptr (N.length+new.length) 0/\aa env 8=.ptr q8 0)->bV O 1100 nQ (N++(new++[.cells true 0 e])) env):
  ∀env,(aa env 7=.ptr q7 0/\aa env 8=.ptr q8 0/\aa env 5=.ptr q5 0)->bV O 1100 nP N env:=by
 rintro env ⟨l7,l8,l5⟩ d;rw[Sa];have t32:e.take 32=e:=An (by omega);have X:ea.take 32=ea:=An (by omega);obtain⟨F,V⟩:=dY (β:=Env×Mem×Bool) (fun env d h=>hT env h d);have U:=fun env d h=>(V env d h).1
 have R:=fun env d h=>(V env d h).2
 clear V hT;obtain⟨T,Z⟩:=xE nQ;rw[<-Z];simp only[<-Z] at U;have h:∃S,aO (aL prog) (fun _=>[13,13,13]) O 1100 253 0 true (.seq (sqA 4 aM) T) ⟨env,N,d⟩=some (.ret,S)/\aa S.env 6=.bool true:=by clear Z;simp[-getElem?_pos,-AV.adM,-AV.known,-AV.cells,-ay,-List.all_eq_true,vS,rS,mS,aD,ag,aM,f6,sqA,l7,l8,l5,Y,m8,t32,X,J,H,W,c1,U,R]
 obtain⟨⟨Q,M,G⟩,D,C⟩:=h;exact⟨(Q,M,G),D,C⟩
end
end Go.Proofs
namespace Go.Eng
theorem afy.split{μ:Nat->Place}{n:Nat}:∀{a b:List AV} {Vs:List Value},afy μ n (a++b) Vs->∃V W,Vs=V++W/\afy μ n a V
 | [],_,Vs,_=>⟨[],Vs,rfl,TM.2 rfl⟩
 |v::a,b,Vs,h=>by rw[List.cons_append] at h;simp only[afy] at h;obtain⟨U,S,rfl,Z,X⟩:=h;obtain⟨V,W,rfl,h3⟩:=afy.split X;exact⟨U::V,W,rfl,bW.2 ⟨Z,h3⟩⟩
theorem bz.ahQ{P:Program}{f g:FuncId}{a a' :List AV}{M W :Mem}{H I v:AV}(J:P.inits.idxOf? f=none)(h1:bz P f a M H M)(h2:bz P f a M I M)(Y:∀μ n μ' n' V,afx μ n H V->afx μ' n' I V->False)(hg:Ms P g):bz P g (a++a') M v W :=by
 refine⟨hg,fun base μ w Vs h0 hH hV=>?_⟩;exfalso;obtain⟨Z,K,rfl,X⟩:=hV.split;have S:Calls P f ⟨Z⟩ w fun | .returned V,_=>(∃μ n,afx μ n H V) | _,_=>False:=(h1.2 base μ w Z h0 hH X).mono (by rintro e w' ⟨V,v,m,μ',rfl,hr,_,_,rfl,_⟩;exact⟨_,_,hr⟩)
 have R:Calls P f ⟨Z⟩ w fun | .returned V,_=>(∃μ n,afx μ n I V) | _,_=>False:=(h2.2 base μ w Z h0 hH X).mono (by rintro e w' ⟨V,v,m,μ',rfl,hr,_,_,rfl,_⟩;exact⟨_,_,hr⟩)
 obtain⟨n,x,w1,Q,μ1,G,r1⟩:=S.done J;obtain⟨m,y,w2,O,μ2,F,r2⟩:=R.done J;have N:runN P (n+m) (lone (Frame.enter P f ⟨Z⟩ .normal) [] w)=.ended (.done x) w1:=by rw[runN_add,Q]
 have U:runN P (m+n) (lone (Frame.enter P f ⟨Z⟩ .normal) [] w)=.ended (.done y) w2:=by rw[runN_add,O]
 rw[QXX,N] at U;injection U with ho _
 injection ho with hxy
 subst hxy;exact Y _ _ _ _ _ r1 r2
theorem afx.int_ne{r r' :Int}(h:r≠r'):∀μ n μ' n' V,afx μ n (.int .i64 r) V->afx μ' n' (.int .i64 r') V->False:=fun μ n μ' n' V h1 h2=>by
 simp only[afx] at h1 h2;rw[h1] at h2;injection h2 with _ h2
 exact h h2
theorem afx.ahy:∀μ n μ' n' V,afx μ n (.bool false) V->afx μ' n' (.bool true) V->False:=fun μ n μ' n' V h1 h2=>by
 simp only[afx] at h1 h2;rw[h1] at h2;injection h2 with h2
 cases h2
end Go.Eng
namespace Go.Proofs
open Go.Eng
open Tryz
variable{N:Mem}{e e' :List AV}{g:Bool}{mv:AV}{r:Int}
theorem Tryz.agD.r0(h:agD N mv e e' r g):∃V,agD N mv e e' V g/\(e' =e->V =0):=by
 by_cases U:e' =e/\r≠0
 .obtain⟨rfl,X⟩:=U
  have K:∀{f a' v} Z,Ms prog f->bz prog f ([mv,.agg e']++a') (N++Z) v (N++Z):=fun Z S=>bz.ahQ (by kernel_rfl) (h.chk Z) (h.ahx Z) (afx.int_ne X) S
  exact⟨0,⟨fun Z=>K (a' :=[]) Z (h.ahP Z).1,h.ahx,h.ahx,h.eq,h.same,h.self,fun Z=>K (a' :=[_]) Z (h.num Z).1,fun Z=>K (a' :=[_]) Z (h.ahA Z).1,fun Z=>K (a' :=[_]) Z (h.doo Z).1,fun k=>absurd rfl k,fun k=>absurd rfl k,fun k=>absurd rfl k⟩,fun _=>rfl⟩
 .exact⟨r,h,fun R=>Classical.byContradiction fun X=>U ⟨R,X⟩⟩
theorem Tryz.agD.g1(h:agD N mv e e' r g):∃X,agD N mv e e' r X /\(e' =e->X =true):=by
 by_cases V:e' =e
 .subst V
  cases g
  .have K:∀{f v} Z,Ms prog f->bz prog f ([.agg e',.agg e']++[]) (N++Z) v (N++Z):=fun Z U=>bz.ahQ (by kernel_rfl) (h.eq Z) (h.self Z) afx.ahy U
   exact⟨true,⟨h.ahP,h.chk,h.ahx,h.self,fun Z=>K Z (h.same Z).1,h.self,h.num,h.ahA,h.doo,h.ends,h.back,h.agP⟩,fun _=>rfl⟩
  .exact⟨true,h,fun _=>rfl⟩
 .exact⟨g,h,fun k=>absurd k V⟩
theorem EvW.l32{c:Evc}(h:EvW N e c):e.length=32:=by obtain⟨b,u,s,kn,rfl,-⟩:=h;rfl
theorem EvW.cok{c:Evc}(h:EvW N e c):e.all AV.adM=true:=by obtain⟨b,u,s,kn,rfl,Z,X,⟨_,O,_,h3,_⟩,V,_⟩:=h;have U:=Z.1.ck;have S:=X.1.ck;have R:=h3.ck;have Q:=V.ck;simp[Evc.cells,-AV.adM,U,S,R,Q,show∀s,(AV.str s).adM=true from fun _=>rfl,show∀k n,(AV.int k n).adM=true from fun _ _=>rfl]
theorem EvW.refs{c:Evc}(h:EvW N e c)(x:Nat):AV.afD (fun b=>decide (b<N.length+x)) e=true:=by obtain⟨b,u,s,kn,rfl,Z,X,⟨_,O,_,h3,_⟩,V,_⟩:=h;have U:=Z.1.refs x;have S:=X.1.refs x;have R:=h3.refs x;have Q:=V.refs x;simp[Evc.cells,AV.afD,-AV.aft,U,S,R,Q,show∀f s,AV.aft f (AV.str s)=true from fun _ _=>rfl,show∀f k n,AV.aft f (AV.int k n)=true from fun _ _ _=>rfl]
structure Tryz.EcF (O:afu)(N:Mem)(x y:AV) (e e' :List AV)(r:Int)(g:Bool):Prop where
 ahP:O (.fn 24) [.agg [x,y],.agg e'] N=some ⟨.int .i64 r,none,[]⟩
 chk:O (.fn 25) [.agg [x,y],.agg e'] N=some ⟨.int .i64 r,none,[]⟩
 ahx:O (.fn 25) [.agg [x,y],.agg e] N=some ⟨.int .i64 0,none,[]⟩
 eq:O (.fn 26) [.agg e,.agg e'] N=some ⟨.bool g,none,[]⟩
 same:O (.fn 27) [.agg e,.agg e'] N=some ⟨.bool g,none,[]⟩
 self:O (.fn 26) [.agg e',.agg e'] N=some ⟨.bool true,none,[]⟩
 num:∀Z:Mem,O (.fn 18) [.agg [x,y],.agg e',.agg [.str [],.str [],.str []]] (N++Z)=some ⟨.tuple [.int .i64 0,.int .i64 (Mo r)],none,[]⟩
 ahA:∀Z:Mem,O (.fn 21) [.agg [x,y],.agg e',.agg [.str [],.str [],.str []]] (N++Z)=some ⟨.tuple [.agg [.str [],.str [],.str []],.int .i64 (Mo r)],none,[]⟩
 doo:∀Z:Mem,O (.fn 20) [.agg [x,y],.agg e',.agg [.str [],.str [],.str []]] (N++Z)=some ⟨.tuple [.agg [.str [],.str [],.str []],.int .i64 (Mo r)],none,[]⟩
 ends:r≠0->∀Z:Mem,O (.fn 19) [.agg [x,y],.agg e',.int .i64 0] (N++Z)=some ⟨.tuple [.str [],.bool false,.int .i64 r],none,[]⟩
 back:r≠0->∀Z:Mem,O (.fn 29) [.agg [x,y],.agg e',.int .i64 0] (N++Z)=some ⟨.tuple [.agg z12,.int .i64 r],none,[]⟩
 agP:r≠0->∀Z:Mem,O (.fn 11) [.agg [x,y],.agg e',.int .i64 0] (N++Z)=some ⟨.tuple [.kO,.int .i64 r],none,[]⟩
theorem IH{O:afu}{N new:Mem}{q7 q8 q9:Nat}{o7 o8 o9:Bool}{x y v:AV}{c' :Evc}(I:x.adM=true)(J:y.adM=true)(W:x.known=true/\x.cells=[x])(ny:y.known=true/\y.cells=[y])(rx:∀k,x.aft (fun b=>decide (b<N.length+k))=true/\y.aft (fun b=>decide (b<N.length+k))=true)(he:e.length=32)(ce:e.all AV.adM=true)(re:∀k,AV.afD (fun b=>decide (b<N.length+k)) e=true)(hE:EvW N e' c')(h7:N[q7]? =some (.cells o7 0 [x,y]))(h8:N[q8]? =some (.cells o8 0 e))(h9:N[q9]? =some (.cells o9 0 e'))(H:EcF O N x y e e' r g)(hu:O (.fn 28) [.agg e'] N=some ⟨v,none,new⟩)(ht:TxW (N++new) v (unC c')):
  ∀env,(aa env 7=.ptr q7 0/\aa env 9=.ptr q9 0/\aa env 8=.ptr q8 0)->bV O 1100 nQ N env:=by
 have B:∀{q:Nat}{s:afz},N[q]? =some s->∀Z:Mem,(N++Z)[q]? =some s:=fun h Z=>gU h _
 have o:=B h7;have m8:=B h8;have C:=B h9;have m :∀Y Z:Mem,(N++Y++Z)[q7]? =some (.cells o7 0 [x,y]):=fun Y Z=>by rw[S2];exact o _
 have R :∀Y Z:Mem,(N++Y++Z)[q9]? =some (.cells o9 0 e'):=fun Y Z=>by rw[S2];exact C _
 have V:=hE.l32;have U:=hE.cok;refine Sj I J W ny V U he ce o C H.ahP ?_;refine Sk I J W ny V U he ce o m8 C H.chk H.ahx H.eq H.same H.self (fun k=>⟨(rx k).1,(rx k).2,hE.refs k,re k⟩) ?_;refine Sl (ea:=e) I J W ny V U he ce C ht.1.kn hu ?_;obtain⟨b,u,j,kn,rfl,hB,hU,hS,hK,hKl⟩:=id hE;refine So (R new) ?_;refine Qp (hU.more new) (R new) ?_;intro w Z env hw;revert env;have M:∀Y:Mem,(N++new++Z++Y)[q7]? =some (.cells o7 0 [x,y]):=fun Y=>by rw[S2 N];exact m _ _
 have K:∀Y:Mem,(N++new++Z++Y)[q9]? =some (.cells o9 0 (c'.cells b u j kn)):=fun Y=>by rw[S2 N];exact R _ _
 have S:∀{f a} {v:afw},(∀Z:Mem,O f a (N++Z)=some v)->∀Y:Mem,O f a (N++new++Z++Y)=some v:=fun h Y=>by rw[S2,S2];exact h _
 have fb:∀{f a} {v:afw},(∀Z:Mem,O f a (N++Z)=some v)->∀X Y:Mem,O f a (N++new++Z++X++Y)=some v:=fun h X Y=>by rw[S2];exact S h _
 have b7:∀X Y:Mem,(N++new++Z++X++Y)[q7]? =some (.cells o7 0 [x,y]):=fun X Y=>by rw[S2];exact M _
 have b9:∀X Y:Mem,(N++new++Z++X++Y)[q9]? =some (.cells o9 0 (c'.cells b u j kn)):=fun X Y=>by rw[S2];exact K _
 refine Qq (ht.more Z) hw ?_;refine Qs (ht.more Z) hw ?_;by_cases Q:r=0
 .have G:=H.num
  have F:=H.ahA;have D:=H.doo;rw[show Mo r=2 by rw[Q];rfl] at G F D;exact Nh I J W ny V U M K (S G) (S F) (S D) Q
 .have G:=H.num
  have F:=H.ahA;have D:=H.doo;rw[show Mo r=r from if_neg Q] at G F D;refine Ng I J W ny V U M K Q ?_;refine Qt I J W ny V U M K (S G) (S (H.ends Q)) ?_;refine Qu I J W ny V U M K (S F) (S D) ?_;refine Qv (q25:=(N++new++Z).length) (q27:=(N++new++Z).length+1) I J W ny V U (b7 _) (b9 _) (fb (H.back Q) _) (fb (H.agP Q) _) ?_;refine Ni ?_ ?_ ?_
  .rw[S2,qc];rfl
  .rw[S2,jz];rfl
  .rw[qc];rfl
end Go.Proofs
