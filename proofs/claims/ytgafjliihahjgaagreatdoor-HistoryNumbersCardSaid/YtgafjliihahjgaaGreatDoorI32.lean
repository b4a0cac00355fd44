/- See I36. -/
import Derived.Test.YtgafjliihahjgaaGreatDoorI31
set_option linter.all false
set_option maxRecDepth 100000
set_option maxHeartbeats 40000000
namespace Go.Proofs
open Go.Eng
open Tryz
theorem Tp{q:Rat}{V:Nat}(h:q.num.natAbs<=V):Sm q.den V q:=by
 have:=Ny (n:=q.num) (d:=q.den) (V:=V) q.den_pos (QQJ h (Nat.le_mul_of_pos_right _ q.den_pos))
 rwa [Rat.mkRat_self] at this
theorem Xm{a b c:List UInt8}(H:uz [a,b,c]=0)(I:a.length<=20)(Q:b.length<=20)(hc:c.length<=20):∃v:V3,a=aB v.1/\b=aB v.2.1/\c=aB v.2.2/\plK 0 v:=by
 have h3:xz a=0/\xz b=0/\xz c=0:=by
  simp only[uz] at H;split at H
  .rename_i Z
   split at H
   .rename_i X
    split at H
    next h3=>exact⟨Z,X,h3⟩
    .omega
   .omega
  .omega
 obtain⟨Z,X,h3⟩:=h3;obtain⟨x,_,rfl,_⟩:=Bo Z;obtain⟨y,_,rfl,_⟩:=Bo X;obtain⟨z,_,rfl,_⟩:=Bo h3;obtain⟨S,O⟩:=lW I;obtain⟨M,y2⟩:=lW Q;obtain⟨K,J⟩:=lW hc;have W:=Nat.mul_pos (Nat.mul_pos x.den_pos y.den_pos) z.den_pos;refine⟨(x,y,z),rfl,rfl,rfl,x.den*y.den*z.den,?_,?_,?_,?_⟩
 .have G:=Nat.mul_le_mul (Nat.mul_le_mul (Nat.le_of_lt O) (Nat.le_of_lt y2)) (Nat.le_of_lt J)
  exact QQJ G (by decide)
 .exact(Tp (V:=10 ^ 20) (Nat.le_of_lt S)).to ⟨y.den*z.den,by rw[QQh]⟩ W (L9 _)
 .exact(Tp (V:=10 ^ 20) (Nat.le_of_lt M)).to ⟨x.den*z.den,by rw[V1 x.den y.den,QQh]⟩ W (L9 _)
 .exact(Tp (V:=10 ^ 20) (Nat.le_of_lt K)).to ⟨x.den*y.den,by rw[V1]⟩ W (L9 _)
theorem Wb{M:Mem}(L:List (FuncId×List AV×AV))(H:(L.map (·.1)).Nodup)(I:∀x∈L,∀Z,kO prog x.1 x.2.1 (M++Z) x.2.2 (M++Z)):
  ∃O,adM prog O/\∀x∈L,∀Z,O (.fn x.1) x.2.1 (M++Z)=some ⟨x.2.2,none,[]⟩:=by
 refine⟨cX (L.map fun x=>(x.1,x.2.1,(fun N=>∃Z,N=M++Z),⟨x.2.2,none,[]⟩)),iM fun z W N V=>?_,?_⟩
 .obtain⟨x,X,rfl⟩:=QQj.1 W
  obtain⟨Z,rfl⟩:=V;exact aE (I x X Z)
 .induction L with
  |nil=>intro x h;cases h
  |cons y L ih=>
   intro x X Z;rw[List.map_cons,List.nodup_cons] at H;rw[List.map_cons];rcases List.mem_cons.1 X with rfl | X
   .exact bo ⟨Z,rfl⟩
   .rw[aO (.inl fun h=>H.1 (by rw[h];exact List.mem_map_of_mem (f:=fun z:FuncId×List AV×AV=>z.1) X))]
    exact ih H.2 (fun z W=>I z (List.mem_cons_of_mem _ W)) x X Z
theorem V7{f:FuncId}{a:List AV}{v:AV}{M:Mem}(L:List (FuncId×List AV×AV))(y:(L.map (·.1)).Nodup)(H:∀x∈L,∀Z,kO prog x.1 x.2.1 (M++Z) x.2.2 (M++Z))(I:v.closed=true)(h:∀O:af3,(∀x∈L,∀Z,O (.fn x.1) x.2.1 (M++Z)=some ⟨x.2.2,none,[]⟩)->∃X,bO (aU prog) (fun _=>[]) (aS prog) O 1 f a M=some (v,M++X)):kO prog f a M v M:=by obtain⟨O,W,e⟩:=Wb L y H;obtain⟨X,V⟩:=h O e;exact kO.forget I (bl ae (al _) W (ao _) V)
section
variable {a1 a2 a4:AV}{a3:List UInt8}{M:Mem}{e:Int}
theorem OM{x1 x2 x3:List UInt8}(h1:a1.af2=true)(h2:a2.af2=true)(h4:a4.af2=true)(H:a1.known=true)(I:a2.known=true)(Q:a4.known=true)(R:x1.length<=20)(l2:x2.length<=20)(l3:x3.length<=20)(y:∀Z,kO prog 35 [.agg [a1,a2,.str a3,a4]] (M++Z) (.int .i64 0) (M++Z))(Z:Mem):
  kO prog 29 [.agg [a1,a2,.str a3,a4],.agg [.str x1,.str x2,.str x3]] (M++Z) (.int .i64 (uz [x1,x2,x3])) (M++Z):=by
 have K:aS prog 29=some f29:=by kernel_rfl
 have V:=fun M=>jK x1 x2 x3 (by omega) (by omega) (by omega) M
 obtain⟨n,W⟩:=xE (uz [x1,x2,x3]);have X :∀Y,kO prog 35 [.agg [a1,a2,.str a3,a4]] ((M++Z)++Y) (.int .i64 0) ((M++Z)++Y):=fun Y=>by rw[SP];exact y _
 clear y;obtain⟨N,S⟩:=xE (M++Z);rw[<-S] at X |-;refine V7 (M:=N) [(35,[.agg [a1,a2,.str a3,a4]],.int .i64 0),(14,[.agg [.str x1,.str x2,.str x3]],.int .i64 n)] (by simp) (by simp only[List.forall_mem_cons];rw[W];exact⟨X,fun Y=>V _,fun x h=>by cases h⟩) rfl fun O e=>?_
 simp only[List.forall_mem_cons] at e;obtain⟨J,G,-⟩:=e;rw[<-W];clear X V W S;simp[-getElem?_pos,-AV.af2,-AV.known,-AV.cells,-cG,-List.all_eq_true,vS,mS,bO,K,f29,J,G]
end
theorem Is(M:Mem):kO prog 15 [.agg [.str [],.y9,.int .i64 0,.str [],.str [],.str []]] M (.bool true) M:=by
 have Z:aS prog 15=some f15:=by kernel_rfl
 have X:mI (aU prog) 20 31 (.agg [.str [],.str [],.str []]) (.agg [.str [],.str [],.str []])=some true:=by kernel_rfl
 refine aD (aj _) ?_ M;simp[aa,Z,f15,bZ,X]
def dP(c:Code):List Nat:=if (ab c).contains 17 then [17] else [9,22]
theorem sg:(aN f134).map (fun o=>fN o.toList)=[[0,1,0,4,12,28,60,127,255,0,512,0,2048,6144,14336,30720,65024,130560,0,0,786943,2097151],[0,1,0,4,15,0,32,0,128,511,1023,2047],[0,0,0,4,0,16,60,0,128,0,512,2044,4092,8190,16383,32767],[0,0,1,7,15],[0,0,3,7]]:=by kernel_rfl
section
variable {P:List P2}{T:List Tr}{v:V3}{K:Nat}
theorem n8{b Y:Code}(H:ag f134=[b,Y]){t:Tr}{a c:P2}{k:Nat}(hk:k<3)(ha:P[[t.2.1,t.2.2,t.1].getD k 0]? =some a)(hc:P[[t.2.2,t.1,t.2.1].getD k 0]? =some c)(Q:Y6 a c (v.1,v.2.1)){S1 S2 S3:List UInt8}{I:Bool}{env:Env}(d:Bool)(l2:ad env 2=.ptr 2 0)(l3:ad env 3=.ptr 3 0)(l5:ad env 5=.ptr 4 0)(l8:ad env 8=.ptr 5 0)(l9:ad env 9=.bool I)(R:ad env 22=.int .i64 (k:Int)):
  ∃Z,aT (aU prog) dP (af aq) K 83 2 true Y ⟨env,[.cells false 2 (pC P),.cells false 3 (tC T),.cells true 0 [.slice 0 0 P.length none,.slice 1 0 T.length none],.cells true 0 [.str (aB v.1),.str (aB v.2.1),.str (aB v.2.2)],.cells true 0 [.str S1,.str S2,.str S3],.cells true 0 [.int .i64 (t.1:Int),.int .i64 (t.2.1:Int),.int .i64 (t.2.2:Int)]],d⟩=some (.normal,Z)/\
   Z.mem=[.cells false 2 (pC P),.cells false 3 (tC T),.cells true 0 [.slice 0 0 P.length none,.slice 1 0 T.length none],.cells true 0 [.str (aB v.1),.str (aB v.2.1),.str (aB v.2.2)],.cells true 0 ([.str S1,.str S2,.str S3].set k (.str (aB (dJ a c (v.1,v.2.1))))),.cells true 0 [.int .i64 (t.1:Int),.int .i64 (t.2.1:Int),.int .i64 (t.2.2:Int)],.cells true 0 [.str (aB a.1),.str (aB a.2)],.cells true 0 [.str (aB c.1),.str (aB c.2)]]/\Z.agp=d/\
   ad Z.env 9=.bool (I&&decide (0<=oB (dJ a c (v.1,v.2.1))))/\ad Z.env 22=.int .i64 ((k+1:Nat):Int):=by
 obtain⟨C,-,-,B⟩:=Pp ha;obtain⟨A,-,-,u⟩:=Pp hc;have m:=gL ha;have j:=gL hc;obtain⟨⟨⟨u1,u2⟩,⟨u3,u4⟩,u5,u6⟩,⟨u7,u8,u9,V⟩,S,O⟩:=Q;obtain⟨t1,t2,t3⟩:=t;obtain⟨x,y,z⟩:=v;obtain⟨ax,ay⟩:=a;obtain⟨cx,cy⟩:=c;obtain⟨X,M⟩:∃X,aN f134=X :=⟨_,rfl⟩
 have W :=bP M sg;simp only[aN,cj,f134,lA] at M;subst M;simp only[lB] at W;obtain⟨J,G,F,hb3,hb4⟩:=W;simp[ag,aH,f134] at H;obtain⟨-,H⟩:=H;have q1:IntKind.i64.wrap 1=1:=rfl;have q2:IntKind.i64.wrap 2=2:=rfl;have q3:IntKind.i64.wrap 3=3:=rfl;have q4:IntKind.i64.wrap 4=4:=rfl;unfold aga dJ at*;simp only at*;subst H;have D :k=0\/k=1\/k=2:=by omega
 rcases D with rfl | rfl | rfl<;>cases I<;>simp only[List.getD_cons_zero,List.getD_cons_succ] at* <;>
 simp (maxSteps:=1000000) [aw,-getElem?_pos,-AV.af2,-AV.known,-AV.cells,-cG,-List.all_eq_true,vS,rS,mS,af,aq,aI,ba,aX,l2,l3,l5,l8,l9,R,C,B,m,A,u,j,q1,q2,q3,q4,-bJ,-bm,-aJ,-AV.afF,-af6.afF,wk,bN J,bN G,bN F,fC,fj,jn,fA,dm,od,bef,Nat.testBit,u1,u2,u3,u4,u5,u6,u7,u8,u9,V,S,O]
end
variable{b b2:Code}
section
variable {P:List P2}{T:List Tr}{v:V3}{K:Nat}
def loE(wr:List Nat)(y:Env)(I:Bool)(k:Nat):Env:=[(9,.bool I),(22,.int .i64 (k:Int))]++((wr.filter fun t=> ![9,22].contains t).map fun t=>(t,AV.undef))++y
def loM(P:List P2)(T:List Tr)(v:V3)(S1 S2 S3:List UInt8)(t:Tr):Mem:=[.cells false 2 (pC P),.cells false 3 (tC T),.cells true 0 [.slice 0 0 P.length none,.slice 1 0 T.length none],.cells true 0 [.str (aB v.1),.str (aB v.2.1),.str (aB v.2.2)],.cells true 0 [.str S1,.str S2,.str S3],.cells true 0 [.int .i64 (t.1:Int),.int .i64 (t.2.1:Int),.int .i64 (t.2.2:Int)]]
theorem LH(H:ag f134=[b,b2])(y:Env)(I:Bool)(k:Nat):
  ad (loE (ab b2) y I k) 2=ad y 2/\ad (loE (ab b2) y I k) 3=ad y 3/\ad (loE (ab b2) y I k) 5=ad y 5/\ad (loE (ab b2) y I k) 8=ad y 8/\ad (loE (ab b2) y I k) 9=.bool I/\ad (loE (ab b2) y I k) 22=.int .i64 (k:Int):=by
 simp[ag,aH,f134] at H;obtain⟨-,H⟩:=H;subst H;simp[loE]
def Dt(e y :Env):Prop:=∀t∈[2,3,5,7,15,16,17],ad y t=ad e t
theorem LF(y:ag f134=[b,b2])(H:Env)(I:Bool)(k:Nat):Dt H (loE (ab b2) H I k):=by simp[ag,aH,f134] at y;obtain⟨-,y⟩:=y;subst y;simp[loE,Dt]
theorem si(y:ag f134=[b,b2])(Q:Env){s:XS}{I:Bool}{k:Nat}{S1 S2 S3:List UInt8}{t:Tr}{x1 x2 Y y2:List UInt8}{d:Bool}(R:s.mem=loM P T v S1 S2 S3 t++[.cells true 0 [.str x1,.str x2],.cells true 0 [.str Y,.str y2]])(hd:s.agp=d)(h9:ad s.env 9=.bool I)(H:ad s.env 22=.int .i64 (k:Int)):
  mM [9,22] (ab b2) Q 6 s=⟨loE (ab b2) Q I k,loM P T v S1 S2 S3 t,d⟩:=by
 simp[ag,aH,f134] at y;obtain⟨-,y⟩:=y;subst y;unfold loM at R;simp[mM,R,h9,H,hd,loE,loM,fB,fQ]
end
end Go.Proofs
namespace Go.Proofs
open Go.Eng
open Tryz
section
variable {P:List P2}{T:List Tr}{v:V3}{K:Nat}
theorem LG{b Q:Code}(H:ag f134=[b,Q]){env:Env}{M:Mem}{I:Bool}(d:Bool)(R:ad env 9=.bool I)(y:ad env 22=.int .i64 ((3:Nat):Int)):
  ∃Z,aT (aU prog) dP (af aq) K 83 2 true Q ⟨env,M,d⟩=some (.exit 2,⟨Z,M,d⟩)/\ad Z 9=.bool I/\Dt env Z :=by
 simp[ag,aH,f134] at H;obtain⟨-,H⟩:=H;subst H;have X:((3:Nat):Int)=3:=rfl;rw[X] at y;simp[R,y,Dt]
theorem Hr{b y:Code}(H:ag f134=[b,y]){t:Tr}{A B C:P2}(R:P[t.1]? =some A)(hB:P[t.2.1]? =some B)(hC:P[t.2.2]? =some C)(Q:XD A B C (v.1,v.2.1))(hK:3<K)(S1 S2 S3:List UInt8):
  ∃F:Env->Bool->Env,∀Z d,(ad Z 2=.ptr 2 0/\ad Z 3=.ptr 3 0/\ad Z 5=.ptr 4 0/\ad Z 8=.ptr 5 0/\ad Z 9=.bool true/\ad Z 22=.int .i64 0)->
   aT (aU prog) dP (af aq) K 83 2 true (.loop y) ⟨Z,loM P T v S1 S2 S3 t,d⟩=some (.exit 2,⟨F Z d,loM P T v (aB (D9 A B C (v.1,v.2.1)).1) (aB (D9 A B C (v.1,v.2.1)).2.1) (aB (D9 A B C (v.1,v.2.1)).2.2) t,d⟩)/\ad (F Z d) 9=.bool (decide (inQ (D9 A B C (v.1,v.2.1))))/\Dt Z (F Z d):=by
 have z:dP y=[9,22]:=by simp[ag,aH,f134] at H;obtain⟨-,H⟩:=H;subst H;simp[dP]
 refine bG (L:=[9,22]) z (fun Z=>ad Z 2=.ptr 2 0/\ad Z 3=.ptr 3 0/\ad Z 5=.ptr 4 0/\ad Z 8=.ptr 5 0/\ad Z 9=.bool true/\ad Z 22=.int .i64 0) (fun Z G =>ad G 9=.bool (decide (inQ (D9 A B C (v.1,v.2.1))))/\Dt Z G) ?_;rintro Z d ⟨h2,h3,h5,h8,h9,h22⟩;obtain⟨n,rfl⟩:∃n,K=n+4:=⟨K-4,by omega⟩
 obtain⟨o1,o2,o3⟩:=Q;have D:=fun I k=>LH H Z I k
 simp only[h2,h3,h5,h8] at D;have e0:au [9,22] (ab y) Z Z=loE (ab y) Z true 0:=by simp[au,loE,h9,h22]
 rw[e0];have Do:∀S1 S2 S3,(loM P T v S1 S2 S3 t).length=6:=fun _ _ _=>rfl
 rw[Do];obtain⟨V,S,O,J,X,W⟩:=D true 0;obtain⟨s1,e1,m1,d1,x1,y1⟩:=n8 (K:=n+4) (T:=T) H (k:=0) (t:=t) (by decide) hB hC o1 (S1:=S1) (S2:=S2) (S3:=S3) d V S O J X W;have n1:=si H Z (t:=t) (P:=P) (T:=T) (v:=v) (S1:=aB (dJ B C (v.1,v.2.1))) (S2:=S2) (S3:=S3) m1 d1 x1 y1;have u :aT (aU prog) dP (af aq) (n+4) 83 2 true y ⟨loE (ab y) Z true 0,loM P T v S1 S2 S3 t,d⟩=some (.normal,s1):=e1;rw[fW,u];simp only[n1];obtain⟨V,S,O,J,X,W⟩:=D (true&&decide (0<=oB (dJ B C (v.1,v.2.1)))) 1;obtain⟨s2,e2,m2,d2,x2,y2⟩:=n8 (K:=n+4) (T:=T) H (k:=1) (t:=t) (by decide) hC R o2 (S1:=aB (dJ B C (v.1,v.2.1))) (S2:=S2) (S3:=S3) d V S O J X W;have n2:=si H Z (t:=t) (P:=P) (T:=T) (v:=v) (S1:=aB (dJ B C (v.1,v.2.1))) (S2:=aB (dJ C A (v.1,v.2.1))) (S3:=S3) m2 d2 x2 y2;have m :aT (aU prog) dP (af aq) (n+4) 83 2 true y ⟨loE (ab y) Z (true&&decide (0<=oB (dJ B C (v.1,v.2.1)))) (0+1),loM P T v (aB (dJ B C (v.1,v.2.1))) S2 S3 t,d⟩=some (.normal,s2):=e2;rw[fW,m];simp only[n2];obtain⟨V,S,O,J,X,W⟩:=D ((true&&decide (0<=oB (dJ B C (v.1,v.2.1))))&&decide (0<=oB (dJ C A (v.1,v.2.1)))) 2;obtain⟨s3,e3,m3,d3,x3,y3⟩:=n8 (K:=n+4) (T:=T) H (k:=2) (t:=t) (by decide) R hB o3 (S1:=aB (dJ B C (v.1,v.2.1))) (S2:=aB (dJ C A (v.1,v.2.1))) (S3:=S3) d V S O J X W;have n3:=si H Z (t:=t) (P:=P) (T:=T) (v:=v) (S1:=aB (dJ B C (v.1,v.2.1))) (S2:=aB (dJ C A (v.1,v.2.1))) (S3:=aB (dJ A B (v.1,v.2.1))) m3 d3 x3 y3;have j :aT (aU prog) dP (af aq) (n+4) 83 2 true y ⟨loE (ab y) Z ((true&&decide (0<=oB (dJ B C (v.1,v.2.1))))&&decide (0<=oB (dJ C A (v.1,v.2.1)))) (1+1),loM P T v (aB (dJ B C (v.1,v.2.1))) (aB (dJ C A (v.1,v.2.1))) S3 t,d⟩=some (.normal,s3):=e3;rw[fW,j];simp only[n3];obtain⟨V,S,O,J,X,W⟩:=D (((true&&decide (0<=oB (dJ B C (v.1,v.2.1))))&&decide (0<=oB (dJ C A (v.1,v.2.1))))&&decide (0<=oB (dJ A B (v.1,v.2.1)))) 3;obtain⟨G,e4,x4,x5⟩:=LG (K:=n+4) H (M:=loM P T v (aB (dJ B C (v.1,v.2.1))) (aB (dJ C A (v.1,v.2.1))) (aB (dJ A B (v.1,v.2.1))) t) d X W;have Y :aT (aU prog) dP (af aq) (n+4) 83 2 true y ⟨loE (ab y) Z (((true&&decide (0<=oB (dJ B C (v.1,v.2.1))))&&decide (0<=oB (dJ C A (v.1,v.2.1))))&&decide (0<=oB (dJ A B (v.1,v.2.1)))) (2+1),loM P T v (aB (dJ B C (v.1,v.2.1))) (aB (dJ C A (v.1,v.2.1))) (aB (dJ A B (v.1,v.2.1))) t,d⟩=some (.exit 2,⟨G,loM P T v (aB (dJ B C (v.1,v.2.1))) (aB (dJ C A (v.1,v.2.1))) (aB (dJ A B (v.1,v.2.1))) t,d⟩):=e4;rw[fW,Y];refine⟨G,rfl,?_,fun t ht=>(x5 t ht).trans (LF H Z _ _ t ht)⟩;rw[x4];congr 1;rw[Bool.eq_iff_iff];rw[decide_eq_true_iff];simp[inQ,D9,and_assoc]
end
variable{env:Env}
section
variable {P:List P2}{T:List Tr}{v:V3}{K:Nat}
def Va(wr:List Nat)(y:Env)(i:Nat):Env:=[(17,.int .i64 (i:Int))]++((wr.filter fun t=> ![17].contains t).map fun t=>(t,AV.undef))++y
def Bc(P:List P2)(T:List Tr)(v:V3)(S:List UInt8×List UInt8×List UInt8):Mem:=[.cells false 2 (pC P),.cells false 3 (tC T),.cells true 0 [.slice 0 0 P.length none,.slice 1 0 T.length none],.cells true 0 [.str (aB v.1),.str (aB v.2.1),.str (aB v.2.2)],.cells true 0 [.str S.1,.str S.2.1,.str S.2.2]]
def wS(w:V3):List UInt8×List UInt8×List UInt8:=(aB w.1,aB w.2.1,aB w.2.2)
def xL(T:List Tr)(env:Env):Prop:=ad env 2=.ptr 2 0/\ad env 3=.ptr 3 0/\ad env 5=.ptr 4 0/\ad env 15=.slice 1 0 T.length none/\ad env 16=.int .i64 T.length
theorem xi{b I:Code}(y:ag f134=[b,I])(H:Env)(i:Nat)(h:xL T H):xL T (Va (ab b) H i)/\ad (Va (ab b) H i) 17=.int .i64 (i:Int):=by simp[ag,aH,f134] at y;obtain⟨y,-⟩:=y;subst y;simpa [Va,xL] using h
theorem sj{b b2:Code}(y:ag f134=[b,b2]){i:Nat}{t:Tr}(hi:T[i]? =some t){A B C:P2}(hA:P[t.1]? =some A)(hB:P[t.2.1]? =some B)(hC:P[t.2.2]? =some C)(I:XD A B C (v.1,v.2.1))(hT:T.length<=1000)(hK:3<K)(S:List UInt8×List UInt8×List UInt8)(h:xL T env)(H:ad env 17=.int .i64 (i:Int))(d:Bool):
  (¬inQ (D9 A B C (v.1,v.2.1))->∃u,aT (aU prog) dP (af aq) K 83 2 true b ⟨env,Bc P T v S,d⟩=some (.normal,u)/\(∃x,u.mem=Bc P T v (wS (D9 A B C (v.1,v.2.1)))++[x])/\u.agp=d/\ad u.env 17=.int .i64 ((i+1:Nat):Int))/\
  (inQ (D9 A B C (v.1,v.2.1))->∃m x,aT (aU prog) dP (af aq) K 83 2 true b ⟨env,Bc P T v S,d⟩=some (.ret,⟨m,Bc P T v (wS (D9 A B C (v.1,v.2.1)))++[x],d⟩)/\ad m 4=.int .i64 (i:Int)/\ad m 5=.ptr 4 0/\ad m 6=.bool true):=by
 obtain⟨h2,h3,h5,M,J⟩:=h;have G:=gL hi;obtain⟨p1,p2⟩:=XA hi;obtain⟨F,j⟩:=Hr (T:=T) y hA hB hC I hK S.1 S.2.1 S.2.2;have O:=fun X d h=>(j X d h).1
 have W:=fun X d h=>(j X d h).2.1
 have Z:=fun X d h=>(j X d h).2.2
 unfold Dt at Z;simp only[List.forall_mem_cons,List.not_mem_nil,false_implies,implies_true,and_true] at Z;have G2:=fun X d h=>(Z X d h).1
 have G3:=fun X d h=>(Z X d h).2.1
 have G5:=fun X d h=>(Z X d h).2.2.1
 have G7:=fun X d h=>(Z X d h).2.2.2.1
 have G15:=fun X d h=>(Z X d h).2.2.2.2.1
 have G16:=fun X d h=>(Z X d h).2.2.2.2.2.1
 have Y:=fun X d h=>(Z X d h).2.2.2.2.2.2
 clear j Z;obtain⟨D,R⟩:∃D,aN f134=D :=⟨_,rfl⟩
 have z :=bP R sg;simp only[aN,cj,f134,lA] at R;subst R;simp only[lB] at z;obtain⟨-,-,-,Q,-⟩:=z;simp[ag,aH,f134] at y;obtain⟨y,hb2⟩:=y;rw[<-hb2] at O;subst y;have wi:IntKind.i64.wrap ((i:Int)+1)=((i+1:Nat):Int):=by rw[ai];omega
 obtain⟨m1,hm1⟩:=xE (i+1);rw[<-hm1] at wi |-;obtain⟨w,hw⟩:=xE (D9 A B C (v.1,v.2.1));rw[<-hw] at O W |-;unfold loM at O;unfold Bc wS;simp only at O W |-;constructor
 .intro hn
  have V :decide (inQ w)=false:=decide_eq_false hn;simp[-getElem?_pos,-AV.af2,-AV.known,-AV.cells,-cG,-List.all_eq_true,vS,mS,h2,h3,h5,M,J,H,G,p1,p2,O,W,Y,V,wi]
 .intro hn
  have V :decide (inQ w)=true:=decide_eq_true hn;simp[-getElem?_pos,-AV.af2,-AV.known,-AV.cells,-cG,-List.all_eq_true,vS,rS,mS,h2,h3,h5,M,J,H,G,p1,p2,O,W,G5,G7,V,-bJ,-bm,-aJ,-AV.afF,-af6.afF,bN Q,fC,fj,jn,fA,dm,od,bef,Nat.testBit]
theorem xj{b R:Code}(y:ag f134=[b,R])(I:Env){s:XS}{k:Nat}{S:List UInt8×List UInt8×List UInt8}{x:af6}{d:Bool}(Q:s.mem=Bc P T v S++[x])(hd:s.agp=d)(H:ad s.env 17=.int .i64 (k:Int)):
  mM [17] (ab b) I 5 s=⟨Va (ab b) I k,Bc P T v S,d⟩:=by
 simp[ag,aH,f134] at y;obtain⟨y,-⟩:=y;subst y;unfold Bc at Q;simp[mM,Q,H,hd,Va,Bc,fB,fQ]
theorem OB{b I:Code}(y:ag f134=[b,I]){M:Mem}(h:xL T env)(H:ad env 17=.int .i64 (T.length:Int))(d:Bool):
  ∃X,aT (aU prog) dP (af aq) K 83 2 true b ⟨env,M,d⟩=some (.exit 0,⟨X,M,d⟩)/\ad X 5=.ptr 4 0:=by
 obtain⟨S,h3,W,V,Z⟩:=h;simp[ag,aH,f134] at y;obtain⟨y,-⟩:=y;subst y;simp[Z,H,W]
end
end Go.Proofs
namespace Go.Proofs
open Go.Eng
open Tryz
variable{j:Nat}
section
variable {P:List P2}{T:List Tr}{v:V3}{K:Nat}
section
variable (H:aix P T (v.1,v.2.1))
include H
theorem Hq{b b2:Code}(y:ag f134=[b,b2]){t:Tr}(Q:T[j]? =some t)(I:inQ (D7 P (v.1,v.2.1) t))(R:∀(l:Nat) s,l<j->T[l]? =some s->¬inQ (D7 P (v.1,v.2.1) s))(hK:j+4<K)(S:List UInt8×List UInt8×List UInt8):
  ∃F:Env->Bool->Env×Mem×af6,∀Z d,(xL T Z/\ad Z 17=.int .i64 0)->
   aT (aU prog) dP (af aq) K 83 2 true (.loop b) ⟨Z,Bc P T v S,d⟩=some (.ret,⟨(F Z d).1,(F Z d).2.1,d⟩)/\(F Z d).2.1=Bc P T v (wS (D7 P (v.1,v.2.1) t))++[(F Z d).2.2]/\ad (F Z d).1 4=.int .i64 (j:Int)/\ad (F Z d).1 5=.ptr 4 0/\ad (F Z d).1 6=.bool true:=by
 have O:dP b=[17]:=by simp[ag,aH,f134] at y;obtain⟨y,-⟩:=y;subst y;simp[dP]
 refine kH O (fun Z=>xL T Z/\ad Z 17=.int .i64 0) (fun _ W X x=>X =Bc P T v (wS (D7 P (v.1,v.2.1) t))++[x]/\ad W 4=.int .i64 (j:Int)/\ad W 5=.ptr 4 0/\ad W 6=.bool true) ?_;rintro Z d ⟨hp,h17⟩;have e0:au [17] (ab b) Z Z=Va (ab b) Z 0:=by simp[au,Va,h17]
 rw[e0];have Do:(Bc P T v S).length=5:=rfl;rw[Do];refine kG (α:=Nat×(List UInt8×List UInt8×List UInt8)) (fun a=>⟨Va (ab b) Z a.1,Bc P T v a.2,d⟩) (fun a=>j-a.1) (fun a=>a.1<=j) .ret d (fun W X =>∃x,X =Bc P T v (wS (D7 P (v.1,v.2.1) t))++[x]/\ad W 4=.int .i64 (j:Int)/\ad W 5=.ptr 4 0/\ad W 6=.bool true) (by simp) ?_ K (0,S) (by simp) (by simp;omega);rintro ⟨i,S⟩ hi;simp only at hi |-;obtain⟨q1,q2⟩:=xi y Z i hp;by_cases M:i=j
 .right
  subst M;obtain⟨A,B,C,J,G,D,V,e⟩:=H.at Q;rw[e] at I |-;obtain⟨W,x,z,u,h3,m⟩:=(sj (K:=K) y Q J G D V H.hl.2 (by omega) S q1 q2 d).2 I;exact⟨W,_,z,x,rfl,u,h3,m⟩
 .left
  obtain⟨s,Y⟩:∃s,T[i]? =some s:=⟨_,GT (by have:=gL Q;omega)⟩
  obtain⟨A,B,C,J,G,D,V,e⟩:=H.at Y;have hn:=R i s (by omega) Y;rw[e] at hn;obtain⟨s',z,⟨x,u⟩,h3,m⟩:=(sj (K:=K) y Y J G D V H.hl.2 (by omega) S q1 q2 d).1 hn;exact⟨(i+1,wS (D9 A B C (v.1,v.2.1))),s',z,xj y Z u h3 m,by omega,by simp only;omega⟩
theorem LI{b Q:Code}(y:ag f134=[b,Q])(I:∀(l:Nat) s,T[l]? =some s->¬inQ (D7 P (v.1,v.2.1) s))(hK:T.length+4<K)(S:List UInt8×List UInt8×List UInt8):
  ∃F:Env->Bool->Env×Mem×(List UInt8×List UInt8×List UInt8),∀Z d,(xL T Z/\ad Z 17=.int .i64 0)->
   aT (aU prog) dP (af aq) K 83 2 true (.loop b) ⟨Z,Bc P T v S,d⟩=some (.exit 0,⟨(F Z d).1,(F Z d).2.1,d⟩)/\(F Z d).2.1=Bc P T v (F Z d).2.2/\ad (F Z d).1 5=.ptr 4 0:=by
 have V:dP b=[17]:=by simp[ag,aH,f134] at y;obtain⟨y,-⟩:=y;subst y;simp[dP]
 refine kH V (fun Z=>xL T Z/\ad Z 17=.int .i64 0) (fun _ W X x=>X =Bc P T v x/\ad W 5=.ptr 4 0) ?_;rintro Z d ⟨hp,h17⟩;have R:au [17] (ab b) Z Z=Va (ab b) Z 0:=by simp[au,Va,h17]
 rw[R];have Do:(Bc P T v S).length=5:=rfl;rw[Do];refine kG (α:=Nat×(List UInt8×List UInt8×List UInt8)) (fun a=>⟨Va (ab b) Z a.1,Bc P T v a.2,d⟩) (fun a=>T.length-a.1) (fun a=>a.1<=T.length) (.exit 0) d (fun W X =>∃x,X =Bc P T v x/\ad W 5=.ptr 4 0) (by simp) ?_ K (0,S) (by simp) (by simp;omega);rintro ⟨i,S⟩ hi;simp only at hi |-;obtain⟨u,m⟩:=xi y Z i hp;by_cases O:i=T.length
 .right
  subst O;obtain⟨W,J,G⟩:=OB (K:=K) y (M:=Bc P T v S) u m d;exact⟨W,_,J,S,rfl,G⟩
 .left
  obtain⟨s,D⟩:∃s,T[i]? =some s:=⟨_,GT (by omega)⟩
  obtain⟨A,B,C,hA,hB,hC,z,e⟩:=H.at D;have Y:=I i s D;rw[e] at Y;obtain⟨s',J,⟨x,G⟩,h3,h4⟩:=(sj (K:=K) y D hA hB hC z H.hl.2 (by omega) S u m d).1 Y;exact⟨(i+1,wS (D9 A B C (v.1,v.2.1))),s',J,xj y Z G h3 h4,by omega,by simp only;omega⟩
theorem Q8{w:V3}(h:Vb P (v.1,v.2.1) T 0=some (j,w)):
  kO prog 134 [.agg [.slice 0 0 P.length none,.slice 1 0 T.length none],vA v] [.cells false 2 (pC P),.cells false 3 (tC T)] (.tuple [.int .i64 (j:Int),vA w,.bool true]) [.cells false 2 (pC P),.cells false 3 (tC T)]:=by
 have A:aS prog 134=some f134:=by kernel_rfl
 obtain⟨i,t,z,C,M,rfl,J⟩:=xM h;obtain rfl:i=j:=by omega
 have I:=H.hl;have u:=gL C;obtain⟨b,B,G⟩:∃b B,ag f134=[b,B]:=⟨_,_,rfl⟩
 obtain⟨F,W⟩:=Hq (K:=2000) H G C M J (by omega) ([],[],[]);have D:=fun Z d h=>(W Z d h).1
 have X:=fun Z d h=>(W Z d h).2.1
 have V:=fun Z d h=>(W Z d h).2.2.1
 have S:=fun Z d h=>(W Z d h).2.2.2.1
 have O:=fun Z d h=>(W Z d h).2.2.2.2
 clear W;simp[ag,aH,f134] at G;obtain⟨rfl,rfl⟩:=G;obtain⟨w,m⟩:=xE (D7 P (v.1,v.2.1) t);rw[<-m] at X |-;unfold Bc xL at D;unfold Bc xL wS at X;unfold xL at V S O;simp only at D X;have Y:∃r,aa (aU prog) dP (aS prog) (af aq) 2000 134 [.agg [.slice 0 0 P.length none,.slice 1 0 T.length none],vA v] [.cells false 2 (pC P),.cells false 3 (tC T)]=some r/\r.v=.tuple [.int .i64 (i:Int),vA w,.bool true]/\r.mem [.cells false 2 (pC P),.cells false 3 (tC T)]=[.cells false 2 (pC P),.cells false 3 (tC T)]:=by simp[-AV.af2,-AV.known,-AV.cells,-List.all_eq_true,vS,aa,A,f134,vA,D,X,V,S,O];done
 obtain⟨r,R,Q,h3⟩:=Y;have:=(ah ae (al _) cw (ao _) R).1
 rwa [Q,h3] at this
theorem Q7(h:Vb P (v.1,v.2.1) T 0=none):
  ∃X W V:List UInt8,kO prog 134 [.agg [.slice 0 0 P.length none,.slice 1 0 T.length none],vA v] [.cells false 2 (pC P),.cells false 3 (tC T)] (.tuple [.int .i64 0,.agg [.str X,.str W,.str V],.bool false]) [.cells false 2 (pC P),.cells false 3 (tC T)]:=by
 have u:aS prog 134=some f134:=by kernel_rfl
 have Q:=H.hl;obtain⟨S,D⟩:∃S,aN f134=S :=⟨_,rfl⟩
 have O :=bP D sg;simp only[aN,cj,f134,lA] at D;subst D;simp only[lB] at O;obtain⟨-,-,-,-,C⟩:=O;obtain⟨b,z,B⟩:∃b z,ag f134=[b,z]:=⟨_,_,rfl⟩
 obtain⟨F,G⟩:=LI (K:=2000) H B (MJ h) (by omega) ([],[],[]);have A:=fun M d h=>(G M d h).1
 have Z:=fun M d h=>(G M d h).2.1
 have J:=fun M d h=>(G M d h).2.2
 clear G;simp[ag,aH,f134] at B;obtain⟨rfl,rfl⟩:=B;unfold Bc xL at A Z;unfold xL at J;simp only at A Z;have m:∃r,aa (aU prog) dP (aS prog) (af aq) 2000 134 [.agg [.slice 0 0 P.length none,.slice 1 0 T.length none],vA v] [.cells false 2 (pC P),.cells false 3 (tC T)]=some r/\(∃X W V,r.v=.tuple [.int .i64 0,.agg [.str X,.str W,.str V],.bool false])/\r.mem [.cells false 2 (pC P),.cells false 3 (tC T)]=[.cells false 2 (pC P),.cells false 3 (tC T)]:=by simp[-AV.af2,-AV.known,-AV.cells,-List.all_eq_true,vS,aa,u,f134,vA,A,Z,J,-aJ,bN C,fC,lO,jn,fA,dm,od,bef,Nat.testBit];done
 obtain⟨r,Y,⟨X,W,V,R⟩,h3⟩:=m;have:=(ah ae (al _) cw (ao _) Y).1;rw[R,h3] at this;exact⟨X,W,V,this⟩
end
end
end Go.Proofs
namespace Go.Proofs
open Go.Eng
open Tryz
theorem CI{lv:Code->List Nat}{O:af3}(y:adM prog O){K:Nat}{f:FuncId}{args:List AV}{mem:Mem}{v:AV}(h:aa (aU prog) lv (aS prog) O K f args mem=some ⟨v,none,[]⟩):kO prog f args mem v mem:=by have:=(ah ae (al _) y (ao _) h).1;simpa [afA.mem] using this
def Yx(w:V3)(a b c:Rat):Prop:=(aga w.1/\aga w.2.1/\aga w.2.2)/\(aga a/\aga b/\aga c)/\(aga (w.1+w.2.1)/\aga (w.1+w.2.1+w.2.2)/\w.1+w.2.1+w.2.2≠0)/\(aga (w.1*a)/\aga (w.2.1*b)/\aga (w.2.2*c))/\aga (w.1*a+w.2.1*b)/\aga (w.1*a+w.2.1*b+w.2.2*c)
variable{pv:AV}{w:V3}
theorem IK{N:Mem}{a3 a7 a8 tb fb I n i:Nat}{o3 o7 o8 ot of:Bool}{T:List Tr}{t:Tr}{L:List Rat}{a b c:Rat}(h3:N[a3]? =some (.cells o3 0 [pv,.slice tb 0 I none]))(Q:N[tb]? =some (.cells ot 3 (tC T)))(y:I=T.length)(R:N[a7]? =some (.cells o7 0 [.int .i64 (i:Int)]))(Y:N[a8]? =some (.cells o8 0 (vL w)))(hf:N[fb]? =some (.cells of 1 (stC (L.map aB))))(hn:n=L.length)(hi:T[i]? =some t)(ha:L[t.1]? =some a)(hb:L[t.2.1]? =some b)(hc:L[t.2.2]? =some c)(H:Yx w a b c):
  kO prog 135 [.slice fb 0 n none,.ptr a3 0,.ptr a7 0,.ptr a8 0] N (.str (aB (Yy w a b c))) N:=by
 have D:aS prog 135=some f135:=by kernel_rfl
 subst hn y;have Z:=gL hi;obtain⟨C,B⟩:=XA hi;have A:(stC (L.map aB))[t.1]? =some (.str (aB a)):=uQ (by simp[ha]);have z:(stC (L.map aB))[t.2.1]? =some (.str (aB b)):=uQ (by simp[hb]);have u:(stC (L.map aB))[t.2.2]? =some (.str (aB c)):=uQ (by simp[hc]);have m:=gL ha;have j:=gL hb;have l3:=gL hc;obtain⟨⟨u1,u2,u3⟩,⟨u4,u5,u6⟩,⟨u7,u8,u9⟩,⟨X,W,V⟩,S,O⟩:=H;have z0:eS [48]=some 0:=by
  have:([48]:List UInt8)=aB 0:=by decide
  rw[this];exact aw 0
 have f0:(az 0).length<=40000/\(az 1).length<=40000:=⟨by decide,by decide⟩;obtain⟨t1,t2,t3⟩:=t;obtain⟨w1,w2,w3⟩:=w;unfold Yy;simp only[vL] at*;unfold aga at*;obtain⟨f0,M⟩:=f0;obtain⟨F,J⟩:∃F,aN f135=[F]:=⟨_,rfl⟩
 have G:=jm J (l:=[0,0,2,6,15,0,0,64,192,0,0,1536,3584,8159,16383,32767,65535]) (by kernel_rfl);simp[aN,cj,f135] at J;subst J;have g3:=gL h3;have g7:=gL R;have g8:=gL Y;have gt:=gL Q;have gf:=gL hf;have q1:IntKind.i64.wrap 1=1:=rfl;have q2:IntKind.i64.wrap 2=2:=rfl;have q3:IntKind.i64.wrap 3=3:=rfl;refine CI cw (lv:=fun _=>[6,7,15]) (K:=6) ?_;simp (maxSteps:=1000000) [-getElem?_pos,-AV.af2,-AV.known,-AV.cells,-cG,-List.all_eq_true,rS,mS,aa,D,f135,aR,fW,af,aq,aI,aw,z0,f0,M,Rat.zero_add,h3,Q,R,Y,hf,Z,C,B,A,z,u,m,j,l3,q1,q2,q3,g8,gf,u1,u2,u3,u4,u5,u6,u7,u8,u9,X,W,V,S,O,-bJ,-bm,-aJ,-AV.afF,-af6.afF,bN G,fC,fj,jn,fA,dm,od,bef,Nat.testBit]
section
variable {O:af3}{N:Mem}{K d4 d5 sb:Nat}{o4 o5:Bool}{bv uv sv:AV}{p:V3}{hs:List Rat}{vs caps:List AV}
theorem Ji(h4:N[d4]? =some (.cells o4 0 [bv,uv,sv]))(h5:N[d5]? =some (.cells o5 0 (vL p)))(y:(sv=.y9/\hs=[])\/∃o,sv=.slice sb 0 hs.length none/\N[sb]? =some (.cells o 1 vs))(hl:vs.length=hs.length)(h2:hs.length<=1000)(Q:∀(i:Nat) h,hs[i]? =some h->∃x,vs[i]? =some x/\x.af2=true/\x.cells=[x]/\(∀f,AV.afF f x=true\/True)/\O (.fn 135) (x::caps) N=some ⟨.str (aB h),none,[]⟩/\O (.fn 85) [.str (aB h),.str (aB p.2.2)] N=some ⟨.int .i64 (nL h p.2.2),none,[]⟩)(hK:hs.length+1<K){b:Code}(I:ag f84=[b]){m0:Nat}(hm:∀x∈vs,x.afF (fun b=>decide (b<N.length))=true)(H:AV.afF (fun b=>decide (b<N.length)) (.func 135 caps)=true):
  ∃F:Env->Bool->Env,∀Z d,(ad Z 4=.ptr d4 0/\ad Z 5=.ptr d5 0/\ad Z 10=.func 135 caps/\ad Z 11=.int .i64 0)->
   aT (aU prog) (fun _=>[11]) O K 51 m0 true (.loop b) ⟨Z,N,d⟩=some (.exit 0,⟨F Z d,N,d⟩)/\ad (F Z d) 11=.int .i64 (Nw p.2.2 hs:Int):=by
 refine bG rfl (fun Z=>ad Z 4=.ptr d4 0/\ad Z 5=.ptr d5 0/\ad Z 10=.func 135 caps/\ad Z 11=.int .i64 0) (fun _ AC =>ad AC 11=.int .i64 (Nw p.2.2 hs:Int)) ?_;rintro Z d ⟨l4,l5,l10,l11⟩;obtain⟨V,G⟩:∃V,aN f84=V :=⟨_,rfl⟩
 have S :=bP G (ls:=[[0,1,0,0,8,28,63,127],[0,0,2,6,15,31,63,63,191,63,959,1983,4095,63,8255,32767,65535,131071]]) (by kernel_rfl);simp only[aN,cj,f84,lA] at G;subst G;simp only[lB] at S;obtain⟨-,X⟩:=S;simp[ag,aH,f84] at I;have Y:au [11] (ab b) Z ((11,.int .i64 ((0:Nat):Int))::Z)=au [11] (ab b) Z Z:=by simp[au,l11]
 rw[<-Y];have D:=gL h4;have R:=gL h5;have C:∀N,CO (aU prog) 67 N sv=some (.int .i64 hs.length):=fun N=>by rcases y with⟨rfl,rfl⟩ | ⟨o,rfl,_⟩<;>simp
 have hle:=OZ p.2.2 hs;simp only[vL] at h5;refine bW (α:=Nat) (fun i=>⟨au [11] (ab b) Z ((11,.int .i64 (i:Int))::Z),N,d⟩) (fun i=>Nw p.2.2 hs-i) (fun i=>i<=Nw p.2.2 hs) (.exit 0) N d _ (by simp) ?_ K 0 (by omega) (by omega);intro i hi;clear Y;subst I;by_cases M:i<hs.length
 .obtain⟨h,B⟩:∃h,hs[i]? =some h:=⟨_,GT M⟩
  obtain⟨x,J,x2,x3,-,x5,x6⟩:=Q i h B;have x7:=hm x (Lo J);rcases y with⟨rfl,rfl⟩ | ⟨o,rfl,W⟩
  .simp at M
  have gs:=gL W;have lv:=gL J;have w1:IntKind.i64.wrap ((i:Int)+1)=((i+1:Nat):Int):=by rw[ai];omega
  obtain⟨m,A⟩:=xE (i+1);rw[<-A] at w1;by_cases hc:i=Nw p.2.2 hs
  .right
   subst hc;have z:¬nL h p.2.2<=0:=fun e=>Uu B (vT.1 e)
   simp[-getElem?_pos,-AV.af2,-AV.known,-AV.cells,-cG,-List.all_eq_true,-CO,rS,mS,l4,l5,l10,M,h4,h5,W,C,J,x5,x6,x7,H,D,R,gs,z,-bJ,-bm,-aJ,-AV.afF,-af6.afF,bN X,fC,fj,jn,fA,dm,od,bef,Nat.testBit]
  .left
   have z:nL h p.2.2<=0:=vT.2 (Uv (l:=hs) (by omega) B);refine⟨m,?_⟩;simp[-getElem?_pos,-AV.af2,-AV.known,-AV.cells,-cG,-List.all_eq_true,-CO,rS,mS,l4,l5,l10,M,h4,h5,W,C,J,x5,x6,x7,H,D,R,gs,z,w1,-bJ,-bm,-aJ,-AV.afF,-af6.afF,bN X,fC,fj,jn,fA,dm,od,bef,Nat.testBit];omega
 .right
  have hc:i=hs.length:=by omega
  have u:Nw p.2.2 hs=hs.length:=by omega
  rw[u,<-hc];have X' :¬(i:Int)<hs.length:=by omega
  have j:sv.afF (fun b=>decide (b<N.length))=true:=by
   rcases y with⟨rfl,_⟩ | ⟨o,rfl,I⟩
   .rfl
   .simp only[AV.afF,L0];exact(gL I)
  simp[-getElem?_pos,-AV.af2,-AV.known,-AV.cells,-cG,-List.all_eq_true,-CO,rS,mS,l4,l5,l10,h4,C,D,j,X',-bJ,-bm,-aJ,-AV.afF,-af6.afF,bN X,fC,fj,jn,fA,dm,od,bef,Nat.testBit]
theorem N8{M:Mem}{tv:AV}{h0:Rat}{j:Nat}(ck:pv.af2=true/\tv.af2=true/\bv.af2=true/\uv.af2=true/\sv.af2=true)(kn:pv.known=true/\tv.known=true/\bv.known=true/\uv.known=true/\sv.known=true)(cs:pv.cells=[pv]/\tv.cells=[tv]/\bv.cells=[bv]/\uv.cells=[uv]/\sv.cells=[sv])(y:∀x,pv.afF (fun b=>decide (b<M.length+x))=true/\tv.afF (fun b=>decide (b<M.length+x))=true/\bv.afF (fun b=>decide (b<M.length+x))=true/\uv.afF (fun b=>decide (b<M.length+x))=true/\sv.afF (fun b=>decide (b<M.length+x))=true)(I:(sv=.y9/\hs=[])\/∃o,sv=.slice sb 0 hs.length none/\M[sb]? =some (.cells o 1 vs))(hl:vs.length=hs.length)(h2:hs.length<=1000)(Q:∀x∈vs,x.afF (fun b=>decide (b<M.length))=true)(R:O (.fn 134) [.agg [pv,tv],vA p] (M++[.cells true 0 [pv,tv],.cells true 0 [bv,uv,sv],.cells true 0 (vL p)])=some ⟨.tuple [.int .i64 (j:Int),vA w,.bool true],none,[]⟩)(Y:O (.fn 135) [bv,.ptr M.length 0,.ptr (M.length+3) 0,.ptr (M.length+4) 0] (M++[.cells true 0 [pv,tv],.cells true 0 [bv,uv,sv],.cells true 0 (vL p),.cells true 0 [.int .i64 (j:Int)],.cells true 0 (vL w)])=some ⟨.str (aB h0),none,[]⟩)(eC:O (.fn 85) [.str (aB p.2.2),.str (aB h0)] (M++[.cells true 0 [pv,tv],.cells true 0 [bv,uv,sv],.cells true 0 (vL p),.cells true 0 [.int .i64 (j:Int)],.cells true 0 (vL w)])=some ⟨.int .i64 (nL p.2.2 h0),none,[]⟩)(H:∀(i:Nat) h,hs[i]? =some h->∃x,vs[i]? =some x/\x.af2=true/\x.cells=[x]/\(∀f,AV.afF f x=true\/True)/\O (.fn 135) [x,.ptr M.length 0,.ptr (M.length+3) 0,.ptr (M.length+4) 0] (M++[.cells true 0 [pv,tv],.cells true 0 [bv,uv,sv],.cells true 0 (vL p),.cells true 0 [.int .i64 (j:Int)],.cells true 0 (vL w)])=some ⟨.str (aB h),none,[]⟩/\O (.fn 85) [.str (aB h),.str (aB p.2.2)] (M++[.cells true 0 [pv,tv],.cells true 0 [bv,uv,sv],.cells true 0 (vL p),.cells true 0 [.int .i64 (j:Int)],.cells true 0 (vL w)])=some ⟨.int .i64 (nL h p.2.2),none,[]⟩):
  aa (aU prog) (fun _=>[11]) (aS prog) O 1100 84 [.agg [pv,tv],.agg [bv,uv,sv],vA p] M=some ⟨.int .i64 (if p.2.2<h0 then -1 else (Nw p.2.2 hs:Int)),none,[]⟩:=by
 have m:aS prog 84=some f84:=by kernel_rfl
 obtain⟨N,Z⟩:=xE (α:=Mem) (M++[.cells true 0 [pv,tv],.cells true 0 [bv,uv,sv],.cells true 0 (vL p),.cells true 0 [.int .i64 (j:Int)],.cells true 0 (vL w)]);obtain⟨b,C⟩:∃b,ag f84=[b]:=⟨_,rfl⟩
 have W:N.length=M.length+5:=by rw[Z];simp
 obtain⟨F,B⟩:=Ji (O:=O) (N:=N) (K:=1100) (m0:=M.length) (d4:=M.length+1) (d5:=M.length+2) (o4:=true) (o5:=true) (bv:=bv) (uv:=uv) (sv:=sv) (p:=p) (hs:=hs) (vs:=vs) (sb:=sb) (caps:=[.ptr M.length 0,.ptr (M.length+3) 0,.ptr (M.length+4) 0]) (by rw[Z,iG];rfl) (by rw[Z,iG];rfl) (by
  rcases I with h | ⟨o,h,hh⟩
  .exact .inl h
  .exact .inr ⟨o,h,by rw[Z,Hi (gL hh)];exact hh⟩) hl h2 (by rw[Z];exact H) (by omega) C (fun x hx=>AV.agc (fun k hk=>by simp only[L0] at hk |-;omega) x (Q x hx)) (by simp[AV.afF,AV.af7,W])
 have S':=fun A d h=>(B A d h).1
 have z:=fun A d h=>(B A d h).2
 clear B;obtain⟨V,u⟩:∃V,aN f84=V :=⟨_,rfl⟩
 have S :=bP u (ls:=[[0,1,0,0,8,28,63,127],[0,0,2,6,15,31,63,63,191,63,959,1983,4095,63,8255,32767,65535,131071]]) (by kernel_rfl);simp only[aN,cj,f84,lA] at u;subst u;simp only[lB] at S;obtain⟨J,-⟩:=S;simp[ag,aH,f84] at C;subst C;rw[Z] at S';have w1:IntKind.i64.wrap (-1)= -1:=rfl;have w2:IntKind.i64.wrap (-2)= -2:=rfl;have G:∀j,(M.length+j<M.length)=False:=fun j=>gN _ _
 obtain⟨c1,c2,c3,c4,c5⟩:=ck;obtain⟨k1,k2,k3,k4,k5⟩:=kn;obtain⟨e1,e2,e3,e4,e5⟩:=cs;have rp:=fun x=>(y x).1
 have rt:=fun x=>(y x).2.1
 have rb:=fun x=>(y x).2.2.1
 have ru:=fun x=>(y x).2.2.2.1
 have rs:=fun x=>(y x).2.2.2.2
 unfold vA at*;simp only[vL] at*;clear H Q y Z W;have rF:∀(f:Nat->Bool) (g:FuncId) (l:List AV),AV.afF f (.func g l)=AV.af7 f l:=fun _ _ _=>rfl
 by_cases D:p.2.2<h0
 .have X :nL p.2.2 h0<0:=HN.2 D
  simp[-getElem?_pos,-AV.af2,-AV.known,-AV.cells,-cG,-List.all_eq_true,vS,rS,mS,aa,m,f84,G,R,Y,eC,D,X,rF,rb,-bJ,-bm,-aJ,-AV.afF,-af6.afF,bN J,fC,fj,jn,fA,dm,od,bef,Nat.testBit]
 .have X :¬nL p.2.2 h0<0:=fun e=>D (HN.1 e)
  simp[-getElem?_pos,-AV.af2,-AV.known,-AV.cells,-cG,-List.all_eq_true,vS,rS,mS,aa,m,f84,G,R,Y,eC,D,X,S',z,rF,rb,-bJ,-bm,-aJ,-AV.afF,-af6.afF,bN J,fC,fj,jn,fA,dm,od,bef,Nat.testBit]
end
end Go.Proofs
