/- See F54. -/
import Derived.Test.YtgafjliihahjgaaGreatDoorF42
set_option linter.all false
set_option maxRecDepth 100000
set_option maxHeartbeats 40000000
namespace Go.Proofs
open Go.Eng
open Tryz
def nV(A B C q:P2):V3:=(bU B C q,bU C A q,bU A B q)
def Xk(a b c:P2):Prop:=((aeZ a.1∧aeZ a.2)∧(aeZ b.1∧aeZ b.2)∧aeZ c.1∧aeZ c.2)∧(aeZ (b.1-a.1)∧aeZ (c.2-a.2)∧aeZ (b.2-a.2)∧aeZ (c.1-a.1))∧aeZ ((b.1-a.1)*(c.2-a.2))∧aeZ ((b.2-a.2)*(c.1-a.1))
def MF(A B C q:P2):Prop:=Xk B C q∧Xk C A q∧Xk A B q
def inQ(w:V3):Prop:=0≤jV w.1∧0≤jV w.2.1∧0≤jV w.2.2
instance (w:V3):Decidable (inQ w):=inferInstanceAs (Decidable (0≤jV w.1∧0≤jV w.2.1∧0≤jV w.2.2))
structure ahd (P:List P2)(T:List Tr)(q:P2):Prop where
 tri:∀(i:Nat) t,T[i]? =some t→∃A B C,P[t.1]? =some A∧P[t.2.1]? =some B∧P[t.2.2]? =some C∧MF A B C q
 hl:P.length≤1000∧T.length≤1000
def dy(c:Code):List Nat:=if (ab c).contains 17 then [17] else [9,22]
theorem qJ:(aC f134).map (fun o=>dB o.toList)=[[0,1,0,4,12,28,60,127,255,0,512,0,2048,6144,14336,30720,65024,130560,0,0,786943,2097151],[0,1,0,4,15,0,32,0,128,511,1023,2047],[0,0,0,4,0,16,60,0,128,0,512,2044,4092,8190,16383,32767],[0,0,1,7,15],[0,0,3,7]]:=by kernel_rfl
section
variable {P:List P2}{T:List Tr}{v:V3}{K:Nat}
theorem mT{b R:Code}(A:ai f134=[b,R]){t:Tr}{a c:P2}{k:Nat}(hk:k<3)(Y:P[[t.2.1,t.2.2,t.1].getD k 0]? =some a)(hc:P[[t.2.2,t.1,t.2.1].getD k 0]? =some c)(G:Xk a c (v.1,v.2.1)){S1 S2 S3:List UInt8}{I:Bool}{env:Env}(d:Bool)(l2:ad env 2=.ptr 2 0)(l3:ad env 3=.ptr 3 0)(l5:ad env 5=.ptr 4 0)(l8:ad env 8=.ptr 5 0)(l9:ad env 9=.bool I)(H:ad env 22=.int .i64 (k:Int)):
  ∃Z,aM (aN prog) dy (af aj) K 83 2 true R ⟨env,[.cells false 2 (pC P),.cells false 3 (tC T),.cells true 0 [.slice 0 0 P.length none,.slice 1 0 T.length none],.cells true 0 [.str (ak v.1),.str (ak v.2.1),.str (ak v.2.2)],.cells true 0 [.str S1,.str S2,.str S3],.cells true 0 [.int .i64 (t.1:Int),.int .i64 (t.2.1:Int),.int .i64 (t.2.2:Int)]],d⟩=some (.normal,Z)∧
   Z.mem=[.cells false 2 (pC P),.cells false 3 (tC T),.cells true 0 [.slice 0 0 P.length none,.slice 1 0 T.length none],.cells true 0 [.str (ak v.1),.str (ak v.2.1),.str (ak v.2.2)],.cells true 0 ([.str S1,.str S2,.str S3].set k (.str (ak (bU a c (v.1,v.2.1))))),.cells true 0 [.int .i64 (t.1:Int),.int .i64 (t.2.1:Int),.int .i64 (t.2.2:Int)],.cells true 0 [.str (ak a.1),.str (ak a.2)],.cells true 0 [.str (ak c.1),.str (ak c.2)]]∧Z.ae9=d∧
   ad Z.env 9=.bool (I&&decide (0≤jV (bU a c (v.1,v.2.1))))∧ad Z.env 22=.int .i64 ((k+1:Nat):Int):=by
 obtain⟨C,-,-,B⟩:=wm Y;obtain⟨u,-,-,m⟩:=wm hc;have j:=gL Y;have c3:=gL hc;obtain⟨⟨⟨u1,u2⟩,⟨u3,u4⟩,u5,u6⟩,⟨u7,u8,u9,W⟩,V,S⟩:=G;obtain⟨t1,t2,t3⟩:=t;obtain⟨x,y,z⟩:=v;obtain⟨ax,ay⟩:=a;obtain⟨cx,cy⟩:=c;obtain⟨X,O⟩:∃X,aC f134=X :=⟨_,rfl⟩
 have D :=be O qJ;simp only[aC,bn,f134,lA] at O;subst O;simp only[lB] at D;obtain⟨Z9,M,J,hb3,hb4⟩:=D;simp[ai,aG,f134] at A;obtain⟨-,A⟩:=A;have q1:IntKind.i64.wrap 1=1:=rfl;have q2:IntKind.i64.wrap 2=2:=rfl;have q3:IntKind.i64.wrap 3=3:=rfl;have q4:IntKind.i64.wrap 4=4:=rfl;unfold aeZ bU at*;simp only at*;subst A;have F :k=0∨k=1∨k=2:=by omega
 rcases F with rfl | rfl | rfl<;>cases I<;>simp only[List.getD_cons_zero,List.getD_cons_succ] at* <;>
 simp (maxSteps:=1000000) [ao,-getElem?_pos,-AV.aeS,-AV.known,-AV.cells,-bL,-List.all_eq_true,vS,rS,mS,af,aj,az,bB,aX,l2,l3,l5,l8,l9,H,C,B,j,u,m,c3,q1,q2,q3,q4,-bl,-aW,-aB,-AV.aeR,-aeY.aeR,oP,aF Z9,aF M,aF J,bX,bK,dH,cj,bR,gd,bef,Nat.testBit,u1,u2,u3,u4,u5,u6,u7,u8,u9,W,V,S]
end
variable{b b2:Code}
section
variable {P:List P2}{T:List Tr}{v:V3}{K:Nat}
def loE(wr:List Nat)(A:Env)(I:Bool)(k:Nat):Env:=[(9,.bool I),(22,.int .i64 (k:Int))]++((wr.filter fun t=> ![9,22].contains t).map fun t=>(t,AV.undef))++A
def loM(P:List P2)(T:List Tr)(v:V3)(S1 S2 S3:List UInt8)(t:Tr):Mem:=[.cells false 2 (pC P),.cells false 3 (tC T),.cells true 0 [.slice 0 0 P.length none,.slice 1 0 T.length none],.cells true 0 [.str (ak v.1),.str (ak v.2.1),.str (ak v.2.2)],.cells true 0 [.str S1,.str S2,.str S3],.cells true 0 [.int .i64 (t.1:Int),.int .i64 (t.2.1:Int),.int .i64 (t.2.2:Int)]]
theorem KP(G:ai f134=[b,b2])(A:Env)(I:Bool)(k:Nat):
  ad (loE (ab b2) A I k) 2=ad A 2∧ad (loE (ab b2) A I k) 3=ad A 3∧ad (loE (ab b2) A I k) 5=ad A 5∧ad (loE (ab b2) A I k) 8=ad A 8∧ad (loE (ab b2) A I k) 9=.bool I∧ad (loE (ab b2) A I k) 22=.int .i64 (k:Int):=by
 simp[ai,aG,f134] at G;obtain⟨-,G⟩:=G;subst G;simp[loE]
def Cg(e A :Env):Prop:=∀t∈[2,3,5,7,15,16,17],ad A t=ad e t
theorem KN(A:ai f134=[b,b2])(G:Env)(I:Bool)(k:Nat):Cg G (loE (ab b2) G I k):=by simp[ai,aG,f134] at A;obtain⟨-,A⟩:=A;subst A;simp[loE,Cg]
theorem qK(A:ai f134=[b,b2])(H:Env){s:XS}{I:Bool}{k:Nat}{S1 S2 S3:List UInt8}{t:Tr}{Y x2 y1 y2:List UInt8}{d:Bool}(R:s.mem=loM P T v S1 S2 S3 t++[.cells true 0 [.str Y,.str x2],.cells true 0 [.str y1,.str y2]])(hd:s.ae9=d)(h9:ad s.env 9=.bool I)(G:ad s.env 22=.int .i64 (k:Int)):
  ic [9,22] (ab b2) H 6 s=⟨loE (ab b2) H I k,loM P T v S1 S2 S3 t,d⟩:=by
 simp[ai,aG,f134] at A;obtain⟨-,A⟩:=A;subst A;unfold loM at R;simp[ic,R,h9,G,hd,loE,loM,ef,eW]
end
end Go.Proofs
namespace Go.Proofs
open Go.Eng
open Tryz
section
variable {P:List P2}{T:List Tr}{v:V3}{K:Nat}
theorem KO{b H:Code}(G:ai f134=[b,H]){env:Env}{M:Mem}{I:Bool}(d:Bool)(R:ad env 9=.bool I)(A:ad env 22=.int .i64 ((3:Nat):Int)):
  ∃Z,aM (aN prog) dy (af aj) K 83 2 true H ⟨env,M,d⟩=some (.exit 2,⟨Z,M,d⟩)∧ad Z 9=.bool I∧Cg env Z :=by
 simp[ai,aG,f134] at G;obtain⟨-,G⟩:=G;subst G;have X:((3:Nat):Int)=3:=rfl;rw[X] at A;simp[R,A,Cg]
theorem Gf{b G:Code}(H:ai f134=[b,G]){t:Tr}{A B C:P2}(hA:P[t.1]? =some A)(hB:P[t.2.1]? =some B)(hC:P[t.2.2]? =some C)(R:MF A B C (v.1,v.2.1))(hK:3<K)(S1 S2 S3:List UInt8):
  ∃F:Env→Bool→Env,∀Z d,(ad Z 2=.ptr 2 0∧ad Z 3=.ptr 3 0∧ad Z 5=.ptr 4 0∧ad Z 8=.ptr 5 0∧ad Z 9=.bool true∧ad Z 22=.int .i64 0)→
   aM (aN prog) dy (af aj) K 83 2 true (.loop G) ⟨Z,loM P T v S1 S2 S3 t,d⟩=some (.exit 2,⟨F Z d,loM P T v (ak (nV A B C (v.1,v.2.1)).1) (ak (nV A B C (v.1,v.2.1)).2.1) (ak (nV A B C (v.1,v.2.1)).2.2) t,d⟩)∧ad (F Z d) 9=.bool (decide (inQ (nV A B C (v.1,v.2.1))))∧Cg Z (F Z d):=by
 have u:dy G=[9,22]:=by simp[ai,aG,f134] at H;obtain⟨-,H⟩:=H;subst H;simp[dy]
 refine cD (L:=[9,22]) u (fun Z=>ad Z 2=.ptr 2 0∧ad Z 3=.ptr 3 0∧ad Z 5=.ptr 4 0∧ad Z 8=.ptr 5 0∧ad Z 9=.bool true∧ad Z 22=.int .i64 0) (fun Z D =>ad D 9=.bool (decide (inQ (nV A B C (v.1,v.2.1))))∧Cg Z D) ?_;rintro Z d ⟨h2,h3,h5,h8,h9,h22⟩;obtain⟨n,rfl⟩:∃n,K=n+4:=⟨K-4,by omega⟩
 obtain⟨o1,o2,o3⟩:=R;have z:=fun I k=>KP H Z I k
 simp only[h2,h3,h5,h8] at z;have e0:aD [9,22] (ab G) Z Z=loE (ab G) Z true 0:=by simp[aD,loE,h9,h22]
 rw[e0];have H':∀S1 S2 S3,(loM P T v S1 S2 S3 t).length=6:=fun _ _ _=>rfl
 rw[H'];obtain⟨V,S,O,J,X,W⟩:=z true 0;obtain⟨s1,e1,m1,d1,x1,y1⟩:=mT (K:=n+4) (T:=T) H (k:=0) (t:=t) (by decide) hB hC o1 (S1:=S1) (S2:=S2) (S3:=S3) d V S O J X W;have n1:=qK H Z (t:=t) (P:=P) (T:=T) (v:=v) (S1:=ak (bU B C (v.1,v.2.1))) (S2:=S2) (S3:=S3) m1 d1 x1 y1;have m :aM (aN prog) dy (af aj) (n+4) 83 2 true G ⟨loE (ab G) Z true 0,loM P T v S1 S2 S3 t,d⟩=some (.normal,s1):=e1;rw[er,m];simp only[n1];obtain⟨V,S,O,J,X,W⟩:=z (true&&decide (0≤jV (bU B C (v.1,v.2.1)))) 1;obtain⟨s2,e2,m2,d2,x2,y2⟩:=mT (K:=n+4) (T:=T) H (k:=1) (t:=t) (by decide) hC hA o2 (S1:=ak (bU B C (v.1,v.2.1))) (S2:=S2) (S3:=S3) d V S O J X W;have n2:=qK H Z (t:=t) (P:=P) (T:=T) (v:=v) (S1:=ak (bU B C (v.1,v.2.1))) (S2:=ak (bU C A (v.1,v.2.1))) (S3:=S3) m2 d2 x2 y2;have j :aM (aN prog) dy (af aj) (n+4) 83 2 true G ⟨loE (ab G) Z (true&&decide (0≤jV (bU B C (v.1,v.2.1)))) (0+1),loM P T v (ak (bU B C (v.1,v.2.1))) S2 S3 t,d⟩=some (.normal,s2):=e2;rw[er,j];simp only[n2];obtain⟨V,S,O,J,X,W⟩:=z ((true&&decide (0≤jV (bU B C (v.1,v.2.1))))&&decide (0≤jV (bU C A (v.1,v.2.1)))) 2;obtain⟨s3,e3,m3,d3,x3,y3⟩:=mT (K:=n+4) (T:=T) H (k:=2) (t:=t) (by decide) hA hB o3 (S1:=ak (bU B C (v.1,v.2.1))) (S2:=ak (bU C A (v.1,v.2.1))) (S3:=S3) d V S O J X W;have n3:=qK H Z (t:=t) (P:=P) (T:=T) (v:=v) (S1:=ak (bU B C (v.1,v.2.1))) (S2:=ak (bU C A (v.1,v.2.1))) (S3:=ak (bU A B (v.1,v.2.1))) m3 d3 x3 y3;have Y :aM (aN prog) dy (af aj) (n+4) 83 2 true G ⟨loE (ab G) Z ((true&&decide (0≤jV (bU B C (v.1,v.2.1))))&&decide (0≤jV (bU C A (v.1,v.2.1)))) (1+1),loM P T v (ak (bU B C (v.1,v.2.1))) (ak (bU C A (v.1,v.2.1))) S3 t,d⟩=some (.normal,s3):=e3;rw[er,Y];simp only[n3];obtain⟨V,S,O,J,X,W⟩:=z (((true&&decide (0≤jV (bU B C (v.1,v.2.1))))&&decide (0≤jV (bU C A (v.1,v.2.1))))&&decide (0≤jV (bU A B (v.1,v.2.1)))) 3;obtain⟨D,e4,x4,x5⟩:=KO (K:=n+4) H (M:=loM P T v (ak (bU B C (v.1,v.2.1))) (ak (bU C A (v.1,v.2.1))) (ak (bU A B (v.1,v.2.1))) t) d X W;have e4' :aM (aN prog) dy (af aj) (n+4) 83 2 true G ⟨loE (ab G) Z (((true&&decide (0≤jV (bU B C (v.1,v.2.1))))&&decide (0≤jV (bU C A (v.1,v.2.1))))&&decide (0≤jV (bU A B (v.1,v.2.1)))) (2+1),loM P T v (ak (bU B C (v.1,v.2.1))) (ak (bU C A (v.1,v.2.1))) (ak (bU A B (v.1,v.2.1))) t,d⟩=some (.exit 2,⟨D,loM P T v (ak (bU B C (v.1,v.2.1))) (ak (bU C A (v.1,v.2.1))) (ak (bU A B (v.1,v.2.1))) t,d⟩):=e4;rw[er,e4'];refine⟨D,rfl,?_,fun t ht=>(x5 t ht).trans (KN H Z _ _ t ht)⟩;rw[x4];congr 1;rw[Bool.eq_iff_iff];rw[decide_eq_true_iff];simp[inQ,nV,and_assoc]
end
variable{env:Env}
section
variable {P:List P2}{T:List Tr}{v:V3}{K:Nat}
def UH(wr:List Nat)(A:Env)(i:Nat):Env:=[(17,.int .i64 (i:Int))]++((wr.filter fun t=> ![17].contains t).map fun t=>(t,AV.undef))++A
def zW(P:List P2)(T:List Tr)(v:V3)(S:List UInt8×List UInt8×List UInt8):Mem:=[.cells false 2 (pC P),.cells false 3 (tC T),.cells true 0 [.slice 0 0 P.length none,.slice 1 0 T.length none],.cells true 0 [.str (ak v.1),.str (ak v.2.1),.str (ak v.2.2)],.cells true 0 [.str S.1,.str S.2.1,.str S.2.2]]
def wS(w:V3):List UInt8×List UInt8×List UInt8:=(ak w.1,ak w.2.1,ak w.2.2)
def vW(T:List Tr)(env:Env):Prop:=ad env 2=.ptr 2 0∧ad env 3=.ptr 3 0∧ad env 5=.ptr 4 0∧ad env 15=.slice 1 0 T.length none∧ad env 16=.int .i64 T.length
theorem vt{b H:Code}(A:ai f134=[b,H])(G:Env)(i:Nat)(h:vW T G):vW T (UH (ab b) G i)∧ad (UH (ab b) G i) 17=.int .i64 (i:Int):=by simp[ai,aG,f134] at A;obtain⟨A,-⟩:=A;subst A;simpa [UH,vW] using h
theorem qL{b b2:Code}(G:ai f134=[b,b2]){i:Nat}{t:Tr}(hi:T[i]? =some t){A B C:P2}(hA:P[t.1]? =some A)(hB:P[t.2.1]? =some B)(hC:P[t.2.2]? =some C)(I:MF A B C (v.1,v.2.1))(hT:T.length≤1000)(hK:3<K)(S:List UInt8×List UInt8×List UInt8)(h:vW T env)(H:ad env 17=.int .i64 (i:Int))(d:Bool):
  (¬inQ (nV A B C (v.1,v.2.1))→∃z,aM (aN prog) dy (af aj) K 83 2 true b ⟨env,zW P T v S,d⟩=some (.normal,z)∧(∃x,z.mem=zW P T v (wS (nV A B C (v.1,v.2.1)))++[x])∧z.ae9=d∧ad z.env 17=.int .i64 ((i+1:Nat):Int))∧
  (inQ (nV A B C (v.1,v.2.1))→∃u x,aM (aN prog) dy (af aj) K 83 2 true b ⟨env,zW P T v S,d⟩=some (.ret,⟨u,zW P T v (wS (nV A B C (v.1,v.2.1)))++[x],d⟩)∧ad u 4=.int .i64 (i:Int)∧ad u 5=.ptr 4 0∧ad u 6=.bool true):=by
 obtain⟨h2,h3,h5,O,M⟩:=h;have J:=gL hi;obtain⟨p1,p2⟩:=Ph hi;obtain⟨F,m⟩:=Gf (T:=T) G hA hB hC I hK S.1 S.2.1 S.2.2;have V:=fun X d h=>(m X d h).1
 have j:=fun X d h=>(m X d h).2.1
 have Z:=fun X d h=>(m X d h).2.2
 unfold Cg at Z;simp only[List.forall_mem_cons,List.not_mem_nil,false_implies,implies_true,and_true] at Z;have G2:=fun X d h=>(Z X d h).1
 have G3:=fun X d h=>(Z X d h).2.1
 have G5:=fun X d h=>(Z X d h).2.2.1
 have G7:=fun X d h=>(Z X d h).2.2.2.1
 have G15:=fun X d h=>(Z X d h).2.2.2.2.1
 have G16:=fun X d h=>(Z X d h).2.2.2.2.2.1
 have Y:=fun X d h=>(Z X d h).2.2.2.2.2.2
 clear m Z;obtain⟨D,R⟩:∃D,aC f134=D :=⟨_,rfl⟩
 have Z4 :=be R qJ;simp only[aC,bn,f134,lA] at R;subst R;simp only[lB] at Z4;obtain⟨-,-,-,hb3,-⟩:=Z4;simp[ai,aG,f134] at G;obtain⟨G,hb2⟩:=G;rw[←hb2] at V;subst G;have wi:IntKind.i64.wrap ((i:Int)+1)=((i+1:Nat):Int):=by rw[aq];omega
 obtain⟨m1,hm1⟩:=xE (i+1);rw[←hm1] at wi ⊢;obtain⟨w,hw⟩:=xE (nV A B C (v.1,v.2.1));rw[←hw] at V j ⊢;unfold loM at V;unfold zW wS;simp only at V j ⊢;constructor
 ·intro hn
  have W :decide (inQ w)=false:=decide_eq_false hn;simp[-getElem?_pos,-AV.aeS,-AV.known,-AV.cells,-bL,-List.all_eq_true,vS,mS,h2,h3,h5,O,M,H,J,p1,p2,V,j,Y,W,wi]
 ·intro hn
  have W :decide (inQ w)=true:=decide_eq_true hn;simp[-getElem?_pos,-AV.aeS,-AV.known,-AV.cells,-bL,-List.all_eq_true,vS,rS,mS,h2,h3,h5,O,M,H,J,p1,p2,V,j,G5,G7,W,-bl,-aW,-aB,-AV.aeR,-aeY.aeR,aF hb3,bX,bK,dH,cj,bR,gd,bef,Nat.testBit]
theorem vu{b R:Code}(A:ai f134=[b,R])(H:Env){s:XS}{k:Nat}{S:List UInt8×List UInt8×List UInt8}{x:aeY}{d:Bool}(I:s.mem=zW P T v S++[x])(Y:s.ae9=d)(G:ad s.env 17=.int .i64 (k:Int)):
  ic [17] (ab b) H 5 s=⟨UH (ab b) H k,zW P T v S,d⟩:=by
 simp[ai,aG,f134] at A;obtain⟨A,-⟩:=A;subst A;unfold zW at I;simp[ic,I,G,Y,UH,zW,ef,eW]
theorem N7{b H:Code}(A:ai f134=[b,H]){M:Mem}(h:vW T env)(G:ad env 17=.int .i64 (T.length:Int))(d:Bool):
  ∃X,aM (aN prog) dy (af aj) K 83 2 true b ⟨env,M,d⟩=some (.exit 0,⟨X,M,d⟩)∧ad X 5=.ptr 4 0:=by
 obtain⟨S,h3,W,V,Z⟩:=h;simp[ai,aG,f134] at A;obtain⟨A,-⟩:=A;subst A;simp[Z,G,W]
end
end Go.Proofs
namespace Go.Proofs
open Go.Eng
open Tryz
def uT(P:List P2)(q:P2)(t:Tr):V3:=nV (P.getD t.1 (0,0)) (P.getD t.2.1 (0,0)) (P.getD t.2.2 (0,0)) q
def MO(P:List P2)(q:P2):List Tr→Nat→Option (Nat×V3)
 | [],_=>none
 |t::l,i=>if inQ (uT P q t) then some (i,uT P q t) else MO P q l (i+1)
theorem nK{P:List P2}{q:P2}:∀{T:List Tr} {k j:Nat} {w:V3},MO P q T k=some (j,w)→∃i t,j=k+i∧T[i]? =some t∧inQ (uT P q t)∧w=uT P q t∧∀(l:Nat) s,l<i→T[l]? =some s→¬inQ (uT P q s)
 | [],k,j,w,h=>by simp[MO] at h
 |t::l,k,j,w,h=>by
  rw[MO] at h;split at h
  ·rename_i Z
   simp only[Option.some.injEq,Prod.mk.injEq] at h;exact⟨0,t,by omega,rfl,Z,h.2.symm,fun l s O=>by omega⟩
  ·rename_i Z
   obtain⟨i,s,M,W,h3,V,S⟩:=nK h;refine⟨i+1,s,by omega,by simpa using W,h3,V,fun m x K X=>?_⟩;cases m with
   |zero=>simp at X;subst X;exact Z
   |succ m=>exact S m x (by omega) (by simpa using X)
theorem L6{P:List P2}{q:P2}:∀{T:List Tr} {k:Nat},MO P q T k=none→∀(l:Nat) s,T[l]? =some s→¬inQ (uT P q s)
 | [],k,h,l,s,hs=>by simp at hs
 |t::r,k,h,l,s,hs=>by
  rw[MO] at h;split at h
  ·cases h
  ·rename_i Z
   cases l with
   |zero=>simp at hs;subst hs;exact Z
   |succ m=>exact L6 h m s (by simpa using hs)
variable{j:Nat}{t:Tr}
section
variable {P:List P2}{T:List Tr}{v:V3}{K:Nat}
section
variable (H:ahd P T (v.1,v.2.1))
include H
theorem ahd.at{i:Nat}(h:T[i]? =some t):∃A B C,P[t.1]? =some A∧P[t.2.1]? =some B∧P[t.2.2]? =some C∧MF A B C (v.1,v.2.1)∧uT P (v.1,v.2.1) t=nV A B C (v.1,v.2.1):=by obtain⟨A,B,C,Z,X,h3,W⟩:=H.tri i t h;exact⟨A,B,C,Z,X,h3,W,by unfold uT;simp[List.getD,Z,X,h3]⟩
theorem Ge{b b2:Code}(G:ai f134=[b,b2])(R:T[j]? =some t)(I:inQ (uT P (v.1,v.2.1) t))(Y:∀(l:Nat) s,l<j→T[l]? =some s→¬inQ (uT P (v.1,v.2.1) s))(hK:j+4<K)(S:List UInt8×List UInt8×List UInt8):
  ∃F:Env→Bool→Env×Mem×aeY,∀Z d,(vW T Z∧ad Z 17=.int .i64 0)→
   aM (aN prog) dy (af aj) K 83 2 true (.loop b) ⟨Z,zW P T v S,d⟩=some (.ret,⟨(F Z d).1,(F Z d).2.1,d⟩)∧(F Z d).2.1=zW P T v (wS (uT P (v.1,v.2.1) t))++[(F Z d).2.2]∧ad (F Z d).1 4=.int .i64 (j:Int)∧ad (F Z d).1 5=.ptr 4 0∧ad (F Z d).1 6=.bool true:=by
 have O:dy b=[17]:=by simp[ai,aG,f134] at G;obtain⟨G,-⟩:=G;subst G;simp[dy]
 refine kV O (fun Z=>vW T Z∧ad Z 17=.int .i64 0) (fun _ W X x=>X =zW P T v (wS (uT P (v.1,v.2.1) t))++[x]∧ad W 4=.int .i64 (j:Int)∧ad W 5=.ptr 4 0∧ad W 6=.bool true) ?_;rintro Z d ⟨hp,h17⟩;have e0:aD [17] (ab b) Z Z=UH (ab b) Z 0:=by simp[aD,UH,h17]
 rw[e0];have H':(zW P T v S).length=5:=rfl;rw[H'];refine kG (α:=Nat×(List UInt8×List UInt8×List UInt8)) (fun a=>⟨UH (ab b) Z a.1,zW P T v a.2,d⟩) (fun a=>j-a.1) (fun a=>a.1≤j) .ret d (fun W X =>∃x,X =zW P T v (wS (uT P (v.1,v.2.1) t))++[x]∧ad W 4=.int .i64 (j:Int)∧ad W 5=.ptr 4 0∧ad W 6=.bool true) (by simp) ?_ K (0,S) (by simp) (by simp;omega);rintro ⟨i,S⟩ hi;simp only at hi ⊢;obtain⟨q1,q2⟩:=vt G Z i hp;by_cases M:i=j
 ·right
  subst M;obtain⟨A,B,C,J,D,z,V,e⟩:=H.at R;rw[e] at I ⊢;obtain⟨W,x,u,m,h3,h4⟩:=(qL (K:=K) G R J D z V H.hl.2 (by omega) S q1 q2 d).2 I;exact⟨W,_,u,x,rfl,m,h3,h4⟩
 ·left
  obtain⟨s,hs⟩:∃s,T[i]? =some s:=⟨_,List.getElem?_eq_getElem (by have:=gL R;omega)⟩
  obtain⟨A,B,C,J,D,z,V,e⟩:=H.at hs;have hn:=Y i s (by omega) hs;rw[e] at hn;obtain⟨s',u,⟨x,m⟩,h3,h4⟩:=(qL (K:=K) G hs J D z V H.hl.2 (by omega) S q1 q2 d).1 hn;exact⟨(i+1,wS (nV A B C (v.1,v.2.1))),s',u,vu G Z m h3 h4,by omega,by simp only;omega⟩
theorem KQ{b b2:Code}(G:ai f134=[b,b2])(I:∀(l:Nat) s,T[l]? =some s→¬inQ (uT P (v.1,v.2.1) s))(hK:T.length+4<K)(S:List UInt8×List UInt8×List UInt8):
  ∃F:Env→Bool→Env×Mem×(List UInt8×List UInt8×List UInt8),∀Z d,(vW T Z∧ad Z 17=.int .i64 0)→
   aM (aN prog) dy (af aj) K 83 2 true (.loop b) ⟨Z,zW P T v S,d⟩=some (.exit 0,⟨(F Z d).1,(F Z d).2.1,d⟩)∧(F Z d).2.1=zW P T v (F Z d).2.2∧ad (F Z d).1 5=.ptr 4 0:=by
 have V:dy b=[17]:=by simp[ai,aG,f134] at G;obtain⟨G,-⟩:=G;subst G;simp[dy]
 refine kV V (fun Z=>vW T Z∧ad Z 17=.int .i64 0) (fun _ W X x=>X =zW P T v x∧ad W 5=.ptr 4 0) ?_;rintro Z d ⟨hp,h17⟩;have e0:aD [17] (ab b) Z Z=UH (ab b) Z 0:=by simp[aD,UH,h17]
 rw[e0];have H':(zW P T v S).length=5:=rfl;rw[H'];refine kG (α:=Nat×(List UInt8×List UInt8×List UInt8)) (fun a=>⟨UH (ab b) Z a.1,zW P T v a.2,d⟩) (fun a=>T.length-a.1) (fun a=>a.1≤T.length) (.exit 0) d (fun W X =>∃x,X =zW P T v x∧ad W 5=.ptr 4 0) (by simp) ?_ K (0,S) (by simp) (by simp;omega);rintro ⟨i,S⟩ hi;simp only at hi ⊢;obtain⟨m,Y⟩:=vt G Z i hp;by_cases O:i=T.length
 ·right
  subst O;obtain⟨W,J,D⟩:=N7 (K:=K) G (M:=zW P T v S) m Y d;exact⟨W,_,J,S,rfl,D⟩
 ·left
  obtain⟨s,z⟩:∃s,T[i]? =some s:=⟨_,List.getElem?_eq_getElem (by omega)⟩
  obtain⟨A,B,C,hA,hB,hC,u,e⟩:=H.at z;have R:=I i s z;rw[e] at R;obtain⟨s',J,⟨x,D⟩,h3,h4⟩:=(qL (K:=K) G z hA hB hC u H.hl.2 (by omega) S m Y d).1 R;exact⟨(i+1,wS (nV A B C (v.1,v.2.1))),s',J,vu G Z D h3 h4,by omega,by simp only;omega⟩
theorem QD{w:V3}(h:MO P (v.1,v.2.1) T 0=some (j,w)):
  kO prog 134 [.agg [.slice 0 0 P.length none,.slice 1 0 T.length none],vA v] [.cells false 2 (pC P),.cells false 3 (tC T)] (.tuple [.int .i64 (j:Int),vA w,.bool true]) [.cells false 2 (pC P),.cells false 3 (tC T)]:=by
 have u:aK prog 134=some f134:=by kernel_rfl
 obtain⟨i,t,m,B,M,rfl,J⟩:=nK h;obtain rfl:i=j:=by omega
 have hl:=H.hl;have Y:=gL B;obtain⟨b,z,D⟩:∃b z,ai f134=[b,z]:=⟨_,_,rfl⟩
 obtain⟨F,X⟩:=Ge (K:=2000) H D B M J (by omega) ([],[],[]);have C:=fun Z d h=>(X Z d h).1
 have O:=fun Z d h=>(X Z d h).2.1
 have W:=fun Z d h=>(X Z d h).2.2.1
 have V:=fun Z d h=>(X Z d h).2.2.2.1
 have S:=fun Z d h=>(X Z d h).2.2.2.2
 clear X;simp[ai,aG,f134] at D;obtain⟨rfl,rfl⟩:=D;obtain⟨w,R⟩:=xE (uT P (v.1,v.2.1) t);rw[←R] at O ⊢;unfold zW vW at C;unfold zW vW wS at O;unfold vW at W V S;simp only at C O;have I:∃r,aa (aN prog) dy (aK prog) (af aj) 2000 134 [.agg [.slice 0 0 P.length none,.slice 1 0 T.length none],vA v] [.cells false 2 (pC P),.cells false 3 (tC T)]=some r∧r.v=.tuple [.int .i64 (i:Int),vA w,.bool true]∧r.mem [.cells false 2 (pC P),.cells false 3 (tC T)]=[.cells false 2 (pC P),.cells false 3 (tC T)]:=by simp[-AV.aeS,-AV.known,-AV.cells,-List.all_eq_true,vS,aa,u,f134,vA,C,O,W,V,S];done
 obtain⟨r,G,A,h3⟩:=I;have:=(ah ae (ar _) bj (au _) G).1
 rwa [A,h3] at this
theorem QC(h:MO P (v.1,v.2.1) T 0=none):
  ∃Z X W:List UInt8,kO prog 134 [.agg [.slice 0 0 P.length none,.slice 1 0 T.length none],vA v] [.cells false 2 (pC P),.cells false 3 (tC T)] (.tuple [.int .i64 0,.agg [.str Z,.str X,.str W],.bool false]) [.cells false 2 (pC P),.cells false 3 (tC T)]:=by
 have Y:aK prog 134=some f134:=by kernel_rfl
 have A:=H.hl;obtain⟨V,J⟩:∃V,aC f134=V :=⟨_,rfl⟩
 have u :=be J qJ;simp only[aC,bn,f134,lA] at J;subst J;simp only[lB] at u;obtain⟨-,-,-,-,D⟩:=u;obtain⟨b,m,C⟩:∃b m,ai f134=[b,m]:=⟨_,_,rfl⟩
 obtain⟨F,M⟩:=KQ (K:=2000) H C (L6 h) (by omega) ([],[],[]);have B:=fun S d h=>(M S d h).1
 have z:=fun S d h=>(M S d h).2.1
 have O:=fun S d h=>(M S d h).2.2
 clear M;simp[ai,aG,f134] at C;obtain⟨rfl,rfl⟩:=C;unfold zW vW at B z;unfold vW at O;simp only at B z;have R:∃r,aa (aN prog) dy (aK prog) (af aj) 2000 134 [.agg [.slice 0 0 P.length none,.slice 1 0 T.length none],vA v] [.cells false 2 (pC P),.cells false 3 (tC T)]=some r∧(∃Z X W,r.v=.tuple [.int .i64 0,.agg [.str Z,.str X,.str W],.bool false])∧r.mem [.cells false 2 (pC P),.cells false 3 (tC T)]=[.cells false 2 (pC P),.cells false 3 (tC T)]:=by simp[-AV.aeS,-AV.known,-AV.cells,-List.all_eq_true,vS,aa,Y,f134,vA,B,z,O,-aB,aF D,bX,ib,dH,cj,bR,gd,bef,Nat.testBit];done
 obtain⟨r,I,⟨Z,X,W,G⟩,h3⟩:=R;have:=(ah ae (ar _) bj (au _) I).1;rw[G,h3] at this;exact⟨Z,X,W,this⟩
end
end
end Go.Proofs
namespace Go.Proofs
open Go.Eng
open Tryz
theorem cdQ{lv:Code→List Nat}{O:aeT}(A:HS prog O){K:Nat}{f:FuncId}{args:List AV}{mem:Mem}{v:AV}(h:aa (aN prog) lv (aK prog) O K f args mem=some ⟨v,none,[]⟩):kO prog f args mem v mem:=by have:=(ah ae (ar _) A (au _) h).1;simpa [aeQ.mem] using this
def PI(w:V3)(a b c:Rat):Rat:=(w.1*a+w.2.1*b+w.2.2*c) / (w.1+w.2.1+w.2.2)
def Ye(w:V3)(a b c:Rat):Prop:=(aeZ w.1∧aeZ w.2.1∧aeZ w.2.2)∧(aeZ a∧aeZ b∧aeZ c)∧(aeZ (w.1+w.2.1)∧aeZ (w.1+w.2.1+w.2.2)∧w.1+w.2.1+w.2.2≠0)∧(aeZ (w.1*a)∧aeZ (w.2.1*b)∧aeZ (w.2.2*c))∧aeZ (w.1*a+w.2.1*b)∧aeZ (w.1*a+w.2.1*b+w.2.2*c)
variable{pv:AV}{w:V3}
theorem HV{N:Mem}{a3 a7 a8 tb fb H n i:Nat}{o3 o7 o8 ot of:Bool}{T:List Tr}{t:Tr}{L:List Rat}{a b c:Rat}(h3:N[a3]? =some (.cells o3 0 [pv,.slice tb 0 H none]))(I:N[tb]? =some (.cells ot 3 (tC T)))(A:H=T.length)(R:N[a7]? =some (.cells o7 0 [.int .i64 (i:Int)]))(Y:N[a8]? =some (.cells o8 0 (vL w)))(hf:N[fb]? =some (.cells of 1 (stC (L.map ak))))(hn:n=L.length)(hi:T[i]? =some t)(ha:L[t.1]? =some a)(hb:L[t.2.1]? =some b)(hc:L[t.2.2]? =some c)(G:Ye w a b c):
  kO prog 135 [.slice fb 0 n none,.ptr a3 0,.ptr a7 0,.ptr a8 0] N (.str (ak (PI w a b c))) N:=by
 have C:aK prog 135=some f135:=by kernel_rfl
 subst hn A;have Z:=gL hi;obtain⟨B,z⟩:=Ph hi;have u:(stC (L.map ak))[t.1]? =some (.str (ak a)):=rP (by simp[ha]);have m:(stC (L.map ak))[t.2.1]? =some (.str (ak b)):=rP (by simp[hb]);have j:(stC (L.map ak))[t.2.2]? =some (.str (ak c)):=rP (by simp[hc]);have l1:=gL ha;have l2:=gL hb;have l3:=gL hc;obtain⟨⟨u1,u2,u3⟩,⟨u4,u5,u6⟩,⟨u7,u8,u9⟩,⟨X,W,V⟩,S,O⟩:=G;have z0:dC [48]=some 0:=by
  have:([48]:List UInt8)=ak 0:=by decide
  rw[this];exact ao 0
 have f0:(aR 0).length≤9∧(aR 1).length≤9:=⟨by decide,by decide⟩;obtain⟨t1,t2,t3⟩:=t;obtain⟨w1,w2,w3⟩:=w;unfold PI;simp only[vL] at*;unfold aeZ at*;obtain⟨f0,M⟩:=f0;obtain⟨D,J⟩:∃D,aC f135=[D]:=⟨_,rfl⟩
 have F:=iY J (l:=[0,0,2,6,15,0,0,64,192,0,0,1536,3584,8159,16383,32767,65535]) (by kernel_rfl);simp[aC,bn,f135] at J;subst J;have g3:=gL h3;have g7:=gL R;have g8:=gL Y;have gt:=gL I;have gf:=gL hf;have q1:IntKind.i64.wrap 1=1:=rfl;have q2:IntKind.i64.wrap 2=2:=rfl;have q3:IntKind.i64.wrap 3=3:=rfl;refine cdQ bj (lv:=fun _=>[6,7,15]) (K:=6) ?_;simp (maxSteps:=1000000) [-getElem?_pos,-AV.aeS,-AV.known,-AV.cells,-bL,-List.all_eq_true,rS,mS,aa,C,f135,aQ,er,af,aj,az,ao,z0,f0,M,Rat.zero_add,h3,I,R,Y,hf,Z,B,z,u,m,j,l1,l2,l3,q1,q2,q3,g8,gf,u1,u2,u3,u4,u5,u6,u7,u8,u9,X,W,V,S,O,-bl,-aW,-aB,-AV.aeR,-aeY.aeR,aF F,bX,bK,dH,cj,bR,gd,bef,Nat.testBit]
def DD(z:Rat):List Rat→Nat
 | []=>0
 |h::l=>if h≤z then DD z l+1 else 0
theorem OC(z:Rat):∀l,DD z l≤l.length
 | []=>Nat.le_refl 0
 |h::l=>by
  rw[DD];split
  ·have:=OC z l;simp;omega
  ·omega
theorem Ua{z:Rat}:∀{l:List Rat} {i:Nat} {h:Rat},i<DD z l→l[i]? =some h→h≤z
 | [],i,h,hi,_=>by simp[DD] at hi
 |a::l,i,h,hi,hl=>by
  rw[DD] at hi;split at hi
  ·rename_i Z
   cases i with
   |zero=>simp at hl;subst hl;exact Z
   |succ i=>exact Ua (l:=l) (i:=i) (by omega) (by simpa using hl)
  ·omega
theorem T9{z:Rat}:∀{l:List Rat} {h:Rat},l[DD z l]? =some h→¬h≤z
 | [],h,hl=>by simp at hl
 |a::l,h,hl=>by
  rw[DD] at hl;split at hl
  ·exact T9 (l:=l) (by simpa using hl)
  ·rename_i Z
   simp at hl;subst hl;exact Z
section
variable {O:aeT}{N:Mem}{K d4 d5 sb:Nat}{o4 o5:Bool}{bv uv sv:AV}{p:V3}{hs:List Rat}{vs caps:List AV}
theorem Iq(H:N[d4]? =some (.cells o4 0 [bv,uv,sv]))(I:N[d5]? =some (.cells o5 0 (vL p)))(A:(sv=.y9∧hs=[])∨∃o,sv=.slice sb 0 hs.length none∧N[sb]? =some (.cells o 1 vs))(hl:vs.length=hs.length)(h2:hs.length≤1000)(Y:∀(i:Nat) h,hs[i]? =some h→∃x,vs[i]? =some x∧x.aeS=true∧x.cells=[x]∧(∀f,AV.aeR f x=true∨True)∧O (.fn 135) (x::caps) N=some ⟨.str (ak h),none,[]⟩∧O (.fn 85) [.str (ak h),.str (ak p.2.2)] N=some ⟨.int .i64 (jQ h p.2.2),none,[]⟩)(hK:hs.length+1<K){b:Code}(R:ai f84=[b]){m0:Nat}(hm:∀x∈vs,x.aeR (fun b=>decide (b<N.length))=true)(G:AV.aeR (fun b=>decide (b<N.length)) (.func 135 caps)=true):
  ∃F:Env→Bool→Env,∀Z d,(ad Z 4=.ptr d4 0∧ad Z 5=.ptr d5 0∧ad Z 10=.func 135 caps∧ad Z 11=.int .i64 0)→
   aM (aN prog) (fun _=>[11]) O K 51 m0 true (.loop b) ⟨Z,N,d⟩=some (.exit 0,⟨F Z d,N,d⟩)∧ad (F Z d) 11=.int .i64 (DD p.2.2 hs:Int):=by
 refine cD rfl (fun Z=>ad Z 4=.ptr d4 0∧ad Z 5=.ptr d5 0∧ad Z 10=.func 135 caps∧ad Z 11=.int .i64 0) (fun _ AC =>ad AC 11=.int .i64 (DD p.2.2 hs:Int)) ?_;rintro Z d ⟨l4,l5,l10,l11⟩;obtain⟨V,J⟩:∃V,aC f84=V :=⟨_,rfl⟩
 have Z4 :=be J (ls:=[[0,1,0,0,8,28,63,127],[0,0,2,6,15,31,63,63,191,63,959,1983,4095,63,8255,32767,65535,131071]]) (by kernel_rfl);simp only[aC,bn,f84,lA] at J;subst J;simp only[lB] at Z4;obtain⟨-,X⟩:=Z4;simp[ai,aG,f84] at R;have e0:aD [11] (ab b) Z ((11,.int .i64 ((0:Nat):Int))::Z)=aD [11] (ab b) Z Z:=by simp[aD,l11]
 rw[←e0];have D:=gL H;have g5:=gL I;have C:∀N,DB (aN prog) 67 N sv=some (.int .i64 hs.length):=fun N=>by rcases A with⟨rfl,rfl⟩ | ⟨o,rfl,_⟩<;>simp
 have hle:=OC p.2.2 hs;simp only[vL] at I;refine dh (α:=Nat) (fun i=>⟨aD [11] (ab b) Z ((11,.int .i64 (i:Int))::Z),N,d⟩) (fun i=>DD p.2.2 hs-i) (fun i=>i≤DD p.2.2 hs) (.exit 0) N d _ (by simp) ?_ K 0 (by omega) (by omega);intro i hi;clear e0;subst R;by_cases S:i<hs.length
 ·obtain⟨h,B⟩:∃h,hs[i]? =some h:=⟨_,List.getElem?_eq_getElem S⟩
  obtain⟨x,M,x2,x3,-,x5,x6⟩:=Y i h B;have x7:=hm x (List.mem_of_getElem? M);rcases A with⟨rfl,rfl⟩ | ⟨o,rfl,W⟩
  ·simp at S
  have gs:=gL W;have lv:=gL M;have w1:IntKind.i64.wrap ((i:Int)+1)=((i+1:Nat):Int):=by rw[aq];omega
  obtain⟨m,z⟩:=xE (i+1);rw[←z] at w1;by_cases hc:i=DD p.2.2 hs
  ·right
   subst hc;have u:¬jQ h p.2.2≤0:=fun e=>T9 B (oI.1 e)
   simp[-getElem?_pos,-AV.aeS,-AV.known,-AV.cells,-bL,-List.all_eq_true,-DB,rS,mS,l4,l5,l10,S,H,I,W,C,M,x5,x6,x7,G,D,g5,gs,u,-bl,-aW,-aB,-AV.aeR,-aeY.aeR,aF X,bX,bK,dH,cj,bR,gd,bef,Nat.testBit]
  ·left
   have u:jQ h p.2.2≤0:=oI.2 (Ua (l:=hs) (by omega) B);refine⟨m,?_⟩;simp[-getElem?_pos,-AV.aeS,-AV.known,-AV.cells,-bL,-List.all_eq_true,-DB,rS,mS,l4,l5,l10,S,H,I,W,C,M,x5,x6,x7,G,D,g5,gs,u,w1,-bl,-aW,-aB,-AV.aeR,-aeY.aeR,aF X,bX,bK,dH,cj,bR,gd,bef,Nat.testBit];omega
 ·right
  have hc:i=hs.length:=by omega
  have j:DD p.2.2 hs=hs.length:=by omega
  rw[j,←hc];have aae :¬(i:Int)<hs.length:=by omega
  have hsr:sv.aeR (fun b=>decide (b<N.length))=true:=by
   rcases A with⟨rfl,_⟩ | ⟨o,rfl,R⟩
   ·rfl
   ·simp only[AV.aeR,decide_eq_true_eq];exact(gL R)
  simp[-getElem?_pos,-AV.aeS,-AV.known,-AV.cells,-bL,-List.all_eq_true,-DB,rS,mS,l4,l5,l10,H,C,D,hsr,aae,-bl,-aW,-aB,-AV.aeR,-aeY.aeR,aF X,bX,bK,dH,cj,bR,gd,bef,Nat.testBit]
theorem NA{M:Mem}{tv:AV}{h0:Rat}{j:Nat}(ck:pv.aeS=true∧tv.aeS=true∧bv.aeS=true∧uv.aeS=true∧sv.aeS=true)(kn:pv.known=true∧tv.known=true∧bv.known=true∧uv.known=true∧sv.known=true)(cs:pv.cells=[pv]∧tv.cells=[tv]∧bv.cells=[bv]∧uv.cells=[uv]∧sv.cells=[sv])(A:∀x,pv.aeR (fun b=>decide (b<M.length+x))=true∧tv.aeR (fun b=>decide (b<M.length+x))=true∧bv.aeR (fun b=>decide (b<M.length+x))=true∧uv.aeR (fun b=>decide (b<M.length+x))=true∧sv.aeR (fun b=>decide (b<M.length+x))=true)(H:(sv=.y9∧hs=[])∨∃o,sv=.slice sb 0 hs.length none∧M[sb]? =some (.cells o 1 vs))(hl:vs.length=hs.length)(h2:hs.length≤1000)(I:∀x∈vs,x.aeR (fun b=>decide (b<M.length))=true)(R:O (.fn 134) [.agg [pv,tv],vA p] (M++[.cells true 0 [pv,tv],.cells true 0 [bv,uv,sv],.cells true 0 (vL p)])=some ⟨.tuple [.int .i64 (j:Int),vA w,.bool true],none,[]⟩)(Y:O (.fn 135) [bv,.ptr M.length 0,.ptr (M.length+3) 0,.ptr (M.length+4) 0] (M++[.cells true 0 [pv,tv],.cells true 0 [bv,uv,sv],.cells true 0 (vL p),.cells true 0 [.int .i64 (j:Int)],.cells true 0 (vL w)])=some ⟨.str (ak h0),none,[]⟩)(eC:O (.fn 85) [.str (ak p.2.2),.str (ak h0)] (M++[.cells true 0 [pv,tv],.cells true 0 [bv,uv,sv],.cells true 0 (vL p),.cells true 0 [.int .i64 (j:Int)],.cells true 0 (vL w)])=some ⟨.int .i64 (jQ p.2.2 h0),none,[]⟩)(G:∀(i:Nat) h,hs[i]? =some h→∃x,vs[i]? =some x∧x.aeS=true∧x.cells=[x]∧(∀f,AV.aeR f x=true∨True)∧O (.fn 135) [x,.ptr M.length 0,.ptr (M.length+3) 0,.ptr (M.length+4) 0] (M++[.cells true 0 [pv,tv],.cells true 0 [bv,uv,sv],.cells true 0 (vL p),.cells true 0 [.int .i64 (j:Int)],.cells true 0 (vL w)])=some ⟨.str (ak h),none,[]⟩∧O (.fn 85) [.str (ak h),.str (ak p.2.2)] (M++[.cells true 0 [pv,tv],.cells true 0 [bv,uv,sv],.cells true 0 (vL p),.cells true 0 [.int .i64 (j:Int)],.cells true 0 (vL w)])=some ⟨.int .i64 (jQ h p.2.2),none,[]⟩):
  aa (aN prog) (fun _=>[11]) (aK prog) O 1100 84 [.agg [pv,tv],.agg [bv,uv,sv],vA p] M=some ⟨.int .i64 (if p.2.2<h0 then -1 else (DD p.2.2 hs:Int)),none,[]⟩:=by
 have u:aK prog 84=some f84:=by kernel_rfl
 obtain⟨N,Z⟩:=xE (α:=Mem) (M++[.cells true 0 [pv,tv],.cells true 0 [bv,uv,sv],.cells true 0 (vL p),.cells true 0 [.int .i64 (j:Int)],.cells true 0 (vL w)]);obtain⟨b,D⟩:∃b,ai f84=[b]:=⟨_,rfl⟩
 have W:N.length=M.length+5:=by rw[Z];simp
 obtain⟨F,C⟩:=Iq (O:=O) (N:=N) (K:=1100) (m0:=M.length) (d4:=M.length+1) (d5:=M.length+2) (o4:=true) (o5:=true) (bv:=bv) (uv:=uv) (sv:=sv) (p:=p) (hs:=hs) (vs:=vs) (sb:=sb) (caps:=[.ptr M.length 0,.ptr (M.length+3) 0,.ptr (M.length+4) 0]) (by rw[Z,fV];rfl) (by rw[Z,fV];rfl) (by
  rcases H with h | ⟨o,h,m⟩
  ·exact .inl h
  ·exact .inr ⟨o,h,by rw[Z,List.getElem?_append_left (gL m)];exact m⟩) hl h2 (by rw[Z];exact G) (by omega) D (fun x hx=>AV.ae2 (fun k hk=>by simp only[decide_eq_true_eq] at hk ⊢;omega) x (I x hx)) (by simp[AV.aeR,AV.aeW,W])
 have J':=fun B d h=>(C B d h).1
 have Z5:=fun B d h=>(C B d h).2
 clear C;obtain⟨V,z⟩:∃V,aC f84=V :=⟨_,rfl⟩
 have Z4 :=be z (ls:=[[0,1,0,0,8,28,63,127],[0,0,2,6,15,31,63,63,191,63,959,1983,4095,63,8255,32767,65535,131071]]) (by kernel_rfl);simp only[aC,bn,f84,lA] at z;subst z;simp only[lB] at Z4;obtain⟨Z9,-⟩:=Z4;simp[ai,aG,f84] at D;subst D;rw[Z] at J';have w1:IntKind.i64.wrap (-1)= -1:=rfl;have w2:IntKind.i64.wrap (-2)= -2:=rfl;have S:∀j,(M.length+j<M.length)=False:=fun j=>oH _ _
 obtain⟨c1,c2,c3,c4,c5⟩:=ck;obtain⟨k1,k2,k3,k4,k5⟩:=kn;obtain⟨e1,e2,e3,e4,e5⟩:=cs;have rp:=fun x=>(A x).1
 have rt:=fun x=>(A x).2.1
 have rb:=fun x=>(A x).2.2.1
 have ru:=fun x=>(A x).2.2.2.1
 have rs:=fun x=>(A x).2.2.2.2
 unfold vA at*;simp only[vL] at*;clear G I A Z W;have rF:∀(f:Nat→Bool) (g:FuncId) (l:List AV),AV.aeR f (.func g l)=AV.aeW f l:=fun _ _ _=>rfl
 by_cases J:p.2.2<h0
 ·have X :jQ p.2.2 h0<0:=BQ.2 J
  simp[-getElem?_pos,-AV.aeS,-AV.known,-AV.cells,-bL,-List.all_eq_true,vS,rS,mS,aa,u,f84,S,R,Y,eC,J,X,rF,rb,-bl,-aW,-aB,-AV.aeR,-aeY.aeR,aF Z9,bX,bK,dH,cj,bR,gd,bef,Nat.testBit]
 ·have X :¬jQ p.2.2 h0<0:=fun e=>J (BQ.1 e)
  simp[-getElem?_pos,-AV.aeS,-AV.known,-AV.cells,-bL,-List.all_eq_true,vS,rS,mS,aa,u,f84,S,R,Y,eC,J,X,J',Z5,rF,rb,-bl,-aW,-aB,-AV.aeR,-aeY.aeR,aF Z9,bX,bK,dH,cj,bR,gd,bef,Nat.testBit]
end
end Go.Proofs
