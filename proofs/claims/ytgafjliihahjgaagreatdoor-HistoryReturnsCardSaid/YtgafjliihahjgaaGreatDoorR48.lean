/- See R54. -/
import Derived.Test.YtgafjliihahjgaaGreatDoorR47
set_option linter.all false
set_option maxRecDepth 100000
set_option maxHeartbeats 40000000
namespace Go.Proofs
open Go.Eng
open Tryz
def BG(A B C q:P2):V3:=(cT B C q,cT C A q,cT A B q)
def WA(a b c:P2):Prop:=((aeF a.1∧aeF a.2)∧(aeF b.1∧aeF b.2)∧aeF c.1∧aeF c.2)∧(aeF (b.1-a.1)∧aeF (c.2-a.2)∧aeF (b.2-a.2)∧aeF (c.1-a.1))∧aeF ((b.1-a.1)*(c.2-a.2))∧aeF ((b.2-a.2)*(c.1-a.1))
def Va(A B C q:P2):Prop:=WA B C q∧WA C A q∧WA A B q
def inQ(w:V3):Prop:=0≤mP w.1∧0≤mP w.2.1∧0≤mP w.2.2
instance (w:V3):Decidable (inQ w):=inferInstanceAs (Decidable (0≤mP w.1∧0≤mP w.2.1∧0≤mP w.2.2))
structure ahi (P:List P2) (T:List Tr) (q:P2):Prop where
 tri:∀(i:Nat) t,T[i]? =some t→∃A B C,P[t.1]? =some A∧P[t.2.1]? =some B∧P[t.2.2]? =some C∧Va A B C q
 hl:P.length≤1000∧T.length≤1000
def db(c:Code):List Nat:=if (aa c).contains 17 then [17] else [9,22]
theorem pS:(aG f134).map (fun o=>eY o.toList)=[[0,1,0,4,12,28,60,127,255,0,512,0,2048,6144,14336,30720,65024,130560,0,0,786943,2097151],[0,1,0,4,15,0,32,0,128,511,1023,2047],[0,0,0,4,0,16,60,0,128,0,512,2044,4092,8190,16383,32767],[0,0,1,7,15],[0,0,3,7]]:=by kernel_rfl
section
variable {P:List P2}{T:List Tr}{v:V3}{K:Nat}
theorem mF{b b2:Code}(hb:ai f134=[b,b2]){t:Tr}{a c:P2}{k:Nat}(hk:k<3)(ha:P[[t.2.1,t.2.2,t.1].getD k 0]? =some a)(hc:P[[t.2.2,t.1,t.2.1].getD k 0]? =some c)(XW:WA a c (v.1,v.2.1)){S1 S2 S3:List UInt8}{I:Bool}{env:Env}(d:Bool)(l2:ab env 2=.ptr 2 0)(l3:ab env 3=.ptr 3 0)(l5:ab env 5=.ptr 4 0)(l8:ab env 8=.ptr 5 0)(l9:ab env 9=.bool I)(l22:ab env 22=.int .i64 (k:Int)):
  ∃s',aN (aM prog) db (ag ao) K 83 2 true b2 ⟨env,[.cells false 2 (pC P),.cells false 3 (tC T),.cells true 0 [.slice 0 0 P.length none,.slice 1 0 T.length none],.cells true 0 [.str (aw v.1),.str (aw v.2.1),.str (aw v.2.2)],.cells true 0 [.str S1,.str S2,.str S3],.cells true 0 [.int .i64 (t.1:Int),.int .i64 (t.2.1:Int),.int .i64 (t.2.2:Int)]],d⟩=some (.normal,s')∧
   s'.mem=[.cells false 2 (pC P),.cells false 3 (tC T),.cells true 0 [.slice 0 0 P.length none,.slice 1 0 T.length none],.cells true 0 [.str (aw v.1),.str (aw v.2.1),.str (aw v.2.2)],.cells true 0 ([.str S1,.str S2,.str S3].set k (.str (aw (cT a c (v.1,v.2.1))))),.cells true 0 [.int .i64 (t.1:Int),.int .i64 (t.2.1:Int),.int .i64 (t.2.2:Int)],.cells true 0 [.str (aw a.1),.str (aw a.2)],.cells true 0 [.str (aw c.1),.str (aw c.2)]]∧s'.aeS=d∧
   ab s'.env 9=.bool (I&&decide (0≤mP (cT a c (v.1,v.2.1))))∧ab s'.env 22=.int .i64 ((k+1:Nat):Int):=by
 obtain⟨a1,-,-,a2⟩:=MJ ha;obtain⟨c1,-,-,c2⟩:=MJ hc;have a3:=(gL ha);have c3:=(gL hc);obtain⟨⟨⟨u1,u2⟩,⟨u3,u4⟩,u5,u6⟩,⟨u7,u8,u9,u10⟩,u11,u12⟩:=XW;obtain⟨t1,t2,t3⟩:=t;obtain⟨x,y,z⟩:=v;obtain⟨ax,ay⟩:=a;obtain⟨cx,cy⟩:=c;obtain⟨os',FS⟩:∃os',aG f134=os' :=⟨_,rfl⟩
 have XU :=bj FS (ls:=[[0,1,0,4,12,28,60,127,255,0,512,0,2048,6144,14336,30720,65024,130560,0,0,786943,2097151],[0,1,0,4,15,0,32,0,128,511,1023,2047],[0,0,0,4,0,16,60,0,128,0,512,2044,4092,8190,16383,32767],[0,0,1,7,15],[0,0,3,7]]) pS;simp only[aG,bF,f134,List.nil_append,List.append_nil,List.cons_append] at FS;subst FS;simp only[List.map_cons,List.map_nil,List.cons.injEq,and_true] at XU;obtain⟨XY,hb1,Yl,ZP,hb4⟩:=XU;simp[ai,aK,f134] at hb;obtain⟨-,hb⟩:=hb;have q1:IntKind.i64.wrap 1=1:=rfl;have q2:IntKind.i64.wrap 2=2:=rfl;have q3:IntKind.i64.wrap 3=3:=rfl;have q4:IntKind.i64.wrap 4=4:=rfl;unfold aeF cT at*;simp only at*;subst hb;have hk' :k=0∨k=1∨k=2:=by omega
 rcases hk' with rfl | rfl | rfl<;>cases I<;>simp only[List.getD_cons_zero,List.getD_cons_succ] at* <;>
 simp (maxSteps:=1000000) [aB,-getElem?_pos,-AV.kS,-AV.known,-AV.cells,-bk,-List.all_eq_true,vS,rS,mS,ag,ao,aH,bM,be,l2,l3,l5,l8,l9,l22,a1,a2,a3,c1,c2,c3,q1,q2,q3,q4,-bp,-aZ,-aE,-AV.y9,-aeD.y9,fq,aY XY,aY hb1,aY Yl,cO,cd,fz,cY,bW,iT,bef,Nat.testBit,u1,u2,u3,u4,u5,u6,u7,u8,u9,u10,u11,u12]
end
end Go.Proofs
namespace Go.Proofs
open Go.Eng
open Tryz
variable{b b2:Code}
section
variable {P:List P2}{T:List Tr}{v:V3}{K:Nat}
def loE(wr:List Nat) (z':Env) (I:Bool) (k:Nat):Env:=[(9,.bool I),(22,.int .i64 (k:Int))]++((wr.filter fun t=> ![9,22].contains t).map fun t=>(t,AV.undef))++z'
def loM(P:List P2) (T:List Tr) (v:V3) (S1 S2 S3:List UInt8) (t:Tr):Mem:=[.cells false 2 (pC P),.cells false 3 (tC T),.cells true 0 [.slice 0 0 P.length none,.slice 1 0 T.length none],.cells true 0 [.str (aw v.1),.str (aw v.2.1),.str (aw v.2.2)],.cells true 0 [.str S1,.str S2,.str S3],.cells true 0 [.int .i64 (t.1:Int),.int .i64 (t.2.1:Int),.int .i64 (t.2.2:Int)]]
theorem I5(hb:ai f134=[b,b2])(z':Env)(I:Bool)(k:Nat):
  ab (loE (aa b2) z' I k) 2=ab z' 2∧ab (loE (aa b2) z' I k) 3=ab z' 3∧ab (loE (aa b2) z' I k) 5=ab z' 5∧ab (loE (aa b2) z' I k) 8=ab z' 8∧ab (loE (aa b2) z' I k) 9=.bool I∧ab (loE (aa b2) z' I k) 22=.int .i64 (k:Int):=by
 simp[ai,aK,f134] at hb;obtain⟨-,hb⟩:=hb;subst hb;simp[loE]
def A7(e e' :Env):Prop:=∀t∈[2,3,5,7,15,16,17],ab e' t=ab e t
theorem I2(hb:ai f134=[b,b2])(z':Env)(I:Bool)(k:Nat):A7 z' (loE (aa b2) z' I k):=by simp[ai,aK,f134] at hb;obtain⟨-,hb⟩:=hb;subst hb;simp[loE,A7]
theorem pT(hb:ai f134=[b,b2])(z':Env){s:XS}{I:Bool}{k:Nat}{S1 S2 S3:List UInt8}{t:Tr}{x1 x2 y1 y2:List UInt8}{d:Bool}(hm:s.mem=loM P T v S1 S2 S3 t++[.cells true 0 [.str x1,.str x2],.cells true 0 [.str y1,.str y2]])(hd:s.aeS=d)(h9:ab s.env 9=.bool I)(h22:ab s.env 22=.int .i64 (k:Int)):
  iV [9,22] (aa b2) z' 6 s=⟨loE (aa b2) z' I k,loM P T v S1 S2 S3 t,d⟩:=by
 simp[ai,aK,f134] at hb;obtain⟨-,hb⟩:=hb;subst hb;unfold loM at hm;simp[iV,hm,h9,h22,hd,loE,loM,dV,eO]
end
end Go.Proofs
namespace Go.Proofs
open Go.Eng
open Tryz
section
variable {P:List P2}{T:List Tr}{v:V3}{K:Nat}
theorem I3{b b2:Code}(hb:ai f134=[b,b2]){env:Env}{M:Mem}{I:Bool}(d:Bool)(l9:ab env 9=.bool I)(l22:ab env 22=.int .i64 ((3:Nat):Int)):
  ∃AC,aN (aM prog) db (ag ao) K 83 2 true b2 ⟨env,M,d⟩=some (.exit 2,⟨AC,M,d⟩)∧ab AC 9=.bool I∧A7 env AC :=by
 simp[ai,aK,f134] at hb;obtain⟨-,hb⟩:=hb;subst hb;have q3:((3:Nat):Int)=3:=rfl;rw[q3] at l22;simp[l9,l22,A7]
theorem EE{b b2:Code}(hb:ai f134=[b,b2]){t:Tr}{A B C:P2}(hA:P[t.1]? =some A)(hB:P[t.2.1]? =some B)(hC:P[t.2.2]? =some C)(XW:Va A B C (v.1,v.2.1))(hK:3<K)(S1 S2 S3:List UInt8):
  ∃F:Env→Bool→Env,∀z' d,(ab z' 2=.ptr 2 0∧ab z' 3=.ptr 3 0∧ab z' 5=.ptr 4 0∧ab z' 8=.ptr 5 0∧ab z' 9=.bool true∧ab z' 22=.int .i64 0)→
   aN (aM prog) db (ag ao) K 83 2 true (.loop b2) ⟨z',loM P T v S1 S2 S3 t,d⟩=some (.exit 2,⟨F z' d,loM P T v (aw (BG A B C (v.1,v.2.1)).1) (aw (BG A B C (v.1,v.2.1)).2.1) (aw (BG A B C (v.1,v.2.1)).2.2) t,d⟩)∧ab (F z' d) 9=.bool (decide (inQ (BG A B C (v.1,v.2.1))))∧A7 z' (F z' d):=by
 have YQ:db b2=[9,22]:=by simp[ai,aK,f134] at hb;obtain⟨-,hb⟩:=hb;subst hb;simp[db]
 refine cv (L:=[9,22]) YQ (fun z'=>ab z' 2=.ptr 2 0∧ab z' 3=.ptr 3 0∧ab z' 5=.ptr 4 0∧ab z' 8=.ptr 5 0∧ab z' 9=.bool true∧ab z' 22=.int .i64 0) (fun z' AC =>ab AC 9=.bool (decide (inQ (BG A B C (v.1,v.2.1))))∧A7 z' AC) ?_;rintro z' d ⟨h2,h3,h5,h8,h9,h22⟩;obtain⟨n,rfl⟩:∃n,K=n+4:=⟨K-4,by omega⟩
 obtain⟨o1,o2,o3⟩:=XW;have lk:=fun I k=>I5 hb z' I k
 simp only[h2,h3,h5,h8] at lk;have e0:aD [9,22] (aa b2) z' z'=loE (aa b2) z' true 0:=by simp[aD,loE,h9,h22]
 rw[e0];have F':∀S1 S2 S3,(loM P T v S1 S2 S3 t).length=6:=fun _ _ _=>rfl
 rw[F'];obtain⟨a1,a2,a3,a4,a5,a6⟩:=lk true 0;obtain⟨s1,e1,m1,d1,x1,y1⟩:=mF (K:=n+4) (T:=T) hb (k:=0) (t:=t) (by decide) hB hC o1 (S1:=S1) (S2:=S2) (S3:=S3) d a1 a2 a3 a4 a5 a6;have n1:=pT hb z' (t:=t) (P:=P) (T:=T) (v:=v) (S1:=aw (cT B C (v.1,v.2.1))) (S2:=S2) (S3:=S3) m1 d1 x1 y1;have e1' :aN (aM prog) db (ag ao) (n+4) 83 2 true b2 ⟨loE (aa b2) z' true 0,loM P T v S1 S2 S3 t,d⟩=some (.normal,s1):=e1;rw[ej,e1'];simp only[n1];obtain⟨a1,a2,a3,a4,a5,a6⟩:=lk (true&&decide (0≤mP (cT B C (v.1,v.2.1)))) 1;obtain⟨s2,e2,m2,d2,x2,y2⟩:=mF (K:=n+4) (T:=T) hb (k:=1) (t:=t) (by decide) hC hA o2 (S1:=aw (cT B C (v.1,v.2.1))) (S2:=S2) (S3:=S3) d a1 a2 a3 a4 a5 a6;have n2:=pT hb z' (t:=t) (P:=P) (T:=T) (v:=v) (S1:=aw (cT B C (v.1,v.2.1))) (S2:=aw (cT C A (v.1,v.2.1))) (S3:=S3) m2 d2 x2 y2;have e2' :aN (aM prog) db (ag ao) (n+4) 83 2 true b2 ⟨loE (aa b2) z' (true&&decide (0≤mP (cT B C (v.1,v.2.1)))) (0+1),loM P T v (aw (cT B C (v.1,v.2.1))) S2 S3 t,d⟩=some (.normal,s2):=e2;rw[ej,e2'];simp only[n2];obtain⟨a1,a2,a3,a4,a5,a6⟩:=lk ((true&&decide (0≤mP (cT B C (v.1,v.2.1))))&&decide (0≤mP (cT C A (v.1,v.2.1)))) 2;obtain⟨s3,e3,m3,d3,x3,y3⟩:=mF (K:=n+4) (T:=T) hb (k:=2) (t:=t) (by decide) hA hB o3 (S1:=aw (cT B C (v.1,v.2.1))) (S2:=aw (cT C A (v.1,v.2.1))) (S3:=S3) d a1 a2 a3 a4 a5 a6;have n3:=pT hb z' (t:=t) (P:=P) (T:=T) (v:=v) (S1:=aw (cT B C (v.1,v.2.1))) (S2:=aw (cT C A (v.1,v.2.1))) (S3:=aw (cT A B (v.1,v.2.1))) m3 d3 x3 y3;have e3' :aN (aM prog) db (ag ao) (n+4) 83 2 true b2 ⟨loE (aa b2) z' ((true&&decide (0≤mP (cT B C (v.1,v.2.1))))&&decide (0≤mP (cT C A (v.1,v.2.1)))) (1+1),loM P T v (aw (cT B C (v.1,v.2.1))) (aw (cT C A (v.1,v.2.1))) S3 t,d⟩=some (.normal,s3):=e3;rw[ej,e3'];simp only[n3];obtain⟨a1,a2,a3,a4,a5,a6⟩:=lk (((true&&decide (0≤mP (cT B C (v.1,v.2.1))))&&decide (0≤mP (cT C A (v.1,v.2.1))))&&decide (0≤mP (cT A B (v.1,v.2.1)))) 3;obtain⟨AC,e4,x4,x5⟩:=I3 (K:=n+4) hb (M:=loM P T v (aw (cT B C (v.1,v.2.1))) (aw (cT C A (v.1,v.2.1))) (aw (cT A B (v.1,v.2.1))) t) d a5 a6;have e4' :aN (aM prog) db (ag ao) (n+4) 83 2 true b2 ⟨loE (aa b2) z' (((true&&decide (0≤mP (cT B C (v.1,v.2.1))))&&decide (0≤mP (cT C A (v.1,v.2.1))))&&decide (0≤mP (cT A B (v.1,v.2.1)))) (2+1),loM P T v (aw (cT B C (v.1,v.2.1))) (aw (cT C A (v.1,v.2.1))) (aw (cT A B (v.1,v.2.1))) t,d⟩=some (.exit 2,⟨AC,loM P T v (aw (cT B C (v.1,v.2.1))) (aw (cT C A (v.1,v.2.1))) (aw (cT A B (v.1,v.2.1))) t,d⟩):=e4;rw[ej,e4'];refine⟨AC,rfl,?_,fun t ht=>(x5 t ht).trans (I2 hb z' _ _ t ht)⟩;rw[x4];congr 1;rw[Bool.eq_iff_iff];rw[decide_eq_true_iff];simp[inQ,BG,and_assoc]
end
end Go.Proofs
namespace Go.Proofs
open Go.Eng
open Tryz
variable{env:Env}
section
variable {P:List P2}{T:List Tr}{v:V3}{K:Nat}
def Ss(wr:List Nat) (z':Env) (i:Nat):Env:=[(17,.int .i64 (i:Int))]++((wr.filter fun t=> ![17].contains t).map fun t=>(t,AV.undef))++z'
def yK(P:List P2) (T:List Tr) (v:V3) (S:List UInt8×List UInt8×List UInt8):Mem:=[.cells false 2 (pC P),.cells false 3 (tC T),.cells true 0 [.slice 0 0 P.length none,.slice 1 0 T.length none],.cells true 0 [.str (aw v.1),.str (aw v.2.1),.str (aw v.2.2)],.cells true 0 [.str S.1,.str S.2.1,.str S.2.2]]
def wS(w:V3):List UInt8×List UInt8×List UInt8:=(aw w.1,aw w.2.1,aw w.2.2)
def vb(T:List Tr) (env:Env):Prop:=ab env 2=.ptr 2 0∧ab env 3=.ptr 3 0∧ab env 5=.ptr 4 0∧ab env 15=.slice 1 0 T.length none∧ab env 16=.int .i64 T.length
theorem uA{b b2:Code}(hb:ai f134=[b,b2])(z':Env)(i:Nat)(h:vb T z'):vb T (Ss (aa b) z' i)∧ab (Ss (aa b) z' i) 17=.int .i64 (i:Int):=by simp[ai,aK,f134] at hb;obtain⟨hb,-⟩:=hb;subst hb;simpa [Ss,vb] using h
theorem pU{b b2:Code}(hb:ai f134=[b,b2]){i:Nat}{t:Tr}(hi:T[i]? =some t){A B C:P2}(hA:P[t.1]? =some A)(hB:P[t.2.1]? =some B)(hC:P[t.2.2]? =some C)(XW:Va A B C (v.1,v.2.1))(hT:T.length≤1000)(hK:3<K)(S:List UInt8×List UInt8×List UInt8)(h:vb T env)(h17:ab env 17=.int .i64 (i:Int))(d:Bool):
  (¬inQ (BG A B C (v.1,v.2.1))→∃s',aN (aM prog) db (ag ao) K 83 2 true b ⟨env,yK P T v S,d⟩=some (.normal,s')∧(∃x,s'.mem=yK P T v (wS (BG A B C (v.1,v.2.1)))++[x])∧s'.aeS=d∧ab s'.env 17=.int .i64 ((i+1:Nat):Int))∧
  (inQ (BG A B C (v.1,v.2.1))→∃AC x,aN (aM prog) db (ag ao) K 83 2 true b ⟨env,yK P T v S,d⟩=some (.ret,⟨AC,yK P T v (wS (BG A B C (v.1,v.2.1)))++[x],d⟩)∧ab AC 4=.int .i64 (i:Int)∧ab AC 5=.ptr 4 0∧ab AC 6=.bool true):=by
 obtain⟨h2,h3,h5,h15,h16⟩:=h;have hli:=(gL hi);obtain⟨p1,p2⟩:=U8 hi;obtain⟨F,hF⟩:=EE (T:=T) hb hA hB hC XW hK S.1 S.2.1 S.2.2;have I':=fun z' d h=>(hF z' d h).1
 have T':=fun z' d h=>(hF z' d h).2.1
 have Yh:=fun z' d h=>(hF z' d h).2.2
 unfold A7 at Yh;simp only[List.forall_mem_cons,List.not_mem_nil,false_implies,implies_true,and_true] at Yh;have G2:=fun z' d h=>(Yh z' d h).1
 have G3:=fun z' d h=>(Yh z' d h).2.1
 have G5:=fun z' d h=>(Yh z' d h).2.2.1
 have G7:=fun z' d h=>(Yh z' d h).2.2.2.1
 have G15:=fun z' d h=>(Yh z' d h).2.2.2.2.1
 have G16:=fun z' d h=>(Yh z' d h).2.2.2.2.2.1
 have G17:=fun z' d h=>(Yh z' d h).2.2.2.2.2.2
 clear hF Yh;obtain⟨os',FS⟩:∃os',aG f134=os' :=⟨_,rfl⟩
 have XU :=bj FS (ls:=[[0,1,0,4,12,28,60,127,255,0,512,0,2048,6144,14336,30720,65024,130560,0,0,786943,2097151],[0,1,0,4,15,0,32,0,128,511,1023,2047],[0,0,0,4,0,16,60,0,128,0,512,2044,4092,8190,16383,32767],[0,0,1,7,15],[0,0,3,7]]) pS;simp only[aG,bF,f134,List.nil_append,List.append_nil,List.cons_append] at FS;subst FS;simp only[List.map_cons,List.map_nil,List.cons.injEq,and_true] at XU;obtain⟨-,-,-,ZP,-⟩:=XU;simp[ai,aK,f134] at hb;obtain⟨hb,Yl⟩:=hb;rw[←Yl] at I';subst hb;have wi:IntKind.i64.wrap ((i:Int)+1)=((i+1:Nat):Int):=by rw[al (by omega) (by omega)];omega
 obtain⟨m1,YY⟩:∃m1,m1=i+1:=⟨_,rfl⟩
 rw[←YY] at wi ⊢;obtain⟨w,hw⟩:∃w,w=BG A B C (v.1,v.2.1):=⟨_,rfl⟩
 rw[←hw] at I' T' ⊢;unfold loM at I';unfold yK wS;simp only at I' T' ⊢;constructor
 ·intro hn
  have hn' :decide (inQ w)=false:=decide_eq_false hn;simp[-getElem?_pos,-AV.kS,-AV.known,-AV.cells,-bk,-List.all_eq_true,vS,mS,h2,h3,h5,h15,h16,h17,hli,p1,p2,I',T',G17,hn',wi]
 ·intro hn
  have hn' :decide (inQ w)=true:=decide_eq_true hn;simp[-getElem?_pos,-AV.kS,-AV.known,-AV.cells,-bk,-List.all_eq_true,vS,rS,mS,h2,h3,h5,h15,h16,h17,hli,p1,p2,I',T',G5,G7,hn',-bp,-aZ,-aE,-AV.y9,-aeD.y9,aY ZP,cO,cd,fz,cY,bW,iT,bef,Nat.testBit]
theorem uB{b b2:Code}(hb:ai f134=[b,b2])(z':Env){s:XS}{k:Nat}{S:List UInt8×List UInt8×List UInt8}{x:aeD}{d:Bool}(hm:s.mem=yK P T v S++[x])(hd:s.aeS=d)(h17:ab s.env 17=.int .i64 (k:Int)):
  iV [17] (aa b) z' 5 s=⟨Ss (aa b) z' k,yK P T v S,d⟩:=by
 simp[ai,aK,f134] at hb;obtain⟨hb,-⟩:=hb;subst hb;unfold yK at hm;simp[iV,hm,h17,hd,Ss,yK,dV,eO]
theorem LQ{b b2:Code}(hb:ai f134=[b,b2]){M:Mem}(h:vb T env)(h17:ab env 17=.int .i64 (T.length:Int))(d:Bool):
  ∃AC,aN (aM prog) db (ag ao) K 83 2 true b ⟨env,M,d⟩=some (.exit 0,⟨AC,M,d⟩)∧ab AC 5=.ptr 4 0:=by
 obtain⟨h2,h3,h5,h15,h16⟩:=h;simp[ai,aK,f134] at hb;obtain⟨hb,-⟩:=hb;subst hb;simp[h16,h17,h5]
end
end Go.Proofs
namespace Go.Proofs
open Go.Eng
open Tryz
def BD(P:List P2) (q:P2) (t:Tr):V3:=BG (P.getD t.1 (0,0)) (P.getD t.2.1 (0,0)) (P.getD t.2.2 (0,0)) q
def Su(P:List P2) (q:P2):List Tr→Nat→Option (Nat×V3)
 | [],_=>none
 |t::l,i=>if inQ (BD P q t) then some (i,BD P q t) else Su P q l (i+1)
theorem vd{P:List P2}{q:P2}:∀{T:List Tr}{k j:Nat}{w:V3},Su P q T k=some (j,w)→∃i t,j=k+i∧T[i]? =some t∧inQ (BD P q t)∧w=BD P q t∧∀(l:Nat) s,l<i→T[l]? =some s→¬inQ (BD P q s)
 | [],k,j,w,h=>by simp[Su] at h
 |t::l,k,j,w,h=>by
  rw[Su] at h;split at h
  ·rename_i Zj
   simp only[Option.some.injEq,Prod.mk.injEq] at h;exact⟨0,t,by omega,rfl,Zj,h.2.symm,fun l s hl=>by omega⟩
  ·rename_i Zj
   obtain⟨i,s,h1,h2,h3,h4,h5⟩:=vd h;refine⟨i+1,s,by omega,by simpa using h2,h3,h4,fun m x hm hx=>?_⟩;cases m with
   |zero=>simp at hx;subst hx;exact Zj
   |succ m=>exact h5 m x (by omega) (by simpa using hx)
theorem Ke{P:List P2}{q:P2}:∀{T:List Tr}{k:Nat},Su P q T k=none→∀(l:Nat) s,T[l]? =some s→¬inQ (BD P q s)
 | [],k,h,l,s,hs=>by simp at hs
 |t::r,k,h,l,s,hs=>by
  rw[Su] at h;split at h
  ·cases h
  ·rename_i Zj
   cases l with
   |zero=>simp at hs;subst hs;exact Zj
   |succ m=>exact Ke h m s (by simpa using hs)
variable{j:Nat}{t:Tr}
section
variable {P:List P2}{T:List Tr}{v:V3}{K:Nat}
section
variable (H:ahi P T (v.1,v.2.1))
include H
theorem ahi.at{i:Nat}(h:T[i]? =some t):∃A B C,P[t.1]? =some A∧P[t.2.1]? =some B∧P[t.2.2]? =some C∧Va A B C (v.1,v.2.1)∧BD P (v.1,v.2.1) t=BG A B C (v.1,v.2.1):=by obtain⟨A,B,C,h1,h2,h3,h4⟩:=H.tri i t h;exact⟨A,B,C,h1,h2,h3,h4,by unfold BD;simp[List.getD,h1,h2,h3]⟩
theorem ED{b b2:Code}(hb:ai f134=[b,b2])(hj:T[j]? =some t)(Zj:inQ (BD P (v.1,v.2.1) t))(hno:∀(l:Nat) s,l<j→T[l]? =some s→¬inQ (BD P (v.1,v.2.1) s))(hK:j+4<K)(S:List UInt8×List UInt8×List UInt8):
  ∃F:Env→Bool→Env×Mem×aeD,∀z' d,(vb T z'∧ab z' 17=.int .i64 0)→
   aN (aM prog) db (ag ao) K 83 2 true (.loop b) ⟨z',yK P T v S,d⟩=some (.ret,⟨(F z' d).1,(F z' d).2.1,d⟩)∧(F z' d).2.1=yK P T v (wS (BD P (v.1,v.2.1) t))++[(F z' d).2.2]∧ab (F z' d).1 4=.int .i64 (j:Int)∧ab (F z' d).1 5=.ptr 4 0∧ab (F z' d).1 6=.bool true:=by
 have YQ:db b=[17]:=by simp[ai,aK,f134] at hb;obtain⟨hb,-⟩:=hb;subst hb;simp[db]
 refine iz YQ (fun z'=>vb T z'∧ab z' 17=.int .i64 0) (fun _ AC mem' x=>mem' =yK P T v (wS (BD P (v.1,v.2.1) t))++[x]∧ab AC 4=.int .i64 (j:Int)∧ab AC 5=.ptr 4 0∧ab AC 6=.bool true) ?_;rintro z' d ⟨hp,h17⟩;have e0:aD [17] (aa b) z' z'=Ss (aa b) z' 0:=by simp[aD,Ss,h17]
 rw[e0];have F':(yK P T v S).length=5:=rfl;rw[F'];refine iE (α:=Nat×(List UInt8×List UInt8×List UInt8)) (fun a=>⟨Ss (aa b) z' a.1,yK P T v a.2,d⟩) (fun a=>j-a.1) (fun a=>a.1≤j) .ret d (fun AC mem' =>∃x,mem' =yK P T v (wS (BD P (v.1,v.2.1) t))++[x]∧ab AC 4=.int .i64 (j:Int)∧ab AC 5=.ptr 4 0∧ab AC 6=.bool true) (by simp) ?_ K (0,S) (by simp) (by simp;omega);rintro ⟨i,S⟩ hi;simp only at hi ⊢;obtain⟨q1,q2⟩:=uA hb z' i hp;by_cases Zp:i=j
 ·right
  subst Zp;obtain⟨A,B,C,hA,hB,hC,XW,e⟩:=H.at hj;rw[e] at Zj ⊢;obtain⟨AC,x,h1,h2,h3,h4⟩:=(pU (K:=K) hb hj hA hB hC XW H.hl.2 (by omega) S q1 q2 d).2 Zj;exact⟨AC,_,h1,x,rfl,h2,h3,h4⟩
 ·left
  obtain⟨s,hs⟩:∃s,T[i]? =some s:=⟨_,List.getElem?_eq_getElem (by have:=(gL hj);omega)⟩
  obtain⟨A,B,C,hA,hB,hC,XW,e⟩:=H.at hs;have hn:=hno i s (by omega) hs;rw[e] at hn;obtain⟨s',h1,⟨x,h2⟩,h3,h4⟩:=(pU (K:=K) hb hs hA hB hC XW H.hl.2 (by omega) S q1 q2 d).1 hn;exact⟨(i+1,wS (BG A B C (v.1,v.2.1))),s',h1,uB hb z' h2 h3 h4,by omega,by simp only;omega⟩
theorem I6{b b2:Code}(hb:ai f134=[b,b2])(hno:∀(l:Nat) s,T[l]? =some s→¬inQ (BD P (v.1,v.2.1) s))(hK:T.length+4<K)(S:List UInt8×List UInt8×List UInt8):
  ∃F:Env→Bool→Env×Mem×(List UInt8×List UInt8×List UInt8),∀z' d,(vb T z'∧ab z' 17=.int .i64 0)→
   aN (aM prog) db (ag ao) K 83 2 true (.loop b) ⟨z',yK P T v S,d⟩=some (.exit 0,⟨(F z' d).1,(F z' d).2.1,d⟩)∧(F z' d).2.1=yK P T v (F z' d).2.2∧ab (F z' d).1 5=.ptr 4 0:=by
 have YQ:db b=[17]:=by simp[ai,aK,f134] at hb;obtain⟨hb,-⟩:=hb;subst hb;simp[db]
 refine iz YQ (fun z'=>vb T z'∧ab z' 17=.int .i64 0) (fun _ AC mem' x=>mem' =yK P T v x∧ab AC 5=.ptr 4 0) ?_;rintro z' d ⟨hp,h17⟩;have e0:aD [17] (aa b) z' z'=Ss (aa b) z' 0:=by simp[aD,Ss,h17]
 rw[e0];have F':(yK P T v S).length=5:=rfl;rw[F'];refine iE (α:=Nat×(List UInt8×List UInt8×List UInt8)) (fun a=>⟨Ss (aa b) z' a.1,yK P T v a.2,d⟩) (fun a=>T.length-a.1) (fun a=>a.1≤T.length) (.exit 0) d (fun AC mem' =>∃x,mem' =yK P T v x∧ab AC 5=.ptr 4 0) (by simp) ?_ K (0,S) (by simp) (by simp;omega);rintro ⟨i,S⟩ hi;simp only at hi ⊢;obtain⟨q1,q2⟩:=uA hb z' i hp;by_cases Zp:i=T.length
 ·right
  subst Zp;obtain⟨AC,h1,h2⟩:=LQ (K:=K) hb (M:=yK P T v S) q1 q2 d;exact⟨AC,_,h1,S,rfl,h2⟩
 ·left
  obtain⟨s,hs⟩:∃s,T[i]? =some s:=⟨_,List.getElem?_eq_getElem (by omega)⟩
  obtain⟨A,B,C,hA,hB,hC,XW,e⟩:=H.at hs;have hn:=hno i s hs;rw[e] at hn;obtain⟨s',h1,⟨x,h2⟩,h3,h4⟩:=(pU (K:=K) hb hs hA hB hC XW H.hl.2 (by omega) S q1 q2 d).1 hn;exact⟨(i+1,wS (BG A B C (v.1,v.2.1))),s',h1,uB hb z' h2 h3 h4,by omega,by simp only;omega⟩
theorem On{w:V3}(h:Su P (v.1,v.2.1) T 0=some (j,w)):
  kF prog 134 [.agg [.slice 0 0 P.length none,.slice 1 0 T.length none],vA v] [.cells false 2 (pC P),.cells false 3 (tC T)] (.tuple [.int .i64 (j:Int),vA w,.bool true]) [.cells false 2 (pC P),.cells false 3 (tC T)]:=by
 have hG:aT prog 134=some f134:=by kernel_rfl
 obtain⟨i,t,hji,hi,Zj,rfl,hno⟩:=vd h;obtain rfl:i=j:=by omega
 have hl:=H.hl;have hli:=(gL hi);obtain⟨b,b2,hb⟩:∃b b2,ai f134=[b,b2]:=⟨_,_,rfl⟩
 obtain⟨F,hF⟩:=ED (K:=2000) H hb hi Zj hno (by omega) ([],[],[]);have I':=fun z' d h=>(hF z' d h).1
 have T':=fun z' d h=>(hF z' d h).2.1
 have hF4:=fun z' d h=>(hF z' d h).2.2.1
 have hF5:=fun z' d h=>(hF z' d h).2.2.2.1
 have hF6:=fun z' d h=>(hF z' d h).2.2.2.2
 clear hF;simp[ai,aK,f134] at hb;obtain⟨rfl,rfl⟩:=hb;obtain⟨w,hw⟩:∃w,w=BD P (v.1,v.2.1) t:=⟨_,rfl⟩
 rw[←hw] at T' ⊢;unfold yK vb at I';unfold yK vb wS at T';unfold vb at hF4 hF5 hF6;simp only at I' T';have hx:∃r,ad (aM prog) db (aT prog) (ag ao) 2000 134 [.agg [.slice 0 0 P.length none,.slice 1 0 T.length none],vA v] [.cells false 2 (pC P),.cells false 3 (tC T)]=some r∧r.v=.tuple [.int .i64 (i:Int),vA w,.bool true]∧r.mem [.cells false 2 (pC P),.cells false 3 (tC T)]=[.cells false 2 (pC P),.cells false 3 (tC T)]:=by simp[-AV.kS,-AV.known,-AV.cells,-List.all_eq_true,vS,ad,hG,f134,vA,I',T',hF4,hF5,hF6];done
 obtain⟨r,h1,h2,h3⟩:=hx;have:=(ak ae (aq _) bP (au _) h1).1
 rwa [h2,h3] at this
theorem Om(h:Su P (v.1,v.2.1) T 0=none):
  ∃S1 S2 S3:List UInt8,kF prog 134 [.agg [.slice 0 0 P.length none,.slice 1 0 T.length none],vA v] [.cells false 2 (pC P),.cells false 3 (tC T)] (.tuple [.int .i64 0,.agg [.str S1,.str S2,.str S3],.bool false]) [.cells false 2 (pC P),.cells false 3 (tC T)]:=by
 have hG:aT prog 134=some f134:=by kernel_rfl
 have hl:=H.hl;obtain⟨os',FS⟩:∃os',aG f134=os' :=⟨_,rfl⟩
 have XU :=bj FS (ls:=[[0,1,0,4,12,28,60,127,255,0,512,0,2048,6144,14336,30720,65024,130560,0,0,786943,2097151],[0,1,0,4,15,0,32,0,128,511,1023,2047],[0,0,0,4,0,16,60,0,128,0,512,2044,4092,8190,16383,32767],[0,0,1,7,15],[0,0,3,7]]) pS;simp only[aG,bF,f134,List.nil_append,List.append_nil,List.cons_append] at FS;subst FS;simp only[List.map_cons,List.map_nil,List.cons.injEq,and_true] at XU;obtain⟨-,-,-,-,hb4⟩:=XU;obtain⟨b,b2,hb⟩:∃b b2,ai f134=[b,b2]:=⟨_,_,rfl⟩
 obtain⟨F,hF⟩:=I6 (K:=2000) H hb (Ke h) (by omega) ([],[],[]);have I':=fun z' d h=>(hF z' d h).1
 have T':=fun z' d h=>(hF z' d h).2.1
 have hF5:=fun z' d h=>(hF z' d h).2.2
 clear hF;simp[ai,aK,f134] at hb;obtain⟨rfl,rfl⟩:=hb;unfold yK vb at I' T';unfold vb at hF5;simp only at I' T';have hx:∃r,ad (aM prog) db (aT prog) (ag ao) 2000 134 [.agg [.slice 0 0 P.length none,.slice 1 0 T.length none],vA v] [.cells false 2 (pC P),.cells false 3 (tC T)]=some r∧(∃S1 S2 S3,r.v=.tuple [.int .i64 0,.agg [.str S1,.str S2,.str S3],.bool false])∧r.mem [.cells false 2 (pC P),.cells false 3 (tC T)]=[.cells false 2 (pC P),.cells false 3 (tC T)]:=by simp[-AV.kS,-AV.known,-AV.cells,-List.all_eq_true,vS,ad,hG,f134,vA,I',T',hF5,-aE,aY hb4,cO,jN,fz,cY,bW,iT,bef,Nat.testBit];done
 obtain⟨r,h1,⟨S1,S2,S3,h2⟩,h3⟩:=hx;have:=(ak ae (aq _) bP (au _) h1).1;rw[h2,h3] at this;exact⟨S1,S2,S3,this⟩
end
end
end Go.Proofs
namespace Go.Proofs
open Go.Eng
open Tryz
theorem Ap{lv:Code→List Nat}{O:adM}(hO:kP prog O){K:Nat}{f:FuncId}{args:List AV}{mem:Mem}{v:AV}(h:ad (aM prog) lv (aT prog) O K f args mem=some ⟨v,none,[]⟩):kF prog f args mem v mem:=by have:=(ak ae (aq _) hO (au _) h).1;simpa [HS.mem] using this
def V5(w:V3) (a b c:Rat):Rat:=(w.1*a+w.2.1*b+w.2.2*c) / (w.1+w.2.1+w.2.2)
def V4(w:V3) (a b c:Rat):Prop:=(aeF w.1∧aeF w.2.1∧aeF w.2.2)∧(aeF a∧aeF b∧aeF c)∧(aeF (w.1+w.2.1)∧aeF (w.1+w.2.1+w.2.2)∧w.1+w.2.1+w.2.2≠0)∧(aeF (w.1*a)∧aeF (w.2.1*b)∧aeF (w.2.2*c))∧aeF (w.1*a+w.2.1*b)∧aeF (w.1*a+w.2.1*b+w.2.2*c)
variable{pv:AV}{w:V3}
theorem F5{N:Mem}{a3 a7 a8 tb fb tn n i:Nat}{o3 o7 o8 ot of:Bool}{T:List Tr}{t:Tr}{L:List Rat}{a b c:Rat}(h3:N[a3]? =some (.cells o3 0 [pv,.slice tb 0 tn none]))(ht:N[tb]? =some (.cells ot 3 (tC T)))(htn:tn=T.length)(h7:N[a7]? =some (.cells o7 0 [.int .i64 (i:Int)]))(h8:N[a8]? =some (.cells o8 0 (vL w)))(hf:N[fb]? =some (.cells of 1 (stC (L.map aw))))(hn:n=L.length)(hi:T[i]? =some t)(ha:L[t.1]? =some a)(hb:L[t.2.1]? =some b)(hc:L[t.2.2]? =some c)(XW:V4 w a b c):
  kF prog 135 [.slice fb 0 n none,.ptr a3 0,.ptr a7 0,.ptr a8 0] N (.str (aw (V5 w a b c))) N:=by
 have hG:aT prog 135=some f135:=by kernel_rfl
 subst hn htn;have hli:=(gL hi);obtain⟨p1,p2⟩:=U8 hi;have k1:(stC (L.map aw))[t.1]? =some (.str (aw a)):=sj (by simp[ha]);have k2:(stC (L.map aw))[t.2.1]? =some (.str (aw b)):=sj (by simp[hb]);have k3:(stC (L.map aw))[t.2.2]? =some (.str (aw c)):=sj (by simp[hc]);have l1:=(gL ha);have l2:=(gL hb);have l3:=(gL hc);obtain⟨⟨u1,u2,u3⟩,⟨u4,u5,u6⟩,⟨u7,u8,u9⟩,⟨u10,u11,u12⟩,u13,u14⟩:=XW;have z0:dJ [48]=some 0:=by
  have:([48]:List UInt8)=aw 0:=by decide
  rw[this];exact aB 0
 have f0:(aQ 0).length≤9∧(aQ 1).length≤9:=⟨by decide,by decide⟩;obtain⟨t1,t2,t3⟩:=t;obtain⟨w1,w2,w3⟩:=w;unfold V5;simp only[vL] at*;unfold aeF at*;obtain⟨f0,f0'⟩:=f0;obtain⟨o1,FS⟩:∃o1,aG f135=[o1]:=⟨_,rfl⟩
 have hb1:=dw FS (l:=[0,0,2,6,15,0,0,64,192,0,0,1536,3584,8159,16383,32767,65535]) (by kernel_rfl);simp[aG,bF,f135] at FS;subst FS;have g3:=(gL h3);have g7:=(gL h7);have g8:=(gL h8);have gt:=(gL ht);have gf:=(gL hf);have q1:IntKind.i64.wrap 1=1:=rfl;have q2:IntKind.i64.wrap 2=2:=rfl;have q3:IntKind.i64.wrap 3=3:=rfl;refine Ap bP (lv:=fun _=>[6,7,15]) (K:=6) ?_;simp (maxSteps:=1000000) [-getElem?_pos,-AV.kS,-AV.known,-AV.cells,-bk,-List.all_eq_true,rS,mS,ad,hG,f135,aI,ej,ag,ao,aH,aB,z0,f0,f0',Rat.zero_add,h3,ht,h7,h8,hf,hli,p1,p2,k1,k2,k3,l1,l2,l3,q1,q2,q3,g8,gf,u1,u2,u3,u4,u5,u6,u7,u8,u9,u10,u11,u12,u13,u14,-bp,-aZ,-aE,-AV.y9,-aeD.y9,aY hb1,cO,cd,fz,cY,bW,iT,bef,Nat.testBit]
def KU(z:Rat):List Rat→Nat
 | []=>0
 |h::l=>if h≤z then KU z l+1 else 0
theorem Mj(z:Rat):∀l,KU z l≤l.length
 | []=>Nat.le_refl 0
 |h::l=>by
  rw[KU];split
  ·have:=Mj z l;simp;omega
  ·omega
theorem RQ{z:Rat}:∀{l:List Rat}{i:Nat}{h:Rat},i<KU z l→l[i]? =some h→h≤z
 | [],i,h,hi,_=>by simp[KU] at hi
 |a::l,i,h,hi,hl=>by
  rw[KU] at hi;split at hi
  ·rename_i ha
   cases i with
   |zero=>simp at hl;subst hl;exact ha
   |succ i=>exact RQ (l:=l) (i:=i) (by omega) (by simpa using hl)
  ·omega
theorem RP{z:Rat}:∀{l:List Rat}{h:Rat},l[KU z l]? =some h→¬h≤z
 | [],h,hl=>by simp at hl
 |a::l,h,hl=>by
  rw[KU] at hl;split at hl
  ·exact RP (l:=l) (by simpa using hl)
  ·rename_i ha
   simp at hl;subst hl;exact ha
section
variable {O:adM}{N:Mem}{K d4 d5 sb:Nat}{o4 o5:Bool}{bv uv sv:AV}{p:V3}{hs:List Rat}{vs caps:List AV}
def ag2:=bj (rfl:aG f84=_) (ls:=[[0,1,0,0,8,28,63,127],[0,0,2,6,15,31,63,63,191,63,959,1983,4095,63,8255,32767,65535,131071]]) (by kernel_rfl)
theorem Gw(h4:N[d4]? =some (.cells o4 0 [bv,uv,sv]))(h5:N[d5]? =some (.cells o5 0 (vL p)))(hsv:(sv=.kK∧hs=[])∨∃o,sv=.slice sb 0 hs.length none∧N[sb]? =some (.cells o 1 vs))(hl:vs.length=hs.length)(h2:hs.length≤1000)(ZB:∀(i:Nat) h,hs[i]? =some h→∃x,vs[i]? =some x∧x.kS=true∧x.cells=[x]∧(∀f,AV.y9 f x=true∨True)∧O (.fn 135) (x::caps) N=some ⟨.str (aw h),none,[]⟩∧O (.fn 85) [.str (aw h),.str (aw p.2.2)] N=some ⟨.int .i64 (mo h p.2.2),none,[]⟩)(hK:hs.length+1<K){b:Code}(hb:ai f84=[b]){m0:Nat}(hm:∀x∈vs,x.y9 (fun b=>decide (b<N.length))=true)(hcp:AV.y9 (fun b=>decide (b<N.length)) (.func 135 caps)=true):
  ∃F:Env→Bool→Env,∀z' d,(ab z' 4=.ptr d4 0∧ab z' 5=.ptr d5 0∧ab z' 10=.func 135 caps∧ab z' 11=.int .i64 0)→
   aN (aM prog) (fun _=>[11]) O K 51 m0 true (.loop b) ⟨z',N,d⟩=some (.exit 0,⟨F z' d,N,d⟩)∧ab (F z' d) 11=.int .i64 (KU p.2.2 hs:Int):=by
 refine cv rfl (fun z'=>ab z' 4=.ptr d4 0∧ab z' 5=.ptr d5 0∧ab z' 10=.func 135 caps∧ab z' 11=.int .i64 0) (fun _ AC =>ab AC 11=.int .i64 (KU p.2.2 hs:Int)) ?_;rintro z' d ⟨l4,l5,l10,l11⟩;have XU :=ag2;simp only[aG,bF,f84,List.nil_append,List.append_nil,List.cons_append,List.map_cons,List.map_nil,List.cons.injEq,and_true] at XU;obtain⟨-,hb1⟩:=XU;simp[ai,aK,f84] at hb;have e0:aD [11] (aa b) z' ((11,.int .i64 ((0:Nat):Int))::z')=aD [11] (aa b) z' z':=by simp[aD,l11]
 rw[←e0];have g4:=(gL h4);have g5:=(gL h5);have F':∀N,lD (aM prog) 67 N sv=some (.int .i64 hs.length):=fun N=>by rcases hsv with⟨rfl,rfl⟩ | ⟨o,rfl,_⟩<;>simp
 have X7:=Mj p.2.2 hs;simp only[vL] at h5;refine cV (α:=Nat) (fun i=>⟨aD [11] (aa b) z' ((11,.int .i64 (i:Int))::z'),N,d⟩) (fun i=>KU p.2.2 hs-i) (fun i=>i≤KU p.2.2 hs) (.exit 0) N d _ (by simp) ?_ K 0 (by omega) (by omega);intro i hi;clear e0;subst hb;by_cases A':i<hs.length
 ·obtain⟨h,hh⟩:∃h,hs[i]? =some h:=⟨_,List.getElem?_eq_getElem A'⟩
  obtain⟨x,x1,x2,x3,-,x5,x6⟩:=ZB i h hh;have x7:=hm x (List.mem_of_getElem? x1);rcases hsv with⟨rfl,rfl⟩ | ⟨o,rfl,hsb⟩
  ·simp at A'
  have gs:=(gL hsb);have lv:=(gL x1);have w1:IntKind.i64.wrap ((i:Int)+1)=((i+1:Nat):Int):=by rw[al (by omega) (by omega)];omega
  obtain⟨m,YY⟩:∃m,m=i+1:=⟨_,rfl⟩
  rw[←YY] at w1;by_cases hc:i=KU p.2.2 hs
  ·right
   subst hc;have hn:¬mo h p.2.2≤0:=fun e=>RP hh (tH.1 e)
   simp[-getElem?_pos,-AV.kS,-AV.known,-AV.cells,-bk,-List.all_eq_true,-lD,rS,mS,l4,l5,l10,A',h4,h5,hsb,F',x1,x5,x6,x7,hcp,g4,g5,gs,hn,-bp,-aZ,-aE,-AV.y9,-aeD.y9,aY hb1,cO,cd,fz,cY,bW,iT,bef,Nat.testBit]
  ·left
   have hn:mo h p.2.2≤0:=tH.2 (RQ (l:=hs) (by omega) hh);refine⟨m,?_⟩;simp[-getElem?_pos,-AV.kS,-AV.known,-AV.cells,-bk,-List.all_eq_true,-lD,rS,mS,l4,l5,l10,A',h4,h5,hsb,F',x1,x5,x6,x7,hcp,g4,g5,gs,hn,w1,-bp,-aZ,-aE,-AV.y9,-aeD.y9,aY hb1,cO,cd,fz,cY,bW,iT,bef,Nat.testBit];omega
 ·right
  have hc:i=hs.length:=by omega
  have hc2:KU p.2.2 hs=hs.length:=by omega
  rw[hc2,←hc];have X5 :¬(i:Int)<hs.length:=by omega
  have hsr:sv.y9 (fun b=>decide (b<N.length))=true:=by
   rcases hsv with⟨rfl,_⟩ | ⟨o,rfl,hb⟩
   ·rfl
   ·simp only[AV.y9,decide_eq_true_eq];exact(gL hb)
  simp[-getElem?_pos,-AV.kS,-AV.known,-AV.cells,-bk,-List.all_eq_true,-lD,rS,mS,l4,l5,l10,h4,F',g4,hsr,X5,-bp,-aZ,-aE,-AV.y9,-aeD.y9,aY hb1,cO,cd,fz,cY,bW,iT,bef,Nat.testBit]
theorem Lt{M:Mem}{tv:AV}{h0:Rat}{j:Nat}(ck:pv.kS=true∧tv.kS=true∧bv.kS=true∧uv.kS=true∧sv.kS=true)(kn:pv.known=true∧tv.known=true∧bv.known=true∧uv.known=true∧sv.known=true)(cs:pv.cells=[pv]∧tv.cells=[tv]∧bv.cells=[bv]∧uv.cells=[uv]∧sv.cells=[sv])(rf:∀x,pv.y9 (fun b=>decide (b<M.length+x))=true∧tv.y9 (fun b=>decide (b<M.length+x))=true∧bv.y9 (fun b=>decide (b<M.length+x))=true∧uv.y9 (fun b=>decide (b<M.length+x))=true∧sv.y9 (fun b=>decide (b<M.length+x))=true)(hsv:(sv=.kK∧hs=[])∨∃o,sv=.slice sb 0 hs.length none∧M[sb]? =some (.cells o 1 vs))(hl:vs.length=hs.length)(h2:hs.length≤1000)(hm:∀x∈vs,x.y9 (fun b=>decide (b<M.length))=true)(eL:O (.fn 134) [.agg [pv,tv],vA p] (M++[.cells true 0 [pv,tv],.cells true 0 [bv,uv,sv],.cells true 0 (vL p)])=some ⟨.tuple [.int .i64 (j:Int),vA w,.bool true],none,[]⟩)(eH:O (.fn 135) [bv,.ptr M.length 0,.ptr (M.length+3) 0,.ptr (M.length+4) 0] (M++[.cells true 0 [pv,tv],.cells true 0 [bv,uv,sv],.cells true 0 (vL p),.cells true 0 [.int .i64 (j:Int)],.cells true 0 (vL w)])=some ⟨.str (aw h0),none,[]⟩)(eC:O (.fn 85) [.str (aw p.2.2),.str (aw h0)] (M++[.cells true 0 [pv,tv],.cells true 0 [bv,uv,sv],.cells true 0 (vL p),.cells true 0 [.int .i64 (j:Int)],.cells true 0 (vL w)])=some ⟨.int .i64 (mo p.2.2 h0),none,[]⟩)(ZB:∀(i:Nat) h,hs[i]? =some h→∃x,vs[i]? =some x∧x.kS=true∧x.cells=[x]∧(∀f,AV.y9 f x=true∨True)∧O (.fn 135) [x,.ptr M.length 0,.ptr (M.length+3) 0,.ptr (M.length+4) 0] (M++[.cells true 0 [pv,tv],.cells true 0 [bv,uv,sv],.cells true 0 (vL p),.cells true 0 [.int .i64 (j:Int)],.cells true 0 (vL w)])=some ⟨.str (aw h),none,[]⟩∧O (.fn 85) [.str (aw h),.str (aw p.2.2)] (M++[.cells true 0 [pv,tv],.cells true 0 [bv,uv,sv],.cells true 0 (vL p),.cells true 0 [.int .i64 (j:Int)],.cells true 0 (vL w)])=some ⟨.int .i64 (mo h p.2.2),none,[]⟩):
  ad (aM prog) (fun _=>[11]) (aT prog) O 1100 84 [.agg [pv,tv],.agg [bv,uv,sv],vA p] M=some ⟨.int .i64 (if p.2.2<h0 then -1 else (KU p.2.2 hs:Int)),none,[]⟩:=by
 have hG:aT prog 84=some f84:=by kernel_rfl
 obtain⟨N,hN⟩:∃N:Mem,N=M++[.cells true 0 [pv,tv],.cells true 0 [bv,uv,sv],.cells true 0 (vL p),.cells true 0 [.int .i64 (j:Int)],.cells true 0 (vL w)]:=⟨_,rfl⟩
 obtain⟨b,hb⟩:∃b,ai f84=[b]:=⟨_,rfl⟩
 have hnl:N.length=M.length+5:=by rw[hN];simp
 obtain⟨F,hF⟩:=Gw (O:=O) (N:=N) (K:=1100) (m0:=M.length) (d4:=M.length+1) (d5:=M.length+2) (o4:=true) (o5:=true) (bv:=bv) (uv:=uv) (sv:=sv) (p:=p) (hs:=hs) (vs:=vs) (sb:=sb) (caps:=[.ptr M.length 0,.ptr (M.length+3) 0,.ptr (M.length+4) 0]) (by rw[hN,dC];rfl) (by rw[hN,dC];rfl) (by
  rcases hsv with h | ⟨o,h,hh⟩
  ·exact .inl h
  ·exact .inr ⟨o,h,by rw[hN,List.getElem?_append_left (gL hh)];exact hh⟩) hl h2 (by rw[hN];exact ZB) (by omega) hb (fun x hx=>AV.aeH (fun k hk=>by simp only[decide_eq_true_eq] at hk ⊢;omega) x (hm x hx)) (by simp[AV.y9,AV.aeB,hnl])
 have I':=fun z' d h=>(hF z' d h).1
 have T':=fun z' d h=>(hF z' d h).2
 clear hF;have XU :=ag2;simp only[aG,bF,f84,List.nil_append,List.append_nil,List.cons_append,List.map_cons,List.map_nil,List.cons.injEq,and_true] at XU;obtain⟨XY,-⟩:=XU;simp[ai,aK,f84] at hb;subst hb;rw[hN] at I';have w1:IntKind.i64.wrap (-1)= -1:=rfl;have w2:IntKind.i64.wrap (-2)= -2:=rfl;have Yj:∀j,(M.length+j<M.length)=False:=fun j=>dz _ _
 obtain⟨c1,c2,c3,c4,c5⟩:=ck;obtain⟨k1,k2,k3,k4,k5⟩:=kn;obtain⟨e1,e2,e3,e4,e5⟩:=cs;have rp:=fun x=>(rf x).1
 have rt:=fun x=>(rf x).2.1
 have rb:=fun x=>(rf x).2.2.1
 have ru:=fun x=>(rf x).2.2.2.1
 have rs:=fun x=>(rf x).2.2.2.2
 unfold vA at*;simp only[vL] at*;clear ZB hm rf hN hnl;have rF:∀(f:Nat→Bool) (g:FuncId) (l:List AV),AV.y9 f (.func g l)=AV.aeB f l:=fun _ _ _=>rfl
 by_cases hz:p.2.2<h0
 ·have hz' :mo p.2.2 h0<0:=E7.2 hz
  simp[-getElem?_pos,-AV.kS,-AV.known,-AV.cells,-bk,-List.all_eq_true,vS,rS,mS,ad,hG,f84,Yj,eL,eH,eC,hz,hz',rF,rb,-bp,-aZ,-aE,-AV.y9,-aeD.y9,aY XY,cO,cd,fz,cY,bW,iT,bef,Nat.testBit]
 ·have hz' :¬mo p.2.2 h0<0:=fun e=>hz (E7.1 e)
  simp[-getElem?_pos,-AV.kS,-AV.known,-AV.cells,-bk,-List.all_eq_true,vS,rS,mS,ad,hG,f84,Yj,eL,eH,eC,hz,hz',I',T',rF,rb,-bp,-aZ,-aE,-AV.y9,-aeD.y9,aY XY,cO,cd,fz,cY,bW,iT,bef,Nat.testBit]
end
end Go.Proofs
