/- See P53. -/
import Derived.Test.YtmhkeaphiadacaaGreatDoorP41a
set_option linter.all false
set_option maxRecDepth 100000
set_option maxHeartbeats 40000000
namespace Go.Proofs
open Go.Eng
open Tryz
theorem pe{q:Rat}(h:fB q=true):(aS q.num.natAbs).length≤9∧(aS q.den).length≤9:=by unfold fB at h;simp only[Bool.and_eq_true,decide_eq_true_eq] at h;exact⟨bC (by omega) (by simpa using h.1),bC (by omega) (by simpa using h.2)⟩
variable{p:P2}
theorem xO(h:p2B p=true):pDg 2 p:=by unfold p2B Go.Eng.d2 at h;simp only[Bool.and_eq_true,decide_eq_true_eq] at h;exact⟨⟨by simpa using h.1.1,by simpa using h.1.2⟩,⟨by simpa using h.2.1,by simpa using h.2.2⟩⟩
theorem D9(a b:P2)(k:Rat)(h:V8 a b k=true)(M:Mem):mB prog 147 [pA a,pA b,.str (aN k)] M (pA (VU a b k)) M:=by
 have hG:aO prog 147=some f147:=by kernel_rfl
 obtain⟨a1,a2⟩:=a;obtain⟨b1,b2⟩:=b;unfold V8 at h;simp only[Bool.and_eq_true] at h;obtain⟨⟨⟨⟨⟨⟨⟨⟨h1,h2⟩,h3⟩,h4⟩,h5⟩,h6⟩,h7⟩,h8⟩,h9⟩:=h;obtain⟨k1,k2⟩:=pe h1;obtain⟨p1,p2⟩:=pe h2;obtain⟨p3,p4⟩:=pe h3;obtain⟨q1,q2⟩:=pe h4;obtain⟨q3,q4⟩:=pe h5;obtain⟨s1,s2⟩:=pe h6;obtain⟨s3,s4⟩:=pe h7;obtain⟨t1,t2⟩:=pe h8;obtain⟨t3,t4⟩:=pe h9;clear h1 h2 h3 h4 h5 h6 h7 h8 h9;unfold VU;simp only;obtain⟨x1,hx1⟩:∃p,p=b1-a1:=⟨_,rfl⟩
 obtain⟨x2,hx2⟩:∃p,p=b2-a2:=⟨_,rfl⟩
 rw[←hx1] at s1 s2 t1 t2;rw[←hx2] at s3 s4 t3 t4;rw[←hx1,←hx2];obtain⟨y1,hy1⟩:∃p,p=k*x1:=⟨_,rfl⟩
 obtain⟨y2,hy2⟩:∃p,p=k*x2:=⟨_,rfl⟩
 rw[←hy1] at t1 t2;rw[←hy2] at t3 t4;rw[←hy1,←hy2];refine aB dX (lv:=fun _=>[]) (K:=1) rfl rfl ?_ M;obtain⟨o1,F'⟩:∃o1,aP f147=[o1]:=⟨_,rfl⟩
 have hb1:=ie F' (l:=[0,1,0,0,8,0,32,120,252,511,0,1024,0,0,8192,0,32768,123903,259071,524287,1048575,2097151]) (by kernel_rfl);have j1:ba [0,1,0,0,8,0,32,120,252,511,0,1024,0,0,8192,0,32768,123903,259071,524287,1048575,2097151] 21=true:=by decide
 simp[aP,bQ,f147] at F';subst F';simp[ad,hG,f147,-ay,ag hb1,aJ,aG,aH,j1,pA,bO,aL,aM,ar,bd,a8,k1,k2,p1,p2,p3,p4,q1,q2,q3,q4,s1,s2,s3,s4,t1,t2,t3,t4,←hx1,←hx2,←hy1,←hy2,Nat.testBit]
noncomputable def ga(f:FuncId) (args:List AV):Option AV:=
 match f,args with
 |147,[.agg [.str a,.str b],.agg [.str c,.str d],.str k]=>match ef a,ef b,ef c,ef d,ef k with
  |some a,some b,some c,some d,some k=>if V8 (a,b) (c,d) k=true then some (pA (VU (a,b) (c,d) k)) else none
  |_,_,_,_,_=>none
 |f,args=>fO f args
theorem OG:qS prog (ar ga):=bZ fun f args v h mem=>by
 unfold ga at h;split at h
 ·split at h
  ·rename_i a b c d k ha hb hc hd hk
   split at h
   ·rename_i I'
    cases h;rw[aA ha,aA hb,aA hc,aA hd,aA hk];exact D9 (a,b) (c,d) k I' mem
   ·cases h
  ·cases h
 ·have:=Av.fn _ _ mem ⟨v,none,[]⟩ (by unfold ar;simp only;rw[h])
  simpa [HS.mem] using this
def ouP(k:Nat) (L:List P2):AV:=if L.length=0 then .kO else .slice k 0 L.length none
def ouR(L:List P2):Mem:=if L.length=0 then [] else [.cells true 2 (pC L)]
variable{L:List P2}
theorem kH{k:Nat}(h:L.length≠0):ouP k L=.slice k 0 L.length none:=if_neg h
theorem kI(h:L.length≠0):ouR L=[.cells true 2 (pC L)]:=if_neg h
theorem gU(k:Nat):ouP k []=.kO:=rfl
theorem gV:ouR []=[]:=rfl
def uA(c:Code):List Nat:=if (ab c).contains 18 then [5,18] else [9,31]
theorem Un{i:Nat}(h:0<L.length):L[i%L.length]? =some (ptC L i):=by have:=Nat.mod_lt i h;unfold ptC;rw[List.getD_eq_getElem?_getD,List.getElem?_eq_getElem this];rfl
theorem Uc(u v:Rat):IntKind.i64.wrap (nq u*nq v)=nq u*nq v:=by unfold nq ns;split<;>split<;>(try split)<;>(try split)<;>rfl
def eL(t:Bool) (LA:List P2) (LB L:List P2) (p q:P2):Mem:=bif t then [.cells true 0 (pC LA),.cells true 0 (pC LB),.cells true 2 (pC L),.cells true 0 [.str (aN p.1),.str (aN p.2)],.cells true 0 [.str (aN q.1),.str (aN q.2)]] else [.cells true 0 (pC L),.cells true 0 (pC LB),.cells true 0 [.str (aN p.1),.str (aN p.2)],.cells true 0 [.str (aN q.1),.str (aN q.2)]]
variable{K:Nat}{b b1:Code}
theorem ka(t:Bool)(LA:List P2)(LB L:List P2)(p q:P2)(hr:Nj p q L=true)(hl:L.length≤1000)(hK:L.length<K)(hb:aj f110=[b1,b]):
  ∃F:Env→Bool→Env,∀y' d,(aa y' 5=.slice (bif t then 2 else 0) 0 L.length (bif t then none else some L.length)∧aa y' 7=.ptr (bif t then 3 else 2) 0∧aa y' 8=.ptr (bif t then 4 else 3) 0∧aa y' 9=.kO∧aa y' 29=.slice (bif t then 2 else 0) 0 L.length (bif t then none else some L.length)∧aa y' 30=.int .i64 L.length∧aa y' 31=.int .i64 0)→
   aQ (aC prog) uA (ar ga) K 84 0 true (.loop b) ⟨y',eL t LA LB L p q,d⟩=some (.exit 2,⟨F y' d,eL t LA LB L p q++ouR (kZ p q L),d⟩)∧(aa (F y' d) 9=ouP (bif t then 5 else 4) (kZ p q L)∧aa (F y' d) 18=aa y' 18):=by
 refine bf (L:=[9,31]) (by simp[aj,aD,f110] at hb;rw[←hb.2];rfl) (fun y'=>aa y' 5=.slice (bif t then 2 else 0) 0 L.length (bif t then none else some L.length)∧aa y' 7=.ptr (bif t then 3 else 2) 0∧aa y' 8=.ptr (bif t then 4 else 3) 0∧aa y' 9=.kO∧aa y' 29=.slice (bif t then 2 else 0) 0 L.length (bif t then none else some L.length)∧aa y' 30=.int .i64 L.length∧aa y' 31=.int .i64 0) (fun y' z' =>aa z' 9=ouP (bif t then 5 else 4) (kZ p q L)∧aa z' 18=aa y' 18) ?_;rintro y' d ⟨h5,h7,h8,h9,W3,WW,ZK⟩;unfold Nj at hr;simp only[Bool.and_eq_true] at hr;obtain⟨⟨hp,hq⟩,hr⟩:=hr;obtain⟨o1,o2,F'⟩:∃o1 o2,aP f110=[o1,o2]:=⟨_,_,rfl⟩
 obtain⟨hb1,WE⟩:=kA F' (l:=[0,1,3,0,8,24,56,120,0,0,775,2047]) (l' :=[0,0,0,7,0,0,0,127,255,511]) (by kernel_rfl);have k2:ba [0,0,0,7,0,0,0,127,255,511] 9=true:=by decide
 simp[aP,bQ,f110] at F';simp[aj,aD,f110] at hb;obtain⟨-,hb⟩:=hb;have Z7:(eL t LA LB L p q).length=(bif t then 5 else 4):=by cases t<;>rfl
 rw[Z7];have UV:az [9,31] (ab b) y' ((9,ouP (bif t then 5 else 4) (wW p q L 0))::(31,.int .i64 ((0:Nat):Int))::y')=az [9,31] (ab b) y' y':=by simp[az,h9,ZK,wW,gU]
 rw[←UV];have XH:eL t LA LB L p q=eL t LA LB L p q++ouR (wW p q L 0):=by simp[wW,gV]
 conv=>congr;ext z';lhs;lhs;rw[XH]
 refine bA (α:=Nat) (fun n=>⟨az [9,31] (ab b) y' ((9,ouP (bif t then 5 else 4) (wW p q L n))::(31,.int .i64 (n:Int))::y'),eL t LA LB L p q++ouR (wW p q L n),d⟩) (fun n=>L.length-n) (fun n=>n≤L.length) (.exit 2) _ d _ (by simp) ?_ K 0 (by omega) (by omega);intro n Xi;clear UV XH;subst hb;obtain⟨rfl,rfl⟩:=F';by_cases AC:n<L.length
 ·left
  have hc:=List.all_eq_true.1 hr n (List.mem_range.2 AC);have hL0:0<L.length:=by omega
  have ex:=Un (i:=n) hL0;have ey:=Un (i:=n+1) hL0;rw[Nat.mod_eq_of_lt AC] at ex;have XA:wW p q L (n+1)=wW p q L n++Vw p q (ptC L n) (ptC L (n+1)):=rfl;have hol:=FK p q L n;obtain⟨x,hx⟩:∃x,x=ptC L n:=⟨_,rfl⟩
  obtain⟨y,hy⟩:∃x,x=ptC L (n+1):=⟨_,rfl⟩
  obtain⟨o,ho⟩:∃x,x=wW p q L n:=⟨_,rfl⟩
  obtain⟨m,hm⟩:∃m,m=n+1:=⟨_,rfl⟩
  rw[←hx] at ex;rw[←hy] at ey;rw[←hx,←hy,←ho] at XA;rw[←hx,←hy] at hc;rw[←ho] at hol;rw[←ho];have hyB:p2B y=true:=by
   have:=List.all_eq_true.1 hr ((n+1)%L.length) (List.mem_range.2 (Nat.mod_lt _ hL0));unfold Wd at this;simp only[Bool.and_eq_true] at this;have e:ptC L ((n+1)%L.length)=y:=by rw[hy];unfold ptC;rw[Nat.mod_mod]
   rw[e] at this;exact this.1.1.1
  clear hr ho;unfold Wd at hc;simp only[Bool.and_eq_true] at hc;obtain⟨⟨⟨hxB,hu⟩,hv⟩,hc⟩:=hc;unfold Vw at XA;obtain⟨u,hue⟩:∃u,u=gr p q x:=⟨_,rfl⟩
  obtain⟨v,hve⟩:∃u,u=gr p q y:=⟨_,rfl⟩
  rw[←hue] at hu hc XA;rw[←hve] at hv hc XA;obtain⟨k1,-,-,k4⟩:=wS ex;obtain⟨l1,-,-,l4⟩:=wS ey;have hj:(n+1)%L.length<L.length:=Nat.mod_lt _ hL0;have ht:((m:Nat):Int).tmod (L.length:Int)=((m%L.length:Nat):Int):=vC m L.length;rw[←hm] at hj l1 l4;obtain⟨j,YI⟩:∃j,j=m%L.length:=⟨_,rfl⟩
  rw[←YI] at ht hj l1 l4;have hz:¬((L.length:Int)=0):=by omega
  have hz2:¬L.length=0:=by omega
  have w1:IntKind.i64.wrap ((n:Int)+1)=(m:Int):=by rw[ai (by omega) (by omega)];omega
  obtain⟨p5,p6⟩:=cV (xO hp).1 (by omega) (by omega) (Nat.le_refl _) (Nat.le_refl _);obtain⟨p7,p8⟩:=cV (xO hp).2 (by omega) (by omega) (Nat.le_refl _) (Nat.le_refl _);obtain⟨q5,q6⟩:=cV (xO hq).1 (by omega) (by omega) (Nat.le_refl _) (Nat.le_refl _);obtain⟨q7,q8⟩:=cV (xO hq).2 (by omega) (by omega) (Nat.le_refl _) (Nat.le_refl _);obtain⟨x5,x6⟩:=cV (xO hxB).1 (by omega) (by omega) (Nat.le_refl _) (Nat.le_refl _);obtain⟨x7,x8⟩:=cV (xO hxB).2 (by omega) (by omega) (Nat.le_refl _) (Nat.le_refl _);obtain⟨y5,y6⟩:=cV (xO hyB).1 (by omega) (by omega) (Nat.le_refl _) (Nat.le_refl _);obtain⟨y7,y8⟩:=cV (xO hyB).2 (by omega) (by omega) (Nat.le_refl _) (Nat.le_refl _);obtain⟨u5,u6⟩:=pe hu;obtain⟨v5,v6⟩:=pe hv;have hws:IntKind.i64.wrap (nq u*nq v)=nq u*nq v:=Uc u v;obtain⟨px,py⟩:=p;obtain⟨qx,qy⟩:=q;obtain⟨x1,x2⟩:=x;obtain⟨y1,y2⟩:=y;simp only at k1 l1 p5 p6 p7 p8 q5 q6 q7 q8 x5 x6 x7 x8 y5 y6 y7 y8;have Xk:=gy o;have Yh:∀z:P2,pC (o++[z])=pC o++[.str (aN z.1),.str (aN z.2)]:=fun z=>by rw[gx];rfl
  have hpc2:∀z w:P2,pC (o++[z,w])=pC o++[.str (aN z.1),.str (aN z.2),.str (aN w.1),.str (aN w.2)]:=fun z w=>by rw[gx];rfl
  obtain⟨r,WO⟩:∃r,r=o.length:=⟨_,rfl⟩
  rw[←WO] at Xk;have hpl2:∀a b:AV,(pC o++[a,b]).length=(r+1)*2:=fun a b=>by rw[List.length_append,Xk];simp;omega
  have g3:(pC o).take (r*2)=pC o:=List.take_of_length_le (by omega);have g3b:∀a b:AV,(pC o++[a,b]).take ((r+1)*2)=pC o++[a,b]:=fun a b=>List.take_of_length_le (by rw[hpl2];omega)
  have g1:(r+1)*32≤140737488355328:=by omega
  have g1b:(r+2)*32≤140737488355328:=by omega
  have g1c:(r+1+1)*32≤140737488355328:=by omega
  have g2:r≤140737488355327:=by omega
  have ZM:r+1≤140737488355327:=by omega
  have g2c:r+1≤140737488355328:=by omega
  have g2d:r+1+1≤140737488355328:=by omega
  have g2e:r+2≤140737488355328:=by omega
  refine⟨m,?_⟩;rw[←hm] at XA;rw[XA];by_cases hs:nq u*nq v<0
  ·rw[if_pos hs] at hc
   simp only[Bool.and_eq_true,decide_eq_true_eq] at hc;obtain⟨⟨H',hd⟩,htow⟩:=hc;obtain⟨d5,d6⟩:=pe hd;obtain⟨e,he⟩:∃e,e=u-v:=⟨_,rfl⟩
   rw[←he] at H' d5 d6 htow ⊢;obtain⟨s,hse⟩:∃s,s=u / e:=⟨_,rfl⟩
   rw[←hse] at htow ⊢;obtain⟨z,hze⟩:∃z,z=VU (x1,x2) (y1,y2) s:=⟨_,rfl⟩
   rw[←hze];by_cases hk:0≤nq u
   ·have hk' :¬nq u<0:=by omega
    rw[if_pos hk,if_pos hs];by_cases Xw:r=0
    ·have XF:o=[]:=List.eq_nil_of_length_eq_zero (by omega)
     subst XF;cases t<;>(simp[eL,h5,h7,h8,W3,WW,AC,k1,k4,l1,l4,w1,ht,hj,hz,hz2,-ay,ag WE,aJ,aG,aH,k2,pA,ar,ga,fO,bd,a8,bu,bq,aM,p5,p6,p7,p8,q5,q6,q7,q8,x5,x6,x7,x8,y5,y6,y7,y8,u5,u6,v5,v6,←hue,←hve,hws,hs,hk,hk',be,cz,oI,bO,aL,Nat.testBit,H',d5,d6,←he,←hse,htow,←hze,gU,gV,ouP,ouR,pC];omega)
    ·cases t<;>(simp[eL,h5,h7,h8,W3,WW,AC,k1,k4,l1,l4,w1,ht,hj,hz,hz2,-ay,ag WE,aJ,aG,aH,k2,pA,ar,ga,fO,bd,a8,bu,bq,aM,p5,p6,p7,p8,q5,q6,q7,q8,x5,x6,x7,x8,y5,y6,y7,y8,u5,u6,v5,v6,←hue,←hve,hws,hs,hk,hk',be,cz,oI,bO,aL,Nat.testBit,H',d5,d6,←he,←hse,htow,←hze,ouP,ouR,Xw,Xk,hpl2,Yh,hpc2,g1,g1b,g1c,g2,ZM,g2c,g2d,g2e,g3,g3b,←WO];omega)
   ·have hk' :nq u<0:=by omega
    rw[if_neg hk,if_pos hs];by_cases Xw:r=0
    ·have XF:o=[]:=List.eq_nil_of_length_eq_zero (by omega)
     subst XF;cases t<;>(simp[eL,h5,h7,h8,W3,WW,AC,k1,k4,l1,l4,w1,ht,hj,hz,hz2,-ay,ag WE,aJ,aG,aH,k2,pA,ar,ga,fO,bd,a8,bu,bq,aM,p5,p6,p7,p8,q5,q6,q7,q8,x5,x6,x7,x8,y5,y6,y7,y8,u5,u6,v5,v6,←hue,←hve,hws,hs,hk,hk',be,cz,oI,bO,aL,Nat.testBit,H',d5,d6,←he,←hse,htow,←hze,gU,gV,ouP,ouR,pC];omega)
    ·cases t<;>(simp[eL,h5,h7,h8,W3,WW,AC,k1,k4,l1,l4,w1,ht,hj,hz,hz2,-ay,ag WE,aJ,aG,aH,k2,pA,ar,ga,fO,bd,a8,bu,bq,aM,p5,p6,p7,p8,q5,q6,q7,q8,x5,x6,x7,x8,y5,y6,y7,y8,u5,u6,v5,v6,←hue,←hve,hws,hs,hk,hk',be,cz,oI,bO,aL,Nat.testBit,H',d5,d6,←he,←hse,htow,←hze,ouP,ouR,Xw,Xk,hpl2,Yh,hpc2,g1,g1b,g1c,g2,ZM,g2c,g2d,g2e,g3,g3b,←WO];omega)
  ·by_cases hk:0≤nq u
   ·have hk' :¬nq u<0:=by omega
    rw[if_pos hk,if_neg hs];by_cases Xw:r=0
    ·have XF:o=[]:=List.eq_nil_of_length_eq_zero (by omega)
     subst XF;cases t<;>(simp[eL,h5,h7,h8,W3,WW,AC,k1,k4,l1,l4,w1,ht,hj,hz,hz2,-ay,ag WE,aJ,aG,aH,k2,pA,ar,ga,fO,bd,a8,bu,bq,aM,p5,p6,p7,p8,q5,q6,q7,q8,x5,x6,x7,x8,y5,y6,y7,y8,u5,u6,v5,v6,←hue,←hve,hws,hs,hk,hk',be,cz,oI,bO,aL,Nat.testBit,gU,gV,ouP,ouR,pC];omega)
    ·cases t<;>(simp[eL,h5,h7,h8,W3,WW,AC,k1,k4,l1,l4,w1,ht,hj,hz,hz2,-ay,ag WE,aJ,aG,aH,k2,pA,ar,ga,fO,bd,a8,bu,bq,aM,p5,p6,p7,p8,q5,q6,q7,q8,x5,x6,x7,x8,y5,y6,y7,y8,u5,u6,v5,v6,←hue,←hve,hws,hs,hk,hk',be,cz,oI,bO,aL,Nat.testBit,ouP,ouR,Xw,Xk,hpl2,Yh,hpc2,g1,g1b,g1c,g2,ZM,g2c,g2d,g2e,g3,g3b,←WO];omega)
   ·have hk' :nq u<0:=by omega
    rw[if_neg hk,if_neg hs];by_cases Xw:r=0
    ·have XF:o=[]:=List.eq_nil_of_length_eq_zero (by omega)
     subst XF;cases t<;>(simp[eL,h5,h7,h8,W3,WW,AC,k1,k4,l1,l4,w1,ht,hj,hz,hz2,-ay,ag WE,aJ,aG,aH,k2,pA,ar,ga,fO,bd,a8,bu,bq,aM,p5,p6,p7,p8,q5,q6,q7,q8,x5,x6,x7,x8,y5,y6,y7,y8,u5,u6,v5,v6,←hue,←hve,hws,hs,hk,hk',be,cz,oI,bO,aL,Nat.testBit,gU,gV,ouP,ouR,pC];omega)
    ·cases t<;>(simp[eL,h5,h7,h8,W3,WW,AC,k1,k4,l1,l4,w1,ht,hj,hz,hz2,-ay,ag WE,aJ,aG,aH,k2,pA,ar,ga,fO,bd,a8,bu,bq,aM,p5,p6,p7,p8,q5,q6,q7,q8,x5,x6,x7,x8,y5,y6,y7,y8,u5,u6,v5,v6,←hue,←hve,hws,hs,hk,hk',be,cz,oI,bO,aL,Nat.testBit,ouP,ouR,Xw,Xk,hpl2,Yh,hpc2,g1,g1b,g1c,g2,ZM,g2c,g2d,g2e,g3,g3b,←WO];omega)
 ·right
  have e:n=L.length:=by omega
  subst e;simp[WW,kZ]
def tA(a:T2):AV:=.agg (pC (tL a))
def uB(LA LB:List P2) (p q:P2):Mem:=[.cells true 0 (pC LA),.cells true 0 (pC LB),.cells true 0 [.str (aN p.1),.str (aN p.2)],.cells true 0 [.str (aN q.1),.str (aN q.2)]]
theorem pN(LA LB:List P2)(p q:P2)(hK:0<K)(hb:aj f110=[b1,b]):
  ∃F:Env→Bool→Env,∀y' d,(aa y' 9=.kO∧aa y' 30=.int .i64 0∧aa y' 31=.int .i64 0)→
   aQ (aC prog) uA (ar ga) K 84 0 true (.loop b) ⟨y',uB LA LB p q,d⟩=some (.exit 2,⟨F y' d,uB LA LB p q,d⟩)∧(aa (F y' d) 9=.kO∧aa (F y' d) 18=aa y' 18):=by
 refine bf (L:=[9,31]) (by simp[aj,aD,f110] at hb;rw[←hb.2];rfl) (fun y'=>aa y' 9=.kO∧aa y' 30=.int .i64 0∧aa y' 31=.int .i64 0) (fun y' z' =>aa z' 9=.kO∧aa z' 18=aa y' 18) ?_;rintro y' d ⟨h9,WW,ZK⟩;simp[aj,aD,f110] at hb;obtain⟨-,hb⟩:=hb;refine bA (α:=Nat) (fun n=>⟨az [9,31] (ab b) y' y',uB LA LB p q,d⟩) (fun n=>0) (fun n=>n=0) (.exit 2) _ d _ (by simp) ?_ K 0 rfl (by omega);rintro n rfl;right;subst hb;simp[h9,WW,ZK]
def rgK(a b:T2):Nat→List P2
 |0=>tL a
 |1=>kZ b.1 b.2.1 (tL a)
 |2=>kZ b.2.1 b.2.2 (kZ b.1 b.2.1 (tL a))
 |_=>sk a b
def rgV(a b:T2) (k:Nat):AV:=if k=0 then .slice 0 0 3 (some 3) else ouP 2 (rgK a b k)
def rgM(a b:T2) (k:Nat):Mem:=[.cells true 0 (pC (tL a)),.cells true 0 (pC (tL b))]++if k=0 then [] else ouR (rgK a b k)
theorem KS(p q:P2):kZ p q []=[]:=rfl
variable{q:P2}
theorem vw{n:Nat}(h:L.length≤n):(kZ p q L).length≤2*n:=by have:=FK p q L L.length;unfold kZ;omega
theorem zZ(a b:T2)(hr:Ft a b=true)(hK:100<K){b2:Code}(hb:aj f110=[b1,b2]):
  ∃F:Env→Bool→Env,∀y' d,(aa y' 2=.ptr 0 0∧aa y' 3=.ptr 1 0∧aa y' 5=.slice 0 0 3 (some 3)∧aa y' 18=.int .i64 0)→
   aQ (aC prog) uA (ar ga) K 84 0 true (.loop b1) ⟨y',rgM a b 0,d⟩=some (.exit 0,⟨F y' d,rgM a b 3,d⟩)∧aa (F y' d) 5=rgV a b 3:=by
 refine bf (L:=[5,18]) (by simp[aj,aD,f110] at hb;rw[←hb.1];rfl) (fun y'=>aa y' 2=.ptr 0 0∧aa y' 3=.ptr 1 0∧aa y' 5=.slice 0 0 3 (some 3)∧aa y' 18=.int .i64 0) (fun _ z' =>aa z' 5=rgV a b 3) ?_;rintro y' d ⟨h2,h3,h5,h18⟩;unfold Ft at hr;simp only[Bool.and_eq_true] at hr;obtain⟨r1,r2,r3,-⟩:=hr;obtain⟨a0,a1,a2⟩:=a;obtain⟨b0,XG,Xz⟩:=b;have l1:(rgK (a0,a1,a2) (b0,XG,Xz) 1).length≤6:=vw (n:=3) (by simp[tL]);have l2:(rgK (a0,a1,a2) (b0,XG,Xz) 2).length≤12:=vw (n:=6) l1;obtain⟨o1,o2,F'⟩:∃o1 o2,aP f110=[o1,o2]:=⟨_,_,rfl⟩
 obtain⟨hb1,WE⟩:=kA F' (l:=[0,1,3,0,8,24,56,120,0,0,775,2047]) (l' :=[0,0,0,7,0,0,0,127,255,511]) (by kernel_rfl);obtain⟨FA,hA⟩:=ka (K:=K) false [] (tL (b0,XG,Xz)) (tL (a0,a1,a2)) b0 XG r1 (by simp[tL]) (by simp[tL];omega) hb;simp only[eL,cond_true,cond_false] at hA;have hA1:=fun y' d h=>(hA y' d h).1
 have hA2:=fun y' d h=>(hA y' d h).2.1
 have hA3:=fun y' d h=>(hA y' d h).2.2
 simp[aP,bQ,f110] at F';have J' :=hb;simp[aj,aD,f110] at J';obtain⟨hbo,hbi⟩:=J';have Z7:(rgM (a0,a1,a2) (b0,XG,Xz) 0).length=2:=rfl;rw[Z7];have UV:az [5,18] (ab b1) y' ((5,rgV (a0,a1,a2) (b0,XG,Xz) 0)::(18,.int .i64 ((0:Nat):Int))::y')=az [5,18] (ab b1) y' y':=by simp[az,h5,h18,rgV]
 rw[←UV];refine bA (α:=Nat) (fun n=>⟨az [5,18] (ab b1) y' ((5,rgV (a0,a1,a2) (b0,XG,Xz) n)::(18,.int .i64 (n:Int))::y'),rgM (a0,a1,a2) (b0,XG,Xz) n,d⟩) (fun n=>3-n) (fun n=>n≤3) (.exit 0) _ d _ (by simp) ?_ K 0 (by omega) (by omega);intro n Xi;clear UV;subst hbi;subst hbo;obtain⟨rfl,rfl⟩:=F';have v0:IntKind.i64.wrap 0=0:=rfl;have v1:IntKind.i64.wrap 1=1:=rfl;have v2:IntKind.i64.wrap 2=2:=rfl;have v3:IntKind.i64.wrap 3=3:=rfl;obtain rfl | rfl | rfl | rfl:n=0∨n=1∨n=2∨n=3:=by omega
 ·left
  refine⟨1,?_⟩;have e1:rgK (a0,a1,a2) (b0,XG,Xz) 1=kZ b0 XG (tL (a0,a1,a2)):=rfl;obtain⟨R,hR⟩:∃R,R=kZ b0 XG (tL (a0,a1,a2)):=⟨_,rfl⟩
  rw[←hR] at hA1 hA2 e1;simp only[tL,pC,List.length_cons,List.length_nil] at hA1 hA2 hA3;by_cases h0:R.length=0
  ·have:R=[]:=List.eq_nil_of_length_eq_zero h0
   subst this;simp[rgV,rgM,e1,gU,gV,hA1,hA2,hA3,h3,eP,-ay,br hb1,cO,fu,fg,cY,cj,iT,bef,cw,jd,tL,pC,v1,Nat.testBit]
  ·simp[rgV,rgM,e1,kH h0,kI h0,hA1,hA2,hA3,h3,eP,-ay,br hb1,cO,fu,fg,cY,cj,iT,bef,cw,jd,be,cz,tL,pC,v1,Nat.testBit]
 ·left
  refine⟨2,?_⟩;have e1:rgK (a0,a1,a2) (b0,XG,Xz) 2=kZ XG Xz (rgK (a0,a1,a2) (b0,XG,Xz) 1):=rfl;have r2' :Nj XG Xz (rgK (a0,a1,a2) (b0,XG,Xz) 1)=true:=r2;obtain⟨L,hL⟩:∃R,R=rgK (a0,a1,a2) (b0,XG,Xz) 1:=⟨_,rfl⟩
  rw[←hL] at e1 l1 r2';by_cases h00:L.length=0
  ·have:L=[]:=List.eq_nil_of_length_eq_zero h00
   subst this;rw[KS] at e1;obtain⟨FN,hN⟩:=pN (K:=K) (tL (a0,a1,a2)) (tL (b0,XG,Xz)) XG Xz (by omega) hb;have hN1:=fun y' d h=>(hN y' d h).1
   have Xp:=fun y' d h=>(hN y' d h).2.1
   have hN3:=fun y' d h=>(hN y' d h).2.2
   simp only[uB,tL,pC] at hN1 Xp hN3;simp[rgV,rgM,e1,←hL,gU,gV,hN1,Xp,hN3,h3,eP,-ay,br hb1,cO,fu,fg,cY,cj,iT,bef,cw,jd,tL,pC,v2,Nat.testBit]
  ·obtain⟨FB,hB⟩:=ka (K:=K) true (tL (a0,a1,a2)) (tL (b0,XG,Xz)) L XG Xz r2' (by omega) (by omega) hb
   simp only[eL,cond_true,cond_false] at hB;have Yq:=fun y' d h=>(hB y' d h).1
   have Yr:=fun y' d h=>(hB y' d h).2.1
   have YK:=fun y' d h=>(hB y' d h).2.2
   obtain⟨R,hR⟩:∃R,R=kZ XG Xz L:=⟨_,rfl⟩
   rw[←hR] at Yq Yr e1;simp only[tL,pC] at Yq Yr YK;by_cases h0:R.length=0
   ·have:R=[]:=List.eq_nil_of_length_eq_zero h0
    subst this;simp[rgV,rgM,e1,←hL,kH h00,kI h00,gU,gV,Yq,Yr,YK,h3,eP,-ay,br hb1,cO,fu,fg,cY,cj,iT,bef,cw,jd,tL,pC,v2,Nat.testBit]
   ·simp[rgV,rgM,e1,←hL,kH h00,kI h00,kH h0,kI h0,Yq,Yr,YK,h3,eP,-ay,br hb1,cO,fu,fg,cY,cj,iT,bef,cw,jd,be,cz,tL,pC,v2,Nat.testBit]
 ·left
  refine⟨3,?_⟩;have e1:rgK (a0,a1,a2) (b0,XG,Xz) 3=kZ Xz b0 (rgK (a0,a1,a2) (b0,XG,Xz) 2):=rfl;have r2' :Nj Xz b0 (rgK (a0,a1,a2) (b0,XG,Xz) 2)=true:=r3;obtain⟨L,hL⟩:∃R,R=rgK (a0,a1,a2) (b0,XG,Xz) 2:=⟨_,rfl⟩
  rw[←hL] at e1 l2 r2';by_cases h00:L.length=0
  ·have:L=[]:=List.eq_nil_of_length_eq_zero h00
   subst this;rw[KS] at e1;obtain⟨FN,hN⟩:=pN (K:=K) (tL (a0,a1,a2)) (tL (b0,XG,Xz)) Xz b0 (by omega) hb;have hN1:=fun y' d h=>(hN y' d h).1
   have Xp:=fun y' d h=>(hN y' d h).2.1
   have hN3:=fun y' d h=>(hN y' d h).2.2
   simp only[uB,tL,pC] at hN1 Xp hN3;simp[rgV,rgM,e1,←hL,gU,gV,hN1,Xp,hN3,h3,eP,-ay,br hb1,cO,fu,fg,cY,cj,iT,bef,cw,jd,tL,pC,v3,Nat.testBit]
  ·obtain⟨FB,hB⟩:=ka (K:=K) true (tL (a0,a1,a2)) (tL (b0,XG,Xz)) L Xz b0 r2' (by omega) (by omega) hb
   simp only[eL,cond_true,cond_false] at hB;have Yq:=fun y' d h=>(hB y' d h).1
   have Yr:=fun y' d h=>(hB y' d h).2.1
   have YK:=fun y' d h=>(hB y' d h).2.2
   obtain⟨R,hR⟩:∃R,R=kZ Xz b0 L:=⟨_,rfl⟩
   rw[←hR] at Yq Yr e1;simp only[tL,pC] at Yq Yr YK;by_cases h0:R.length=0
   ·have:R=[]:=List.eq_nil_of_length_eq_zero h0
    subst this;simp[rgV,rgM,e1,←hL,kH h00,kI h00,gU,gV,Yq,Yr,YK,h3,eP,-ay,br hb1,cO,fu,fg,cY,cj,iT,bef,cw,jd,tL,pC,v3,Nat.testBit]
   ·simp[rgV,rgM,e1,←hL,kH h00,kI h00,kH h0,kI h0,Yq,Yr,YK,h3,eP,-ay,br hb1,cO,fu,fg,cY,cj,iT,bef,cw,jd,be,cz,tL,pC,v3,Nat.testBit]
 ·right
  simp
theorem Gm(a b:T2)(h:Ft a b=true):mB prog 110 [tA a,tA b] [] (ouP 0 (sk a b)) (ouR (sk a b)):=by
 have hG:aO prog 110=some f110:=by kernel_rfl
 obtain⟨K,hK⟩:∃K,K=200:=⟨_,rfl⟩
 obtain⟨b1,b2,hb⟩:∃b1 b2,aj f110=[b1,b2]:=⟨_,_,rfl⟩
 obtain⟨F,hF⟩:=zZ (K:=K) a b h (by omega) hb;simp[aj,aD,f110] at hb;obtain⟨rfl,rfl⟩:=hb;have H1:=fun y' d h=>(hF y' d h).1
 have P':=fun y' d h=>(hF y' d h).2
 clear hF;obtain⟨R,hR⟩:∃R,R=sk a b:=⟨_,rfl⟩
 have e3:rgV a b 3=ouP 2 R:=by rw[hR];rfl
 have e4:rgM a b 3=[.cells true 0 (pC (tL a)),.cells true 0 (pC (tL b))]++ouR R:=by rw[hR];rfl
 have e5:rgM a b 0=[.cells true 0 (pC (tL a)),.cells true 0 (pC (tL b))]:=rfl;rw[e4,e5] at H1;rw[e3] at P';rw[←hR];obtain⟨a0,a1,a2⟩:=a;obtain⟨b0,XG,Xz⟩:=b;simp only[tL,pC] at H1 P';have h:ad (aC prog) uA (aO prog) (ar ga) K 110 [tA (a0,a1,a2),tA (b0,XG,Xz)] []=some ⟨ouP 0 R,none,ouR R⟩:=by
  by_cases h0:R.length=0
  ·have:R=[]:=List.eq_nil_of_length_eq_zero h0
   subst this;simp[gU,gV] at H1 P' ⊢;simp[ad,hG,f110,H1,P',tA,tL,pC]
  ·simp[kH h0,kI h0] at H1 P' ⊢
   simp[ad,hG,f110,H1,P',tA,tL,pC,be,cz]
 have:=(au af (aw _) OG (ax _) h).1;simpa [HS.mem] using this
theorem Lr(a b:T2)(h:Ft a b=true)(M:Mem):mB prog 110 [tA a,tA b] M (ouP M.length (sk a b)) (M++ouR (sk a b)):=by have:=mB.frame (M:=M) (new:=ouR (sk a b)) (args:=[tA a,tA b]) [] (m:=[]) rfl (by simp) (by rfl) (fun i s hs=>by simp at hs) (by unfold ouR;split<;>rfl) (Gm a b h);unfold ouP ouR at this ⊢;split at this<;>simpa [AV.ren,AV.aal,dr,aae.ren,cz,tA,tL,pC, *] using this
def yX(s:P2):Nat→List P2→Int
 |_,[]=> -1
 |i,x::l=>if (decide (s.1=x.1)&&decide (s.2=x.2))=true then (i:Int) else yX s (i+1) l
theorem NQ{s:P2}:∀{i:Nat}{l:List P2},yX s i l<0↔uo l s=false
 |i,[]=>by simp[yX,uo]
 |i,x::l=>by
  unfold yX;have ih:=NQ (s:=s) (i:=i+1) (l:=l);unfold uo at ih ⊢;rw[List.any_cons];have e:(decide (x.1=s.1)&&decide (x.2=s.2))=(decide (s.1=x.1)&&decide (s.2=x.2)):=by rw[decide_eq_decide.2 (eq_comm (a:=x.1)),decide_eq_decide.2 (eq_comm (a:=x.2))]
  rw[e];by_cases h:(decide (s.1=x.1)&&decide (s.2=x.2))=true
  ·rw[if_pos h,h];simp
  ·rw[if_neg h,ih,Bool.not_eq_true] at*
   rw[h,Bool.false_or]
theorem RF{s:P2}:∀{i:Nat}{l:List P2},-1≤yX s i l
 |i,[]=>by unfold yX;omega
 |i,x::l=>by
  unfold yX;split
  ·omega
  ·exact RF
theorem yE{O:aac}(L:List P2)(s:P2)(c:Option Nat)(es:Nat)(hl:L.length≤1000000000)(hK:L.length<K)(hb:aj f148=[b]):
  ∃F:Env→Bool→Env,∀y' d,(aa y' 0=.slice 0 0 L.length c∧aa y' 3=.ptr 1 0∧aa y' 7=.int .i64 L.length∧aa y' 8=.int .i64 0)→
   aQ (aC prog) (fun _=>[8]) O K 19 1 true (.loop b) ⟨y',[.cells false es (pC L),.cells true 0 [.str (aN s.1),.str (aN s.2)]],d⟩=some (if yX s 0 L<0 then .exit 0 else .ret,⟨F y' d,[.cells false es (pC L),.cells true 0 [.str (aN s.1),.str (aN s.2)]],d⟩)∧
    (¬yX s 0 L<0→aa (F y' d) 4=.int .i64 (yX s 0 L)):=by
 refine bf rfl (fun y'=>aa y' 0=.slice 0 0 L.length c∧aa y' 3=.ptr 1 0∧aa y' 7=.int .i64 L.length∧aa y' 8=.int .i64 0) (fun _ z' =>¬yX s 0 L<0→aa z' 4=.int .i64 (yX s 0 L)) ?_;rintro y' d ⟨h0,h1,h7,h8⟩;obtain⟨ops,F'⟩:∃ops,aP f148=[ops]:=⟨_,rfl⟩
 have PP:=ie F' (l:=[0,0,0,6,14,31]) (by kernel_rfl);have Y9:ba [0,0,0,6,14,31] 5=true:=by decide
 simp[aP,bQ,f148] at F';simp[aj,aD,f148] at hb;have hn:az [8] (ab b) y' ((8,.int .i64 ((0:Nat):Int))::y')=az [8] (ab b) y' y':=by simp[az,h8]
 rw[←hn];refine bA (α:=Nat) (fun n=>⟨az [8] (ab b) y' ((8,.int .i64 (n:Int))::y'),[.cells false es (pC L),.cells true 0 [.str (aN s.1),.str (aN s.2)]],d⟩) (fun n=>L.length-n) (fun n=>n≤L.length∧yX s 0 L=yX s n (L.drop n)) _ _ d _ (by split<;>simp) ?_ K 0 ⟨by omega,by rw[List.drop_zero]⟩ (by omega);rintro n ⟨Xi,he⟩;clear hn;subst hb;subst F';by_cases AC:n<L.length
 ·obtain⟨x,hx⟩:∃x,L[n]? =some x:=⟨L[n],List.getElem?_eq_getElem AC⟩
  obtain⟨k1,-,-,k4⟩:=wS hx;have hd:L.drop n=x::L.drop (n+1):=by rw[List.getElem?_eq_some_iff] at hx;obtain⟨h1,h2⟩:=hx;rw[←h2];exact List.drop_eq_getElem_cons h1
  rw[hd,yX] at he;have w1:IntKind.i64.wrap ((n:Int)+1)=((n+1:Nat):Int):=by rw[ai (by omega) (by omega)];omega
  have eq:=GN s x;simp only[pA] at eq;by_cases hs:(decide (s.1=x.1)&&decide (s.2=x.2))=true
  ·right
   rw[if_pos hs] at he;rw[hs] at eq;have hng:¬(n:Int)<0:=by omega
   rw[he,if_neg hng];simp[h0,h1,h7,AC,k1,k4,eq,-ay,ag PP,aJ,aG,aH,Y9]
  ·left
   rw[if_neg hs] at he;rw[Bool.not_eq_true] at hs;rw[hs] at eq;refine⟨n+1,?_⟩;refine cC (show(n+1≤L.length∧yX s 0 L=yX s (n+1) (L.drop (n+1)))∧L.length-(n+1)<L.length-n from⟨⟨by omega,he⟩,by omega⟩) ?_;simp[h0,h1,h7,AC,k1,k4,eq,w1,-ay,ag PP,aJ,aG,aH,Y9]
 ·right
  have e:L.drop n=[]:=List.drop_of_length_le (by omega);rw[e,yX] at he;rw[he,if_pos (by decide)];simp[h7,AC]
theorem BU(L:List P2)(s:P2)(c:Option Nat)(es:Nat)(hl:L.length≤1000000000):
  mB prog 148 [.slice 0 0 L.length c,pA s] [.cells false es (pC L)] (.int .i64 (yX s 0 L)) [.cells false es (pC L)]:=by
 have hG:aO prog 148=some f148:=by kernel_rfl
 obtain⟨b,hb⟩:∃b,aj f148=[b]:=⟨_,rfl⟩
 obtain⟨F,hF⟩:=yE (O:=bt) (K:=L.length+1) L s c es hl (by omega) hb;simp[aj,aD,f148] at hb;subst hb;refine aY (lv:=(fun _=>[8])) (K:=(L.length+1)) (ah _) ?_;by_cases hc:yX s 0 L<0
 ·rw[if_pos hc] at hF
  have H1:=fun y' d h=>(hF y' d h).1
  clear hF;have h1:yX s 0 L= -1:=by have:=RF (s:=s) (i:=0) (l:=L);omega
  rw[h1];simp[ad,hG,f148,H1,pA]
 ·rw[if_neg hc] at hF
  have H1:=fun y' d h=>(hF y' d h).1
  have P':=fun y' d h=>(hF y' d h).2 hc
  clear hF;simp[ad,hG,f148,H1,P',pA]
theorem yn(s:P2)(M:Mem):mB prog 148 [.kO,pA s] M (.int .i64 (-1)) M:=by
 have hG:aO prog 148=some f148:=by kernel_rfl
 refine aB (ah _) (lv:=fun _=>[8]) (K:=1) rfl rfl ?_ M;simp[ad,hG,f148,aR,gl,pA]
def aa6(M:Mem) (x:AV) (L:List P2):Prop:=L.length≤1000∧((∃b c o es,x=.slice b 0 L.length c∧M[b]? =some (.cells o es (pC L)))∨x=.kO∧L=[])
variable{M:Mem}{x:AV}
theorem DT(s:P2)(hx:aa6 M x L):mB prog 148 [x,pA s] M (.int .i64 (yX s 0 L)) M:=by
 obtain⟨hl,⟨b,c,o,es,rfl,hb⟩ | ⟨rfl,rfl⟩⟩:=hx
 ·have:=mB.frame (M:=M) (new:=[]) (args:=[.slice 0 0 L.length c,pA s]) [b] (m:=[.cells false es (pC L)]) rfl (by simpa using bL hb) (by rfl) (fun i s hs=>by
   match i with
   |0=>simp at hs;subst hs;exact aV (bV L) hb List.take_length
   |i+1=>simp at hs) rfl (by simpa using BU L s c es (by omega))
  simpa [AV.aal,AV.ren,dr,pA] using this
 ·exact yn s M
def uu(c:Go.Eng.Callee) (a:List AV) (N:Mem) (r:HS):Prop:=match c,a with
 |.fn 148,[x,p]=>∃L s,aa6 N x L∧p=pA s∧r=⟨.int .i64 (yX s 0 L),none,[]⟩
 |_,_=>False
theorem Mo:qS prog (fS uu):=vz fun c a N r h=>by
 unfold uu at h;split at h
 ·obtain⟨L,s,h1,rfl,rfl⟩:=h
  exact ak (by simpa using DT s h1)
 ·exact h.elim
theorem R6:∀{L L' :List P2},pC L=pC L' →L=L'
 | [],[],_=>rfl
 | [],p::L',h=>by cases h
 |p::L,[],h=>by cases h
 |p::L,p' ::L',h=>by simp only[pC,List.cons.injEq,AV.str.injEq] at h;obtain⟨h1,h2,h3⟩:=h;rw[show p=p' from Prod.ext (mf h1) (mf h2),R6 h3]
theorem Um(h:pA p=pA q):p=q:=by simp only[pA,AV.agg.injEq,List.cons.injEq,AV.str.injEq,and_true] at h;exact Prod.ext (mf h.1) (mf h.2)
theorem aa6.uniq{L' :List P2}(h:aa6 M x L)(h' :aa6 M x L'):L=L' :=by
 obtain⟨_,⟨b,c,o,es,rfl,hb⟩ | ⟨rfl,rfl⟩⟩:=h
 ·obtain⟨_,⟨b',c',o',Xt,e,J'⟩ | ⟨e,rfl⟩⟩:=h'
  ·obtain⟨rfl,-,-,-⟩:=AV.slice.inj e
   rw[hb] at J';simp only[Option.some.injEq,aae.cells.injEq] at J';exact R6 J'.2.2
  ·cases e
 ·obtain⟨_,⟨b',c',o',Xt,e,J'⟩ | ⟨e,rfl⟩⟩:=h'
  ·cases e
  ·rfl
theorem Mn{N:Mem}{s:P2}(h:aa6 N x L):fS uu (.fn 148) [x,pA s] N=some ⟨.int .i64 (yX s 0 L),none,[]⟩:=
 eY (S:=uu) (show uu _ _ _ _ from⟨L,s,h,rfl,rfl⟩) fun r' h' =>by obtain⟨L',s',k1,k2,k3⟩:=h';rw[k3,h.uniq k1,Um k2]
theorem aa6.more(h:aa6 M x L)(X:Mem):aa6 (M++X) x L:=by
 obtain⟨hl,⟨b,c,o,es,rfl,hb⟩ | ⟨rfl,rfl⟩⟩:=h
 ·exact⟨hl,.inl ⟨b,c,o,es,rfl,by rw[List.getElem?_append_left (bL hb)];exact hb⟩⟩
 ·exact⟨hl,.inr ⟨rfl,rfl⟩⟩
theorem yg(s:P2)(hx:aa6 M x L)(hk:x.qK=true):mB prog 111 [x,pA s] M (.bool (uo L s)) M:=by
 have hG:aO prog 111=some f111:=by kernel_rfl
 have hi:decide (0≤yX s 0 L)=uo L s:=by
  have:=NQ (s:=s) (i:=0) (l:=L);cases h:uo L s with
  |false=>simp only[decide_eq_false_iff_not];have:=this.2 h;omega
  |true=>
   simp only[decide_eq_true_eq];exact Int.not_lt.1 fun e=>by have:=this.1 e;rw[h] at this;cases this
 have e1:=Mn (s:=s) (hx.more [.cells true 0 [.str (aN s.1),.str (aN s.2)]]);simp only[pA] at e1;refine aY (K:=1) (lv:=fun _=>[]) Mo ?_;rw[←hi];simp[ad,hG,f111,e1,pA]
end Go.Proofs
