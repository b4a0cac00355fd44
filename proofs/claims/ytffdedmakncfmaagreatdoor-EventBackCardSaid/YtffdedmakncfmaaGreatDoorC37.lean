/- See C54. -/
import Derived.Test.YtffdedmakncfmaaGreatDoorC35
import Derived.Test.YtffdedmakncfmaaGreatDoorC28
set_option linter.all false
set_option maxRecDepth 100000
set_option maxHeartbeats 40000000
namespace Go.Proofs
open Go.Eng
open Tryz
abbrev I4:=Int×Int×Int×Int
def mH(t:I4)(bck:Bool):I4:=if bck then (t.1,-t.2.1,-t.2.2.1,-t.2.2.2) else t
def E5(t:I4):Nat:=(t.1*t.1+t.2.1*t.2.1+t.2.2.1*t.2.2.1+t.2.2.2*t.2.2.2).toNat
def tA(t:I4):AV:=.agg [.int .i64 t.1,.int .i64 t.2.1,.int .i64 t.2.2.1,.int .i64 t.2.2.2]
abbrev M3:=V3×V3×V3
def mC(r:M3):List AV:=[.str (ax r.1.1),.str (ax r.1.2.1),.str (ax r.1.2.2),.str (ax r.2.1.1),.str (ax r.2.1.2.1),.str (ax r.2.1.2.2),.str (ax r.2.2.1),.str (ax r.2.2.2.1),.str (ax r.2.2.2.2)]
def vL(v:V3):List AV:=[.str (ax v.1),.str (ax v.2.1),.str (ax v.2.2)]
def mi(r:M3)(v:V3):V3:=(fI r.1 v,fI r.2.1 v,fI r.2.2 v)
def BA(a b:V3):V3:=(a.1-b.1,a.2.1-b.2.1,a.2.2-b.2.2)
def A5(t:I4):M3:=
 ((mkRat (t.1*t.1+t.2.1*t.2.1-t.2.2.1*t.2.2.1-t.2.2.2*t.2.2.2) (E5 t),mkRat (2*(t.2.1*t.2.2.1-t.1*t.2.2.2)) (E5 t),mkRat (2*(t.2.1*t.2.2.2+t.1*t.2.2.1)) (E5 t)),
  (mkRat (2*(t.2.1*t.2.2.1+t.1*t.2.2.2)) (E5 t),mkRat (t.1*t.1-t.2.1*t.2.1+t.2.2.1*t.2.2.1-t.2.2.2*t.2.2.2) (E5 t),mkRat (2*(t.2.2.1*t.2.2.2-t.1*t.2.1)) (E5 t)),
  (mkRat (2*(t.2.1*t.2.2.2-t.1*t.2.2.1)) (E5 t),mkRat (2*(t.2.2.1*t.2.2.2+t.1*t.2.1)) (E5 t),mkRat (t.1*t.1-t.2.1*t.2.1-t.2.2.1*t.2.2.1+t.2.2.2*t.2.2.2) (E5 t)))
def mOk(r:M3)(v:V3):Prop:=yS r.1 v∧yS r.2.1 v∧yS r.2.2 v
theorem IL(t:I4)(r:M3)(hr:∀M,kO prog 146 [tA t] M (.agg (mC r)) M)(v:V3)(h:mOk r v)(M:Mem):kO prog 144 [tA t,vA v] M (vA (mi r v)) M:=by
 have K:aS prog 144=some f144:=by kernel_rfl
 have V:qS prog (afF.or (ag (cc [(146,[tA t],.agg (mC r))])) (ag fa)):=qS.or (cD fun e U M=>by simp only[lM] at U;rw[U];exact hr M) iW
 refine ao V ?_ M;clear V hr;obtain⟨S,R,h3⟩:=h;obtain⟨t1,t2,t3,t4⟩:=t;obtain⟨r1,r2,G⟩:=r;simp only at S R h3;obtain⟨Q,Z⟩:∃Q,aG f144=[Q]:=⟨_,rfl⟩
 obtain⟨X,F⟩:=cC Z (l:=[0,1,0,7,0,16,0,127,0,256,0,2047,4095,8191]) (j:=13) (by kernel_rfl) (by decide);simp[aG,bQ,f144] at Z;subst Z;unfold mi;simp only;obtain⟨x,O⟩:=xE (fI r1 v);obtain⟨y,N⟩:=xE (fI r2 v);obtain⟨z,L⟩:=xE (fI G v);rw[←O,←N,←L];simp[aa,K,f144,afF.or,cc,ag,fa,tA,mC,vA,Vi,S,R,h3,←O,←N,←L,bN,aF,-aH,ak X,be,aV,aX,F,Nat.testBit]
variable{v:V3}
theorem Gt(h:vC v)(M:Mem):kO prog 100 [vA v] M (.int .i64 0) M:=by have:=mN (ax v.1) (ax v.2.1) (ax v.2.2) h.2.1 h.2.2.1 h.2.2.2 M;rw[h.1] at this;exact this
theorem Gh(h:vC v)(M:Mem):kO prog 145 [vA v] M (.tuple [vA v,.int .i64 0]) M:=by
 have Z:aS prog 145=some f145:=by kernel_rfl
 refine ao iW ?_ M;obtain⟨X,V,h3,U⟩:=h;simp[aa,Z,f145,ag,fa,vA,X,V,h3,U]
variable{t:I4}
theorem ND(y:∀M,kO prog 212 [tA t] M (.int .i64 0) M)(h:vC v)(M:Mem):kO prog 143 [tA t,vA v] M (.int .i64 0) M:=by
 have X:aS prog 143=some f143:=by kernel_rfl
 have V:qS prog (ag (cc [(212,[tA t],.int .i64 0),(100,[vA v],.int .i64 0)])):=cD fun e Z M=>by
  simp only[lM] at Z;rcases Z with rfl | rfl
  ·exact y M
  ·exact Gt h M
 refine ao V ?_ M;simp[aa,X,f143,cc,ag,tA,vA]
structure ahl (r:M3)(c:V3):Prop where
 ck:vC c
 m:mOk r c
 f:vF c∧vF (mi r c)
 s:vC (BA c (mi r c))
theorem Nc(t:I4)(r:M3)(y:∀M,kO prog 212 [tA t] M (.int .i64 0) M)(hr:∀M,kO prog 146 [tA t] M (.agg (mC r)) M)(c:V3)(h:ahl r c)(M:Mem):
  kO prog 94 [tA t,vA c] M (.tuple [.agg (mC r++vL (BA c (mi r c))),.int .i64 0]) M:=by
 have N:aS prog 94=some f94:=by kernel_rfl
 obtain⟨L,K,⟨⟨⟨G,F⟩,⟨D,C⟩,B,u⟩,⟨d1,d2⟩,⟨d3,d4⟩,d5,d6⟩,o⟩:=h;have S:qS prog (afF.or (ag (cc [(143,[tA t,vA c],.int .i64 0),(144,[tA t,vA c],vA (mi r c)),(145,[vA (BA c (mi r c))],.tuple [vA (BA c (mi r c)),.int .i64 0]),(146,[tA t],.agg (mC r))])) (ag fa)):=qS.or (cD fun e R M=>by
  simp only[lM] at R;rcases R with rfl | rfl | rfl | rfl
  ·exact ND y L M
  ·exact IL t r hr c K M
  ·exact Gh o M
  ·exact hr M) iW
 refine ao S ?_ M;clear S hr y;obtain⟨Q,X⟩:∃Q,aG f94=Q:=⟨_,rfl⟩
 have O:=cr X (ls:=[[0,1,0,4,15,0,32,0,128,511,0,1024,0,4096,16383,32767,65535,131071,262143,262143,0,1572863,4194303],[0,1,0,7,15,31]]) (by kernel_rfl);simp only[aG,bQ,f94,lA] at X;subst X;simp only[lB] at O;obtain⟨m,V⟩:=O;have I:dH [0,1,0,7,15,31] 4=true:=by decide
 obtain⟨t1,t2,t3,t4⟩:=t;obtain⟨w,j⟩:=xE (mi r c);rw[←j] at d1 d2 d3 d4 d5 d6 ⊢;have Z :BA c w=(c.1-w.1,c.2.1-w.2.1,c.2.2-w.2.2):=rfl;obtain⟨s,U⟩:=xE (BA c w);rw[←U] at Z ⊢;have Y:c.1-w.1=s.1:=by rw[Z]
 have W:c.2.1-w.2.1=s.2.1:=by rw[Z]
 have J:c.2.2-w.2.2=s.2.2:=by rw[Z]
 clear Z;simp[aa,N,f94,afF.or,cc,ag,fa,bn,ay,tA,mC,vL,vA,G,F,D,C,B,u,d1,d2,d3,d4,d5,d6,Y,W,J,bN,aF,-aH,bE m,dh,fu,fJ,dw,dE,jQ,bef,oO,bE V,Nat.testBit]
theorem Tk(d:Nat)(x y:Int):kU (bh prog) (d+1) 3 (.int .i64 x) (.int .i64 y)=some (decide (x=y)):=by rw[kU];simp
theorem Jh(d:Nat)(t u v w a b c e:Int):kU (bh prog) (d+2) 64 (.agg [.int .i64 t,.int .i64 u,.int .i64 v,.int .i64 w]) (.agg [.int .i64 a,.int .i64 b,.int .i64 c,.int .i64 e])=some (decide (t=a)&&(decide (u=b)&&(decide (v=c)&&decide (w=e)))):=by have r:List.range' 0 4=[0,1,2,3]:=rfl;have i:=Tk d;rw[kU];simp only[G7,G6,r,Xk];simp[jR,TyI.isAgg,i]
open Classical in
noncomputable def xb(f:FuncId)(args:List AV):Option AV:=
 match f,args with
 |66,[.int .i64 n,.int .i64 d]=>if 0<d∧n.natAbs≤1000000∧d.natAbs≤1000000 then some (.tuple [.str (ax (mkRat n d.toNat)),.int .i64 0]) else none
 |248,[.int .i64 n]=>if n.natAbs≤1000000 then some (.bool false) else none
 |_,_=>none
theorem P5{n:Int}(h:n.natAbs≤1000000):dL n=true:=by unfold dL;simp only[Bool.and_eq_true,decide_eq_true_eq];omega
theorem NF(n:Int)(h:n.natAbs≤1000000)(M:Mem):kO prog 248 [.int .i64 n] M (.bool false) M:=by
 have Z:aS prog 248=some f248:=by kernel_rfl
 refine ao (aw _) ?_ M;have X:¬1000000<n:=by omega
 have V:¬n< -1000000:=by omega
 have w:IntKind.i64.wrap (-1000000)= -1000000:=rfl;simp[aa,Z,f248,X,V]
theorem Cm:qS prog (ag xb):=bF fun f X v h mem=>by
 unfold xb at h;split at h
 ·rename_i n d
  split at h
  ·rename_i Z
   cases h;have:=Is n d.toNat (by omega) (P5 Z.2.1) (P5 (by omega)) mem;rw[Int.toNat_of_nonneg (by omega)] at this;exact this
  ·cases h
 ·split at h
  next Z=>cases h;exact NF _ Z mem
  ·cases h
 ·cases h
theorem NK(a b c s:Int)(hs:0<s)(hs2:s.natAbs≤1000000)(y:a.natAbs≤1000000)(H:b.natAbs≤1000000)(hc:c.natAbs≤1000000)(X0 X1:afU):
  kO prog 214 [.int .i64 a,.int .i64 b,.int .i64 c,.ptr 2 0] [X0,X1,.cells true 0 [.int .i64 s]] (vA (mkRat a s.toNat,mkRat b s.toNat,mkRat c s.toNat)) [X0,X1,.cells true 0 [.int .i64 s]]:=by
 have Z:aS prog 214=some f214:=by kernel_rfl
 refine cE (lv:=(fun _=>[15])) (K:=6) Cm ?_;simp[aa,Z,f214,aT,ga,ag,xb,hs,hs2,y,H,hc,w1,w2,w3,vA,bN,aF]
def tLe(n:Nat)(t:I4):Prop:=t.1.natAbs≤n∧t.2.1.natAbs≤n∧t.2.2.1.natAbs≤n∧t.2.2.2.natAbs≤n
def xW(t:I4):Prop:=t.1=0∧t.2.1=0∧t.2.2.1=0∧t.2.2.2=0
theorem W8(x:Int):0≤x*x:=by
 rcases Int.le_total 0 x with h | h
 ·exact Int.mul_nonneg h h
 ·exact Int.mul_nonneg_of_nonpos_of_nonpos h h
theorem Qx{x:Int}(h:x≠0):0<x*x:=by
 rcases Int.lt_trichotomy x 0 with h1 | h1 | h1
 ·exact Int.mul_pos_of_neg_of_neg h1 h1
 ·exact absurd h1 h
 ·exact Int.mul_pos h1 h1
theorem Bu(h:¬xW t):0<t.1*t.1+t.2.1*t.2.1+t.2.2.1*t.2.2.1+t.2.2.2*t.2.2.2:=by
 obtain⟨w,x,y,z⟩:=t;simp only[xW] at h ⊢;have a:=W8 w;have b:=W8 x;have c:=W8 y;have d:=W8 z;by_cases Z:w=0
 ·by_cases X:x=0
  ·by_cases h3:y=0
   ·have:=Qx (x:=z) (fun V=>h ⟨Z,X,h3,V⟩)
    omega
   ·have:=Qx h3;omega
  ·have:=Qx X;omega
 ·have:=Qx Z;omega
theorem ZI{a b:Int}(y:a.natAbs≤20)(H:b.natAbs≤20):(a*b).natAbs≤400:=by rw[Int.natAbs_mul];exact Nat.mul_le_mul y H
theorem wP(H:tLe 20 t)(hz:¬xW t)(M:Mem):kO prog 212 [tA t] M (.int .i64 0) M:=by
 obtain⟨w,x,y,z⟩:=t;obtain⟨S,R,h3,Q⟩:=H;simp only at S R h3 Q;have O:w.natAbs≤1000000:=by omega
 have N:x.natAbs≤1000000:=by omega
 have g3:y.natAbs≤1000000:=by omega
 have L:z.natAbs≤1000000:=by omega
 have F:IntKind.i64.wrap (-1)= -1:=rfl;have K:kO prog 275 [.slice 0 0 4 (some 4),.func 248 []] [.cells true 0 [.int .i64 w,.int .i64 x,.int .i64 y,.int .i64 z]] (.int .i64 (-1)) [.cells true 0 [.int .i64 w,.int .i64 x,.int .i64 y,.int .i64 z]]:=by
  have Z:aS prog 275=some f275:=by kernel_rfl
  have h:aa (bh prog) (fun _=>[8]) (aS prog) (ag xb) 6 275 [.slice 0 0 4 (some 4),.func 248 []] [.cells true 0 [.int .i64 w,.int .i64 x,.int .i64 y,.int .i64 z]]=some ⟨.int .i64 (-1),none,[]⟩:=by simp[aa,Z,f275,aT,ga,ag,xb,O,N,g3,L,w1,w2,w3,w4]
  have:=(ar aj (aK _) Cm (aR _) h).1;simpa [y9.mem] using this
 have G:kO prog 247 [.slice 0 0 4 (some 4),.func 248 []] [.cells true 0 [.int .i64 w,.int .i64 x,.int .i64 y,.int .i64 z]] (.bool false) [.cells true 0 [.int .i64 w,.int .i64 x,.int .i64 y,.int .i64 z]]:=by
  have Z:aS prog 247=some f247:=by kernel_rfl
  have V:qS prog (jt [(275,[.slice 0 0 4 (some 4),.func 248 []],[.cells true 0 [.int .i64 w,.int .i64 x,.int .i64 y,.int .i64 z]],⟨.int .i64 (-1),none,[]⟩)]):=iO fun e X=>by rw[List.mem_singleton] at X;subst X;exact⟨by simpa [y9.mem] using K,by simp⟩
  have h:aa (bh prog) (fun _=>[]) (aS prog) (jt [(275,[.slice 0 0 4 (some 4),.func 248 []],[.cells true 0 [.int .i64 w,.int .i64 x,.int .i64 y,.int .i64 z]],⟨.int .i64 (-1),none,[]⟩)]) 1 247 [.slice 0 0 4 (some 4),.func 248 []] [.cells true 0 [.int .i64 w,.int .i64 x,.int .i64 y,.int .i64 z]]=some ⟨.bool false,none,[]⟩:=by simp[aa,Z,f247,jt]
  have:=(ar aj (aK _) V (aR _) h).1;simpa [y9.mem] using this
 have Z:aS prog 212=some f212:=by kernel_rfl
 have V:qS prog (jt [(247,[.slice 0 0 4 (some 4),.func 248 []],[.cells true 0 [.int .i64 w,.int .i64 x,.int .i64 y,.int .i64 z]],⟨.bool false,none,[]⟩)]):=iO fun e X=>by rw[List.mem_singleton] at X;subst X;exact⟨by simpa [y9.mem] using G,by simp⟩
 have e:=fun d=>Jh d w x y z 0 0 0 0
 have U:(decide (w=0)&&(decide (x=0)&&(decide (y=0)&&decide (z=0))))=false:=by
  cases hb:(decide (w=0)&&(decide (x=0)&&(decide (y=0)&&decide (z=0))))
  ·rfl
  ·simp only[Bool.and_eq_true,decide_eq_true_eq] at hb
   exact absurd hb hz
 simp only[U] at e;refine ao V ?_ M;simp[aa,Z,f212,jt,tA,e,bN]
def SS(t:I4):I4:=if t=(0,0,0,0) then (1,0,0,0) else t
def wC(x:afO):I4:=SS ((x.t 0).tmod 21,(x.t 1).tmod 21,(x.t 2).tmod 21,(x.t 3).tmod 21)
theorem QC(n:Int):(n.tmod 21).natAbs≤20:=by have:=A9 n 21 (by decide);simp only[Int.cast_ofNat_Int] at this;omega
theorem By(x:afO):tLe 20 (wC x):=by
 unfold wC SS;split
 ·exact⟨by decide,by decide,by decide,by decide⟩
 ·exact⟨QC _,QC _,QC _,QC _⟩
theorem xP(x:afO):¬xW (wC x):=by
 unfold wC SS;split
 ·rintro ⟨h,_⟩;exact absurd h (by decide)
 ·rename_i h
  rintro ⟨Z,X,h3,V⟩;exact h (Prod.ext Z (Prod.ext X (Prod.ext h3 V)))
theorem NT(a b c d:Int)(H:Bn a)(y:Bn b)(hc:Bn c)(hd:Bn d)(M:Mem):kO prog 32 [.agg [.int .i8 a,.int .i8 b,.int .i8 c,.int .i8 d]] M (tA (SS (a.tmod 21,b.tmod 21,c.tmod 21,d.tmod 21))) M:=by
 have R:aS prog 32=some f32:=by kernel_rfl
 have W:∀z,Bn z→IntKind.i64.wrap z=z:=fun z Z=>jN (by have:=Z.1;have:=Z.2;omega) (by have:=Z.1;have:=Z.2;omega)
 have Q:=W a H;have O:=W b y;have N:=W c hc;have L:=W d hd;obtain⟨p,X⟩:=xE (a.tmod 21);obtain⟨q,V⟩:=xE (b.tmod 21);obtain⟨r,U⟩:=xE (c.tmod 21);obtain⟨s,S⟩:=xE (d.tmod 21);rw[←X,←V,←U,←S];have G:∀t u v w a b c e:Int,kU (bh prog) 20 64 (.agg [.int .i64 t,.int .i64 u,.int .i64 v,.int .i64 w]) (.agg [.int .i64 a,.int .i64 b,.int .i64 c,.int .i64 e])=some (decide (t=a)&&(decide (u=b)&&(decide (v=c)&&decide (w=e)))):=Jh 18
 refine cK (aw _) (lv:=fun _=>[4]) (K:=5) rfl rfl ?_ M;by_cases h:p=0∧q=0∧r=0∧s=0
 ·obtain⟨F,D,h3,C⟩:=h
  subst F D h3 C;simp[aa,R,f32,aT,ga,Q,O,N,L,←X,←V,←U,←S,w1,w2,w3,w4,tA,SS,G,bN]
 ·have e:(decide (p=0)&&(decide (q=0)&&(decide (r=0)&&decide (s=0))))=false:=by
   cases hh:(decide (p=0)&&(decide (q=0)&&(decide (r=0)&&decide (s=0)))) with
   |false=>rfl
   |true=>
    simp only[Bool.and_eq_true,decide_eq_true_eq] at hh;exact absurd hh h
  have y:SS (p,q,r,s)=(p,q,r,s):=if_neg fun e=>h (by simpa using e)
  rw[y];simp[aa,R,f32,aT,ga,Q,O,N,L,←X,←V,←U,←S,w1,w2,w3,w4,tA,G,e,-Bool.and_eq_false_imp,bN]
def ctN(x:afO):Nat:=(ct3 (x.n 0)).toNat
theorem jz(x:afO):ctN x=1∨ctN x=2∨ctN x=3:=by have:=PW (x.n 0);unfold ctN;omega
variable{x:afO}
theorem T4{c:Nat}(h:ctN x=c):ct3 (x.n 0)=c:=by have:=PW (x.n 0);unfold ctN at h;omega
def dqS(m n:Nat):Nat→AV
 |1=>.qF
 |2=>.slice (m+2) 0 1 none
 |_=>.slice (m+2) 0 2 none
def dqN(m:Nat)(x:afO)(n:Nat):Nat→Mem
 |1=>[.cells true 1 (qC (qH (x.base.l n))),.cells true 1 (stC (uNm 1))]
 |2=>[.cells true 1 (qC (qH (x.base.l n))),.cells true 1 (stC (uNm 2)),.cells true 1 [.slice (m+3) 0 n none],.cells true 1 (qC (qH (upL x.s0 (x.base.l n) n)))]
 |_=>[.cells true 1 (qC (qH (x.base.l n))),.cells true 1 (stC (uNm 3)),.cells true 1 [.slice (m+3) 0 n none,.slice (m+4) 0 n none],.cells true 1 (qC (qH (upL x.s0 (x.base.l n) n))),.cells true 1 (qC (qH (upL x.s1 (upL x.s0 (x.base.l n) n) n)))]
theorem NP(x:afO)(y:x.Ok)(n k:Nat)(H:0<n)(I:n≤1000)(M:Mem)(p t:Nat)(J:p<M.length)(W:t<M.length):
  kO prog 25 [.agg [.slice p 0 n none,.slice t 0 k none],.agg x.cells,.str [110]] M (.agg [.slice M.length 0 n none,.slice (M.length+1) 0 (ctN x) none,dqS M.length n (ctN x)]) (M++dqN M.length x n (ctN x)):=by
 have U:=fun f=>aO (ρ:=f) x.closed
 have X:kO prog 25 [.agg [.slice 0 0 n none,.slice 1 0 k none],.agg x.cells,.str [110]] [.qK,.qK] (.agg [.slice 2 0 n none,.slice 3 0 (ctN x) none,dqS 2 n (ctN x)]) ([.qK,.qK]++dqN 2 x n (ctN x)):=by
  rcases jz x with h | h | h
  ·rw[h];exact IN x y n k H I (T4 h)
  ·rw[h];exact IP x y n k H I (T4 h)
  ·rw[h];exact IQ x y n k H I (T4 h)
 have h3:=jz x;obtain⟨c,S⟩:=xE (ctN x);rw[←S] at X h3 ⊢;have:=kO.frame (M:=M) (new:=dqN 2 x n c) [p,t] (m:=[.qK,.qK]) rfl (by
  intro k V;simp only[lM] at V;rcases V with rfl | rfl
  ·exact J
  ·exact W) (by simp[AV.afX,AV.under,bl x.closed]) (fun i s Z=>by
  match i with
  |0=>simp at Z;subst Z;trivial
  |1=>simp at Z;subst Z;trivial
  |i+2=>simp at Z) (by rcases h3 with rfl | rfl | rfl<;>rfl) X
 rcases h3 with rfl | rfl | rfl<;>simpa [AV.af9,AV.ren,fj,afU.ren,dqS,dqN,kN,uNm,nmE,stC,U] using this
theorem Yu(x:afO)(y:x.Ok)(M:Mem):kO prog 32 [.agg (i8C x.T)] M (tA (wC x)) M:=by
 have X:=y.tl;have Z:=y.tk;unfold wC afO.t;obtain⟨T,hT⟩:=xE x.T;rw[←hT] at X Z ⊢
 match T,X with
 | [a,b,c,d],_=>exact NT a b c d (Z _ (by simp)) (Z _ (by simp)) (Z _ (by simp)) (Z _ (by simp)) M
open Classical in
noncomputable def fA(x:afO)(f:FuncId)(args:List AV):Option AV:=
 match f,args with
 |30,[.agg cs]=>if cs=x.cells then some (zA (uz x)) else none
 |29,[.agg a,.str s]=>if .agg a=zA (uz x)∧s=[49,47,50] then some (vA (hV (uz x))) else none
 |32,[.agg cs]=>if cs=i8C x.T then some (tA (wC x)) else none
 |f,args=>iE x f args
theorem jY(y:x.Ok):qS prog (ag (fA x)):=bF fun f X v h mem=>by
 unfold fA at h;split at h
 ·split at h
  next Z=>cases h;rw[Z];exact Gm x y mem
  ·cases h
 ·split at h
  next Z=>cases h;rw[Z.1,Z.2];exact NQ _ (CD x) mem
  ·cases h
 ·split at h
  next Z=>cases h;rw[Z];exact Yu x y mem
  ·cases h
 ·have:=(Cr y).fn _ _ mem ⟨v,none,[]⟩ (by unfold ag;simp only;rw[h])
  simpa [y9.mem] using this
end Go.Proofs
namespace Go.Proofs
open Go.Eng
open Classical in
noncomputable def fC:List (FuncId×List AV×(Mem→Prop)×y9)→afF
 | [],_,_,_=>none
 |x::L,c,args,M=>if c=.fn x.1∧args=x.2.1∧x.2.2.1 M then some x.2.2.2 else fC L c args M
variable{L:List (FuncId×List AV×(Mem→Prop)×y9)}
theorem xp{P:Program}(h:∀x∈L,∀M,x.2.2.1 M→rb P (.fn x.1) x.2.1 M x.2.2.2):qS P (fC L):=cf fun c a M r Z=>by
 induction L with
 |nil=>simp[fC] at Z
 |cons x L ih=>
  rw[fC] at Z;split at Z
  ·rename_i X
   obtain⟨rfl,rfl,V⟩:=X;cases Z;exact h x (by simp) M V
  ·exact ih (fun y U=>h y (by simp[U])) Z
variable{a:List AV}{p:Mem→Prop}{r:y9}
theorem ed{f:FuncId}{m:Mem}(h:p m):fC ((f,a,p,r)::L) (.fn f) a m=some r:=by rw[fC,if_pos ⟨rfl,rfl,h⟩]
theorem bd{f g:FuncId}{b:List AV}{m:Mem}(h:f≠g∨¬p m):fC ((f,a,p,r)::L) (.fn g) b m=fC L (.fn g) b m:=by rw[fC,if_neg (fun e=>h.elim (fun h=>h (by have:=e.1;cases this;rfl)) fun h=>h e.2.2)]
end Go.Proofs
