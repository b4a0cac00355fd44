/- See E54. -/
import Derived.Test.YthpgbelancmpjaaGreatDoorE35
import Derived.Test.YthpgbelancmpjaaGreatDoorE28
set_option linter.all false
set_option maxRecDepth 100000
set_option maxHeartbeats 40000000
namespace Go.Proofs
open Go.Eng
open Tryz
abbrev I4:=Int×Int×Int×Int
def nr(t:I4)(H:Bool):I4:=if H then (t.1,-t.2.1,-t.2.2.1,-t.2.2.2) else t
def Ce(t:I4):Nat:=(t.1*t.1+t.2.1*t.2.1+t.2.2.1*t.2.2.1+t.2.2.2*t.2.2.2).toNat
def tA(t:I4):AV:=.agg [.int .i64 t.1,.int .i64 t.2.1,.int .i64 t.2.2.1,.int .i64 t.2.2.2]
abbrev M3:=V3×V3×V3
def mC(r:M3):List AV:=[.str (aj r.1.1),.str (aj r.1.2.1),.str (aj r.1.2.2),.str (aj r.2.1.1),.str (aj r.2.1.2.1),.str (aj r.2.1.2.2),.str (aj r.2.2.1),.str (aj r.2.2.2.1),.str (aj r.2.2.2.2)]
def vL(v:V3):List AV:=[.str (aj v.1),.str (aj v.2.1),.str (aj v.2.2)]
def mF(r:M3)(v:V3):V3:=(dj r.1 v,dj r.2.1 v,dj r.2.2 v)
def Ov(a b:V3):V3:=(a.1-b.1,a.2.1-b.2.1,a.2.2-b.2.2)
def wJ(t:I4):M3:=
 ((mkRat (t.1*t.1+t.2.1*t.2.1-t.2.2.1*t.2.2.1-t.2.2.2*t.2.2.2) (Ce t),mkRat (2*(t.2.1*t.2.2.1-t.1*t.2.2.2)) (Ce t),mkRat (2*(t.2.1*t.2.2.2+t.1*t.2.2.1)) (Ce t)),
  (mkRat (2*(t.2.1*t.2.2.1+t.1*t.2.2.2)) (Ce t),mkRat (t.1*t.1-t.2.1*t.2.1+t.2.2.1*t.2.2.1-t.2.2.2*t.2.2.2) (Ce t),mkRat (2*(t.2.2.1*t.2.2.2-t.1*t.2.1)) (Ce t)),
  (mkRat (2*(t.2.1*t.2.2.2-t.1*t.2.2.1)) (Ce t),mkRat (2*(t.2.2.1*t.2.2.2+t.1*t.2.1)) (Ce t),mkRat (t.1*t.1-t.2.1*t.2.1-t.2.2.1*t.2.2.1+t.2.2.2*t.2.2.2) (Ce t)))
def mOk(r:M3)(v:V3):Prop:=kM r.1 v∧kM r.2.1 v∧kM r.2.2 v
theorem G2(t:I4)(r:M3)(hr:∀M,kO prog 216 [tA t] M (.agg (mC r)) M)(v:V3)(h:mOk r v)(M:Mem):kO prog 214 [tA t,vA v] M (vA (mF r v)) M:=by
 have G:aT prog 214=some f214:=by kernel_rfl
 have V:qS prog (y9.or (ag (dx [(216,[tA t],.agg (mC r))])) (ag bt)):=qS.or (eG fun e U M=>by simp only[lM] at U;rw[U];exact hr M) dm
 refine ak V ?_ M;clear V hr;obtain⟨S,R,h3⟩:=h;obtain⟨t1,t2,t3,t4⟩:=t;obtain⟨r1,r2,F⟩:=r;simp only at S R h3;obtain⟨O,Z⟩:∃O,aJ f214=[O]:=⟨_,rfl⟩
 obtain⟨X,D⟩:=de Z (l:=[0,1,0,7,0,16,0,127,0,256,0,2047,4095,8191]) (j:=13) (by kernel_rfl) (by decide);simp[aJ,bR,f214] at Z;subst Z;unfold mF;simp only;obtain⟨x,N⟩:=xE (dj r1 v);obtain⟨y,L⟩:=xE (dj r2 v);obtain⟨z,K⟩:=xE (dj F v);rw[←N,←L,←K];simp[aa,G,f214,y9.or,dx,ag,bt,tA,mC,vA,uJ,S,R,h3,←N,←L,←K,bJ,aD,-aK,ao X,br,bk,bl,D,Nat.testBit]
variable{v:V3}
section
variable (h:vC v)(M:Mem)
include h M
theorem nM:kO prog 70 [vA v] M (.int .i64 0) M:=by have:=ly (aj v.1) (aj v.2.1) (aj v.2.2) h.2.1 h.2.2.1 h.2.2.2 M;rw[h.1] at this;exact this
theorem ya:kO prog 112 [vA v] M (.tuple [vA v,.int .i64 0]) M:=by
 have Z:aT prog 112=some f112:=by kernel_rfl
 refine ak dm ?_ M;obtain⟨X,V,h3,U⟩:=h;simp[aa,Z,f112,ag,bt,vA,X,V,h3,U]
theorem Ey:kO prog 215 [vA v] M (.tuple [vA v,.int .i64 0]) M:=by
 have Z:aT prog 215=some f215:=by kernel_rfl
 refine ak dm ?_ M;obtain⟨X,V,h3,U⟩:=h;simp[aa,Z,f215,ag,bt,vA,X,V,h3,U]
end
variable{t:I4}
theorem LD(H:∀M,kO prog 69 [tA t] M (.int .i64 0) M)(h:vC v)(M:Mem):kO prog 213 [tA t,vA v] M (.int .i64 0) M:=by
 have X:aT prog 213=some f213:=by kernel_rfl
 have V:qS prog (ag (dx [(69,[tA t],.int .i64 0),(70,[vA v],.int .i64 0)])):=eG fun e Z M=>by
  simp only[lM] at Z;rcases Z with rfl | rfl
  ·exact H M
  ·exact nM h M
 refine ak V ?_ M;simp[aa,X,f213,dx,ag,tA,vA]
structure afJ (r:M3)(c:V3):Prop where
 ck:vC c
 m:mOk r c
 f:vF c∧vF (mF r c)
 s:vC (Ov c (mF r c))
theorem Lf(t:I4)(r:M3)(H:∀M,kO prog 69 [tA t] M (.int .i64 0) M)(hr:∀M,kO prog 216 [tA t] M (.agg (mC r)) M)(c:V3)(h:afJ r c)(M:Mem):
  kO prog 134 [tA t,vA c] M (.tuple [.agg (mC r++vL (Ov c (mF r c))),.int .i64 0]) M:=by
 have L:aT prog 134=some f134:=by kernel_rfl
 obtain⟨K,G,⟨⟨⟨F,D⟩,⟨C,B⟩,A,u⟩,⟨d1,d2⟩,⟨d3,d4⟩,d5,d6⟩,o⟩:=h;have S:qS prog (y9.or (ag (dx [(213,[tA t,vA c],.int .i64 0),(214,[tA t,vA c],vA (mF r c)),(215,[vA (Ov c (mF r c))],.tuple [vA (Ov c (mF r c)),.int .i64 0]),(216,[tA t],.agg (mC r))])) (ag bt)):=qS.or (eG fun e R M=>by
  simp only[lM] at R;rcases R with rfl | rfl | rfl | rfl
  ·exact LD H K M
  ·exact G2 t r hr c G M
  ·exact Ey o M
  ·exact hr M) dm
 refine ak S ?_ M;clear S hr H;obtain⟨O,X⟩:∃O,aJ f134=O:=⟨_,rfl⟩
 have N:=cc X (ls:=[[0,1,0,4,15,0,32,0,128,511,0,1024,0,4096,16383,32767,65535,131071,262143,262143,0,1572863,4194303],[0,1,0,7,15,31]]) (by kernel_rfl);simp only[aJ,bR,f134,lA] at X;subst X;simp only[lB] at N;obtain⟨m,V⟩:=N;have I:fc [0,1,0,7,15,31] 4=true:=by decide
 obtain⟨t1,t2,t3,t4⟩:=t;obtain⟨w,j⟩:=xE (mF r c);rw[←j] at d1 d2 d3 d4 d5 d6 ⊢;have Z :Ov c w=(c.1-w.1,c.2.1-w.2.1,c.2.2-w.2.2):=rfl;obtain⟨s,U⟩:=xE (Ov c w);rw[←U] at Z ⊢;have Y:c.1-w.1=s.1:=by rw[Z]
 have W:c.2.1-w.2.1=s.2.1:=by rw[Z]
 have J:c.2.2-w.2.2=s.2.2:=by rw[Z]
 clear Z;simp[aa,L,f134,y9.or,dx,ag,bt,aE,ar,tA,mC,vL,vA,F,D,C,B,A,u,d1,d2,d3,d4,d5,d6,Y,W,J,bJ,aD,-aK,bd m,bZ,ff,ef,cw,cM,gQ,bef,oU,bd V,Nat.testBit]
theorem QM(d:Nat)(x y:Int):jU (aV prog) (d+1) 3 (.int .i64 x) (.int .i64 y)=some (decide (x=y)):=by rw[jU];simp
theorem Hn(d:Nat)(t u v w a b c e:Int):jU (aV prog) (d+2) 64 (.agg [.int .i64 t,.int .i64 u,.int .i64 v,.int .i64 w]) (.agg [.int .i64 a,.int .i64 b,.int .i64 c,.int .i64 e])=some (decide (t=a)&&(decide (u=b)&&(decide (v=c)&&decide (w=e)))):=by have r:List.range' 0 4=[0,1,2,3]:=rfl;have i:=QM d;rw[jU];simp only[Fv,Ft,r,Vc];simp[iY,TyI.isAgg,i]
open Classical in
noncomputable def vm(f:FuncId)(args:List AV):Option AV:=
 match f,args with
 |88,[.int .i64 n,.int .i64 d]=>if 0<d∧n.natAbs≤1000000∧d.natAbs≤1000000 then some (.tuple [.str (aj (mkRat n d.toNat)),.int .i64 0]) else none
 |121,[.int .i64 n]=>if n.natAbs≤1000000 then some (.bool false) else none
 |_,_=>none
theorem NU{n:Int}(h:n.natAbs≤1000000):dG n=true:=by unfold dG;simp only[Bool.and_eq_true,decide_eq_true_eq];omega
theorem LF(n:Int)(h:n.natAbs≤1000000)(M:Mem):kO prog 121 [.int .i64 n] M (.bool false) M:=by
 have Z:aT prog 121=some f121:=by kernel_rfl
 refine ak (az _) ?_ M;have X:¬1000000<n:=by omega
 have V:¬n< -1000000:=by omega
 have w:IntKind.i64.wrap (-1000000)= -1000000:=rfl;simp[aa,Z,f121,X,V]
theorem AU:qS prog (ag vm):=bM fun f X v h mem=>by
 unfold vm at h;split at h
 ·rename_i n d
  split at h
  ·rename_i Z
   cases h;have:=GR n d.toNat (by omega) (NU Z.2.1) (NU (by omega)) mem;rw[Int.toNat_of_nonneg (by omega)] at this;exact this
  ·cases h
 ·split at h
  next Z=>cases h;exact LF _ Z mem
  ·cases h
 ·cases h
theorem LG(a b c s:Int)(H:0<s)(hs2:s.natAbs≤1000000)(I:a.natAbs≤1000000)(J:b.natAbs≤1000000)(hc:c.natAbs≤1000000)(X0 X1:aek):
  kO prog 260 [.int .i64 a,.int .i64 b,.int .i64 c,.ptr 2 0] [X0,X1,.cells true 0 [.int .i64 s]] (vA (mkRat a s.toNat,mkRat b s.toNat,mkRat c s.toNat)) [X0,X1,.cells true 0 [.int .i64 s]]:=by
 have Z:aT prog 260=some f260:=by kernel_rfl
 refine ca (lv:=(fun _=>[15])) (K:=6) AU ?_;simp[aa,Z,f260,bh,fy,ag,vm,H,hs2,I,J,hc,w1,w2,w3,vA,bJ,aD]
def tLe(n:Nat)(t:I4):Prop:=t.1.natAbs≤n∧t.2.1.natAbs≤n∧t.2.2.1.natAbs≤n∧t.2.2.2.natAbs≤n
def xY(t:I4):Prop:=t.1=0∧t.2.1=0∧t.2.2.1=0∧t.2.2.2=0
theorem UY(x:Int):0≤x*x:=by
 rcases Int.le_total 0 x with h | h
 ·exact Int.mul_nonneg h h
 ·exact Int.mul_nonneg_of_nonpos_of_nonpos h h
theorem Om{x:Int}(h:x≠0):0<x*x:=by
 rcases Int.lt_trichotomy x 0 with h1 | h1 | h1
 ·exact Int.mul_pos_of_neg_of_neg h1 h1
 ·exact absurd h1 h
 ·exact Int.mul_pos h1 h1
theorem Ge(h:¬xY t):0<t.1*t.1+t.2.1*t.2.1+t.2.2.1*t.2.2.1+t.2.2.2*t.2.2.2:=by
 obtain⟨w,x,y,z⟩:=t;simp only[xY] at h ⊢;have a:=UY w;have b:=UY x;have c:=UY y;have d:=UY z;by_cases Z:w=0
 ·by_cases X:x=0
  ·by_cases h3:y=0
   ·have:=Om (x:=z) (fun V=>h ⟨Z,X,h3,V⟩)
    omega
   ·have:=Om h3;omega
  ·have:=Om X;omega
 ·have:=Om Z;omega
theorem Xj{a b:Int}(H:a.natAbs≤20)(I:b.natAbs≤20):(a*b).natAbs≤400:=by rw[Int.natAbs_mul];exact Nat.mul_le_mul H I
theorem uR(H:tLe 20 t)(hz:¬xY t)(M:Mem):kO prog 69 [tA t] M (.int .i64 0) M:=by
 obtain⟨w,x,y,z⟩:=t;obtain⟨S,R,h3,O⟩:=H;simp only at S R h3 O;have N:w.natAbs≤1000000:=by omega
 have L:x.natAbs≤1000000:=by omega
 have g3:y.natAbs≤1000000:=by omega
 have K:z.natAbs≤1000000:=by omega
 have D:IntKind.i64.wrap (-1)= -1:=rfl;have G:kO prog 202 [.slice 0 0 4 (some 4),.func 121 []] [.cells true 0 [.int .i64 w,.int .i64 x,.int .i64 y,.int .i64 z]] (.int .i64 (-1)) [.cells true 0 [.int .i64 w,.int .i64 x,.int .i64 y,.int .i64 z]]:=by
  have Z:aT prog 202=some f202:=by kernel_rfl
  have h:aa (aV prog) (fun _=>[8]) (aT prog) (ag vm) 6 202 [.slice 0 0 4 (some 4),.func 121 []] [.cells true 0 [.int .i64 w,.int .i64 x,.int .i64 y,.int .i64 z]]=some ⟨.int .i64 (-1),none,[]⟩:=by simp[aa,Z,f202,bh,fy,ag,vm,N,L,g3,K,w1,w2,w3,w4]
  have:=(aq ai (aO _) AU (aR _) h).1;simpa [aee.mem] using this
 have F:kO prog 120 [.slice 0 0 4 (some 4),.func 121 []] [.cells true 0 [.int .i64 w,.int .i64 x,.int .i64 y,.int .i64 z]] (.bool false) [.cells true 0 [.int .i64 w,.int .i64 x,.int .i64 y,.int .i64 z]]:=by
  have Z:aT prog 120=some f120:=by kernel_rfl
  have V:qS prog (jI [(202,[.slice 0 0 4 (some 4),.func 121 []],[.cells true 0 [.int .i64 w,.int .i64 x,.int .i64 y,.int .i64 z]],⟨.int .i64 (-1),none,[]⟩)]):=jr fun e X=>by rw[List.mem_singleton] at X;subst X;exact⟨by simpa [aee.mem] using G,by simp⟩
  have h:aa (aV prog) (fun _=>[]) (aT prog) (jI [(202,[.slice 0 0 4 (some 4),.func 121 []],[.cells true 0 [.int .i64 w,.int .i64 x,.int .i64 y,.int .i64 z]],⟨.int .i64 (-1),none,[]⟩)]) 1 120 [.slice 0 0 4 (some 4),.func 121 []] [.cells true 0 [.int .i64 w,.int .i64 x,.int .i64 y,.int .i64 z]]=some ⟨.bool false,none,[]⟩:=by simp[aa,Z,f120,jI]
  have:=(aq ai (aO _) V (aR _) h).1;simpa [aee.mem] using this
 have Z:aT prog 69=some f69:=by kernel_rfl
 have V:qS prog (jI [(120,[.slice 0 0 4 (some 4),.func 121 []],[.cells true 0 [.int .i64 w,.int .i64 x,.int .i64 y,.int .i64 z]],⟨.bool false,none,[]⟩)]):=jr fun e X=>by rw[List.mem_singleton] at X;subst X;exact⟨by simpa [aee.mem] using F,by simp⟩
 have e:=fun d=>Hn d w x y z 0 0 0 0
 have U:(decide (w=0)&&(decide (x=0)&&(decide (y=0)&&decide (z=0))))=false:=by
  cases hb:(decide (w=0)&&(decide (x=0)&&(decide (y=0)&&decide (z=0))))
  ·rfl
  ·simp only[Bool.and_eq_true,decide_eq_true_eq] at hb
   exact absurd hb hz
 simp only[U] at e;refine ak V ?_ M;simp[aa,Z,f69,jI,tA,e,bJ]
def Qw(t:I4):I4:=if t=(0,0,0,0) then (1,0,0,0) else t
def zM(x:aed):I4:=Qw ((x.t 0).tmod 21,(x.t 1).tmod 21,(x.t 2).tmod 21,(x.t 3).tmod 21)
theorem Ot(n:Int):(n.tmod 21).natAbs≤20:=by have:=zL n 21 (by decide);simp only[Int.cast_ofNat_Int] at this;omega
theorem Ag(x:aed):tLe 20 (zM x):=by
 unfold zM Qw;split
 ·exact⟨by decide,by decide,by decide,by decide⟩
 ·exact⟨Ot _,Ot _,Ot _,Ot _⟩
theorem wC(x:aed):¬xY (zM x):=by
 unfold zM Qw;split
 ·rintro ⟨h,_⟩;exact absurd h (by decide)
 ·rename_i h
  rintro ⟨Z,X,h3,V⟩;exact h (Prod.ext Z (Prod.ext X (Prod.ext h3 V)))
theorem LO(a b c d:Int)(I:z8 a)(H:z8 b)(hc:z8 c)(hd:z8 d)(M:Mem):kO prog 42 [.agg [.int .i8 a,.int .i8 b,.int .i8 c,.int .i8 d]] M (tA (Qw (a.tmod 21,b.tmod 21,c.tmod 21,d.tmod 21))) M:=by
 have R:aT prog 42=some f42:=by kernel_rfl
 have W:∀z,z8 z→IntKind.i64.wrap z=z:=fun z Z=>jm (by have:=Z.1;have:=Z.2;omega) (by have:=Z.1;have:=Z.2;omega)
 have O:=W a I;have N:=W b H;have L:=W c hc;have G:=W d hd;obtain⟨p,X⟩:=xE (a.tmod 21);obtain⟨q,V⟩:=xE (b.tmod 21);obtain⟨r,U⟩:=xE (c.tmod 21);obtain⟨s,S⟩:=xE (d.tmod 21);rw[←X,←V,←U,←S];have F:∀t u v w a b c e:Int,jU (aV prog) 20 64 (.agg [.int .i64 t,.int .i64 u,.int .i64 v,.int .i64 w]) (.agg [.int .i64 a,.int .i64 b,.int .i64 c,.int .i64 e])=some (decide (t=a)&&(decide (u=b)&&(decide (v=c)&&decide (w=e)))):=Hn 18
 refine cE (az _) (lv:=fun _=>[4]) (K:=5) rfl rfl ?_ M;by_cases h:p=0∧q=0∧r=0∧s=0
 ·obtain⟨D,C,h3,B⟩:=h
  subst D C h3 B;simp[aa,R,f42,bh,fy,O,N,L,G,←X,←V,←U,←S,w1,w2,w3,w4,tA,Qw,F,bJ]
 ·have e:(decide (p=0)&&(decide (q=0)&&(decide (r=0)&&decide (s=0))))=false:=by
   cases hh:(decide (p=0)&&(decide (q=0)&&(decide (r=0)&&decide (s=0)))) with
   |false=>rfl
   |true=>
    simp only[Bool.and_eq_true,decide_eq_true_eq] at hh;exact absurd hh h
  have H:Qw (p,q,r,s)=(p,q,r,s):=if_neg fun e=>h (by simpa using e)
  rw[H];simp[aa,R,f42,bh,fy,O,N,L,G,←X,←V,←U,←S,w1,w2,w3,w4,tA,F,e,-Bool.and_eq_false_imp,bJ]
def ctN(x:aed):Nat:=(ct3 (x.n 0)).toNat
theorem jH(x:aed):ctN x=1∨ctN x=2∨ctN x=3:=by have:=NO (x.n 0);unfold ctN;omega
variable{x:aed}
theorem Rv{c:Nat}(h:ctN x=c):ct3 (x.n 0)=c:=by have:=NO (x.n 0);unfold ctN at h;omega
def dqS(m n:Nat):Nat→AV
 |1=>.qF
 |2=>.slice (m+2) 0 1 none
 |_=>.slice (m+2) 0 2 none
def dqN(m:Nat)(x:aed)(n:Nat):Nat→Mem
 |1=>[.cells true 1 (qC (qH (x.base.l n))),.cells true 1 (stC (uNm 1))]
 |2=>[.cells true 1 (qC (qH (x.base.l n))),.cells true 1 (stC (uNm 2)),.cells true 1 [.slice (m+3) 0 n none],.cells true 1 (qC (qH (upL x.s0 (x.base.l n) n)))]
 |_=>[.cells true 1 (qC (qH (x.base.l n))),.cells true 1 (stC (uNm 3)),.cells true 1 [.slice (m+3) 0 n none,.slice (m+4) 0 n none],.cells true 1 (qC (qH (upL x.s0 (x.base.l n) n))),.cells true 1 (qC (qH (upL x.s1 (upL x.s0 (x.base.l n) n) n)))]
theorem LJ(x:aed)(H:x.Ok)(n k:Nat)(I:0<n)(J:n≤1000)(M:Mem)(p t:Nat)(W:p<M.length)(Y:t<M.length):
  kO prog 35 [.agg [.slice p 0 n none,.slice t 0 k none],.agg x.cells,.str [110]] M (.agg [.slice M.length 0 n none,.slice (M.length+1) 0 (ctN x) none,dqS M.length n (ctN x)]) (M++dqN M.length x n (ctN x)):=by
 have U:=fun f=>aL (ρ:=f) x.closed
 have X:kO prog 35 [.agg [.slice 0 0 n none,.slice 1 0 k none],.agg x.cells,.str [110]] [.qK,.qK] (.agg [.slice 2 0 n none,.slice 3 0 (ctN x) none,dqS 2 n (ctN x)]) ([.qK,.qK]++dqN 2 x n (ctN x)):=by
  rcases jH x with h | h | h
  ·rw[h];exact G4 x H n k I J (Rv h)
  ·rw[h];exact G5 x H n k I J (Rv h)
  ·rw[h];exact G6 x H n k I J (Rv h)
 have h3:=jH x;obtain⟨c,S⟩:=xE (ctN x);rw[←S] at X h3 ⊢;have:=kO.frame (M:=M) (new:=dqN 2 x n c) [p,t] (m:=[.qK,.qK]) rfl (by
  intro k V;simp only[lM] at V;rcases V with rfl | rfl
  ·exact W
  ·exact Y) (by simp[AV.aen,AV.under,aX x.closed]) (fun i s Z=>by
  match i with
  |0=>simp at Z;subst Z;trivial
  |1=>simp at Z;subst Z;trivial
  |i+2=>simp at Z) (by rcases h3 with rfl | rfl | rfl<;>rfl) X
 rcases h3 with rfl | rfl | rfl<;>simpa [AV.aez,AV.ren,fq,aek.ren,dqS,dqN,jM,uNm,nmE,stC,U] using this
theorem Wc(x:aed)(H:x.Ok)(M:Mem):kO prog 42 [.agg (i8C x.T)] M (tA (zM x)) M:=by
 have X:=H.tl;have Z:=H.tk;unfold zM aed.t;obtain⟨T,hT⟩:=xE x.T;rw[←hT] at X Z ⊢
 match T,X with
 | [a,b,c,d],_=>exact LO a b c d (Z _ (by simp)) (Z _ (by simp)) (Z _ (by simp)) (Z _ (by simp)) M
open Classical in
noncomputable def fp(x:aed)(f:FuncId)(args:List AV):Option AV:=
 match f,args with
 |40,[.agg cs]=>if cs=x.cells then some (zA (yy x)) else none
 |39,[.agg a,.str s]=>if .agg a=zA (yy x)∧s=[49,47,50] then some (vA (hV (yy x))) else none
 |42,[.agg cs]=>if cs=i8C x.T then some (tA (zM x)) else none
 |f,args=>gV x f args
theorem jc(H:x.Ok):qS prog (ag (fp x)):=bM fun f X v h mem=>by
 unfold fp at h;split at h
 ·split at h
  next Z=>cases h;rw[Z];exact Ez x H mem
  ·cases h
 ·split at h
  next Z=>cases h;rw[Z.1,Z.2];exact LK _ (uk x) mem
  ·cases h
 ·split at h
  next Z=>cases h;rw[Z];exact Wc x H mem
  ·cases h
 ·have:=(AZ H).fn _ _ mem ⟨v,none,[]⟩ (by unfold ag;simp only;rw[h])
  simpa [aee.mem] using this
end Go.Proofs
namespace Go.Proofs
open Go.Eng
open Classical in
noncomputable def dy:List (FuncId×List AV×(Mem→Prop)×aee)→y9
 | [],_,_,_=>none
 |x::L,c,args,M=>if c=.fn x.1∧args=x.2.1∧x.2.2.1 M then some x.2.2.2 else dy L c args M
variable{L:List (FuncId×List AV×(Mem→Prop)×aee)}
theorem lO{P:Program}(h:∀x∈L,∀M,x.2.2.1 M→pW P (.fn x.1) x.2.1 M x.2.2.2):qS P (dy L):=cq fun c a M r Z=>by
 induction L with
 |nil=>simp[dy] at Z
 |cons x L ih=>
  rw[dy] at Z;split at Z
  ·rename_i X
   obtain⟨rfl,rfl,V⟩:=X;cases Z;exact h x (by simp) M V
  ·exact ih (fun y U=>h y (by simp[U])) Z
variable{a:List AV}{p:Mem→Prop}{r:aee}
theorem cr{f:FuncId}{m:Mem}(h:p m):dy ((f,a,p,r)::L) (.fn f) a m=some r:=by rw[dy,if_pos ⟨rfl,rfl,h⟩]
theorem aB{f g:FuncId}{b:List AV}{m:Mem}(h:f≠g∨¬p m):dy ((f,a,p,r)::L) (.fn g) b m=dy L (.fn g) b m:=by rw[dy,if_neg (fun e=>h.elim (fun h=>h (by have:=e.1;cases this;rfl)) fun h=>h e.2.2)]
end Go.Proofs
