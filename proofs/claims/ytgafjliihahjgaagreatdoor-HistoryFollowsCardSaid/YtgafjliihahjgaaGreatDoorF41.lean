/- See F54. -/
import Derived.Test.YtgafjliihahjgaaGreatDoorF40
import Derived.Test.YtgafjliihahjgaaGreatDoorF35
set_option linter.all false
set_option maxRecDepth 100000
set_option maxHeartbeats 40000000
namespace Go.Proofs
open Go.Eng
open Tryz
theorem Sq(a b c:List UInt8)(M:Mem):kO prog 125 [.agg [.str a,.str b,.str c]] M (.agg [.str a,.str b,.str c]) M:=by
 have Z:aK prog 125=some f125:=by kernel_rfl
 refine aA (al _) ?_ M;simp[aa,Z,f125,bW]
theorem Qj(a b c:List UInt8)(M:Mem):kO prog 180 [.agg [.str a,.str b,.str c]] M (.agg [.str a,.str b,.str c]) M:=by
 have Z:aK prog 180=some f180:=by kernel_rfl
 refine aA (al _) ?_ M;simp[aa,Z,f180,bW,aE]
noncomputable def rR(f:FuncId)(args:List AV):Option AV:=
 match f,args with
 |125,[.agg [.str a,.str b,.str c]]=>some (.agg [.str a,.str b,.str c])
 |180,[.agg [.str a,.str b,.str c]]=>some (.agg [.str a,.str b,.str c])
 |f,args=>aH f args
theorem tJ:HS prog (af rR):=bH fun f Z v h mem=>by
 unfold rR at h;split at h
 ·cases h;exact Sq _ _ _ mem
 ·cases h;exact Qj _ _ _ mem
 ·have:=cQ.fn _ _ mem ⟨v,none,[]⟩ (by unfold af;simp only;rw[h])
  simpa [aeQ.mem] using this
def afA(r:M3)(s:V3):AV:=.agg (mC r++vL s)
theorem MP(r:M3)(s:V3)(M:Mem):kO prog 123 [afA r s] M (.agg (mC r)) M:=by
 have V:aK prog 123=some f123:=by kernel_rfl
 refine aA tJ ?_ M;obtain⟨W,Z⟩:∃W,aC f123=[W]:=⟨_,rfl⟩
 obtain⟨X,S⟩:=dj Z (l:=[0,1,3,7,0,16,48,127,0,256,768,2047,4095,8191]) (j:=13) (by kernel_rfl) (by decide);simp[aC,bn,f123] at Z;subst Z;simp[aa,V,f123,af,rR,afA,mC,vL,bW,-aB,ag X,aS,aO,aP,S,Nat.testBit]
def apM(r:M3)(v:V3):Mem:=[.cells true 0 (mC r),.cells true 0 (vL v),.cells true 0 [.str [],.str [],.str []],.cells true 0 [.str [],.str [],.str []]]
theorem pH(r:M3)(v:V3)(h:mOk r v)(i:Nat)(A:i<3):kO prog 182 [.int .i64 i,.ptr 0 0,.ptr 1 0] (apM r v) (.str (ak (da (if i=0 then r.1 else if i=1 then r.2.1 else r.2.2) v))) (apM r v):=by
 have V:aK prog 182=some f182:=by kernel_rfl
 obtain⟨Z,X,h3⟩:=h;obtain⟨r1,r2,W⟩:=r;simp only at Z X h3;have hc:i=0∨i=1∨i=2:=by omega
 have h:aa (aN prog) (fun _=>[]) (aK prog) (af aH) 1 182 [.int .i64 i,.ptr 0 0,.ptr 1 0] (apM (r1,r2,W) v)=some ⟨.str (ak (da (if i=0 then r1 else if i=1 then r2 else W) v)),none,[]⟩:=by rcases hc with rfl | rfl | rfl<;>simp[aa,V,f182,af,aH,apM,mC,vL,jc,Z,X,h3,Nat.testBit]
 have:=(ah ae (ar _) cQ (au _) h).1;simpa [aeQ.mem] using this
theorem M2(r:M3)(v:V3)(h:mOk r v):
  kO prog 181 [.func 182 [.ptr 0 0,.ptr 1 0]] [.cells true 0 (mC r),.cells true 0 (vL v),.cells true 0 [.str [],.str [],.str []]] (vA (po r v)) [.cells true 0 (mC r),.cells true 0 (vL v),.cells true 0 [.str [],.str [],.str []]]:=by
 have S:aK prog 181=some f181:=by kernel_rfl
 obtain⟨L,W⟩:∃L:List (FuncId×List AV×Mem×aeQ),L=[(182,[.int .i64 (0:Nat),.ptr 0 0,.ptr 1 0],apM r v,⟨.str (ak (da r.1 v)),none,[]⟩),
  (182,[.int .i64 (1:Nat),.ptr 0 0,.ptr 1 0],apM r v,⟨.str (ak (da r.2.1 v)),none,[]⟩),
  (182,[.int .i64 (2:Nat),.ptr 0 0,.ptr 1 0],apM r v,⟨.str (ak (da r.2.2 v)),none,[]⟩)]:=⟨_,rfl⟩
 have V:HS prog (fz L):=fL fun x Z=>by
  rw[W] at Z;simp only[lM] at Z;rcases Z with rfl | rfl | rfl
  ·exact⟨by simpa [aeQ.mem] using pH r v h 0 (by decide),fun p X=>by cases X⟩
  ·exact⟨by simpa [aeQ.mem] using pH r v h 1 (by decide),fun p X=>by cases X⟩
  ·exact⟨by simpa [aeQ.mem] using pH r v h 2 (by decide),fun p X=>by cases X⟩
 refine cd V ?_;clear V;subst W;unfold po;obtain⟨x,Z⟩:=xE (da r.1 v);obtain⟨y,O⟩:=xE (da r.2.1 v);obtain⟨z,M⟩:=xE (da r.2.2 v);rw[←Z,←O,←M];simp[aa,S,f181,fz,apM,vA,vL,mC,bW]
theorem HO(r:M3)(v:V3)(h:mOk r v)(M:Mem):kO prog 124 [.agg (mC r),vA v] M (vA (po r v)) M:=by
 have V:aK prog 124=some f124:=by kernel_rfl
 obtain⟨L,Z⟩:=xE (α:=List (FuncId×List AV×Mem×aeQ)) [(181,[.func 182 [.ptr 0 0,.ptr 1 0]],[.cells true 0 (mC r),.cells true 0 (vL v),.cells true 0 [.str [],.str [],.str []]],⟨vA (po r v),none,[]⟩)];have X:HS prog (fz L):=fL fun x W=>by rw[Z,List.mem_singleton] at W;subst W;exact⟨by simpa [aeQ.mem] using M2 r v h,fun p S=>by cases S⟩
 refine cV X (lv:=fun _=>[]) (K:=1) rfl (by rfl) ?_ M;clear X;subst Z;obtain⟨w,O⟩:=xE (po r v);rw[←O];simp[aa,V,f124,fz,vA,vL,mC]
def adM(u v:V3):Mem:=[.cells true 0 (vL u),.cells true 0 (vL v),.cells true 0 [.str [],.str [],.str []],.cells true 0 [.str [],.str [],.str []]]
section
variable (u v:V3)(hu:vF u)(hv:vF v)
include u v hu hv
theorem wL(i:Nat)(A:i<3):kO prog 184 [.int .i64 i,.ptr 0 0,.ptr 1 0] (adM u v) (.str (ak (if i=0 then u.1+v.1 else if i=1 then u.2.1+v.2.1 else u.2.2+v.2.2))) (adM u v):=by
 have Z:aK prog 184=some f184:=by kernel_rfl
 obtain⟨⟨X,W⟩,⟨V,S⟩,O,M⟩:=hu;obtain⟨⟨K,J⟩,⟨F,D⟩,C,B⟩:=hv;have hc:i=0∨i=1∨i=2:=by omega
 refine cd bj ?_;rcases hc with rfl | rfl | rfl<;>simp[aa,Z,f184,af,aj,az,ao,adM,vL,X,W,V,S,O,M,K,J,F,D,C,B,Nat.testBit]
theorem M4:
  kO prog 181 [.func 184 [.ptr 0 0,.ptr 1 0]] [.cells true 0 (vL u),.cells true 0 (vL v),.cells true 0 [.str [],.str [],.str []]] (vA (j9 u v)) [.cells true 0 (vL u),.cells true 0 (vL v),.cells true 0 [.str [],.str [],.str []]]:=by
 have S:aK prog 181=some f181:=by kernel_rfl
 obtain⟨L,W⟩:∃L:List (FuncId×List AV×Mem×aeQ),L=[(184,[.int .i64 (0:Nat),.ptr 0 0,.ptr 1 0],adM u v,⟨.str (ak (u.1+v.1)),none,[]⟩),
  (184,[.int .i64 (1:Nat),.ptr 0 0,.ptr 1 0],adM u v,⟨.str (ak (u.2.1+v.2.1)),none,[]⟩),
  (184,[.int .i64 (2:Nat),.ptr 0 0,.ptr 1 0],adM u v,⟨.str (ak (u.2.2+v.2.2)),none,[]⟩)]:=⟨_,rfl⟩
 have V:HS prog (fz L):=fL fun x Z=>by
  rw[W] at Z;simp only[lM] at Z;rcases Z with rfl | rfl | rfl
  ·exact⟨by simpa [aeQ.mem] using wL u v hu hv 0 (by decide),fun p X=>by cases X⟩
  ·exact⟨by simpa [aeQ.mem] using wL u v hu hv 1 (by decide),fun p X=>by cases X⟩
  ·exact⟨by simpa [aeQ.mem] using wL u v hu hv 2 (by decide),fun p X=>by cases X⟩
 refine cd V ?_;clear V;subst W;unfold j9;obtain⟨x,Z⟩:=xE (u.1+v.1);obtain⟨y,O⟩:=xE (u.2.1+v.2.1);obtain⟨z,M⟩:=xE (u.2.2+v.2.2);rw[←Z,←O,←M];simp[aa,S,f181,fz,adM,vA,vL,bW]
theorem QP(M:Mem):kO prog 126 [vA u,vA v] M (vA (j9 u v)) M:=by
 have V:aK prog 126=some f126:=by kernel_rfl
 obtain⟨L,Z⟩:=xE (α:=List (FuncId×List AV×Mem×aeQ)) [(181,[.func 184 [.ptr 0 0,.ptr 1 0]],[.cells true 0 (vL u),.cells true 0 (vL v),.cells true 0 [.str [],.str [],.str []]],⟨vA (j9 u v),none,[]⟩)];have X:HS prog (fz L):=fL fun x W=>by rw[Z,List.mem_singleton] at W;subst W;exact⟨by simpa [aeQ.mem] using M4 u v hu hv,fun p S=>by cases S⟩
 refine aA X ?_ M;clear X;subst Z;obtain⟨w,O⟩:=xE (j9 u v);rw[←O];simp[aa,V,f126,fz,vA,vL]
end
theorem Ht{v:V3}(h:vC v)(M:Mem):kO prog 122 [vA v] M (.tuple [vA v,.int .i64 0]) M:=by
 have Z:aK prog 122=some f122:=by kernel_rfl
 refine aA tJ ?_ M;obtain⟨X,W,h3,V⟩:=h;simp[aa,Z,f122,af,rR,aH,vA,X,W,h3,V]
theorem HN{v:V3}(h:vC v)(M:Mem):kO prog 249 [vA v] M (.bool false) M:=by
 have Z:aK prog 249=some f249:=by kernel_rfl
 refine aA cQ ?_ M;obtain⟨X,W,h3,V⟩:=h;simp[aa,Z,f249,af,aH,vA,X,W,h3,V]
open Classical in
noncomputable def z7(f:FuncId)(args:List AV):Option AV:=
 match f,args with
 |249,[.agg [.str a,.str b,.str c]]=>match v3P a b c with
  |some v=>if vC v then some (.bool false) else none
  |none=>none
 |_,_=>none
theorem Bj:HS prog (af z7):=bH fun f Z v h mem=>by
 unfold z7 at h;split at h
 ·split at h
  ·rename_i v X
   split at h
   ·rename_i hc
    cases h;obtain⟨rfl,rfl,rfl⟩:=fE X;exact HN hc mem
   ·cases h
  ·cases h
 ·cases h
theorem M9{a:V3}(A:vC a):kO prog 280 [.slice 0 0 1 none,.func 249 []] [.cells false 3 (vL a)] (.int .i64 (-1)) [.cells false 3 (vL a)]:=by
 have Z:aK prog 280=some f280:=by kernel_rfl
 refine cR (lv:=(fun _=>[8])) (K:=6) Bj ?_;simp[aa,Z,f280,af,z7,vL,jc,A,aQ,er,w1]
theorem Na{a b c d:V3}(A:vC a)(G:vC b)(hc:vC c)(H:vC d):kO prog 280 [.slice 0 0 4 none,.func 249 []] [.cells false 3 (vL a++(vL b++(vL c++vL d)))] (.int .i64 (-1)) [.cells false 3 (vL a++(vL b++(vL c++vL d)))]:=by
 have Z:aK prog 280=some f280:=by kernel_rfl
 refine cR (lv:=(fun _=>[8])) (K:=6) Bj ?_;simp[aa,Z,f280,af,z7,vL,jc,A,G,hc,H,aQ,er,w1,w2,w3,w4]
variable{M:Mem}{b:Nat}
theorem Hu{n:Nat}{o:Bool}{C:List AV}(A:AV.ae0 C=true)(G:M[b]? =some (.cells o 3 C))(h:kO prog 280 [.slice 0 0 n none,.func 249 []] [.cells false 3 C] (.int .i64 (-1)) [.cells false 3 C]):
  kO prog 179 [.slice b 0 n none] M (.int .i64 0) M:=by
 have S:=af3 (rest:=[.func 249 []]) A rfl rfl G (List.take_of_length_le (Nat.le_refl _)) h;have X:aK prog 248=some f248:=by kernel_rfl
 have Z:HS prog (bT 280 [.slice b 0 n none,.func 249 []] (.int .i64 (-1)) (fun N=>N=M)):=cf fun N W=>by subst W;exact S
 have O:aa (aN prog) (fun _=>[]) (aK prog) (bT 280 [.slice b 0 n none,.func 249 []] (.int .i64 (-1)) (fun N=>N=M)) 1 248 [.slice b 0 n none,.func 249 []] M=some ⟨.bool false,none,[]⟩:=by clear Z;simp[aa,X,f248,bT]
 have h3:=(ah ae (ar _) Z (au _) O).1;rw[show aeQ.mem ⟨.bool false,none,[]⟩ M=M by simp[aeQ.mem]] at h3;have K:aK prog 179=some f179:=by kernel_rfl
 have V:HS prog (bT 248 [.slice b 0 n none,.func 249 []] (.bool false) (fun N=>N=M)):=cf fun N W=>by subst W;exact h3
 refine cd V ?_;clear V;simp[aa,K,f179,bT]
def afC(r:M3)(s:V3):Prop:=vC r.1∧vC r.2.1∧vC r.2.2∧vC s
variable{r:M3}
theorem Hs{s:V3}(h:afC r s)(M:Mem):kO prog 178 [afA r s] M (.int .i64 0) M:=by
 have V:aK prog 178=some f178:=by kernel_rfl
 obtain⟨S,O,h3,K⟩:=h;obtain⟨L,Z⟩:=xE (α:=List (FuncId×List AV×Mem×aeQ)) [(179,[.slice 1 0 4 none],[.cells true 0 (mC r++vL s),.cells true 3 (mC r++vL s)],⟨.int .i64 0,none,[]⟩)];have X:HS prog (fz L):=fL fun x W=>by rw[Z,List.mem_singleton] at W;subst W;exact⟨by simpa [aeQ.mem] using Hu (M:=[.cells true 0 (mC r++vL s),.cells true 3 (mC r++vL s)]) (b:=1) (C:=vL r.1++(vL r.2.1++(vL r.2.2++vL s))) rfl rfl (Na S O h3 K),fun p J=>by cases J⟩
 refine aA X ?_ M;clear X;subst Z;simp[aa,V,f178,fz,afA,mC,vL]
theorem yW{s p:V3}(h:afC r s)(A:vC p)(M:Mem):kO prog 121 [afA r s,vA p] M (.int .i64 0) M:=by
 have V:aK prog 121=some f121:=by kernel_rfl
 obtain⟨L,X⟩:=xE (α:=List (FuncId×List AV×Mem×aeQ)) [(178,[afA r s],[.cells true 0 (mC r++vL s),.cells true 0 (vL p)],⟨.int .i64 0,none,[]⟩),(179,[.slice 2 0 1 none],[.cells true 0 (mC r++vL s),.cells true 0 (vL p),.cells true 3 (vL p)],⟨.int .i64 0,none,[]⟩)];have W:HS prog (fz L):=fL fun x Z=>by
  rw[X] at Z;simp only[lM] at Z;rcases Z with rfl | rfl
  ·exact⟨by simpa [aeQ.mem] using Hs h _,fun p A=>by cases A⟩
  ·exact⟨by simpa [aeQ.mem] using Hu (M:=[.cells true 0 (mC r++vL s),.cells true 0 (vL p),.cells true 3 (vL p)]) (b:=2) (C:=vL p) rfl rfl (M9 A),fun p A=>by cases A⟩
 refine aA W ?_ M;clear W;subst X;simp[aa,V,f121,fz,afA,mC,vL,vA]
structure aga (r:M3)(s p:V3):Prop where
 ck:afC r s
 pk:vC p
 mm:mOk r p
 fk:vF (po r p)∧vF s
 rk:vC (j9 (po r p) s)
theorem Hr{s p:V3}(h:aga r s p)(M:Mem):kO prog 76 [afA r s,vA p] M (.tuple [vA (j9 (po r p) s),.int .i64 0]) M:=by
 have K:aK prog 76=some f76:=by kernel_rfl
 obtain⟨hc,J,F,⟨Z,X⟩,D⟩:=h;have S:HS prog (aeT.or (af (bY [(121,[afA r s,vA p],.int .i64 0),(123,[afA r s],.agg (mC r)),(124,[.agg (mC r),vA p],vA (po r p)),(126,[vA (po r p),vA s],vA (j9 (po r p) s)),(122,[vA (j9 (po r p) s)],.tuple [vA (j9 (po r p) s),.int .i64 0])])) (af rR)):=HS.or (du fun e he M=>by
  simp only[lM] at he;rcases he with rfl | rfl | rfl | rfl | rfl
  ·exact yW hc J M
  ·exact MP r s M
  ·exact HO r p F M
  ·exact QP _ _ Z X M
  ·exact Ht D M) tJ
 refine aA S ?_ M;clear S;obtain⟨O,W⟩:∃O,aC f76=[O]:=⟨_,rfl⟩
 obtain⟨V,B⟩:=dj W (l:=[0,1,0,7,15,0,32,127,255,511,1023,1023,4095,8191]) (j:=13) (by kernel_rfl) (by decide);simp[aC,bn,f76] at W;subst W;obtain⟨w,C⟩:=xE (po r p);rw[←C];obtain⟨q,hq⟩:=xE (j9 w s);rw[←hq];simp[aa,K,f76,aeT.or,bY,af,rR,afA,mC,vL,vA,-aB,aF V,bX,ib,dH,cj,bR,gd,bef,Nat.testBit]
structure agB (n:Z3)(L:List P2)(v:Z3)(bck:Bool)(p:V3):Prop where
 d:afg (zV n) p
 fd:aeZ (da (zV n) p)
 kn:YJ L (da (zV n) p)
 w:aeZ (ej L (da (zV n) p))
 k:aeZ (sgB bck)
 s:Hj (zV v) (sgB bck*ej L (da (zV n) p))
 a:vF p∧vF (jR (zV v) (sgB bck*ej L (da (zV n) p)))
theorem vd{o:Bool}{L:List P2}{u:Rat}(A:0<L.length)(H:L.length≤1000)(G:M[b]? =some (.cells o 2 (kC (kT L))))(h:YJ L u):
  kO prog 87 [.slice b 0 L.length none,.str (ak u)] M (.tuple [.int .i64 (bc L u),.str (ak (ej L u))]) M:=by
 have X:=cM L;have e:∀b,AV.slice b 0 L.length none=.slice b 0 (kT L).length none:=fun b=>by rw[X]
 have Z:=HQ L u h A (by omega);rw[e 0] at Z;rw[e b];exact P7 rfl rfl Z ⟨b,o,_,rfl,G,List.take_of_length_le (by rw[fB];omega)⟩
theorem w6(nm:List UInt8)(n:Z3)(L:List P2)(v:Z3)(A:Bool)(p:V3)(h:agB n L v A p)(hp:0<L.length)(hl:L.length≤1000):
  kO prog 52 [.agg (bw nm n (.slice 0 0 L.length none) v),vA p,.bool A] [.cells false 2 (kC (kT L))] (vA (GZ n L v A p)) [.cells false 2 (kC (kT L))]:=by
 have hG:aK prog 52=some f52:=by kernel_rfl
 obtain⟨d,⟨O,K⟩,j,⟨w1,w2⟩,⟨Y,R⟩,s,a1,X⟩:=h;have W:HS prog (aeT.or (bT 87 [.slice 0 0 L.length none,.str (ak (da (zV n) p))] (.tuple [.int .i64 (bc L (da (zV n) p)),.str (ak (ej L (da (zV n) p)))]) (fun N=>∃Z,N=aeY.cells false 2 (kC (kT L))::Z)) (af dz)):=
  HS.or (cf fun N ⟨Z,hZ⟩=>by subst hZ;exact vd hp hl (b:=0) (o:=false) rfl j) jj
 obtain⟨os,I⟩:∃os,aC f52=os:=⟨_,rfl⟩
 have I':=be I qB;simp only[aC,bn,f52,lA] at I;subst I;simp only[lB] at I';obtain⟨Z9,hb1,J,F,hb4⟩:=I';have j2:ba [0,1,3,0,8,24,0,120,255,511,1023,1023,2047,8191] 13=true:=by decide
 have j3:ba [0,0,2,6,0,0,48,126,255,511] 9=true:=by decide
 have D:dC [49]=some 1:=rfl;have C:dC [45,49]=some (-1):=rfl;unfold GZ;obtain⟨N,B⟩:=xE (zV n);obtain⟨S,m⟩:=xE (zV v);rw[←B] at d O K j w1 w2 s X W ⊢;rw[←m] at s X ⊢;obtain⟨u,hu⟩:=xE (da N p);rw[←hu] at O K j w1 w2 s X W ⊢;obtain⟨x,hx⟩:=xE (ej L u);rw[←hx] at w1 w2 s X W ⊢;obtain⟨pn,H⟩:=xE (bc L u);rw[←H] at W;obtain⟨k,V⟩:=xE (sgB A);rw[←V] at Y R s X ⊢;obtain⟨y,G⟩:=xE (k*x);rw[←G] at s X ⊢;obtain⟨z,hz⟩:=xE (jR S y);rw[←hz] at X ⊢;unfold zV at B m;unfold sgB at V;have h:aa (aN prog) (fun _=>[]) (aK prog) (aeT.or (bT 87 [.slice 0 0 L.length none,.str (ak u)] (.tuple [.int .i64 pn,.str (ak x)]) (fun N=>∃Z,N=aeY.cells false 2 (kC (kT L))::Z)) (af dz)) 1 52 [.agg (bw nm n (.slice 0 0 L.length none) v),vA p,.bool A] [.cells false 2 (kC (kT L))]=some ⟨vA (j9 p z),none,[]⟩:=by
  clear W;cases A with
  |false=>
   rw[if_neg (by decide)] at V;rw[←V] at D;simp[aa,hG,f52,aeT.or,bT,af,dz,dR,aH,aj,az,vA,bw,zS,jc,ao,←B,←m,←hu,←G,←hz,D,d,w1,w2,Y,R,s,a1,X,-aB,ag J,ag F,aS,aO,aP,j2,j3,Nat.testBit]
  |true=>
   rw[if_pos rfl] at V;rw[←V] at C;simp[aa,hG,f52,aeT.or,bT,af,dz,dR,aH,aj,az,vA,bw,zS,jc,ao,←B,←m,←hu,←G,←hz,C,d,w1,w2,Y,R,s,a1,X,-aB,ag J,ag F,aS,aO,aP,j2,j3,Nat.testBit]
 have:=(ah ae (ar _) W (au _) h).1;simpa [aeQ.mem] using this
theorem zh(nm:List UInt8)(n:Z3)(L:List P2)(v:Z3)(A:Bool)(p:V3)(h:agB n L v A p)(H:0<L.length)(I:L.length≤1000)(M:Mem)(b:Nat)(o:Bool)(G:M[b]? =some (.cells o 2 (kC (kT L)))):
  kO prog 52 [.agg (bw nm n (.slice b 0 L.length none) v),vA p,.bool A] M (vA (GZ n L v A p)) M:=by
 have X:=gL G;have:=kO.frame (M:=M) (new:=[]) [b] rfl (by simpa using X) (by rfl) (fun i t Z=>by
  match i with
  |0=>simp at Z;subst Z;exact rK (o:=o) G (List.take_of_length_le (by rw[fB];rw[cM];omega))
  |i+1=>simp at Z) rfl (w6 nm n L v A p h H I)
 simpa [bw,vA,AV.ae3,AV.ren,dL] using this
def Y7(a b:Rat×Rat):Prop:=(b.1-a.1≠0∧aeZ (b.2-a.2)∧aeZ (b.1-a.1))∧aeZ ((b.2-a.2) / (b.1-a.1))∧aeZ ((b.2-a.2) / (b.1-a.1)*a.1)
def ZI(Q:List (Rat×Rat)):Prop:=OG Q∧∀(i:Nat) a b,Q[i]? =some a→Q[i+1]? =some b→Y7 a b
variable{i:Nat}
theorem OK{Q:List (Rat×Rat)}{q:Rat×Rat}(h:Q[i]? =some q):Q.getD i (0,0)=q:=by simp[List.getD,h]
theorem MS(Q:List (Rat×Rat))(n:Nat)(hn:n≤Q.length)(hQ:ZI Q)(hl:Q.length≤1000000000):
  kO prog 112 [.slice 0 0 Q.length none,.int .i64 n] [.cells false 2 (kC (kT Q))] (.tuple [.str (ak (lH Q n).1),.str (ak (lH Q n).2)]) [.cells false 2 (kC (kT Q))]:=by
 have S:aK prog 112=some f112:=by kernel_rfl
 have z:ak 0=[48]:=rfl;refine cd bj ?_;have kl:(kC (kT Q)).length=2*Q.length:=by rw[fB,cM]
 unfold lH;by_cases O:Q=[]
 ·subst O
  simp[aa,S,f112,z]
 ·have u:0<Q.length:=List.length_pos_iff.2 O
  have Z :¬Q.length=0:=by omega
  rw[if_neg O];by_cases j:n=0
  ·subst j
   obtain⟨q,hq⟩:∃q,Q[0]? =some q:=⟨Q[0],List.getElem?_eq_getElem u⟩
   obtain⟨k1,k2,Y⟩:=Ca (GU hq);rw[if_pos rfl,OK hq];simp at Y;simp[aa,S,f112,z,O,u,Y]
  ·rw[if_neg j]
   obtain⟨m,rfl⟩:∃m,n=m+1:=⟨n-1,by omega⟩
   obtain⟨a,K⟩:∃q,Q[m]? =some q:=⟨Q[m],List.getElem?_eq_getElem (by omega)⟩
   obtain⟨a1,a2,a3⟩:=Ca (GU K);have w2:IntKind.i64.wrap (((m+1:Nat):Int)-1)=(m:Int):=by rw[aq];omega
   have e1:m+1-1=m:=by omega
   rw[e1,OK K];have R:m<Q.length:=by omega
   by_cases J:m+1=Q.length
   ·rw[if_pos J]
    rw[J] at w2 ⊢;simp[aa,S,f112,z,Z,R,a3,w2]
   ·rw[if_neg J]
    have hE' :¬((m:Int)+1=Q.length):=by omega
    obtain⟨b,F⟩:∃q,Q[m+1]? =some q:=⟨Q[m+1],List.getElem?_eq_getElem (by omega)⟩
    obtain⟨I,b2,b3⟩:=Ca (GU F);rw[OK F];obtain⟨⟨X,⟨H,G⟩,A,i4⟩,⟨D,C⟩,W,V⟩:=hQ.2 m a b K F;obtain⟨⟨f1,f2⟩,f3,f4⟩:=hQ.1 a (List.mem_of_getElem? K);obtain⟨⟨g1,g2⟩,g3,g4⟩:=hQ.1 b (List.mem_of_getElem? F);unfold CM;obtain⟨x,hx⟩:=xE (b.2-a.2);obtain⟨y,hy⟩:=xE (b.1-a.1);rw[←hx] at H G D C W V ⊢;rw[←hy] at A i4 D C W V X ⊢;obtain⟨s,hs⟩:=xE (x / y);rw[←hs] at D C W V ⊢;obtain⟨t,ht⟩:=xE (s*a.1);rw[←ht] at W V ⊢;have ka:m*2+2≤(kC (kT Q)).length:=by omega
    have kb:(m+1)*2+2≤(kC (kT Q)).length:=by omega
    obtain⟨v,hv⟩:=xE (m+1);rw[←hv] at J I kb w2 ⊢;have B:¬(v:Int)=Q.length:=by omega
    have v0:¬v=0:=by omega
    have vl:v<Q.length:=by omega
    simp[aa,S,f112,Z,R,B,v0,vl,a1,I,ka,kb,w2,af,aj,az,ao,f1,f2,f3,f4,g1,g2,g3,g4,←hx,←hy,H,G,A,i4,X,←hs,D,C,W,V,←ht,Nat.testBit]
def Vt(Q:List (Rat×Rat))(u:Rat):Prop:=(ZI Q∧aeZ u)∧(aeZ (lH Q (bc Q u)).1∧aeZ (lH Q (bc Q u)).2)∧aeZ ((lH Q (bc Q u)).2*u)
theorem HJ{o:Bool}{L:List P2}{u:Rat}(G:0<L.length)(H:L.length≤1000)(A:M[b]? =some (.cells o 2 (kC (kT L))))(h:Vt L u):
  kO prog 72 [.slice b 0 L.length none,.str (ak u)] M (.str (ak (ej L u))) M:=by
 have K:aK prog 72=some f72:=by kernel_rfl
 have J:=cM L;have e:∀b,AV.slice b 0 L.length none=.slice b 0 (kT L).length none:=fun b=>by rw[J]
 obtain⟨⟨hQ,S⟩,⟨⟨f1,f2⟩,f3,f4⟩,f5,f6⟩:=h;have row:ZT M (.slice b 0 (kT L).length none) (kT L):=⟨b,o,_,rfl,A,List.take_of_length_le (by rw[fB];omega)⟩;have Z:=uZ L u hQ.1 S (by omega);have X:=MS L (bc L u) (gl L u) hQ (by omega);rw[e 0] at Z X;have Z:=P7 rfl rfl Z row;have X:=P7 rfl rfl X row;rw[←e b] at Z X;have W:HS prog (aeT.or (bT 113 [.slice b 0 L.length none,.str (ak u)] (.int .i64 (bc L u)) (fun N=>N=M)) (aeT.or (bT 112 [.slice b 0 L.length none,.int .i64 (bc L u)] (.tuple [.str (ak (lH L (bc L u)).1),.str (ak (lH L (bc L u)).2)]) (fun N=>N=M)) (af aj))):=
  HS.or (cf fun N V=>by subst V;exact Z) (HS.or (cf fun N V=>by subst V;exact X) bj)
 unfold ej;obtain⟨n,F⟩:=xE (bc L u);rw[←F] at f1 f2 f3 f4 f5 f6 W ⊢;obtain⟨c,hc⟩:=xE ((lH L n).1);obtain⟨s,D⟩:=xE ((lH L n).2);rw[←hc] at f1 f2 W ⊢;rw[←D] at f3 f4 f5 f6 W ⊢;obtain⟨C,B⟩:=S;obtain⟨t,O⟩:=xE (s*u);rw[←O] at f5 f6 ⊢;have h:aa (aN prog) (fun _=>[]) (aK prog) (aeT.or (bT 113 [.slice b 0 L.length none,.str (ak u)] (.int .i64 n) (fun N=>N=M)) (aeT.or (bT 112 [.slice b 0 L.length none,.int .i64 n] (.tuple [.str (ak c),.str (ak s)]) (fun N=>N=M)) (af aj))) 1 72 [.slice b 0 L.length none,.str (ak u)] M=some ⟨.str (ak (c+t)),none,[]⟩:=by clear W;simp[aa,K,f72,aeT.or,bT,af,aj,az,ao,C,B,f1,f2,f3,f4,f5,f6,←O]
 have:=(ah ae (ar _) W (au _) h).1;simpa [aeQ.mem] using this
theorem Qd(i:Nat):(bC i).1.natAbs≤3∧(bC i).2.1.natAbs≤3∧(bC i).2.2.1.natAbs≤3∧(bC i).2.2.2.natAbs≤3:=by
 match i with
 |0 | 1 | 2 | 3 | 4 | n+5=>simp[bC]
def sgT(A:Bool):List UInt8:=if A then [45,49] else [49]
theorem MY(nm:List UInt8)(i:Nat)(G:i≤5)(c:Z3)(A:Bool)(h:af0 (CF (fK (bC i) A)) (zV c))(M:Mem):
  kO prog 75 [.agg (cL nm (bC i) c),.str (sgT A)] M (.tuple [afA (CF (fK (bC i) A)) (Pj (zV c) (po (CF (fK (bC i) A)) (zV c))),.int .i64 0]) M:=by
 have B:aK prog 75=some f75:=by kernel_rfl
 obtain⟨r,W⟩:=xE (CF (fK (bC i) A));have X:=Np i G A;have V:=Ih i G A;rw[←W] at h X ⊢;obtain⟨s,S⟩:=xE (Pj (zV c) (po r (zV c)));have Z:=fun M=>MQ (fK (bC i) A) r V X (zV c) h M
 rw[←S] at Z ⊢;clear X V h W S;obtain⟨O,K,J,F⟩:=Qd i;obtain⟨t,D⟩:=xE (bC i);rw[←D] at Z O K J F ⊢;clear D;obtain⟨t1,t2,t3,t4⟩:=t;simp only at O K J F;have C:HS prog (af (bY [(120,[tA (fK (t1,t2,t3,t4) A),vA (zV c)],.tuple [afA r s,.int .i64 0])])):=du fun e he M=>by rw[List.mem_singleton] at he;rw[he];exact Z M
 refine aA C ?_ M;clear C Z;have z:IntKind.i64.wrap (-t2)= -t2:=by rw[aq]
 have u:IntKind.i64.wrap (-t3)= -t3:=by rw[aq]
 have m:IntKind.i64.wrap (-t4)= -t4:=by rw[aq]
 cases A<;>simp[aa,B,f75,bY,af,cL,sgT,tA,fK,afA,mC,vL,vA,zV,zS,z,u,m]
def tw(n:Z3)(o:Int)(p:V3):Int:=if (o:Rat)≤da (zV n) p then 1 else 0
theorem xU(a b:Nat)(nm:List UInt8)(n:Z3)(o:Int)(v:Z3)(p:V3)(d:afg (zV n) p)(A:aeZ (da (zV n) p))(G:aeZ (o:Rat)):
  kO prog 69 [.agg [.slice 0 0 a none,.slice 1 0 b none],.agg (bo nm n o v),vA p] [.aeP,.aeP] (.tuple [.int .i64 (tw n o p),.int .i64 0]) [.aeP,.aeP]:=by
 have C:aK prog 69=some f69:=by kernel_rfl
 obtain⟨Z,X⟩:=A;obtain⟨S,J⟩:=G;obtain⟨z,F⟩:∃S,aC f69=[S]:=⟨_,rfl⟩
 obtain⟨O,B⟩:=dj F (l:=[0,1,3,7,0,31,0,64,192,448,1023,2047]) (j:=11) (by kernel_rfl) (by decide);simp[aC,bn,f69] at F;subst F;unfold tw;obtain⟨N,K⟩:=xE (zV n);rw[←K] at d Z X ⊢;obtain⟨q,hq⟩:=xE (α:=Rat) (o:Rat);rw[←hq] at S J ⊢;obtain⟨D,V⟩:=xE (da N p);rw[←V] at Z X ⊢;unfold zV at K;have h:aa (aN prog) (fun _=>[]) (aK prog) (af aH) 1 69 [.agg [.slice 0 0 a none,.slice 1 0 b none],.agg (bo nm n o v),vA p] [.aeP,.aeP]=some ⟨.tuple [.int .i64 (if q≤D then 1 else 0),.int .i64 0],none,[]⟩:=by
  by_cases W:q≤D
  ·have c:=xw.2 W
   rw[if_pos W];simp[aa,C,f69,af,aH,aj,az,vA,bo,zS,jc,ao,←K,←hq,←V,d,Z,X,S,J,c,-aB,ag O,aS,aO,aP,B,Nat.testBit]
  ·have c:¬0≤jQ D q:=fun h=>W (xw.1 h)
   rw[if_neg W];simp[aa,C,f69,af,aH,aj,az,vA,bo,zS,jc,ao,←K,←hq,←V,d,Z,X,S,J,c,-aB,ag O,aS,aO,aP,B,Nat.testBit]
 have:=(ah ae (ar _) cQ (au _) h).1;simpa [aeQ.mem] using this
variable{pb tb:Nat}
theorem AI{a:Nat}(A:pb<M.length)(I:tb<M.length)(nm:List UInt8)(n:Z3)(o:Int)(v:Z3)(p:V3)(d:afg (zV n) p)(G:aeZ (da (zV n) p))(H:aeZ (o:Rat)):
  kO prog 69 [.agg [.slice pb 0 a none,.slice tb 0 b none],.agg (bo nm n o v),vA p] M (.tuple [.int .i64 (tw n o p),.int .i64 0]) M:=by
 by_cases X:pb=tb
 ·subst X
  have:=kO.frame (M:=M) (new:=[]) [pb,pb] rfl (by simpa using A) (by rfl) (fun i t Z=>by
   match i with
   |0=>simp at Z;subst Z;trivial
   |1=>simp at Z;subst Z;trivial
   |i+2=>simp at Z) rfl (xU a b nm n o v p d G H)
  simpa [bo,vA,AV.ae3,AV.ren,dL] using this
 ·have:=kO.frame (M:=M) (new:=[]) [pb,tb] rfl (by simp[A,I]) (by rfl) (fun i t Z=>by
   match i with
   |0=>simp at Z;subst Z;trivial
   |1=>simp at Z;subst Z;trivial
   |i+2=>simp at Z) rfl (xU a b nm n o v p d G H)
  simpa [bo,vA,AV.ae3,AV.ren,dL] using this
variable{ev:List AV}{m:AV}
theorem jF(G:∃a b,m=.agg [a,b]∧a.aeS=true∧b.aeS=true)(H:ev.length=32)(A:∀x∈ev,x.aeS=true)(hc:∀Z,kO prog 61 [m,.agg ev] (M++Z) (.int .i64 0) (M++Z)){p:V3}(I:vC p):
  kO prog 68 [m,.agg ev,vA p] M (.int .i64 0) M:=by
 have W:aK prog 68=some f68:=by kernel_rfl
 obtain⟨a,b,rfl,J,F⟩:=G;obtain⟨V,S,h3,O⟩:=I;have X:HS prog (aeT.or (bT 61 [.agg [a,b],.agg ev] (.int .i64 0) (fun N=>∃Z,N=M++Z)) (af aH)):=HS.or (cf fun N ⟨Z,hZ⟩=>by subst hZ;exact hc Z) cQ;have h:aa (aN prog) (fun _=>[]) (aK prog) (aeT.or (bT 61 [.agg [a,b],.agg ev] (.int .i64 0) (fun N=>∃Z,N=M++Z)) (af aH)) 1 68 [.agg [a,b],.agg ev,vA p] M=some ⟨.int .i64 0,none,[]⟩:=by
  clear X hc;have D:(∀x:AV,x∈ev→x.aeS=true)=True:=eq_true A;have t32:List.take 32 ev=ev:=List.take_of_length_le (by omega);have K:∀s,(AV.str s).aeS=true:=fun _=>rfl
  simp[-AV.aeS,aa,W,f68,aeT.or,bT,af,aH,vA,H,t32,V,S,h3,O]
 have:=(ah ae (ar _) X (au _) h).1;simpa [aeQ.mem] using this
structure agC (n:Z3)(o:Int)(v:Z3)(bck:Bool)(p:V3):Prop where
 pk:vC p
 dk:afg (zV n) p
 fd:aeZ (da (zV n) p)
 fo:aeZ (o:Rat)
 pl:PZ p (zV v) (sgB bck)
 rk:vC (j9 p (jR (zV v) (sgB bck)))
theorem agb:aK prog 39=some f39:=by kernel_rfl
theorem wW{a:Nat}(G:pb<M.length)(H:tb<M.length)(nm:List UInt8)(n:Z3)(o:Int)(v:Z3)(A:Bool)(p:V3)(h:agC n o v A p)(hc:∀Z,kO prog 61 [.agg [.slice pb 0 a none,.slice tb 0 b none],.agg (bo nm n o v)] (M++Z) (.int .i64 0) (M++Z)):
  kO prog 39 [.agg [.slice pb 0 a none,.slice tb 0 b none],.agg (bo nm n o v),vA p,.str (sgT A)] M (.tuple [vA (yC n o v A p),.int .i64 0]) M:=by
 obtain⟨B,z,u,j,pl,Y⟩:=h;have X:HS prog (aeT.or (bT 68 [.agg [.slice pb 0 a none,.slice tb 0 b none],.agg (bo nm n o v),vA p] (.int .i64 0) (fun N=>∃Z,N=M++Z)) (aeT.or (bT 69 [.agg [.slice pb 0 a none,.slice tb 0 b none],.agg (bo nm n o v),vA p] (.tuple [.int .i64 (tw n o p),.int .i64 0]) (fun N=>∃Z,N=M++Z)) (aeT.or (af (bY [(70,[vA (j9 p (jR (zV v) (sgB A)))],.tuple [vA (j9 p (jR (zV v) (sgB A))),.int .i64 0])])) (af aH)))):=
  HS.or (cf fun N ⟨Z,hZ⟩=>by subst hZ;exact jF ⟨_,_,rfl,rfl,rfl⟩ rfl (by simp[bo]) (fun I =>by rw[List.append_assoc];exact hc _) B)
  (HS.or (cf fun N ⟨Z,hZ⟩=>by subst hZ;exact AI (by rw[List.length_append];omega) (by rw[List.length_append];omega) nm n o v p z u j)
  (HS.or (du fun e he M=>by rw[List.mem_singleton] at he;rw[he];exact xV Y M) cQ))
 have V:dC [49]=some 1:=rfl;have K:dC [45,49]=some (-1):=rfl;have C:yC n o v A p=if tw n o p=1 then j9 p (jR (zV v) (sgB A)) else p:=by unfold yC tw;split<;>simp
 rw[C];have J:tw n o p=0∨tw n o p=1:=by unfold tw;split<;>simp
 obtain⟨mv,R⟩:=xE (tw n o p);rw[←R] at X J ⊢;obtain⟨S,D⟩:=xE (zV v);rw[←D] at X pl ⊢;obtain⟨k,W⟩:=xE (sgB A);rw[←W] at X pl ⊢;obtain⟨q,hq⟩:=xE (j9 p (jR S k));rw[←hq] at X ⊢;obtain⟨O,F⟩:=xE (aeT.or (bT 68 [.agg [.slice pb 0 a none,.slice tb 0 b none],.agg (bo nm n o v),vA p] (.int .i64 0) (fun N=>∃Z,N=M++Z)) (aeT.or (bT 69 [.agg [.slice pb 0 a none,.slice tb 0 b none],.agg (bo nm n o v),vA p] (.tuple [.int .i64 mv,.int .i64 0]) (fun N=>∃Z,N=M++Z)) (aeT.or (af (bY [(70,[vA q],.tuple [vA q,.int .i64 0])])) (af aH))));rw[←F] at X;unfold zV at D;unfold sgB at W;have h:aa (aN prog) (fun _=>[]) (aK prog) O 1 39 [.agg [.slice pb 0 a none,.slice tb 0 b none],.agg (bo nm n o v),vA p,.str (sgT A)] M=some ⟨.tuple [vA (if mv=1 then q else p),.int .i64 0],none,[]⟩:=by
  clear X hc;subst F;rcases J with rfl | rfl
  ·rw[if_neg (by decide)]
   cases A<;>simp[aa,agb,f39,aeT.or,bT,bY,vA,bo,zS,sgT]
  ·rw[if_pos rfl]
   cases A with
   |false=>
    rw[if_neg (by decide)] at W;rw[←W] at V;simp[aa,agb,f39,aeT.or,bT,bY,af,aH,vA,bo,zS,sgT,jc,←D,←hq,V,pl]
   |true=>
    rw[if_pos rfl] at W;rw[←W] at K;simp[aa,agb,f39,aeT.or,bT,bY,af,aH,vA,bo,zS,sgT,jc,←D,←hq,K,pl]
 have:=(ah ae (ar _) X (au _) h).1;simpa [aeQ.mem] using this
theorem ng(c:Evc)(H:c.k=1∨c.k=4)(b u w A:AV)(Y:b.aeS=true)(hu:u.aeS=true)(hs:w.aeS=true)(hn:A.aeS=true)(I:∃a b,m=.agg [a,b]∧a.aeS=true∧b.aeS=true)(G:Bool)(p:V3)(R:vC p)(hc:∀Z,kO prog 61 [m,.agg (c.cells b u w A)] (M++Z) (.int .i64 0) (M++Z)):
  kO prog 39 [m,.agg (c.cells b u w A),vA p,.str (sgT G)] M (.tuple [vA p,.int .i64 0]) M:=by
 obtain⟨x,y,rfl,V,S⟩:=I;have W:HS prog (bT 68 [.agg [x,y],.agg (c.cells b u w A),vA p] (.int .i64 0) (fun N=>∃Z,N=M++Z)):=cf fun N ⟨Z,hZ⟩=>by subst hZ;refine jF ⟨_,_,rfl,V,S⟩ rfl (fun e he=>?_) (fun K =>by rw[List.append_assoc];exact hc _) R;simp only[Evc.cells,lM] at he;rcases he with rfl | rfl | rfl | rfl | rfl | rfl | rfl | rfl | rfl | rfl | rfl | rfl | rfl | rfl | rfl | rfl | rfl | rfl | rfl | rfl | rfl | rfl | rfl | rfl | rfl | rfl | rfl | rfl | rfl | rfl | rfl | rfl<;>first | rfl | assumption
 have h:aa (aN prog) (fun _=>[]) (aK prog) (bT 68 [.agg [x,y],.agg (c.cells b u w A),vA p] (.int .i64 0) (fun N=>∃Z,N=M++Z)) 1 39 [.agg [x,y],.agg (c.cells b u w A),vA p,.str (sgT G)] M=some ⟨.tuple [vA p,.int .i64 0],none,[]⟩:=by
  clear W hc;have X:∀s,(AV.str s).aeS=true:=fun _=>rfl
  have O:∀k n,(AV.int k n).aeS=true:=fun _ _=>rfl
  rcases H with H | H<;>simp[-AV.aeS,X,aa,agb,f39,bT,Evc.cells,vA,H]
 have:=(ah ae (ar _) W (au _) h).1;simpa [aeQ.mem] using this
theorem zf{a:Nat}(nm:List UInt8)(i:Nat)(I:i≤5)(c:Z3)(A:Bool)(p:V3)(R:vC p)(G:af0 (CF (fK (bC i) A)) (zV c))(H:aga (CF (fK (bC i) A)) (Pj (zV c) (po (CF (fK (bC i) A)) (zV c))) p)(hc:∀Z,kO prog 61 [.agg [.slice pb 0 a none,.slice tb 0 b none],.agg (cL nm (bC i) c)] (M++Z) (.int .i64 0) (M++Z)):
  kO prog 39 [.agg [.slice pb 0 a none,.slice tb 0 b none],.agg (cL nm (bC i) c),vA p,.str (sgT A)] M (.tuple [vA (j9 (po (CF (fK (bC i) A)) p) (Pj (zV c) (po (CF (fK (bC i) A)) (zV c)))),.int .i64 0]) M:=by
 have hT:=fun M=>MY nm i I c A G M
 have X:=fun M=>Hr H M
 obtain⟨r,W⟩:=xE (CF (fK (bC i) A));rw[←W] at hT X ⊢;obtain⟨s,V⟩:=xE (Pj (zV c) (po r (zV c)));rw[←V] at hT X ⊢;obtain⟨q,hq⟩:=xE (j9 (po r p) s);rw[←hq] at X ⊢;clear G H W V hq;obtain⟨t,O⟩:=xE (bC i);rw[←O] at hT hc ⊢;have S:HS prog (aeT.or (bT 68 [.agg [.slice pb 0 a none,.slice tb 0 b none],.agg (cL nm t c),vA p] (.int .i64 0) (fun N=>∃Z,N=M++Z)) (af (bY [(75,[.agg (cL nm t c),.str (sgT A)],.tuple [afA r s,.int .i64 0]),(76,[afA r s,vA p],.tuple [vA q,.int .i64 0])]))):=
  HS.or (cf fun N ⟨Z,hZ⟩=>by subst hZ;exact jF ⟨_,_,rfl,rfl,rfl⟩ rfl (by simp[cL]) (fun K =>by rw[List.append_assoc];exact hc _) R)
  (du fun e he M=>by
   simp only[lM] at he;rcases he with rfl | rfl
   ·exact hT M
   ·exact X M)
 have h:aa (aN prog) (fun _=>[]) (aK prog) (aeT.or (bT 68 [.agg [.slice pb 0 a none,.slice tb 0 b none],.agg (cL nm t c),vA p] (.int .i64 0) (fun N=>∃Z,N=M++Z)) (af (bY [(75,[.agg (cL nm t c),.str (sgT A)],.tuple [afA r s,.int .i64 0]),(76,[afA r s,vA p],.tuple [vA q,.int .i64 0])]))) 1 39 [.agg [.slice pb 0 a none,.slice tb 0 b none],.agg (cL nm t c),vA p,.str (sgT A)] M=some ⟨.tuple [vA q,.int .i64 0],none,[]⟩:=by clear S hc hT X;simp[aa,agb,f39,aeT.or,bT,bY,af,vA,cL,afA,mC,vL]
 have:=(ah ae (ar _) S (au _) h).1;simpa [aeQ.mem] using this
structure agc (n:Z3)(L:List P2)(v:Z3)(bck:Bool)(p:V3):Prop where
 pk:vC p
 dk:afg (zV n) p
 vk:Vt L (da (zV n) p)
 fw:aeZ (ej L (da (zV n) p))
 fk:aeZ (sgB bck)
 pl:PZ p (zV v) (sgB bck*ej L (da (zV n) p))
 rk:vC (j9 p (jR (zV v) (sgB bck*ej L (da (zV n) p))))
def fdM(s:aeX)(L:List P2):Mem:=[.cells false 2 (pC s.P),.cells false 3 (tC s.T),.cells false 2 (kC (kT L))]
theorem wY(s:aeX)(nm:List UInt8)(n:Z3)(L:List P2)(v:Z3)(A:Bool)(p:V3)(h:agc n L v A p)(hp:0<L.length)(hl:L.length≤1000)(hc:lL s (zP nm n (kT L) v)):
  kO prog 39 [.agg [.slice 0 0 s.P.length none,.slice 1 0 s.T.length none],.agg (bw nm n (.slice 2 0 L.length none) v),vA p,.str (sgT A)] (fdM s L) (.tuple [vA (GZ n L v A p),.int .i64 0]) (fdM s L):=by
 obtain⟨pk,B,vk,⟨w1,w2⟩,⟨z,j⟩,pl,rk⟩:=h;have hE:∀Z,afv (fdM s L++Z) (bw nm n (.slice 2 0 L.length none) v) (zP nm n (kT L) v):=fun Z=>
  ⟨.y9,.y9,.y9,_,rfl,.inl ⟨rfl,rfl,rfl⟩,.inl ⟨rfl,rfl,rfl⟩,Ap _,.inr ⟨2,false,by show AV.slice 2 0 L.length none=.slice 2 0 (kT L).length none;rw[cM],by show 0<(kT L).length;rw[cM];exact hp,rfl⟩⟩
 have X:HS prog (aeT.or (bT 68 [.agg [.slice 0 0 s.P.length none,.slice 1 0 s.T.length none],.agg (bw nm n (.slice 2 0 L.length none) v),vA p] (.int .i64 0) (fun N=>∃Z,N=fdM s L++Z)) (aeT.or (bT 72 [.slice 2 0 L.length none,.str (ak (da (zV n) p))] (.str (ak (ej L (da (zV n) p)))) (fun N=>∃Z,N=fdM s L++Z)) (aeT.or (af (bY [(70,[vA (j9 p (jR (zV v) (sgB A*ej L (da (zV n) p))))],.tuple [vA (j9 p (jR (zV v) (sgB A*ej L (da (zV n) p)))),.int .i64 0])])) (af aH)))):=
  HS.or (cf fun N ⟨Z,hZ⟩=>by subst hZ;refine jF ⟨_,_,rfl,rfl,rfl⟩ rfl (by simp[bw]) (fun Z' =>?_) pk;rw[List.append_assoc];exact hc (fdM s L++(Z++Z')) 0 1 false false _ rfl rfl (hE _))
  (HS.or (cf fun N ⟨Z,hZ⟩=>by subst hZ;exact HJ hp hl (b:=2) (o:=false) rfl vk)
  (HS.or (du fun e he M=>by rw[List.mem_singleton] at he;rw[he];exact xV rk M) cQ))
 obtain⟨os,Y⟩:∃os,aC f39=os:=⟨_,rfl⟩
 have I':=be Y (ls:=[[0,1,3,0,8,24,0,120,255,511],[0,0,2,6,0,0,48,127,255,511,511,2047,4095]]) (by kernel_rfl);simp only[aC,bn,f39,lA] at Y;subst Y;simp only[lB] at I';obtain⟨Z9,V⟩:=I';have j0:ba [0,1,3,0,8,24,0,120,255,511] 9=true:=by decide
 have K:dC [49]=some 1:=rfl;have J:dC [45,49]=some (-1):=rfl;unfold GZ;obtain⟨N,D⟩:=xE (zV n);obtain⟨S,C⟩:=xE (zV v);rw[←D] at B w1 w2 pl X ⊢;rw[←C] at pl X ⊢;obtain⟨u,hu⟩:=xE (da N p);rw[←hu] at w1 w2 pl X ⊢;obtain⟨x,hx⟩:=xE (ej L u);rw[←hx] at w1 w2 pl X ⊢;obtain⟨k,W⟩:=xE (sgB A);rw[←W] at z j pl X ⊢;obtain⟨y,R⟩:=xE (k*x);rw[←R] at pl X ⊢;obtain⟨q,hq⟩:=xE (j9 p (jR S y));rw[←hq] at X ⊢;unfold fdM at X ⊢;obtain⟨I,H⟩:=xE (pC s.P);obtain⟨G,hCT⟩:=xE (tC s.T);obtain⟨CK,hCK⟩:=xE (kC (kT L));have e1:=fun n=>ef n s.P
 have e2:=fun f=>gx f s.P
 have e3:=fun n=>eW n s.T
 have e4:=fun f=>iS f s.T
 have e5:=fun n=>xD n (kT L)
 have e6:=fun f=>Uz f (kT L)
 rw[←H] at X e1 e2 ⊢;rw[←hCT] at X e3 e4 ⊢;rw[←hCK] at X e5 e6 ⊢;simp only[List.cons_append,List.nil_append] at X;unfold zV at D C;unfold sgB at W;obtain⟨O,F⟩:=xE (aeT.or (bT 68 [.agg [.slice 0 0 s.P.length none,.slice 1 0 s.T.length none],.agg (bw nm n (.slice 2 0 L.length none) v),vA p] (.int .i64 0) (fun N=>∃Z,N=aeY.cells false 2 I::aeY.cells false 3 G::aeY.cells false 2 CK::Z)) (aeT.or (bT 72 [.slice 2 0 L.length none,.str (ak u)] (.str (ak x)) (fun N=>∃Z,N=aeY.cells false 2 I::aeY.cells false 3 G::aeY.cells false 2 CK::Z)) (aeT.or (af (bY [(70,[vA q],.tuple [vA q,.int .i64 0])])) (af aH))));rw[←F] at X;have h:aa (aN prog) (fun _=>[]) (aK prog) O 1 39 [.agg [.slice 0 0 s.P.length none,.slice 1 0 s.T.length none],.agg (bw nm n (.slice 2 0 L.length none) v),vA p,.str (sgT A)] [.cells false 2 I,.cells false 3 G,.cells false 2 CK]=some ⟨.tuple [vA q,.int .i64 0],none,[]⟩:=by
  clear X hc hE;subst F;cases A with
  |false=>
   rw[if_neg (by decide)] at W;rw[←W] at K;simp[aa,agb,f39,aeT.or,bT,bY,af,aH,aj,az,vA,bw,zS,sgT,jc,ao,←D,←C,←hu,←R,←hq,K,B,w1,w2,z,j,pl,-aB,ag Z9,aS,aO,aP,j0,aF V,bX,ib,dH,cj,bR,gd,bef,Nat.testBit]
  |true=>
   rw[if_pos rfl] at W;rw[←W] at J;simp[aa,agb,f39,aeT.or,bT,bY,af,aH,aj,az,vA,bw,zS,sgT,jc,ao,←D,←C,←hu,←R,←hq,J,B,w1,w2,z,j,pl,-aB,ag Z9,aS,aO,aP,j0,aF V,bX,ib,dH,cj,bR,gd,bef,Nat.testBit]
 have:=(ah ae (ar _) X (au _) h).1;simpa [aeQ.mem] using this
theorem ze{o1 o2 o3:Bool}(s:aeX)(nm:List UInt8)(n:Z3)(L:List P2)(v:Z3)(A:Bool)(p:V3)(h:agc n L v A p)(I:0<L.length)(R:L.length≤1000)(hc:lL s (zP nm n (kT L) v))(m1:M[pb]? =some (.cells o1 2 (pC s.P)))(G:M[tb]? =some (.cells o2 3 (tC s.T)))(H:M[b]? =some (.cells o3 2 (kC (kT L)))):
  kO prog 39 [.agg [.slice pb 0 s.P.length none,.slice tb 0 s.T.length none],.agg (bw nm n (.slice b 0 L.length none) v),vA p,.str (sgT A)] M (.tuple [vA (GZ n L v A p),.int .i64 0]) M:=by
 have X:=gL m1;have W:=gL G;have V:=gL H;have:=kO.frame (M:=M) (new:=[]) [pb,tb,b] rfl (by simp[X,W,V]) (by rfl) (fun i t Z=>by
  match i with
  |0=>simp[fdM] at Z;subst Z;exact ZO (dA _) m1 (List.take_of_length_le (Nat.le_refl _))
  |1=>simp[fdM] at Z;subst Z;exact ZO (dV _) G (List.take_of_length_le (Nat.le_refl _))
  |2=>simp[fdM] at Z;subst Z;exact rK (o:=o3) H (List.take_of_length_le (by rw[fB];rw[cM];omega))
  |i+3=>simp[fdM] at Z) rfl (wY s nm n L v A p h I R hc)
 simpa [bw,vA,AV.ae3,AV.ren,dL] using this
theorem MZ{p q:V3}(I:∃a b,m=.agg [a,b]∧a.aeS=true∧b.aeS=true)(H:ev.length=32)(G:∀x∈ev,x.aeS=true)(A:Bool)(h:∀Z,kO prog 39 [m,.agg ev,vA p,.str (sgT A)] (M++Z) (.tuple [vA q,.int .i64 0]) (M++Z)):
  kO prog (if A then 20 else 21) [m,.agg ev,vA p] M (.tuple [vA q,.int .i64 0]) M:=by
 obtain⟨a,b,rfl,S,O⟩:=I;have K:(∀x:AV,x∈ev→x.aeS=true)=True:=eq_true G;have t32:List.take 32 ev=ev:=List.take_of_length_le (by omega);have X:∀s,(AV.str s).aeS=true:=fun _=>rfl
 have W:HS prog (bT 39 [.agg [a,b],.agg ev,vA p,.str (sgT A)] (.tuple [vA q,.int .i64 0]) (fun N=>∃Z,N=M++Z)):=cf fun N ⟨Z,hZ⟩=>by subst hZ;exact h Z
 clear h;cases A with
 |true=>
  have V:aK prog 20=some f20:=by kernel_rfl
  have h:aa (aN prog) (fun _=>[]) (aK prog) (bT 39 [.agg [a,b],.agg ev,vA p,.str (sgT true)] (.tuple [vA q,.int .i64 0]) (fun N=>∃Z,N=M++Z)) 1 20 [.agg [a,b],.agg ev,vA p] M=some ⟨.tuple [vA q,.int .i64 0],none,[]⟩:=by clear W;simp[-AV.aeS,X,aa,V,f20,bT,vA,sgT,H,t32]
  have:=(ah ae (ar _) W (au _) h).1;simpa [aeQ.mem] using this
 |false=>
  have V:aK prog 21=some f21:=by kernel_rfl
  have h:aa (aN prog) (fun _=>[]) (aK prog) (bT 39 [.agg [a,b],.agg ev,vA p,.str (sgT false)] (.tuple [vA q,.int .i64 0]) (fun N=>∃Z,N=M++Z)) 1 21 [.agg [a,b],.agg ev,vA p] M=some ⟨.tuple [vA q,.int .i64 0],none,[]⟩:=by clear W;simp[-AV.aeS,X,aa,V,f21,bT,vA,sgT,H,t32]
  have:=(ah ae (ar _) W (au _) h).1;simpa [aeQ.mem] using this
theorem UO{d:Nat}(h:0<d):(d:Rat)≠0:=fun e=>by rw[Rat.natCast_eq_zero_iff] at e;omega
theorem UK{n:Int}{d:Nat}(h:0<d):mkRat n d*(d:Rat)=(n:Rat):=by rw[Rat.mkRat_eq_div];exact Rat.div_mul_cancel (UO h)
theorem CS{n:Int}{d V:Nat}(h:0<d)(A:n.natAbs≤V*d):Sm d V (mkRat n d):=by
 have e:=UK (n:=n) h;have X:(0:Rat)<(d:Rat):=by exact_mod_cast h
 have W:(n:Rat)≤(V:Rat)*(d:Rat):=by
  have:n≤((V*d:Nat):Int):=by omega
  have:=Rat.intCast_le_intCast.2 this
  rwa [Rat.intCast_natCast,iX] at this
 have S: -((V:Rat)*(d:Rat))≤(n:Rat):=by
  have: -((V*d:Nat):Int)≤n:=by omega
  have:=Rat.intCast_le_intCast.2 this
  rwa [Rat.intCast_neg,Rat.intCast_natCast,iX] at this
 rw[←e] at W S;refine⟨h,⟨n,e⟩,?_,?_⟩
 ·exact Rat.not_lt.1 fun Z=>by
   have:=Rat.mul_lt_mul_of_pos_right Z X
   grind
 ·exact Rat.not_lt.1 fun Z=>by
   have:=Rat.mul_lt_mul_of_pos_right Z X
   grind
theorem Pn{n:Z3}{k:Nat}(h:fq k n):vSm 1 k (zV n):=⟨.int h.1,.int h.2.1,.int h.2.2⟩
theorem XG(A:Bool):Sm 1 1 (sgB A):=by
 unfold sgB;cases A
 ·exact Sm.int (n:=1) (by decide)
 ·exact Sm.int (n:= -1) (by decide)
def knS(L:List P2):Prop:=(∀q∈L,Sm 1 8 q.1∧Sm 2 2 q.2)∧∀(i:Nat) a b,L[i]? =some a→L[i+1]? =some b→b.1=a.1+2
theorem OP{d:ae6}{c:Nat}{q:P2}(h:(bQ d c)[i]? =some q):q=uI d i∧i<c:=by unfold bQ at h;rw[List.getElem?_map,Option.map_eq_some_iff] at h;obtain⟨j,X,W⟩:=h;obtain⟨h3,Z⟩:=List.getElem?_eq_some_iff.1 X;simp at Z h3;exact⟨by rw[←W,Z],h3⟩
theorem re(d:ae6)(c:Nat)(hc:c≤3):knS (bQ d c):=by
 refine⟨fun q hq=>?_,fun i a b Z X=>?_⟩
 ·obtain⟨i,W⟩:=List.getElem?_of_mem hq
  obtain⟨rfl,O⟩:=OP W;have t: -3<d.N.tmod 3∧d.N.tmod 3<3:=nT d.N 3 (by decide);have J:Mf d.K i%4<4:=Nat.mod_lt _ (by decide);have S:d.K.2.2.2%2=0∨d.K.2.2.2%2=1:=by omega
  refine⟨.int (by omega),?_⟩;unfold uI;simp only;rcases S with h | h<;>rw[h]
  ·exact(CS (V:=2) (by decide) (by omega)).to (by decide) (by decide) (Nat.le_refl 2)
  ·exact CS (by decide) (by omega)
 ·obtain⟨rfl,F⟩:=OP Z
  obtain⟨rfl,D⟩:=OP X;unfold uI;simp only;have:(d.N.tmod 3+2*((i+1:Nat):Int):Int)=(d.N.tmod 3+2*(i:Int))+2:=by omega
  rw[this,Rat.intCast_add];rfl
theorem OO:∀{L:List P2},knS L→asc L
 | [],_=>trivial
 | [_],_=>trivial
 |a::b::l,h=>⟨by have:=h.2 0 a b rfl rfl;grind,OO ⟨fun q hq=>h.1 q (List.mem_cons_of_mem _ hq),fun i x y Z X=>h.2 (i+1) x y (by simpa using Z) (by simpa using X)⟩⟩
section
variable {L:List P2}{D:Nat}{u:Rat}
theorem YS:aeZ (2:Rat):=⟨by decide,by decide⟩
theorem Yc(x:Rat):x / 2=x*(1 / ((2:Nat):Rat)):=by rw[show((2:Nat):Rat)=2 from rfl,Rat.div_def,Rat.div_def,Rat.one_mul]
theorem ES{D V:Nat}{x:Rat}(h:Sm D V x):Sm (D*2) V (x / 2):=by
 rw[Yc];have:=h.mul (Sm.inv (N:=2) (by decide))
 rwa [Nat.mul_one] at this
theorem PM(h:knS L):OG L:=fun q hq=>⟨(h.1 q hq).1.aeZ,(h.1 q hq).2.aeZ⟩
theorem OQ(h:knS L)(hu:Sm D 4800 u)(A:D≤500):YJ L u:=by
 have d0:=hu.1;refine⟨PM h,hu.aeZ,OO h,fun i a b Z X _ _=>?_⟩;obtain⟨O,K⟩:=h.1 a (List.mem_of_getElem? Z);obtain⟨C,J⟩:=h.1 b (List.mem_of_getElem? X);have e:b.1-a.1=2:=by have:=h.2 i a b Z X;grind
 have W:Sm D 4808 (u-a.1):=hu.sub (O.to (Nat.one_dvd _) d0 (Nat.le_refl 8));have V:=(ES W);have S:Sm 2 4 (b.2-a.2):=J.sub K;have F:=V.mul S;unfold Zh;rw[e];exact⟨⟨W.aeZ,YS,by decide⟩,V.aeZ,S.aeZ,F.aeZ⟩
theorem RE{a b k V:Rat}(A:0≤k)(G:k≤1)(H: -V≤a∧a≤V)(I: -V≤b∧b≤V): -V≤a+k*(b-a)∧a+k*(b-a)≤V:=by have Z:=Rat.mul_nonneg A (show 0≤V-b by grind);have X:=Rat.mul_nonneg A (show 0≤V+b by grind);have h3:=Rat.mul_nonneg (show 0≤1-k by grind) (show 0≤V-a by grind);have W:=Rat.mul_nonneg (show 0≤1-k by grind) (show 0≤V+a by grind);constructor<;>grind
theorem UD(h:knS L)(A:0<L.length)(hu:Sm D 4800 u):Sm (4*D) 2 (ej L u):=by
 have d0:=hu.1;have Z:=OO h;have B:=gl L u;have up:∀q∈L,Sm (4*D) 2 q.2:=fun q hq=>(h.1 q hq).2.to ⟨2*D,by omega⟩ (by omega) (Nat.le_refl 2)
 by_cases G:bc L u=0
 ·cases L with
  |nil=>simp at A
  |cons a l=>
   rw[yT Z (Rat.not_le.1 fun hq=>by have:=(ga Z 0 a rfl).1 hq;omega)];exact up a (by simp)
 obtain⟨m,hm⟩:∃m,bc L u=m+1:=⟨bc L u-1,by omega⟩
 obtain⟨a,X⟩:∃q,L[m]? =some q:=⟨L[m],List.getElem?_eq_getElem (by omega)⟩
 have V:=(ga (u:=u) Z m a X).2 (by omega);by_cases z:L.length=m+1
 ·rw[EZ Z z X V]
  exact up a (List.mem_of_getElem? X)
 obtain⟨b,W⟩:∃q,L[m+1]? =some q:=⟨L[m+1],List.getElem?_eq_getElem (by omega)⟩
 have O:u<b.1:=Rat.not_le.1 fun hq=>by have:=(ga (u:=u) Z (m+1) b W).1 hq;omega
 rw[xS Z m a b X W V O];obtain⟨j,S⟩:=h.1 a (List.mem_of_getElem? X);obtain⟨b1,K⟩:=h.1 b (List.mem_of_getElem? W);have e0:=h.2 m a b X W;have e:b.1-a.1=2:=by grind
 rw[e];have Y:Sm D 4808 (u-a.1):=hu.sub (j.to (Nat.one_dvd _) d0 (Nat.le_refl 8));have R:Sm 2 4 (b.2-a.2):=K.sub S;have I:=(ES Y).mul R;have C:=(S.to (E:=D*2*2) ⟨D*2,by omega⟩ (by omega) (Nat.le_refl 2)).add I;have J:0≤(u-a.1) / 2:=by
  have H:(u-a.1) / 2*2=u-a.1:=Rat.div_mul_cancel (by decide)
  grind
 have F:(u-a.1) / 2≤1:=by
  have H:(u-a.1) / 2*2=u-a.1:=Rat.div_mul_cancel (by decide)
  grind
 have W:=RE J F ⟨S.2.2.1,S.2.2.2⟩ ⟨K.2.2.1,K.2.2.2⟩;rw[show 4*D=D*2*2 by omega];exact⟨C.1,C.2.1,W⟩
theorem WR(h:knS L):ZI L∧∀n,n≤L.length→Sm 4 40 (lH L n).1∧Sm 4 4 (lH L n).2:=by
 have S:Sm 4 4 0:=(Sm.int (V:=4) (n:=0) (by decide)).to (by decide) (by decide) (Nat.le_refl 4);have up:∀q∈L,Sm 4 40 q.2:=fun q hq=>(h.1 q hq).2.to (by decide) (by decide) (by decide)
 refine⟨⟨PM h,fun i a b J F=>?_⟩,fun n I=>?_⟩
 ·obtain⟨O,W⟩:=h.1 a (List.mem_of_getElem? J)
  obtain⟨z,K⟩:=h.1 b (List.mem_of_getElem? F);have e:b.1-a.1=2:=by have:=h.2 i a b J F;grind
  have Z:Sm 2 4 (b.2-a.2):=K.sub W;unfold Y7;rw[e];exact⟨⟨by decide,Z.aeZ,YS⟩,(ES Z).aeZ,((ES Z).mul O).aeZ⟩
 ·unfold lH
  split
  ·exact⟨(Sm.int (V:=40) (n:=0) (by decide)).to (by decide) (by decide) (Nat.le_refl 40),S⟩
  rename_i j;have Y:0<L.length:=List.length_pos_iff.2 j;split
  ·exact⟨by rw[show L.getD 0 (0,0)=L[0] by simp[List.getD,Y]];exact up _ (List.getElem_mem _),S⟩
  rename_i H;have C:n-1<L.length:=by omega
  have B:L.getD (n-1) (0,0)=L[n-1]:=by simp[List.getD,C]
  split
  ·exact⟨by rw[B];exact up _ (List.getElem_mem _),S⟩
  rename_i G;have X:n<L.length:=by omega
  have R:L.getD n (0,0)=L[n]:=by simp[List.getD,X]
  rw[B,R];obtain⟨O,W⟩:=h.1 L[n-1] (List.getElem_mem _);obtain⟨z,K⟩:=h.1 L[n] (List.getElem_mem _);have A:=h.2 (n-1) L[n-1] L[n] (List.getElem?_eq_getElem C) (by rw[show n-1+1=n by omega];exact List.getElem?_eq_getElem X);have e:L[n].1-L[n-1].1=2:=by grind
  have Z:Sm 2 4 (L[n].2-L[n-1].2):=K.sub W;unfold CM;rw[e];exact⟨((W.to (E:=4) (by decide) (by decide) (Nat.le_refl 2)).sub ((ES Z).mul O)).mono (by decide),(ES Z)⟩
theorem Yf(h:knS L)(hu:Sm D 4800 u)(A:D≤500):Vt L u:=by obtain⟨X,W⟩:=WR h;obtain⟨h3,Z⟩:=W (bc L u) (gl L u);exact⟨⟨X,hu.aeZ⟩,⟨h3.aeZ,Z.aeZ⟩,(Z.mul hu).aeZ⟩
end
section
variable {D V:Nat}{p:V3}{n v:Z3}{o:Int}{L:List P2}
theorem tq(A:fq 2 n)(G:vSm D 800 p):Sm D 4800 (da (zV n) p):=by
 have:=(Pn A).dot G
 rwa [Nat.one_mul] at this
theorem mH(A:fq 2 n)(G:vSm D 800 p)(H:D≤500):afg (zV n) p:=
 (Pn A).afg G (by decide) (by decide) (by omega) (by omega) (by omega) (by omega)
theorem Qa{k:Rat}{E:Nat}(A:fq 8 v)(G:Sm E 2 k):vSm E 16 (jR (zV v) k):=by
 have:=(Pn A).scl G
 rwa [Nat.one_mul] at this
theorem GN(A:Bool)(H:fq 2 n)(ho:o.natAbs≤4)(I:fq 8 v)(G:vSm D V p)(hD:D≤500)(hV:V≤800):
  agz n o v A p∧agC n o v A p∧vSm D (2*V+20) (yC n o v A p):=by
 have d0:=G.1.1;have X:=G.mono hV;have C:vF p:=X.vF;have B:vF (zV v):=(Pn I).vF;have z:=(XG A).mono (W:=2) (by decide);have u:aeZ (sgB A):=z.aeZ;have j:=Qa I z;have S:vSm D 16 (jR (zV v) (sgB A)):=j.to (Nat.one_dvd _) d0 (Nat.le_refl _);have Z:=G.add S;have Y:aeZ (o:Rat):=(Sm.int (V:=4) ho).aeZ;have R:aeZ (da (zV n) p):=(tq H X).aeZ;have hd:=mH H X hD;have O:=Z.mono (W:=816) (by omega);have sc:=j.vF;refine⟨⟨hd,R,Y,⟨B,u⟩,C,sc⟩,⟨X.vC,hd,R,Y,⟨⟨C,B,u⟩,?_⟩,O.vC⟩,?_⟩
 ·obtain⟨K,J,F⟩:=sc
  simp only[jR] at K J F;rw[Rat.mul_comm] at K J F;exact⟨K,J,F⟩
 ·unfold yC
  split
  ·exact Z.mono (by omega)
  ·exact G.mono (by omega)
theorem OI(A:Bool)(R:fq 2 n)(G:knS L)(hl:0<L.length)(Y:fq 8 v)(H:vSm D V p)(I:D≤500)(hV:V≤800):
  agB n L v A p∧agc n L v A p∧vSm (4*D) (2*V+20) (GZ n L v A p):=by
 have d0:=H.1.1;have S:=H.mono hV;have B:vF p:=S.vF;have z:vF (zV v):=(Pn Y).vF;have u:=XG A;have j:aeZ (sgB A):=u.aeZ;have hu:=tq R S;have w:=UD G hl hu;have O:=u.mul w;rw[Nat.one_mul,Nat.one_mul] at O;have sh:=Qa Y O;have Z:=(H.to (E:=4*D) ⟨4,by omega⟩ (by omega) (Nat.le_refl _)).add sh;have fd:aeZ (da (zV n) p):=hu.aeZ;have hd:=mH R S I;have K:=Z.mono (W:=816) (by omega);have sc:=sh.vF;have X:=O.aeZ;have fw:=w.aeZ;refine⟨⟨hd,fd,OQ G hu I,fw,j,⟨z,X⟩,B,sc⟩,⟨S.vC,hd,Yf G hu I,fw,j,⟨⟨B,z,X⟩,?_⟩,K.vC⟩,?_⟩
 ·obtain⟨J,F,C⟩:=sc
  simp only[jR] at J F C;rw[Rat.mul_comm] at J F C;exact⟨J,F,C⟩
 ·unfold GZ
  exact Z.mono (by omega)
end
end Go.Proofs
namespace Go.Proofs
open Go.Eng
open Tryz
theorem Ve(t:I4):((yQ t:Nat):Rat)=(t.1:Rat)*t.1+(t.2.1:Rat)*t.2.1+(t.2.2.1:Rat)*t.2.2.1+(t.2.2.2:Rat)*t.2.2.2:=by
 have Z:∀x:Int,0≤x*x:=fun x=>by
  rcases Int.le_total 0 x with h | h
  ·exact Int.mul_nonneg h h
  ·exact Int.mul_nonneg_of_nonpos_of_nonpos h h
 have X:0≤t.1*t.1+t.2.1*t.2.1+t.2.2.1*t.2.2.1+t.2.2.2*t.2.2.2:=by have a:=Z t.1;have b:=Z t.2.1;have c:=Z t.2.2.1;have d:=Z t.2.2.2;omega
 unfold yQ;rw[←Rat.intCast_natCast,Int.toNat_of_nonneg X];simp only[Rat.intCast_add,Rat.intCast_mul]
variable{n:Int}
theorem xH{d:Nat}:mkRat n d=(n:Rat)*(1 / (d:Rat)):=by rw[Rat.mkRat_eq_div,Rat.div_def,Rat.div_def,Rat.one_mul]
theorem Vd(t:I4)(A:Bool):yQ (fK t A)=yQ t:=by
 cases A
 ·rfl
 ·unfold yQ fK
  simp only[if_true,Int.neg_mul_neg]
theorem Xh(t:I4)(A:Bool)(v:V3):DP (lJ t.1 A) (nU t.2.1 t.2.2.1 t.2.2.2) v=po (CF (fK t A)) v:=by
 have X:lJ t.1 A*lJ t.1 A+da (nU t.2.1 t.2.2.1 t.2.2.2) (nU t.2.1 t.2.2.1 t.2.2.2)=((yQ t:Nat):Rat):=by rw[Ve];unfold lJ nU da;cases A<;>simp only[if_true,Bool.false_eq_true,if_false]<;>grind
 unfold DP;rw[X];unfold po CF;rw[Vd];simp only[xH];obtain⟨k,W⟩:=xE (α:=Rat) (1 / ((yQ t:Nat):Rat));rw[←W];clear X W;obtain⟨w,x,y,z⟩:=t;obtain⟨V,S,O⟩:=v;unfold lJ nU da jR j9 VB fK;cases A
 ·simp only[Bool.false_eq_true,if_false,Rat.intCast_add,Rat.intCast_sub,Rat.intCast_mul,Prod.mk.injEq]
  have Z:((2:Int):Rat)=2:=rfl;rw[Z];refine⟨?_,?_,?_⟩<;>grind
 ·simp only[if_true,Rat.intCast_add,Rat.intCast_sub,Rat.intCast_mul,Rat.intCast_neg,Prod.mk.injEq]
  have Z:((2:Int):Rat)=2:=rfl;rw[Z];refine⟨?_,?_,?_⟩<;>grind
theorem PO(t:I4)(c:Z3)(A:Bool)(p:V3):RX t c A p=j9 (po (CF (fK t A)) p) (Pj (zV c) (po (CF (fK t A)) (zV c))):=by unfold RX;rw[Xh];obtain⟨r,Z⟩:=xE (CF (fK t A));obtain⟨s,X⟩:=xE (zV c);rw[←Z,←X];unfold po da j9 jR Pj;simp only[Prod.mk.injEq];refine⟨?_,?_,?_⟩<;>grind
def e01(n:Int):Nat:=if n=0 then 0 else 1
def Zg(t:I4):Bool:=decide (0<yQ t)&&(YK t).all (fun n=>decide ((yQ t:Int)∣5*n))&&(YK t).all (fun n=>decide (n.natAbs≤e01 n*yQ t))&&match (YK t).map e01 with
 | [a,b,c,d,e,f,g,h,i]=>decide (a+b+c≤2)&&decide (d+e+f≤2)&&decide (g+h+i≤2)
 |_=>false
theorem W8:(List.range 6).all (fun i=>Zg (fK (bC i) false)&&Zg (fK (bC i) true))=true:=by decide
theorem Vc{i:Nat}(G:i≤5)(A:Bool):Zg (fK (bC i) A)=true:=by
 have h:=List.all_eq_true.1 W8 i (List.mem_range.2 (by omega));rw[Bool.and_eq_true] at h;cases A
 ·exact h.1
 ·exact h.2
def af5(N:Nat)(r:V3):Prop:=∃a b c,Sm N a r.1∧Sm N b r.2.1∧Sm N c r.2.2∧a+b+c≤2
variable{N:Nat}
theorem af5.sm{r:V3}(h:af5 N r):vSm N 2 r:=by obtain⟨a,b,c,Z,X,h3,W⟩:=h;exact⟨Z.mono (by omega),X.mono (by omega),h3.mono (by omega)⟩
theorem af5.dot{D V:Nat}{r p:V3}(h:af5 N r)(A:vSm D V p):Sm (N*D) (2*V) (da r p):=by obtain⟨a,b,c,Z,X,h3,W⟩:=h;have:=((Z.mul A.1).add (X.mul A.2.1)).add (h3.mul A.2.2);rw[←Nat.add_mul,←Nat.add_mul] at this;exact this.mono (Nat.mul_le_mul_right V W)
theorem mk5{d:Nat}(h0:0<d)(h:(d:Int)∣5*n){V:Nat}(A:n.natAbs≤V*d):Sm 5 V (mkRat n d):=by
 obtain⟨k,X⟩:=h;have e:mkRat n d=mkRat k 5:=(Rat.mkRat_eq_iff (by omega) (by decide)).2 (by rw[Int.mul_comm n,Int.mul_comm k];exact X);rw[e];refine CS (by decide) ?_;have Z:(5*n).natAbs=d*k.natAbs:=by rw[X,Int.natAbs_mul,Int.natAbs_natCast]
 rw[Int.natAbs_mul] at Z;have W:(5:Int).natAbs=5:=rfl;rw[W] at Z;have:d*k.natAbs≤d*(V*5):=by rw[←Z,Nat.mul_comm 5,←Nat.mul_assoc,Nat.mul_comm d V];exact Nat.mul_le_mul_right 5 A
 exact Nat.le_of_mul_le_mul_left this h0
theorem Zf{i:Nat}(G:i≤5)(A:Bool):∃N,0<N∧N∣5∧af5 N (CF (fK (bC i) A)).1∧af5 N (CF (fK (bC i) A)).2.1∧af5 N (CF (fK (bC i) A)).2.2:=by have h:=Vc G A;obtain⟨t,X⟩:=xE (fK (bC i) A);rw[←X] at h ⊢;unfold Zg at h;simp only[YK,List.map_cons,List.map_nil,List.all_cons,List.all_nil,Bool.and_true,Bool.and_eq_true,decide_eq_true_eq] at h;obtain⟨⟨⟨Z,d1,d2,d3,d4,d5,d6,d7,d8,d9⟩,W,V,h3,S,O,M,K,J,F⟩,⟨D,C⟩,B⟩:=h;exact⟨5,by decide,Nat.dvd_refl 5,⟨_,_,_,mk5 Z d1 W,mk5 Z d2 V,mk5 Z d3 h3,D⟩,⟨_,_,_,mk5 Z d4 S,mk5 Z d5 O,mk5 Z d6 M,C⟩,⟨_,_,_,mk5 Z d7 K,mk5 Z d8 J,mk5 Z d9 F,B⟩⟩
variable{W:Nat}
theorem YG{D V:Nat}{a b:V3}(h:vSm D V a)(k:vSm D W b):vSm D (V+W) (Pj a b):=⟨h.1.sub k.1,h.2.1.sub k.2.1,h.2.2.sub k.2.2⟩
theorem ZF(h:N∣5):N≤5:=Nat.le_of_dvd (by decide) h
theorem R1{E:Nat}{a q:V3}(A:af5 N a)(hq:vSm E W q)(G:N≤5)(H:E*W<10 ^ 9)(I:E<10 ^ 9)(R:N*E*(2*W+2*W)<10 ^ 9)(Y:N*E<10 ^ 9):afg a q:=
 A.sm.afg hq (by omega) (by omega) H I R Y
variable{c:Z3}
theorem EW{D V i:Nat}{p:V3}(H:i≤5)(A:Bool)(hc:fq 2 c)(G:vSm D V p)(I:D≤500)(hV:V≤800):
  af0 (CF (fK (bC i) A)) (zV c)∧aga (CF (fK (bC i) A)) (Pj (zV c) (po (CF (fK (bC i) A)) (zV c))) p∧vSm (5*D) (2*V+20) (RX (bC i) c A p):=by
 obtain⟨N,j,K,r1,r2,M⟩:=Zf H A;have Z:=ZF K;rw[PO];obtain⟨r,hr⟩:=xE (CF (fK (bC i) A));rw[←hr] at r1 r2 M ⊢;have d0:=G.1.1;have F:=G.mono hV;have X:=Pn hc;have B:N*1*(2*2+2*2)<10 ^ 9:=by omega
 have nD:N*D≤2500:=by have:=Nat.mul_le_mul Z I;omega
 have S:N*D*(2*800+2*800)<10 ^ 9:=by omega
 have Y:vSm N 4 (po r (zV c)):=⟨by have:=r1.dot X;rwa [Nat.mul_one] at this,by have:=r2.dot X;rwa [Nat.mul_one] at this,by have:=M.dot X;rwa [Nat.mul_one] at this⟩;have cN:vSm N 2 (zV c):=X.to (Nat.one_dvd _) j (Nat.le_refl 2);have C:=YG cN Y;have R:vSm (N*D) (2*V) (po r p):=⟨r1.dot G,r2.dot G,M.dot G⟩;have z:=C.to (E:=N*D) ⟨D,rfl⟩ (Nat.mul_pos j d0) (Nat.le_refl _);have J:=R.add z;have u:=J.mono (W:=1606) (by omega);have m:=R.mono (W:=1600) (by omega);have O:∀{v:V3},vSm N 2 v→vC v:=fun h=>h.vC
 refine⟨⟨X.vC,⟨R1 r1 X Z (by decide) (by decide) B (by omega),R1 r2 X Z (by decide) (by decide) B (by omega),R1 M X Z (by decide) (by decide) B (by omega)⟩,⟨X.vF,Y.vF⟩,C.vC⟩,
  ⟨⟨O r1.sm,O r2.sm,O M.sm,C.vC⟩,F.vC,⟨R1 r1 F Z (by omega) (by omega) S (by omega),R1 r2 F Z (by omega) (by omega) S (by omega),R1 M F Z (by omega) (by omega) S (by omega)⟩,⟨m.vF,C.vF⟩,u.vC⟩,?_⟩
 obtain⟨k,hk⟩:=K;refine J.to ⟨k,?_⟩ (by omega) (by omega);rw[hk,Nat.mul_assoc,Nat.mul_assoc,Nat.mul_comm k D]
theorem Ai(h:n.natAbs≤3):dU n=true:=by unfold dU;simp;omega
theorem Vp{D V i:Nat}{p:V3}(hi:i≤5)(A:Bool)(hc:fq 2 c)(hp:vSm D V p)(hD:D≤500)(hV:V≤800):agJ (bC i) c A p:=by
 obtain⟨M,F,C,B⟩:=Qd i;have d0:=hp.1.1;have p4:=hp.mono hV;have z:=Pn hc;have cm:vSm 1 2 (jR (zV c) (-1)):=by have:=z.scl (Sm.int (V:=1) (n:= -1) (by decide));simpa using this
 have Z:vSm D 802 (j9 p (jR (zV c) (-1))):=p4.add (cm.to (Nat.one_dvd _) d0 (Nat.le_refl 2));have w:Sm 1 3 (lJ (bC i).1 A):=by
  unfold lJ;cases A
  ·exact Sm.int M
  ·have:=(Sm.int M).neg
   simpa using this
 have u:vSm 1 3 (nU (bC i).2.1 (bC i).2.2.1 (bC i).2.2.2):=⟨.int F,.int C,.int B⟩;have X:lJ (bC i).1 A*lJ (bC i).1 A+da (nU (bC i).2.1 (bC i).2.2.1 (bC i).2.2.2) (nU (bC i).2.1 (bC i).2.2.1 (bC i).2.2.2)=((yQ (bC i):Nat):Rat):=by rw[Ve];unfold lJ nU da;cases A<;>simp only[if_true,Bool.false_eq_true,if_false]<;>grind
 have m:=Vc hi false;unfold Zg at m;simp only[Bool.and_eq_true,decide_eq_true_eq] at m;have j:0<yQ (bC i):=m.1.1.1;have S:yQ (bC i)≤10:=by
  have:∀i<6,yQ (bC i)≤10:=by decide
  exact this i (by omega)
 obtain⟨t,ht⟩:=xE (bC i);rw[←ht] at M F C B w u X j S ⊢;obtain⟨W,hW⟩:=xE (lJ t.1 A);obtain⟨U,hU⟩:=xE (nU t.2.1 t.2.2.1 t.2.2.2);obtain⟨q,hq⟩:=xE (j9 p (jR (zV c) (-1)));rw[←hq] at Z;rw[←hW] at w X;rw[←hU] at u X;have K:=w.mul w;have J:=u.dot u;have Y:=K.sub J;have R:=u.dot Z;have O:Sm 1 2 2:=Sm.int (V:=2) (n:=2) (by decide);have I:=O.mul R;have H:=Z.scl Y;have G:=u.scl I;have cr:=u.crs Z;have s3:=O.mul w;have v3:=cr.scl s3;simp only[Nat.one_mul,Nat.mul_one] at K J Y R I H G cr s3 v3;have v4:=H.add G;have v5:=v4.add v3;have iv:Sm (yQ t) 1 (1 / (W*W+da U U)):=by rw[X];exact Sm.inv j
 have v6:=v5.scl iv;have nz:W*W+da U U≠0:=by rw[X];exact UO j
 have nf:=K.add J;have Dn:D*yQ t≤5000:=by have:=Nat.mul_le_mul hD S;omega
 have tk:agf W U q:=
  ⟨w.aeZ,u.afg u (by decide) (by decide) (by decide) (by decide) (by decide) (by decide),K.aeZ,J.aeZ,⟨Z.vF,Y.aeZ⟩,
   u.afg Z (by decide) (by decide) (by omega) (by omega) (by omega) (by omega),R.aeZ,⟨u.vF,I.aeZ⟩,u.agj Z (by decide) (by decide) (by omega) (by omega) (by omega) (by omega),⟨cr.vF,s3.aeZ⟩,nz,nf.aeZ,
   ⟨H.vF,G.vF⟩,⟨v4.vF,v3.vF⟩,⟨v5.vF,iv.aeZ⟩⟩
 have f6:vF (DP W U q):=by unfold DP;exact v6.vF
 rw[hW,hU,hq] at tk f6;exact⟨Ai M,Ai F,Ai C,Ai B,⟨z.vF,(Sm.int (V:=1) (n:= -1) (by decide)).aeZ⟩,⟨p4.vF,cm.vF⟩,tk,⟨f6,z.vF⟩⟩
noncomputable def EvD.mv:EvD→Bool→V3→V3
 |.fault n o v,b,p=>yC n o v b p
 |.fold n d c v,b,p=>GZ n (bQ d c) v b p
 |.afZ i c,b,p=>RX (bC i) c b p
 |.dep ..,_,p=>p
 |.afW ..,_,p=>p
variable{nm:List UInt8}{o1 o2:Bool}
section
variable {s:aeX}{w:EvD}{D V:Nat}{p:V3}
theorem ZJ(A:w.Ok s)(G:Bool)(H:vSm D V p)(I:D≤500)(R:V≤800):∃E,E≤5*D∧vSm E (2*V+20) (w.mv G p):=by
 have d0:=H.1.1;cases w with
 |dep Z us Ys=>exact⟨D,by omega,H.mono (by omega)⟩
 |afW n o w u=>exact⟨D,by omega,H.mono (by omega)⟩
 |fault n o v=>exact⟨D,by omega,(GN G A.1 A.2.2.1 A.2.2.2.1 H I R).2.2⟩
 |fold n d c v=>exact⟨4*D,by omega,(OI G A.1 (re d c A.2.2.2.1) (by rw[bP];exact A.2.2.1) A.2.2.2.2.1 H I R).2.2⟩
 |afZ i c=>exact⟨5*D,Nat.le_refl _,(EW A.1 G A.2 H I R).2.2⟩
theorem HT{M:Mem}{Y:List AV}(h:afv M Y (w.con nm))(G:w.Ok s)(A:Bool)(H:vSm D V p)(I:D≤500)(R:V≤800):
  kO prog 52 [.agg Y,vA p,.bool A] M (vA (w.mv A p)) M:=by
 obtain⟨b,u,B,m,rfl,S,O,J,X⟩:=h;have C:B.aeS=true:=by obtain⟨_,_,h3,_⟩:=J;exact h3.ck
 cases w with
 |dep Z us Ys=>exact ni _ (.inl rfl) _ _ _ _ S.ck O.ck C X.ck A p M
 |afW n o w u=>exact ni _ (.inr rfl) _ _ _ _ S.ck O.ck C X.ck A p M
 |fault n o v=>
  obtain rfl:=S.afm rfl;obtain rfl:=O.afm rfl;obtain rfl:=J.afm rfl;obtain rfl:=X.afm rfl;exact wZ nm n o v A p (GN A G.1 G.2.2.1 G.2.2.2.1 H I R).1 M
 |afZ i c=>
  obtain rfl:=S.afm rfl;obtain rfl:=O.afm rfl;obtain rfl:=J.afm rfl;obtain rfl:=X.afm rfl;exact zi nm (bC i) c A p (Vp G.1 A G.2 H I R) M
 |fold n d c v=>
  obtain rfl:=S.afm rfl;obtain rfl:=O.afm rfl;obtain rfl:=J.afm rfl;have e:(EvD.con nm (.fold n d c v)).K.length=(bQ d c).length:=cM _;have F:0<(bQ d c).length:=by rw[bP];exact G.2.2.1
  rw[e] at X;obtain⟨b,q,rfl,z⟩:=X.pos F;exact zh nm n (bQ d c) v A p (OI A G.1 (re d c G.2.2.2.1) F G.2.2.2.2.1 H I R).1 F (by rw[bP];have:=G.2.2.2.1;omega) M b q z
theorem HG{M:Mem}{pb tb:Nat}{I:List AV}(h:afv M I (w.con nm))(hc:lL s (w.con nm))(G:w.Ok s)(A:Bool)(H:vSm D V p)(Y:D≤500)(R:V≤800)(m1:M[pb]? =some (.cells o1 2 (pC s.P)))(m2:M[tb]? =some (.cells o2 3 (tC s.T))):
  kO prog 39 [.agg [.slice pb 0 s.P.length none,.slice tb 0 s.T.length none],.agg I,vA p,.str (sgT A)] M (.tuple [vA (w.mv A p),.int .i64 0]) M:=by
 have m:=gL m1;have j:=gL m2;have J:∀Z,kO prog 61 [.agg [.slice pb 0 s.P.length none,.slice tb 0 s.T.length none],.agg I] (M++Z) (.int .i64 0) (M++Z):=fun Z=>
  hc (M++Z) pb tb o1 o2 I (gU m1 _) (gU m2 _) (h.more Z)
 have d0:=H.1.1;have C:vC p:=(H.mono R).vC;obtain⟨b,u,sv,kn,rfl,S,O,F,X⟩:=h;have z:sv.aeS=true:=by obtain⟨_,_,h3,_⟩:=F;exact h3.ck
 cases w with
 |dep Z us Ys=>exact ng _ (.inl rfl) _ _ _ _ S.ck O.ck z X.ck ⟨_,_,rfl,rfl,rfl⟩ A p C J
 |afW n o w u=>exact ng _ (.inr rfl) _ _ _ _ S.ck O.ck z X.ck ⟨_,_,rfl,rfl,rfl⟩ A p C J
 |fault n o v=>
  obtain rfl:=S.afm rfl;obtain rfl:=O.afm rfl;obtain rfl:=F.afm rfl;obtain rfl:=X.afm rfl;exact wW m j nm n o v A p (GN A G.1 G.2.2.1 G.2.2.2.1 H Y R).2.1 J
 |afZ i c=>
  obtain rfl:=S.afm rfl;obtain rfl:=O.afm rfl;obtain rfl:=F.afm rfl;obtain rfl:=X.afm rfl;obtain⟨t1,t2,_⟩:=EW G.1 A G.2 H Y R;have:=zf nm i G.1 c A p C t1 t2 J;rw[←PO] at this;exact this
 |fold n d c v=>
  obtain rfl:=S.afm rfl;obtain rfl:=O.afm rfl;obtain rfl:=F.afm rfl;have e:(EvD.con nm (.fold n d c v)).K.length=(bQ d c).length:=cM _;have B:0<(bQ d c).length:=by rw[bP];exact G.2.2.1
  rw[e] at X;obtain⟨b,q,rfl,hb⟩:=X.pos B;exact ze s nm n (bQ d c) v A p (OI A G.1 (re d c G.2.2.2.1) B G.2.2.2.2.1 H Y R).2.1 B (by rw[bP];have:=G.2.2.2.1;omega) hc m1 m2 hb
theorem HI{M:Mem}{pb tb:Nat}{G:List AV}(h:afv M G (w.con nm))(hc:lL s (w.con nm))(I:w.Ok s)(A:Bool)(R:vSm D V p)(Y:D≤500)(hV:V≤800)(m1:M[pb]? =some (.cells o1 2 (pC s.P)))(H:M[tb]? =some (.cells o2 3 (tC s.T))):
  kO prog (if A then 20 else 21) [.agg [.slice pb 0 s.P.length none,.slice tb 0 s.T.length none],.agg G,vA p] M (.tuple [vA (w.mv A p),.int .i64 0]) M:=by
 have X:=gL m1;have S:=gL H;exact MZ ⟨_,_,rfl,rfl,rfl⟩ h.l32 h.cok A fun Z=>HG (h.more Z) hc I A R Y hV (gU m1 _) (gU H _)
end
end Go.Proofs
