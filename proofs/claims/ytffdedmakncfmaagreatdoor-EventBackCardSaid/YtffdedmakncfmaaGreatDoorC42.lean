/- See C54. -/
import Derived.Test.YtffdedmakncfmaaGreatDoorC37
set_option linter.all false
set_option maxRecDepth 100000
set_option maxHeartbeats 40000000
namespace Go.Proofs
open Go.Eng
open Tryz
theorem Te(a b c:List UInt8)(M:Mem):kO prog 58 [.agg [.str a,.str b,.str c]] M (.agg [.str a,.str b,.str c]) M:=by
 have Z:aS prog 58=some f58:=by kernel_rfl
 refine ao (aw _) ?_ M;simp[aa,Z,f58,bN]
theorem QJ(a b c:List UInt8)(M:Mem):kO prog 99 [.agg [.str a,.str b,.str c]] M (.agg [.str a,.str b,.str c]) M:=by
 have Z:aS prog 99=some f99:=by kernel_rfl
 refine ao (aw _) ?_ M;simp[aa,Z,f99,bN,aF]
noncomputable def mO(f:FuncId)(args:List AV):Option AV:=
 match f,args with
 |58,[.agg [.str a,.str b,.str c]]=>some (.agg [.str a,.str b,.str c])
 |99,[.agg [.str a,.str b,.str c]]=>some (.agg [.str a,.str b,.str c])
 |f,args=>fa f args
theorem ph:qS prog (ag mO):=bF fun f Z v h mem=>by
 unfold mO at h;split at h
 ·cases h;exact Te _ _ _ mem
 ·cases h;exact QJ _ _ _ mem
 ·have:=iW.fn _ _ mem ⟨v,none,[]⟩ (by unfold ag;simp only;rw[h])
  simpa [y9.mem] using this
def afA(r:M3)(s:V3):AV:=.agg (mC r++vL s)
theorem BC(r:M3)(s:V3)(M:Mem):kO prog 56 [afA r s] M (.agg (mC r)) M:=by
 have U:aS prog 56=some f56:=by kernel_rfl
 refine ao ph ?_ M;obtain⟨V,Z⟩:∃V,aG f56=[V]:=⟨_,rfl⟩
 obtain⟨X,S⟩:=cC Z (l:=[0,1,3,7,0,16,48,127,0,256,768,2047,4095,8191]) (j:=13) (by kernel_rfl) (by decide);simp[aG,bQ,f56] at Z;subst Z;simp[aa,U,f56,ag,mO,afA,mC,vL,bN,-aH,ak X,be,aV,aX,S,Nat.testBit]
def apM(r:M3)(v:V3):Mem:=[.cells true 0 (mC r),.cells true 0 (vL v),.cells true 0 [.str [],.str [],.str []],.cells true 0 [.str [],.str [],.str []]]
theorem re(r:M3)(v:V3)(h:mOk r v)(i:Nat)(y:i<3):kO prog 102 [.int .i64 i,.ptr 0 0,.ptr 1 0] (apM r v) (.str (ax (fI (if i=0 then r.1 else if i=1 then r.2.1 else r.2.2) v))) (apM r v):=by
 have U:aS prog 102=some f102:=by kernel_rfl
 obtain⟨Z,X,h3⟩:=h;obtain⟨r1,r2,V⟩:=r;simp only at Z X h3;have S:i=0∨i=1∨i=2:=by omega
 have h:aa (bh prog) (fun _=>[]) (aS prog) (ag fa) 1 102 [.int .i64 i,.ptr 0 0,.ptr 1 0] (apM (r1,r2,V) v)=some ⟨.str (ax (fI (if i=0 then r1 else if i=1 then r2 else V) v)),none,[]⟩:=by rcases S with rfl | rfl | rfl<;>simp[aa,U,f102,ag,fa,apM,mC,vL,Vi,Z,X,h3,Nat.testBit]
 have:=(ar aj (aK _) iW (aR _) h).1;simpa [y9.mem] using this
theorem Nf(r:M3)(v:V3)(h:mOk r v):
  kO prog 101 [.func 102 [.ptr 0 0,.ptr 1 0]] [.cells true 0 (mC r),.cells true 0 (vL v),.cells true 0 [.str [],.str [],.str []]] (vA (mi r v)) [.cells true 0 (mC r),.cells true 0 (vL v),.cells true 0 [.str [],.str [],.str []]]:=by
 have S:aS prog 101=some f101:=by kernel_rfl
 obtain⟨L,V⟩:∃L:List (FuncId×List AV×Mem×y9),L=[(102,[.int .i64 (0:Nat),.ptr 0 0,.ptr 1 0],apM r v,⟨.str (ax (fI r.1 v)),none,[]⟩),
  (102,[.int .i64 (1:Nat),.ptr 0 0,.ptr 1 0],apM r v,⟨.str (ax (fI r.2.1 v)),none,[]⟩),
  (102,[.int .i64 (2:Nat),.ptr 0 0,.ptr 1 0],apM r v,⟨.str (ax (fI r.2.2 v)),none,[]⟩)]:=⟨_,rfl⟩
 have U:qS prog (jt L):=iO fun x Z=>by
  rw[V] at Z;simp only[lM] at Z;rcases Z with rfl | rfl | rfl
  ·exact⟨by simpa [y9.mem] using re r v h 0 (by decide),fun p X=>by cases X⟩
  ·exact⟨by simpa [y9.mem] using re r v h 1 (by decide),fun p X=>by cases X⟩
  ·exact⟨by simpa [y9.mem] using re r v h 2 (by decide),fun p X=>by cases X⟩
 refine er U ?_;clear U;subst V;unfold mi;obtain⟨x,Z⟩:=xE (fI r.1 v);obtain⟨y,R⟩:=xE (fI r.2.1 v);obtain⟨z,Q⟩:=xE (fI r.2.2 v);rw[←Z,←R,←Q];simp[aa,S,f101,jt,apM,vA,vL,mC,bN]
theorem Ie(r:M3)(v:V3)(h:mOk r v)(M:Mem):kO prog 57 [.agg (mC r),vA v] M (vA (mi r v)) M:=by
 have U:aS prog 57=some f57:=by kernel_rfl
 obtain⟨L,Z⟩:=xE (α:=List (FuncId×List AV×Mem×y9)) [(101,[.func 102 [.ptr 0 0,.ptr 1 0]],[.cells true 0 (mC r),.cells true 0 (vL v),.cells true 0 [.str [],.str [],.str []]],⟨vA (mi r v),none,[]⟩)];have X:qS prog (jt L):=iO fun x V=>by rw[Z,List.mem_singleton] at V;subst V;exact⟨by simpa [y9.mem] using Nf r v h,fun p S=>by cases S⟩
 refine cK X (lv:=fun _=>[]) (K:=1) rfl (by rfl) ?_ M;clear X;subst Z;obtain⟨w,R⟩:=xE (mi r v);rw[←R];simp[aa,U,f57,jt,vA,vL,mC]
def adM(u v:V3):Mem:=[.cells true 0 (vL u),.cells true 0 (vL v),.cells true 0 [.str [],.str [],.str []],.cells true 0 [.str [],.str [],.str []]]
theorem xZ(u v:V3)(y:vF u)(H:vF v)(i:Nat)(I:i<3):kO prog 104 [.int .i64 i,.ptr 0 0,.ptr 1 0] (adM u v) (.str (ax (if i=0 then u.1+v.1 else if i=1 then u.2.1+v.2.1 else u.2.2+v.2.2))) (adM u v):=by
 have Z:aS prog 104=some f104:=by kernel_rfl
 obtain⟨⟨X,V⟩,⟨U,S⟩,R,Q⟩:=y;obtain⟨⟨O,N⟩,⟨M,L⟩,K,G⟩:=H;have F:i=0∨i=1∨i=2:=by omega
 refine er cP ?_;rcases F with rfl | rfl | rfl<;>simp[aa,Z,f104,ag,bn,bw,ay,adM,vL,X,V,U,S,R,Q,O,N,M,L,K,G,Nat.testBit]
theorem Ng(u v:V3)(H:vF u)(I:vF v):
  kO prog 101 [.func 104 [.ptr 0 0,.ptr 1 0]] [.cells true 0 (vL u),.cells true 0 (vL v),.cells true 0 [.str [],.str [],.str []]] (vA (iU u v)) [.cells true 0 (vL u),.cells true 0 (vL v),.cells true 0 [.str [],.str [],.str []]]:=by
 have S:aS prog 101=some f101:=by kernel_rfl
 obtain⟨L,V⟩:∃L:List (FuncId×List AV×Mem×y9),L=[(104,[.int .i64 (0:Nat),.ptr 0 0,.ptr 1 0],adM u v,⟨.str (ax (u.1+v.1)),none,[]⟩),
  (104,[.int .i64 (1:Nat),.ptr 0 0,.ptr 1 0],adM u v,⟨.str (ax (u.2.1+v.2.1)),none,[]⟩),
  (104,[.int .i64 (2:Nat),.ptr 0 0,.ptr 1 0],adM u v,⟨.str (ax (u.2.2+v.2.2)),none,[]⟩)]:=⟨_,rfl⟩
 have U:qS prog (jt L):=iO fun x Z=>by
  rw[V] at Z;simp only[lM] at Z;rcases Z with rfl | rfl | rfl
  ·exact⟨by simpa [y9.mem] using xZ u v H I 0 (by decide),fun p X=>by cases X⟩
  ·exact⟨by simpa [y9.mem] using xZ u v H I 1 (by decide),fun p X=>by cases X⟩
  ·exact⟨by simpa [y9.mem] using xZ u v H I 2 (by decide),fun p X=>by cases X⟩
 refine er U ?_;clear U;subst V;unfold iU;obtain⟨x,Z⟩:=xE (u.1+v.1);obtain⟨y,R⟩:=xE (u.2.1+v.2.1);obtain⟨z,Q⟩:=xE (u.2.2+v.2.2);rw[←Z,←R,←Q];simp[aa,S,f101,jt,adM,vA,vL,bN]
theorem Rq(u v:V3)(y:vF u)(H:vF v)(M:Mem):kO prog 59 [vA u,vA v] M (vA (iU u v)) M:=by
 have U:aS prog 59=some f59:=by kernel_rfl
 obtain⟨L,Z⟩:=xE (α:=List (FuncId×List AV×Mem×y9)) [(101,[.func 104 [.ptr 0 0,.ptr 1 0]],[.cells true 0 (vL u),.cells true 0 (vL v),.cells true 0 [.str [],.str [],.str []]],⟨vA (iU u v),none,[]⟩)];have X:qS prog (jt L):=iO fun x V=>by rw[Z,List.mem_singleton] at V;subst V;exact⟨by simpa [y9.mem] using Ng u v y H,fun p S=>by cases S⟩
 refine ao X ?_ M;clear X;subst Z;obtain⟨w,R⟩:=xE (iU u v);rw[←R];simp[aa,U,f59,jt,vA,vL]
variable{v:V3}
theorem H3(h:vC v)(M:Mem):kO prog 55 [vA v] M (.tuple [vA v,.int .i64 0]) M:=by
 have Z:aS prog 55=some f55:=by kernel_rfl
 refine ao ph ?_ M;obtain⟨X,V,h3,U⟩:=h;simp[aa,Z,f55,ag,mO,fa,vA,X,V,h3,U]
theorem Ic(h:vC v)(M:Mem):kO prog 148 [vA v] M (.bool false) M:=by
 have Z:aS prog 148=some f148:=by kernel_rfl
 refine ao iW ?_ M;obtain⟨X,V,h3,U⟩:=h;simp[aa,Z,f148,ag,fa,vA,X,V,h3,U]
open Classical in
noncomputable def Ba(f:FuncId)(args:List AV):Option AV:=
 match f,args with
 |148,[.agg [.str a,.str b,.str c]]=>match v3P a b c with
  |some v=>if vC v then some (.bool false) else none
  |none=>none
 |_,_=>none
theorem BZ:qS prog (ag Ba):=bF fun f Z v h mem=>by
 unfold Ba at h;split at h
 ·split at h
  ·rename_i v X
   split at h
   ·rename_i V
    cases h;obtain⟨rfl,rfl,rfl⟩:=jL X;exact Ic V mem
   ·cases h
  ·cases h
 ·cases h
variable{a:V3}
theorem Nj(y:vC a):kO prog 215 [.slice 0 0 1 none,.func 148 []] [.cells false 3 (vL a)] (.int .i64 (-1)) [.cells false 3 (vL a)]:=by
 have Z:aS prog 215=some f215:=by kernel_rfl
 refine cE (lv:=(fun _=>[8])) (K:=6) BZ ?_;simp[aa,Z,f215,ag,Ba,vL,Vi,y,aT,ga,w1]
theorem Nk{b c d:V3}(y:vC a)(H:vC b)(hc:vC c)(hd:vC d):kO prog 215 [.slice 0 0 4 none,.func 148 []] [.cells false 3 (vL a++(vL b++(vL c++vL d)))] (.int .i64 (-1)) [.cells false 3 (vL a++(vL b++(vL c++vL d)))]:=by
 have Z:aS prog 215=some f215:=by kernel_rfl
 refine cE (lv:=(fun _=>[8])) (K:=6) BZ ?_;simp[aa,Z,f215,ag,Ba,vL,Vi,y,H,hc,hd,aT,ga,w1,w2,w3,w4]
theorem H4{M:Mem}{b n:Nat}{o:Bool}{C:List AV}(y:AV.afT C=true)(H:M[b]? =some (.cells o 3 C))(h:kO prog 215 [.slice 0 0 n none,.func 148 []] [.cells false 3 C] (.int .i64 (-1)) [.cells false 3 C]):
  kO prog 95 [.slice b 0 n none] M (.int .i64 0) M:=by
 have S:=ag5 (rest:=[.func 148 []]) y rfl rfl H (List.take_of_length_le (Nat.le_refl _)) h;have X:aS prog 147=some f147:=by kernel_rfl
 have Z:qS prog (gH 215 [.slice b 0 n none,.func 148 []] (.int .i64 (-1)) (fun N=>N=M)):=iM fun N V=>by subst V;exact S
 have R:aa (bh prog) (fun _=>[]) (aS prog) (gH 215 [.slice b 0 n none,.func 148 []] (.int .i64 (-1)) (fun N=>N=M)) 1 147 [.slice b 0 n none,.func 148 []] M=some ⟨.bool false,none,[]⟩:=by clear Z;simp[aa,X,f147,gH]
 have h3:=(ar aj (aK _) Z (aR _) R).1;rw[show y9.mem ⟨.bool false,none,[]⟩ M=M by simp[y9.mem]] at h3;have Q:aS prog 95=some f95:=by kernel_rfl
 have U:qS prog (gH 147 [.slice b 0 n none,.func 148 []] (.bool false) (fun N=>N=M)):=iM fun N V=>by subst V;exact h3
 refine er U ?_;clear U;simp[aa,Q,f95,gH]
def afC(r:M3)(s:V3):Prop:=vC r.1∧vC r.2.1∧vC r.2.2∧vC s
variable{r:M3}{s:V3}
theorem jg(h:afC r s)(M:Mem):kO prog 49 [afA r s] M (.int .i64 0) M:=by
 have U:aS prog 49=some f49:=by kernel_rfl
 obtain⟨S,R,h3,Q⟩:=h;obtain⟨L,Z⟩:=xE (α:=List (FuncId×List AV×Mem×y9)) [(95,[.slice 1 0 4 none],[.cells true 0 (mC r++vL s),.cells true 3 (mC r++vL s)],⟨.int .i64 0,none,[]⟩)];have X:qS prog (jt L):=iO fun x V=>by rw[Z,List.mem_singleton] at V;subst V;exact⟨by simpa [y9.mem] using H4 (M:=[.cells true 0 (mC r++vL s),.cells true 3 (mC r++vL s)]) (b:=1) (C:=vL r.1++(vL r.2.1++(vL r.2.2++vL s))) rfl rfl (Nk S R h3 Q),fun p O=>by cases O⟩
 refine ao X ?_ M;clear X;subst Z;simp[aa,U,f49,jt,afA,mC,vL]
variable{p:V3}
theorem Ae(h:afC r s)(y:vC p)(M:Mem):kO prog 54 [afA r s,vA p] M (.int .i64 0) M:=by
 have U:aS prog 54=some f54:=by kernel_rfl
 obtain⟨L,X⟩:=xE (α:=List (FuncId×List AV×Mem×y9)) [(49,[afA r s],[.cells true 0 (mC r++vL s),.cells true 0 (vL p)],⟨.int .i64 0,none,[]⟩),(95,[.slice 2 0 1 none],[.cells true 0 (mC r++vL s),.cells true 0 (vL p),.cells true 3 (vL p)],⟨.int .i64 0,none,[]⟩)];have V:qS prog (jt L):=iO fun x Z=>by
  rw[X] at Z;simp only[lM] at Z;rcases Z with rfl | rfl
  ·exact⟨by simpa [y9.mem] using jg h _,fun p y=>by cases y⟩
  ·exact⟨by simpa [y9.mem] using H4 (M:=[.cells true 0 (mC r++vL s),.cells true 0 (vL p),.cells true 3 (vL p)]) (b:=2) (C:=vL p) rfl rfl (Nj y),fun p y=>by cases y⟩
 refine ao V ?_ M;clear V;subst X;simp[aa,U,f54,jt,afA,mC,vL,vA]
structure ahm (r:M3)(s p:V3):Prop where
 ck:afC r s
 pk:vC p
 mm:mOk r p
 fk:vF (mi r p)∧vF s
 rk:vC (iU (mi r p) s)
theorem H0(h:ahm r s p)(M:Mem):kO prog 17 [afA r s,vA p] M (.tuple [vA (iU (mi r p) s),.int .i64 0]) M:=by
 have O:aS prog 17=some f17:=by kernel_rfl
 obtain⟨N,L,K,⟨Z,X⟩,G⟩:=h;have S:qS prog (afF.or (ag (cc [(54,[afA r s,vA p],.int .i64 0),(56,[afA r s],.agg (mC r)),(57,[.agg (mC r),vA p],vA (mi r p)),(59,[vA (mi r p),vA s],vA (iU (mi r p) s)),(55,[vA (iU (mi r p) s)],.tuple [vA (iU (mi r p) s),.int .i64 0])])) (ag mO)):=qS.or (cD fun e R M=>by
  simp only[lM] at R;rcases R with rfl | rfl | rfl | rfl | rfl
  ·exact Ae N L M
  ·exact BC r s M
  ·exact Ie r p K M
  ·exact Rq _ _ Z X M
  ·exact H3 G M) ph
 refine ao S ?_ M;clear S;obtain⟨Q,V⟩:∃Q,aG f17=[Q]:=⟨_,rfl⟩
 obtain⟨U,C⟩:=cC V (l:=[0,1,0,7,15,0,32,127,255,511,1023,1023,4095,8191]) (j:=13) (by kernel_rfl) (by decide);simp[aG,bQ,f17] at V;subst V;obtain⟨w,F⟩:=xE (mi r p);rw[←F];obtain⟨q,D⟩:=xE (iU w s);rw[←D];simp[aa,O,f17,afF.or,cc,ag,mO,afA,mC,vL,vA,-aH,bE U,dh,fu,fJ,dw,dE,jQ,bef,Nat.testBit]
def Xi(k:Nat)(Q:List (Rat×Rat)):Prop:=∀q∈Q,big k q.1∧big k q.2
theorem sG{Q:List (Rat×Rat)}{i:Nat}{q:Rat×Rat}(h:Q[i]? =some q):Q.getD i (0,0)=q:=by simp[List.getD,h]
theorem Nd(Q:List (Rat×Rat))(n:Nat)(hn:n≤Q.length)(hQ:Xi 40 Q)(hl:Q.length≤1000000000)(hd:∀i a b,Q[i]? =some a→Q[i+1]? =some b→b.1-a.1≠0):
  kO prog 45 [.slice 0 0 Q.length none,.int .i64 n] [.cells false 2 (kC (kT Q))] (.tuple [.str (ax (nZ Q n).1),.str (ax (nZ Q n).2)]) [.cells false 2 (kC (kT Q))]:=by
 have S:aS prog 45=some f45:=by kernel_rfl
 have z:ax 0=[48]:=rfl;refine er cP ?_;have kl:(kC (kT Q)).length=2*Q.length:=by rw[oQ,kL]
 unfold nZ;by_cases R:Q=[]
 ·subst R
  simp[aa,S,f45,z]
 ·have Y:0<Q.length:=List.length_pos_iff.2 R
  have Z :¬Q.length=0:=by omega
  rw[if_neg R];by_cases W:n=0
  ·subst W
   obtain⟨q,J⟩:∃q,Q[0]? =some q:=⟨Q[0],List.getElem?_eq_getElem Y⟩
   obtain⟨k1,k2,I⟩:=EV (Pb J);rw[if_pos rfl,sG J];simp at I;simp[aa,S,f45,z,R,Y,I]
  ·rw[if_neg W]
   obtain⟨m,rfl⟩:∃m,n=m+1:=⟨n-1,by omega⟩
   obtain⟨a,O⟩:∃q,Q[m]? =some q:=⟨Q[m],List.getElem?_eq_getElem (by omega)⟩
   obtain⟨a1,a2,a3⟩:=EV (Pb O);have w2:IntKind.i64.wrap (((m+1:Nat):Int)-1)=(m:Int):=by rw[af];omega
   have e1:m+1-1=m:=by omega
   rw[e1,sG O];have H:m<Q.length:=by omega
   by_cases N:m+1=Q.length
   ·rw[if_pos N]
    rw[N] at w2 ⊢;simp[aa,S,f45,z,Z,H,a3,w2]
   ·rw[if_neg N]
    have hE' :¬((m:Int)+1=Q.length):=by omega
    obtain⟨b,M⟩:∃q,Q[m+1]? =some q:=⟨Q[m+1],List.getElem?_eq_getElem (by omega)⟩
    obtain⟨b1,b2,b3⟩:=EV (Pb M);rw[sG M];have X:=hd m a b O M;obtain⟨L,F⟩:=hQ a (List.mem_of_getElem? O);obtain⟨D,C⟩:=hQ b (List.mem_of_getElem? M);have B:=sB C F;have u:=sB D L;have o:=OS B u;have D4:=Hh o (L.mono (by omega));unfold DQ;obtain⟨⟨f1,f2⟩,f3,f4⟩:kx a.1∧kx a.2:=⟨gZ (by decide) (by decide) L,gZ (by decide) (by decide) F⟩;obtain⟨⟨g1,g2⟩,g3,g4⟩:kx b.1∧kx b.2:=⟨gZ (by decide) (by decide) D,gZ (by decide) (by decide) C⟩;obtain⟨⟨i1,i2⟩,i3,i4⟩:kx (b.2-a.2)∧kx (b.1-a.1):=⟨gZ (by decide) (by decide) B,gZ (by decide) (by decide) u⟩;obtain⟨⟨K,G⟩,V,U⟩:kx ((b.2-a.2) / (b.1-a.1))∧kx ((b.2-a.2) / (b.1-a.1)*a.1):=⟨gZ (by decide) (by decide) o,gZ (by decide) (by decide) D4⟩;clear B u o D4 L F D C;obtain⟨x,hx⟩:=xE (b.2-a.2);obtain⟨y,hy⟩:=xE (b.1-a.1);rw[←hx] at i1 i2 K G V U ⊢;rw[←hy] at i3 i4 K G V U X ⊢;obtain⟨s,hs⟩:=xE (x / y);rw[←hs] at K G V U ⊢;obtain⟨t,ht⟩:=xE (s*a.1);rw[←ht] at V U ⊢;have ka:m*2+2≤(kC (kT Q)).length:=by omega
    have kb:(m+1)*2+2≤(kC (kT Q)).length:=by omega
    obtain⟨v,hv⟩:=xE (m+1);rw[←hv] at N b1 kb w2 ⊢;have j:¬(v:Int)=Q.length:=by omega
    have v0:¬v=0:=by omega
    have vl:v<Q.length:=by omega
    simp[aa,S,f45,Z,H,j,v0,vl,a1,b1,ka,kb,w2,ag,bn,bw,ay,f1,f2,f3,f4,g1,g2,g3,g4,←hx,←hy,i1,i2,i3,i4,X,←hs,K,G,V,U,←ht,Nat.testBit]
end Go.Proofs
namespace Go.Proofs
open Go.Eng
def Y4(Q:List (Rat×Rat)):Prop:=Xi 40 Q∧Q.length≤1000000000∧∀i a b,Q[i]? =some a→Q[i+1]? =some b→b.1-a.1≠0
end Go.Proofs
