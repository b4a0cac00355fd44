/- See B54. -/
import Derived.Test.YtffdedmakncfmaaGreatDoorB39
set_option linter.all false
set_option maxRecDepth 100000
set_option maxHeartbeats 40000000
namespace Go.Proofs
open Go.Eng
open Tryz
theorem Ry(a b c:List UInt8)(M:Mem):kO prog 58 [.agg [.str a,.str b,.str c]] M (.agg [.str a,.str b,.str c]) M:=by
 have Z:aT prog 58=some f58:=by kernel_rfl
 refine ao (ax _) ?_ M;simp[aa,Z,f58,bW]
theorem Pn(a b c:List UInt8)(M:Mem):kO prog 99 [.agg [.str a,.str b,.str c]] M (.agg [.str a,.str b,.str c]) M:=by
 have Z:aT prog 99=some f99:=by kernel_rfl
 refine ao (ax _) ?_ M;simp[aa,Z,f99,bW,aH]
noncomputable def sh(f:FuncId)(args:List AV):Option AV:=
 match f,args with
 |58,[.agg [.str a,.str b,.str c]]=>some (.agg [.str a,.str b,.str c])
 |99,[.agg [.str a,.str b,.str c]]=>some (.agg [.str a,.str b,.str c])
 |f,args=>cr f args
theorem tI:qS prog (af sh):=bH fun f Z v h mem=>by
 unfold sh at h;split at h
 ·cases h;exact Ry _ _ _ mem
 ·cases h;exact Pn _ _ _ mem
 ·have:=eJ.fn _ _ mem ⟨v,none,[]⟩ (by unfold af;simp only;rw[h])
  simpa [y9.mem] using this
def afA(r:M3)(s:V3):AV:=.agg (mC r++vL s)
theorem Mb(r:M3)(s:V3)(M:Mem):kO prog 56 [afA r s] M (.agg (mC r)) M:=by
 have U:aT prog 56=some f56:=by kernel_rfl
 refine ao tI ?_ M;obtain⟨V,Z⟩:∃V,aJ f56=[V]:=⟨_,rfl⟩
 obtain⟨X,S⟩:=cD Z (l:=[0,1,3,7,0,16,48,127,0,256,768,2047,4095,8191]) (j:=13) (by kernel_rfl) (by decide);simp[aJ,bU,f56] at Z;subst Z;simp[aa,U,f56,af,sh,afA,mC,vL,bW,-aK,aq X,bm,aZ,bl,S,Nat.testBit]
def apM(r:M3)(v:V3):Mem:=[.cells true 0 (mC r),.cells true 0 (vL v),.cells true 0 [.str [],.str [],.str []],.cells true 0 [.str [],.str [],.str []]]
theorem qi(r:M3)(v:V3)(h:mOk r v)(i:Nat)(y:i<3):kO prog 102 [.int .i64 i,.ptr 0 0,.ptr 1 0] (apM r v) (.str (aB (gG (if i=0 then r.1 else if i=1 then r.2.1 else r.2.2) v))) (apM r v):=by
 have U:aT prog 102=some f102:=by kernel_rfl
 obtain⟨Z,X,h3⟩:=h;obtain⟨r1,r2,V⟩:=r;simp only at Z X h3;have S:i=0∨i=1∨i=2:=by omega
 have h:aa (ba prog) (fun _=>[]) (aT prog) (af cr) 1 102 [.int .i64 i,.ptr 0 0,.ptr 1 0] (apM (r1,r2,V) v)=some ⟨.str (aB (gG (if i=0 then r1 else if i=1 then r2 else V) v)),none,[]⟩:=by rcases S with rfl | rfl | rfl<;>simp[aa,U,f102,af,cr,apM,mC,vL,Da,Z,X,h3,Nat.testBit]
 have:=(ar aj (aI _) eJ (aP _) h).1;simpa [y9.mem] using this
theorem Mg(r:M3)(v:V3)(h:mOk r v):
  kO prog 101 [.func 102 [.ptr 0 0,.ptr 1 0]] [.cells true 0 (mC r),.cells true 0 (vL v),.cells true 0 [.str [],.str [],.str []]] (vA (nK r v)) [.cells true 0 (mC r),.cells true 0 (vL v),.cells true 0 [.str [],.str [],.str []]]:=by
 have S:aT prog 101=some f101:=by kernel_rfl
 obtain⟨L,V⟩:∃L:List (FuncId×List AV×Mem×y9),L=[(102,[.int .i64 (0:Nat),.ptr 0 0,.ptr 1 0],apM r v,⟨.str (aB (gG r.1 v)),none,[]⟩),
  (102,[.int .i64 (1:Nat),.ptr 0 0,.ptr 1 0],apM r v,⟨.str (aB (gG r.2.1 v)),none,[]⟩),
  (102,[.int .i64 (2:Nat),.ptr 0 0,.ptr 1 0],apM r v,⟨.str (aB (gG r.2.2 v)),none,[]⟩)]:=⟨_,rfl⟩
 have U:qS prog (jX L):=jJ fun x Z=>by
  rw[V] at Z;simp only[lM] at Z;rcases Z with rfl | rfl | rfl
  ·exact⟨by simpa [y9.mem] using qi r v h 0 (by decide),fun p X=>by cases X⟩
  ·exact⟨by simpa [y9.mem] using qi r v h 1 (by decide),fun p X=>by cases X⟩
  ·exact⟨by simpa [y9.mem] using qi r v h 2 (by decide),fun p X=>by cases X⟩
 refine fP U ?_;clear U;subst V;unfold nK;obtain⟨x,Z⟩:=xE (gG r.1 v);obtain⟨y,R⟩:=xE (gG r.2.1 v);obtain⟨z,Q⟩:=xE (gG r.2.2 v);rw[←Z,←R,←Q];simp[aa,S,f101,jX,apM,vA,vL,mC,bW]
theorem Hn(r:M3)(v:V3)(h:mOk r v)(M:Mem):kO prog 57 [.agg (mC r),vA v] M (vA (nK r v)) M:=by
 have U:aT prog 57=some f57:=by kernel_rfl
 obtain⟨L,Z⟩:=xE (α:=List (FuncId×List AV×Mem×y9)) [(101,[.func 102 [.ptr 0 0,.ptr 1 0]],[.cells true 0 (mC r),.cells true 0 (vL v),.cells true 0 [.str [],.str [],.str []]],⟨vA (nK r v),none,[]⟩)];have X:qS prog (jX L):=jJ fun x V=>by rw[Z,List.mem_singleton] at V;subst V;exact⟨by simpa [y9.mem] using Mg r v h,fun p S=>by cases S⟩
 refine cH X (lv:=fun _=>[]) (K:=1) rfl (by rfl) ?_ M;clear X;subst Z;obtain⟨w,R⟩:=xE (nK r v);rw[←R];simp[aa,U,f57,jX,vA,vL,mC]
def adM(u v:V3):Mem:=[.cells true 0 (vL u),.cells true 0 (vL v),.cells true 0 [.str [],.str [],.str []],.cells true 0 [.str [],.str [],.str []]]
theorem w8(u v:V3)(y:vF u)(H:vF v)(i:Nat)(I:i<3):kO prog 104 [.int .i64 i,.ptr 0 0,.ptr 1 0] (adM u v) (.str (aB (if i=0 then u.1+v.1 else if i=1 then u.2.1+v.2.1 else u.2.2+v.2.2))) (adM u v):=by
 have Z:aT prog 104=some f104:=by kernel_rfl
 obtain⟨⟨X,V⟩,⟨U,S⟩,R,Q⟩:=y;obtain⟨⟨O,N⟩,⟨M,L⟩,K,G⟩:=H;have F:i=0∨i=1∨i=2:=by omega
 refine fP cO ?_;rcases F with rfl | rfl | rfl<;>simp[aa,Z,f104,af,be,bd,az,adM,vL,X,V,U,S,R,Q,O,N,M,L,K,G,Nat.testBit]
theorem Mh(u v:V3)(H:vF u)(I:vF v):
  kO prog 101 [.func 104 [.ptr 0 0,.ptr 1 0]] [.cells true 0 (vL u),.cells true 0 (vL v),.cells true 0 [.str [],.str [],.str []]] (vA (mH u v)) [.cells true 0 (vL u),.cells true 0 (vL v),.cells true 0 [.str [],.str [],.str []]]:=by
 have S:aT prog 101=some f101:=by kernel_rfl
 obtain⟨L,V⟩:∃L:List (FuncId×List AV×Mem×y9),L=[(104,[.int .i64 (0:Nat),.ptr 0 0,.ptr 1 0],adM u v,⟨.str (aB (u.1+v.1)),none,[]⟩),
  (104,[.int .i64 (1:Nat),.ptr 0 0,.ptr 1 0],adM u v,⟨.str (aB (u.2.1+v.2.1)),none,[]⟩),
  (104,[.int .i64 (2:Nat),.ptr 0 0,.ptr 1 0],adM u v,⟨.str (aB (u.2.2+v.2.2)),none,[]⟩)]:=⟨_,rfl⟩
 have U:qS prog (jX L):=jJ fun x Z=>by
  rw[V] at Z;simp only[lM] at Z;rcases Z with rfl | rfl | rfl
  ·exact⟨by simpa [y9.mem] using w8 u v H I 0 (by decide),fun p X=>by cases X⟩
  ·exact⟨by simpa [y9.mem] using w8 u v H I 1 (by decide),fun p X=>by cases X⟩
  ·exact⟨by simpa [y9.mem] using w8 u v H I 2 (by decide),fun p X=>by cases X⟩
 refine fP U ?_;clear U;subst V;unfold mH;obtain⟨x,Z⟩:=xE (u.1+v.1);obtain⟨y,R⟩:=xE (u.2.1+v.2.1);obtain⟨z,Q⟩:=xE (u.2.2+v.2.2);rw[←Z,←R,←Q];simp[aa,S,f101,jX,adM,vA,vL,bW]
theorem PZ(u v:V3)(y:vF u)(H:vF v)(M:Mem):kO prog 59 [vA u,vA v] M (vA (mH u v)) M:=by
 have U:aT prog 59=some f59:=by kernel_rfl
 obtain⟨L,Z⟩:=xE (α:=List (FuncId×List AV×Mem×y9)) [(101,[.func 104 [.ptr 0 0,.ptr 1 0]],[.cells true 0 (vL u),.cells true 0 (vL v),.cells true 0 [.str [],.str [],.str []]],⟨vA (mH u v),none,[]⟩)];have X:qS prog (jX L):=jJ fun x V=>by rw[Z,List.mem_singleton] at V;subst V;exact⟨by simpa [y9.mem] using Mh u v y H,fun p S=>by cases S⟩
 refine ao X ?_ M;clear X;subst Z;obtain⟨w,R⟩:=xE (mH u v);rw[←R];simp[aa,U,f59,jX,vA,vL]
variable{v:V3}
theorem Hc(h:vC v)(M:Mem):kO prog 55 [vA v] M (.tuple [vA v,.int .i64 0]) M:=by
 have Z:aT prog 55=some f55:=by kernel_rfl
 refine ao tI ?_ M;obtain⟨X,V,h3,U⟩:=h;simp[aa,Z,f55,af,sh,cr,vA,X,V,h3,U]
theorem Hm(h:vC v)(M:Mem):kO prog 148 [vA v] M (.bool false) M:=by
 have Z:aT prog 148=some f148:=by kernel_rfl
 refine ao eJ ?_ M;obtain⟨X,V,h3,U⟩:=h;simp[aa,Z,f148,af,cr,vA,X,V,h3,U]
open Classical in
noncomputable def Ao(f:FuncId)(args:List AV):Option AV:=
 match f,args with
 |148,[.agg [.str a,.str b,.str c]]=>match v3P a b c with
  |some v=>if vC v then some (.bool false) else none
  |none=>none
 |_,_=>none
theorem Bg:qS prog (af Ao):=bH fun f Z v h mem=>by
 unfold Ao at h;split at h
 ·split at h
  ·rename_i v X
   split at h
   ·rename_i V
    cases h;obtain⟨rfl,rfl,rfl⟩:=jh X;exact Hm V mem
   ·cases h
  ·cases h
 ·cases h
variable{a:V3}
theorem Mj(y:vC a):kO prog 215 [.slice 0 0 1 none,.func 148 []] [.cells false 3 (vL a)] (.int .i64 (-1)) [.cells false 3 (vL a)]:=by
 have Z:aT prog 215=some f215:=by kernel_rfl
 refine cv (lv:=(fun _=>[8])) (K:=6) Bg ?_;simp[aa,Z,f215,af,Ao,vL,Da,y,bp,gi,w1]
theorem Mk{b c d:V3}(y:vC a)(H:vC b)(hc:vC c)(hd:vC d):kO prog 215 [.slice 0 0 4 none,.func 148 []] [.cells false 3 (vL a++(vL b++(vL c++vL d)))] (.int .i64 (-1)) [.cells false 3 (vL a++(vL b++(vL c++vL d)))]:=by
 have Z:aT prog 215=some f215:=by kernel_rfl
 refine cv (lv:=(fun _=>[8])) (K:=6) Bg ?_;simp[aa,Z,f215,af,Ao,vL,Da,y,H,hc,hd,bp,gi,w1,w2,w3,w4]
variable{M:Mem}{b n:Nat}{o:Bool}
theorem Hd{C:List AV}(y:AV.ae8 C=true)(H:M[b]? =some (.cells o 3 C))(h:kO prog 215 [.slice 0 0 n none,.func 148 []] [.cells false 3 C] (.int .i64 (-1)) [.cells false 3 C]):
  kO prog 95 [.slice b 0 n none] M (.int .i64 0) M:=by
 have S:=agm (rest:=[.func 148 []]) y rfl rfl H (List.take_of_length_le (Nat.le_refl _)) h;have Z:aT prog 147=some f147:=by kernel_rfl
 have V:qS prog (er 215 [.slice b 0 n none,.func 148 []] (.int .i64 (-1)) (fun N=>N=M)):=fI fun N X=>by subst X;exact S
 have R:aa (ba prog) (fun _=>[]) (aT prog) (er 215 [.slice b 0 n none,.func 148 []] (.int .i64 (-1)) (fun N=>N=M)) 1 147 [.slice b 0 n none,.func 148 []] M=some ⟨.bool false,none,[]⟩:=by clear V;simp[aa,Z,f147,er]
 have h3:=(ar aj (aI _) V (aP _) R).1;rw[show y9.mem ⟨.bool false,none,[]⟩ M=M by simp[y9.mem]] at h3;have Q:aT prog 95=some f95:=by kernel_rfl
 have U:qS prog (er 147 [.slice b 0 n none,.func 148 []] (.bool false) (fun N=>N=M)):=fI fun N X=>by subst X;exact h3
 refine fP U ?_;clear U;simp[aa,Q,f95,er]
def afC(r:M3)(s:V3):Prop:=vC r.1∧vC r.2.1∧vC r.2.2∧vC s
variable{r:M3}{s:V3}
theorem Hb(h:afC r s)(M:Mem):kO prog 49 [afA r s] M (.int .i64 0) M:=by
 have U:aT prog 49=some f49:=by kernel_rfl
 obtain⟨S,R,h3,Q⟩:=h;obtain⟨L,Z⟩:=xE (α:=List (FuncId×List AV×Mem×y9)) [(95,[.slice 1 0 4 none],[.cells true 0 (mC r++vL s),.cells true 3 (mC r++vL s)],⟨.int .i64 0,none,[]⟩)];have X:qS prog (jX L):=jJ fun x V=>by rw[Z,List.mem_singleton] at V;subst V;exact⟨by simpa [y9.mem] using Hd (M:=[.cells true 0 (mC r++vL s),.cells true 3 (mC r++vL s)]) (b:=1) (C:=vL r.1++(vL r.2.1++(vL r.2.2++vL s))) rfl rfl (Mk S R h3 Q),fun p O=>by cases O⟩
 refine ao X ?_ M;clear X;subst Z;simp[aa,U,f49,jX,afA,mC,vL]
variable{p:V3}
theorem zl(h:afC r s)(y:vC p)(M:Mem):kO prog 54 [afA r s,vA p] M (.int .i64 0) M:=by
 have U:aT prog 54=some f54:=by kernel_rfl
 obtain⟨L,X⟩:=xE (α:=List (FuncId×List AV×Mem×y9)) [(49,[afA r s],[.cells true 0 (mC r++vL s),.cells true 0 (vL p)],⟨.int .i64 0,none,[]⟩),(95,[.slice 2 0 1 none],[.cells true 0 (mC r++vL s),.cells true 0 (vL p),.cells true 3 (vL p)],⟨.int .i64 0,none,[]⟩)];have V:qS prog (jX L):=jJ fun x Z=>by
  rw[X] at Z;simp only[lM] at Z;rcases Z with rfl | rfl
  ·exact⟨by simpa [y9.mem] using Hb h _,fun p y=>by cases y⟩
  ·exact⟨by simpa [y9.mem] using Hd (M:=[.cells true 0 (mC r++vL s),.cells true 0 (vL p),.cells true 3 (vL p)]) (b:=2) (C:=vL p) rfl rfl (Mj y),fun p y=>by cases y⟩
 refine ao V ?_ M;clear V;subst X;simp[aa,U,f54,jX,afA,mC,vL,vA]
structure agD (r:M3)(s p:V3):Prop where
 ck:afC r s
 pk:vC p
 mm:mOk r p
 fk:vF (nK r p)∧vF s
 rk:vC (mH (nK r p) s)
theorem Ha(h:agD r s p)(M:Mem):kO prog 17 [afA r s,vA p] M (.tuple [vA (mH (nK r p) s),.int .i64 0]) M:=by
 have Q:aT prog 17=some f17:=by kernel_rfl
 obtain⟨O,N,L,⟨K,Z⟩,G⟩:=h;have U:qS prog (ae3.or (af (cU [(54,[afA r s,vA p],.int .i64 0),(56,[afA r s],.agg (mC r)),(57,[.agg (mC r),vA p],vA (nK r p)),(59,[vA (nK r p),vA s],vA (mH (nK r p) s)),(55,[vA (mH (nK r p) s)],.tuple [vA (mH (nK r p) s),.int .i64 0])])) (af sh)):=qS.or (dK fun e S M=>by
  simp only[lM] at S;rcases S with rfl | rfl | rfl | rfl | rfl
  ·exact zl O N M
  ·exact Mb r s M
  ·exact Hn r p L M
  ·exact PZ _ _ K Z M
  ·exact Hc G M) tI
 refine ao U ?_ M;clear U;obtain⟨R,X⟩:∃R,aJ f17=[R]:=⟨_,rfl⟩
 obtain⟨V,C⟩:=cD X (l:=[0,1,0,7,15,0,32,127,255,511,1023,1023,4095,8191]) (j:=13) (by kernel_rfl) (by decide);simp[aJ,bU,f17] at X;subst X;obtain⟨w,F⟩:=xE (nK r p);rw[←F];obtain⟨q,D⟩:=xE (mH w s);rw[←D];simp[aa,Q,f17,ae3.or,cU,af,sh,afA,mC,vL,vA,-aK,bT V,dG,dP,fQ,dJ,dT,kk,bef,Nat.testBit]
def VF(k:Nat)(Q:List (Rat×Rat)):Prop:=∀q∈Q,big k q.1∧big k q.2
variable{Q:List (Rat×Rat)}
theorem kZ{i:Nat}{q:Rat×Rat}(h:Q[i]? =some q):Q.getD i (0,0)=q:=by simp[List.getD,h]
theorem Md(Q:List (Rat×Rat))(n:Nat)(hn:n≤Q.length)(hQ:VF 40 Q)(hl:Q.length≤1000000000)(hd:∀i a b,Q[i]? =some a→Q[i+1]? =some b→b.1-a.1≠0):
  kO prog 45 [.slice 0 0 Q.length none,.int .i64 n] [.cells false 2 (kC (kT Q))] (.tuple [.str (aB (jl Q n).1),.str (aB (jl Q n).2)]) [.cells false 2 (kC (kT Q))]:=by
 have S:aT prog 45=some f45:=by kernel_rfl
 have z:aB 0=[48]:=rfl;refine fP cO ?_;have kl:(kC (kT Q)).length=2*Q.length:=by rw[fR,eh]
 unfold jl;by_cases R:Q=[]
 ·subst R
  simp[aa,S,f45,z]
 ·have J:0<Q.length:=List.length_pos_iff.2 R
  have Z :¬Q.length=0:=by omega
  rw[if_neg R];by_cases I:n=0
  ·subst I
   obtain⟨q,H⟩:∃q,Q[0]? =some q:=⟨Q[0],List.getElem?_eq_getElem J⟩
   obtain⟨k1,k2,k3⟩:=Cf (Lc H);rw[if_pos rfl,kZ H];simp at k3;simp[aa,S,f45,z,R,J,k3]
  ·rw[if_neg I]
   obtain⟨m,rfl⟩:∃m,n=m+1:=⟨n-1,by omega⟩
   obtain⟨a,O⟩:∃q,Q[m]? =some q:=⟨Q[m],List.getElem?_eq_getElem (by omega)⟩
   obtain⟨a1,a2,a3⟩:=Cf (Lc O);have w2:IntKind.i64.wrap (((m+1:Nat):Int)-1)=(m:Int):=by rw[ae];omega
   have e1:m+1-1=m:=by omega
   rw[e1,kZ O];have hm:m<Q.length:=by omega
   by_cases N:m+1=Q.length
   ·rw[if_pos N]
    rw[N] at w2 ⊢;simp[aa,S,f45,z,Z,hm,a3,w2]
   ·rw[if_neg N]
    have Yt :¬((m:Int)+1=Q.length):=by omega
    obtain⟨b,L⟩:∃q,Q[m+1]? =some q:=⟨Q[m+1],List.getElem?_eq_getElem (by omega)⟩
    obtain⟨b1,b2,b3⟩:=Cf (Lc L);rw[kZ L];have X:=hd m a b O L;obtain⟨K,D⟩:=hQ a (List.mem_of_getElem? O);obtain⟨C,B⟩:=hQ b (List.mem_of_getElem? L);have u:=kU B D;have j:=kU C K;have Y:=Gr u j;have D4:=xN Y (K.mono (by omega));unfold ze;obtain⟨⟨f1,f2⟩,f3,f4⟩:iK a.1∧iK a.2:=⟨dE (by decide) (by decide) K,dE (by decide) (by decide) D⟩;obtain⟨⟨g1,g2⟩,g3,g4⟩:iK b.1∧iK b.2:=⟨dE (by decide) (by decide) C,dE (by decide) (by decide) B⟩;obtain⟨⟨i1,i2⟩,i3,i4⟩:iK (b.2-a.2)∧iK (b.1-a.1):=⟨dE (by decide) (by decide) u,dE (by decide) (by decide) j⟩;obtain⟨⟨G,F⟩,V,U⟩:iK ((b.2-a.2) / (b.1-a.1))∧iK ((b.2-a.2) / (b.1-a.1)*a.1):=⟨dE (by decide) (by decide) Y,dE (by decide) (by decide) D4⟩;clear u j Y D4 K D C B;obtain⟨x,hx⟩:=xE (b.2-a.2);obtain⟨y,hy⟩:=xE (b.1-a.1);rw[←hx] at i1 i2 G F V U ⊢;rw[←hy] at i3 i4 G F V U X ⊢;obtain⟨s,hs⟩:=xE (x / y);rw[←hs] at G F V U ⊢;obtain⟨t,ht⟩:=xE (s*a.1);rw[←ht] at V U ⊢;have ka:m*2+2≤(kC (kT Q)).length:=by omega
    have kb:(m+1)*2+2≤(kC (kT Q)).length:=by omega
    obtain⟨v,hv⟩:=xE (m+1);rw[←hv] at N b1 kb w2 ⊢;have W:¬(v:Int)=Q.length:=by omega
    have v0:¬v=0:=by omega
    have vl:v<Q.length:=by omega
    simp[aa,S,f45,Z,hm,W,v0,vl,a1,b1,ka,kb,w2,af,be,bd,az,f1,f2,f3,f4,g1,g2,g3,g4,←hx,←hy,i1,i2,i3,i4,X,←hs,G,F,V,U,←ht,Nat.testBit]
def EI:List AV→Option (List (List UInt8×List UInt8))
 | []=>some []
 |.str a::.str b::l=>match EI l with
  |some r=>some ((a,b)::r)
  |none=>none
 |_=>none
theorem Le:∀L:List (List UInt8×List UInt8),EI (kC L)=some L
 | []=>rfl
 |k::L=>by simp[kC,EI,Le L]
theorem Cj:∀{cs:List AV} {L:List (List UInt8×List UInt8)},EI cs=some L→cs=kC L
 | [],L,h=>by cases h;rfl
 | [v],L,h=>by cases v<;>cases h
 |v::u::l,L,h=>by
  unfold EI at h;split at h
  next Z=>cases Z
  ·rename_i a b V Z
   cases Z;split at h
   ·rename_i r X
    cases h;rw[kC,Cj X]
   ·cases h
  ·cases h
def XO(M:Mem)(x:AV)(L:List (List UInt8×List UInt8)):Prop:=∃b o Z,x=.slice b 0 L.length none∧M[b]? =some (.cells o 2 Z)∧Z.take (2*L.length)=kC L
def CW(M:Mem):AV→Option (List (List UInt8×List UInt8))
 |.slice b 0 n none=>match M[b]? with
  |some (.cells _ 2 cs)=>if 2*n≤cs.length then EI (cs.take (2*n)) else none
  |_=>none
 |.qF=>some []
 |_=>none
variable{L:List (List UInt8×List UInt8)}{x:AV}
theorem CX(h:CW M x=some L):XO M x L∨(x=.qF∧L=[]):=by
 unfold CW at h;split at h
 ·rename_i b n
  split at h
  ·rename_i o X V
   split at h
   ·rename_i S
    have Z:=Cj h;have U:n=L.length:=by have:=congrArg List.length Z;rw[fR,List.length_take] at this;omega
    subst U;exact .inl ⟨b,o,X,rfl,V,Z⟩
   ·cases h
  ·cases h
 ·cases h;exact .inr ⟨rfl,rfl⟩
 ·cases h
variable{cs:List AV}
theorem TI{ow:Bool}(h:M[b]? =some (.cells ow 2 cs))(y:2*n≤cs.length)(H:cs.take (2*n)=kC L):CW M (.slice b 0 n none)=some L:=by simp only[CW,h];rw[if_pos y,H,Le]
theorem SW(n:Nat):∀L:List (List UInt8×List UInt8),AV.afd n (kC L)=true
 | []=>by simp[kC,AV.afd]
 |k::L=>by simp[kC,AV.afd,AV.under,SW n L]
theorem U9:∀{L:List (List UInt8×List UInt8)} {i:Nat} {v:AV} (f:Nat→Option Nat),(kC L)[i]? =some v→v.ren f=v:=by
 intro L i v f h;have Z:=SV f L;rw[gE] at Z;have:((kC L).map (AV.ren f))[i]? =(kC L)[i]? :=by rw[Z]
 rw[List.getElem?_map,h] at this;simpa using this
theorem LO{ks:List Nat}(h:M[b]? =some (.cells o 2 cs))(y:cs.take (2*L.length)=kC L):afM ks M b (.cells false 2 (kC L)):=by
 refine⟨SW _ _,o,cs,h,fun j v Z=>?_⟩;have X:j<2*L.length:=by have:=gL Z;rw[fR] at this;exact this
 have:cs[j]? =(kC L)[j]? :=by rw[←y,List.getElem?_take_of_lt X]
 rw[this,Z,U9 _ Z]
theorem VQ{P:Program}{f:FuncId}{rest:List AV}{v:AV}(hr:AV.ae8 rest=true)(y:v.closed=true)(h:kO P f (.slice 0 0 L.length none::rest) [.cells false 2 (kC L)] v [.cells false 2 (kC L)])(H:XO M x L):kO P f (x::rest) M v M:=by
 obtain⟨b,o,cs,rfl,V,U⟩:=H;have S:=gL V;have R:AV.afd [b].length (.slice 0 0 L.length none::rest)=true:=by
  show(decide (0<1)&&AV.afd 1 rest)=true
  rw[aX hr];rfl
 have:=kO.frame (M:=M) (new:=[]) [b] (m:=[.cells false 2 (kC L)]) rfl (by simpa using S) R (fun i s Z=>by
  cases i with
  |zero=>simp at Z;subst Z;exact LO V U
  |succ i=>simp at Z) rfl (by simpa using h)
 have X:v.ren (eL [b] M.length)=v:=by have:=aM (vs:=[v]) (ρ:=eL [b] M.length) (by simp[AV.ae8,y]);simpa [AV.afp] using this
 simpa [AV.afp,AV.ren,eL,aM hr,X] using this
def N9:List (List UInt8×List UInt8)→Option (List (Rat×Rat))
 | []=>some []
 |k::l=>match ef k.1,ef k.2,N9 l with
  |some a,some b,some r=>some ((a,b)::r)
  |_,_,_=>none
theorem O5:∀Q:List (Rat×Rat),N9 (kT Q)=some Q
 | []=>rfl
 |q::Q=>by have:=O5 Q;simp only[kT,List.map_cons,N9,az] at this ⊢;rw[this]
theorem yh:∀{L:List (List UInt8×List UInt8)} {Q:List (Rat×Rat)},N9 L=some Q→L=kT Q
 | [],Q,h=>by cases h;rfl
 |k::L,Q,h=>by
  unfold N9 at h;split at h
  ·rename_i a b r Z X h3
   cases h;have e:=yh h3;obtain⟨V,U⟩:=k;simp only at Z X;rw[e,aC Z,aC X];rfl
  ·cases h
theorem zp(u:List UInt8)(M:Mem):kO prog 112 [.qF,.str u] M (.int .i64 0) M:=by
 have Z:aT prog 112=some f112:=by kernel_rfl
 refine cH (ax _) (lv:=fun _=>[5,10]) (K:=1) rfl rfl ?_ M;simp[aa,Z,f112,bp,gi]
theorem Dl(n:Int)(M:Mem):kO prog 45 [.qF,.int .i64 n] M (.tuple [.str [48],.str [48]]) M:=by
 have Z:aT prog 45=some f45:=by kernel_rfl
 refine ao (ax _) ?_ M;simp[aa,Z,f45]
def Li(Q:List (Rat×Rat)):Prop:=VF 40 Q∧Q.length≤1000000000∧∀i a b,Q[i]? =some a→Q[i+1]? =some b→b.1-a.1≠0
theorem U2(h:VF 40 Q):Wf Q:=fun q Z=>⟨dE (by decide) (by decide) (h q Z).1,dE (by decide) (by decide) (h q Z).2⟩
open Classical in
noncomputable def vw:ae3:=fun c Z M=>match c,Z with
 |.fn 112,[x,.str u]=>match CW M x with
  |some L=>match N9 L,ef u with
   |some Q,some r=>if Li Q∧iK r then some ⟨.int .i64 (dm Q r),none,[]⟩ else none
   |_,_=>none
  |none=>none
 |.fn 45,[x,.int .i64 n]=>match CW M x with
  |some L=>match N9 L with
   |some Q=>if Li Q∧0≤n∧n.toNat≤Q.length then some ⟨.tuple [.str (aB (jl Q n.toNat).1),.str (aB (jl Q n.toNat).2)],none,[]⟩ else none
   |_=>none
  |none=>none
 |c,Z=>af be c Z M
theorem Ib:qS prog vw:=by
 refine bZ fun c U M r h=>?_
 unfold vw at h;split at h
 ·split at h
  ·rename_i L V
   split at h
   ·rename_i Q S hQ R
    split at h
    ·rename_i X
     cases h;refine aw ?_;rw[List.append_nil,aC R];have Z:=yh hQ;rcases CX V with hx | ⟨rfl,rfl⟩
     ·subst Z
      have:=Ff Q S (U2 X.1.1) X.2 X.1.2.1;rw[←eh] at this;exact VQ (rest:=[.str (aB S)]) rfl rfl this hx
     ·cases Q with
      |nil=>exact zp _ M
      |cons q Q=>cases Z
    ·cases h
   ·cases h
  ·cases h
 ·split at h
  ·rename_i L V
   split at h
   ·rename_i Q hQ
    split at h
    ·rename_i X
     obtain⟨X,O,N⟩:=X;cases h;refine aw ?_;rw[List.append_nil];have Z:=yh hQ;rcases CX V with hx | ⟨rfl,rfl⟩
     ·subst Z
      have:=Md Q _ N X.1 X.2.1 X.2.2;rw[←eh,Int.toNat_of_nonneg O] at this;exact VQ (rest:=[.int .i64 _]) rfl rfl this hx
     ·cases Q with
      |nil=>exact Dl _ M
      |cons q Q=>cases Z
    ·cases h
   ·cases h
  ·cases h
 ·exact dr cO h
theorem SZ(h:Li Q)(y:n≤Q.length):big 700 (jl Q n).1∧big 700 (jl Q n).2:=by
 obtain⟨O,u,h3⟩:=h;have get:∀i,i<Q.length→∃q,Q[i]? =some q∧big 40 q.1∧big 40 q.2:=fun i V=>⟨Q[i],List.getElem?_eq_getElem V,O _ (List.getElem_mem V)⟩
 have z:big 700 0:=OE (by decide);unfold jl;by_cases Z:Q=[]
 ·rw[if_pos Z];exact⟨z,z⟩
 ·have N:0<Q.length:=List.length_pos_iff.2 Z
  rw[if_neg Z];by_cases U:n=0
  ·rw[if_pos U]
   obtain⟨q,K,j,G⟩:=get 0 N;rw[kZ K];exact⟨G.mono (by decide),z⟩
  ·rw[if_neg U]
   obtain⟨m,rfl⟩:∃m,n=m+1:=⟨n-1,by omega⟩
   obtain⟨a,F,S,X⟩:=get m (by omega);rw[show m+1-1=m by omega,kZ F];by_cases R:m+1=Q.length
   ·rw[if_pos R];exact⟨X.mono (by decide),z⟩
   ·rw[if_neg R]
    obtain⟨b,D,C,B⟩:=get (m+1) (by omega);rw[kZ D];unfold ze;have d3:=Gr (kU B X) (kU C S);have d4:=xN d3 (S.mono (by omega));have d5:=kU (X.mono (by omega)) d4;exact⟨d5.mono (by decide),d3.mono (by decide)⟩
theorem Fg(Q:List (Rat×Rat))(u:Rat)(h:Li Q)(y:big 40 u)(M:Mem)(x:AV)(H:CW M x=some (kT Q)):
  kO prog 65 [x,.str (aB u)] M (.str (aB (gh Q u))) M:=by
 have B:aT prog 65=some f65:=by kernel_rfl
 have X:=yf Q u;obtain⟨m,N⟩:=SZ h X;have j:=xN N (y.mono (by omega));obtain⟨f1,f2⟩:iK (jl Q (dm Q u)).1:=dE (by decide) (by decide) m;obtain⟨V,U⟩:iK (jl Q (dm Q u)).2:=dE (by decide) (by decide) N;obtain⟨S,R⟩:iK ((jl Q (dm Q u)).2*u):=dE (by decide) (by decide) j;obtain⟨K,G⟩:iK u:=dE (by decide) (by decide) y;have O:iK u:=⟨K,G⟩;have F:(0:Int)≤(dm Q u:Int):=by omega
 obtain⟨n,Z⟩:=xE (dm Q u);unfold gh;rw[←Z] at f1 f2 V U S R X F ⊢;obtain⟨c,D⟩:=xE ((jl Q n).1);obtain⟨s,C⟩:=xE ((jl Q n).2);rw[←D] at f1 f2 ⊢;rw[←C] at V U S R ⊢;have Y:aa (ba prog) (fun _=>[]) (aT prog) vw 1 65 [x,.str (aB u)] M=some ⟨.str (aB (c+s*u)),none,[]⟩:=by simp[aa,B,f65,vw,H,O5,az,h,O,←Z,X,F,←D,←C,af,be,bd,f1,f2,V,U,S,R,K,G]
 have:=(ar aj (aI _) Ib (aP _) Y).1;simpa [y9.mem] using this
end Go.Proofs
