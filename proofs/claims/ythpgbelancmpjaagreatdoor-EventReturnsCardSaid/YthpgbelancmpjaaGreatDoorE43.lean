/- See E54. -/
import Derived.Test.YthpgbelancmpjaaGreatDoorE38
set_option linter.all false
set_option maxRecDepth 100000
set_option maxHeartbeats 40000000
namespace Go.Proofs
open Go.Eng
open Tryz
theorem QG(a b c:List UInt8)(M:Mem):kO prog 197 [.agg [.str a,.str b,.str c]] M (.agg [.str a,.str b,.str c]) M:=by
 have Z:aT prog 197=some f197:=by kernel_rfl
 refine ak (az _) ?_ M;simp[aa,Z,f197,bJ]
theorem OA(a b c:List UInt8)(M:Mem):kO prog 203 [.agg [.str a,.str b,.str c]] M (.agg [.str a,.str b,.str c]) M:=by
 have Z:aT prog 203=some f203:=by kernel_rfl
 refine ak (az _) ?_ M;simp[aa,Z,f203,bJ,aD]
noncomputable def rW(f:FuncId)(args:List AV):Option AV:=
 match f,args with
 |197,[.agg [.str a,.str b,.str c]]=>some (.agg [.str a,.str b,.str c])
 |203,[.agg [.str a,.str b,.str c]]=>some (.agg [.str a,.str b,.str c])
 |f,args=>bt f args
theorem tx:qS prog (ag rW):=bM fun f Z v h mem=>by
 unfold rW at h;split at h
 ·cases h;exact QG _ _ _ mem
 ·cases h;exact OA _ _ _ mem
 ·have:=dm.fn _ _ mem ⟨v,none,[]⟩ (by unfold ag;simp only;rw[h])
  simpa [aee.mem] using this
def afA(r:M3)(s:V3):AV:=.agg (mC r++vL s)
theorem Le(r:M3)(s:V3)(M:Mem):kO prog 195 [afA r s] M (.agg (mC r)) M:=by
 have U:aT prog 195=some f195:=by kernel_rfl
 refine ak tx ?_ M;obtain⟨V,Z⟩:∃V,aJ f195=[V]:=⟨_,rfl⟩
 obtain⟨X,S⟩:=de Z (l:=[0,1,3,7,0,16,48,127,0,256,768,2047,4095,8191]) (j:=13) (by kernel_rfl) (by decide);simp[aJ,bR,f195] at Z;subst Z;simp[aa,U,f195,ag,rW,afA,mC,vL,bJ,-aK,ao X,br,bk,bl,S,Nat.testBit]
def apM(r:M3)(v:V3):Mem:=[.cells true 0 (mC r),.cells true 0 (vL v),.cells true 0 [.str [],.str [],.str []],.cells true 0 [.str [],.str [],.str []]]
theorem pX(r:M3)(v:V3)(h:mOk r v)(i:Nat)(H:i<3):kO prog 245 [.int .i64 i,.ptr 0 0,.ptr 1 0] (apM r v) (.str (aj (dj (if i=0 then r.1 else if i=1 then r.2.1 else r.2.2) v))) (apM r v):=by
 have U:aT prog 245=some f245:=by kernel_rfl
 obtain⟨Z,X,h3⟩:=h;obtain⟨r1,r2,V⟩:=r;simp only at Z X h3;have S:i=0∨i=1∨i=2:=by omega
 have h:aa (aV prog) (fun _=>[]) (aT prog) (ag bt) 1 245 [.int .i64 i,.ptr 0 0,.ptr 1 0] (apM (r1,r2,V) v)=some ⟨.str (aj (dj (if i=0 then r1 else if i=1 then r2 else V) v)),none,[]⟩:=by rcases S with rfl | rfl | rfl<;>simp[aa,U,f245,ag,bt,apM,mC,vL,uJ,Z,X,h3,Nat.testBit]
 have:=(aq ai (aO _) dm (aR _) h).1;simpa [aee.mem] using this
theorem Ln(r:M3)(v:V3)(h:mOk r v):
  kO prog 244 [.func 245 [.ptr 0 0,.ptr 1 0]] [.cells true 0 (mC r),.cells true 0 (vL v),.cells true 0 [.str [],.str [],.str []]] (vA (mF r v)) [.cells true 0 (mC r),.cells true 0 (vL v),.cells true 0 [.str [],.str [],.str []]]:=by
 have S:aT prog 244=some f244:=by kernel_rfl
 obtain⟨L,V⟩:∃L:List (FuncId×List AV×Mem×aee),L=[(245,[.int .i64 (0:Nat),.ptr 0 0,.ptr 1 0],apM r v,⟨.str (aj (dj r.1 v)),none,[]⟩),
  (245,[.int .i64 (1:Nat),.ptr 0 0,.ptr 1 0],apM r v,⟨.str (aj (dj r.2.1 v)),none,[]⟩),
  (245,[.int .i64 (2:Nat),.ptr 0 0,.ptr 1 0],apM r v,⟨.str (aj (dj r.2.2 v)),none,[]⟩)]:=⟨_,rfl⟩
 have U:qS prog (jI L):=jr fun x Z=>by
  rw[V] at Z;simp only[lM] at Z;rcases Z with rfl | rfl | rfl
  ·exact⟨by simpa [aee.mem] using pX r v h 0 (by decide),fun p X=>by cases X⟩
  ·exact⟨by simpa [aee.mem] using pX r v h 1 (by decide),fun p X=>by cases X⟩
  ·exact⟨by simpa [aee.mem] using pX r v h 2 (by decide),fun p X=>by cases X⟩
 refine gT U ?_;clear U;subst V;unfold mF;obtain⟨x,Z⟩:=xE (dj r.1 v);obtain⟨y,R⟩:=xE (dj r.2.1 v);obtain⟨z,O⟩:=xE (dj r.2.2 v);rw[←Z,←R,←O];simp[aa,S,f244,jI,apM,vA,vL,mC,bJ]
theorem GG(r:M3)(v:V3)(h:mOk r v)(M:Mem):kO prog 196 [.agg (mC r),vA v] M (vA (mF r v)) M:=by
 have U:aT prog 196=some f196:=by kernel_rfl
 obtain⟨L,Z⟩:=xE (α:=List (FuncId×List AV×Mem×aee)) [(244,[.func 245 [.ptr 0 0,.ptr 1 0]],[.cells true 0 (mC r),.cells true 0 (vL v),.cells true 0 [.str [],.str [],.str []]],⟨vA (mF r v),none,[]⟩)];have X:qS prog (jI L):=jr fun x V=>by rw[Z,List.mem_singleton] at V;subst V;exact⟨by simpa [aee.mem] using Ln r v h,fun p S=>by cases S⟩
 refine cE X (lv:=fun _=>[]) (K:=1) rfl (by rfl) ?_ M;clear X;subst Z;obtain⟨w,R⟩:=xE (mF r v);rw[←R];simp[aa,U,f196,jI,vA,vL,mC]
def adM(u v:V3):Mem:=[.cells true 0 (vL u),.cells true 0 (vL v),.cells true 0 [.str [],.str [],.str []],.cells true 0 [.str [],.str [],.str []]]
theorem wL(u v:V3)(H:vF u)(I:vF v)(i:Nat)(J:i<3):kO prog 247 [.int .i64 i,.ptr 0 0,.ptr 1 0] (adM u v) (.str (aj (if i=0 then u.1+v.1 else if i=1 then u.2.1+v.2.1 else u.2.2+v.2.2))) (adM u v):=by
 have Z:aT prog 247=some f247:=by kernel_rfl
 obtain⟨⟨X,V⟩,⟨U,S⟩,R,O⟩:=H;obtain⟨⟨N,M⟩,⟨L,K⟩,G,F⟩:=I;have D:i=0∨i=1∨i=2:=by omega
 refine gT bK ?_;rcases D with rfl | rfl | rfl<;>simp[aa,Z,f247,ag,aE,aH,ar,adM,vL,X,V,U,S,R,O,N,M,L,K,G,F,Nat.testBit]
theorem Lp(u v:V3)(H:vF u)(I:vF v):
  kO prog 244 [.func 247 [.ptr 0 0,.ptr 1 0]] [.cells true 0 (vL u),.cells true 0 (vL v),.cells true 0 [.str [],.str [],.str []]] (vA (pT u v)) [.cells true 0 (vL u),.cells true 0 (vL v),.cells true 0 [.str [],.str [],.str []]]:=by
 have S:aT prog 244=some f244:=by kernel_rfl
 obtain⟨L,V⟩:∃L:List (FuncId×List AV×Mem×aee),L=[(247,[.int .i64 (0:Nat),.ptr 0 0,.ptr 1 0],adM u v,⟨.str (aj (u.1+v.1)),none,[]⟩),
  (247,[.int .i64 (1:Nat),.ptr 0 0,.ptr 1 0],adM u v,⟨.str (aj (u.2.1+v.2.1)),none,[]⟩),
  (247,[.int .i64 (2:Nat),.ptr 0 0,.ptr 1 0],adM u v,⟨.str (aj (u.2.2+v.2.2)),none,[]⟩)]:=⟨_,rfl⟩
 have U:qS prog (jI L):=jr fun x Z=>by
  rw[V] at Z;simp only[lM] at Z;rcases Z with rfl | rfl | rfl
  ·exact⟨by simpa [aee.mem] using wL u v H I 0 (by decide),fun p X=>by cases X⟩
  ·exact⟨by simpa [aee.mem] using wL u v H I 1 (by decide),fun p X=>by cases X⟩
  ·exact⟨by simpa [aee.mem] using wL u v H I 2 (by decide),fun p X=>by cases X⟩
 refine gT U ?_;clear U;subst V;unfold pT;obtain⟨x,Z⟩:=xE (u.1+v.1);obtain⟨y,R⟩:=xE (u.2.1+v.2.1);obtain⟨z,O⟩:=xE (u.2.2+v.2.2);rw[←Z,←R,←O];simp[aa,S,f244,jI,adM,vA,vL,bJ]
theorem O1(u v:V3)(H:vF u)(I:vF v)(M:Mem):kO prog 198 [vA u,vA v] M (vA (pT u v)) M:=by
 have U:aT prog 198=some f198:=by kernel_rfl
 obtain⟨L,Z⟩:=xE (α:=List (FuncId×List AV×Mem×aee)) [(244,[.func 247 [.ptr 0 0,.ptr 1 0]],[.cells true 0 (vL u),.cells true 0 (vL v),.cells true 0 [.str [],.str [],.str []]],⟨vA (pT u v),none,[]⟩)];have X:qS prog (jI L):=jr fun x V=>by rw[Z,List.mem_singleton] at V;subst V;exact⟨by simpa [aee.mem] using Lp u v H I,fun p S=>by cases S⟩
 refine ak X ?_ M;clear X;subst Z;obtain⟨w,R⟩:=xE (pT u v);rw[←R];simp[aa,U,f198,jI,vA,vL]
variable{v:V3}
theorem Gt(h:vC v)(M:Mem):kO prog 194 [vA v] M (.tuple [vA v,.int .i64 0]) M:=by
 have Z:aT prog 194=some f194:=by kernel_rfl
 refine ak tx ?_ M;obtain⟨X,V,h3,U⟩:=h;simp[aa,Z,f194,ag,rW,bt,vA,X,V,h3,U]
theorem GF(h:vC v)(M:Mem):kO prog 218 [vA v] M (.bool false) M:=by
 have Z:aT prog 218=some f218:=by kernel_rfl
 refine ak dm ?_ M;obtain⟨X,V,h3,U⟩:=h;simp[aa,Z,f218,ag,bt,vA,X,V,h3,U]
open Classical in
noncomputable def zN(f:FuncId)(args:List AV):Option AV:=
 match f,args with
 |218,[.agg [.str a,.str b,.str c]]=>match v3P a b c with
  |some v=>if vC v then some (.bool false) else none
  |none=>none
 |_,_=>none
theorem AG:qS prog (ag zN):=bM fun f Z v h mem=>by
 unfold zN at h;split at h
 ·split at h
  ·rename_i v X
   split at h
   ·rename_i V
    cases h;obtain⟨rfl,rfl,rfl⟩:=ke X;exact GF V mem
   ·cases h
  ·cases h
 ·cases h
variable{a:V3}
theorem Lq(H:vC a):kO prog 261 [.slice 0 0 1 none,.func 218 []] [.cells false 3 (vL a)] (.int .i64 (-1)) [.cells false 3 (vL a)]:=by
 have Z:aT prog 261=some f261:=by kernel_rfl
 refine ca (lv:=(fun _=>[8])) (K:=6) AG ?_;simp[aa,Z,f261,ag,zN,vL,uJ,H,bh,fy,w1]
theorem Lr{b c d:V3}(H:vC a)(I:vC b)(hc:vC c)(hd:vC d):kO prog 261 [.slice 0 0 4 none,.func 218 []] [.cells false 3 (vL a++(vL b++(vL c++vL d)))] (.int .i64 (-1)) [.cells false 3 (vL a++(vL b++(vL c++vL d)))]:=by
 have Z:aT prog 261=some f261:=by kernel_rfl
 refine ca (lv:=(fun _=>[8])) (K:=6) AG ?_;simp[aa,Z,f261,ag,zN,vL,uJ,H,I,hc,hd,bh,fy,w1,w2,w3,w4]
variable{M:Mem}{b n:Nat}{o:Bool}
theorem Gu{C:List AV}(H:AV.aej C=true)(I:M[b]? =some (.cells o 3 C))(h:kO prog 261 [.slice 0 0 n none,.func 218 []] [.cells false 3 C] (.int .i64 (-1)) [.cells false 3 C]):
  kO prog 135 [.slice b 0 n none] M (.int .i64 0) M:=by
 have S:=aff (rest:=[.func 218 []]) H rfl rfl I (List.take_of_length_le (Nat.le_refl _)) h;have Z:aT prog 217=some f217:=by kernel_rfl
 have V:qS prog (cX 261 [.slice b 0 n none,.func 218 []] (.int .i64 (-1)) (fun N=>N=M)):=dO fun N X=>by subst X;exact S
 have R:aa (aV prog) (fun _=>[]) (aT prog) (cX 261 [.slice b 0 n none,.func 218 []] (.int .i64 (-1)) (fun N=>N=M)) 1 217 [.slice b 0 n none,.func 218 []] M=some ⟨.bool false,none,[]⟩:=by clear V;simp[aa,Z,f217,cX]
 have h3:=(aq ai (aO _) V (aR _) R).1;rw[show aee.mem ⟨.bool false,none,[]⟩ M=M by simp[aee.mem]] at h3;have O:aT prog 135=some f135:=by kernel_rfl
 have U:qS prog (cX 217 [.slice b 0 n none,.func 218 []] (.bool false) (fun N=>N=M)):=dO fun N X=>by subst X;exact h3
 refine gT U ?_;clear U;simp[aa,O,f135,cX]
def afC(r:M3)(s:V3):Prop:=vC r.1∧vC r.2.1∧vC r.2.2∧vC s
variable{r:M3}{s:V3}
theorem Gs(h:afC r s)(M:Mem):kO prog 84 [afA r s] M (.int .i64 0) M:=by
 have U:aT prog 84=some f84:=by kernel_rfl
 obtain⟨S,R,h3,O⟩:=h;obtain⟨L,Z⟩:=xE (α:=List (FuncId×List AV×Mem×aee)) [(135,[.slice 1 0 4 none],[.cells true 0 (mC r++vL s),.cells true 3 (mC r++vL s)],⟨.int .i64 0,none,[]⟩)];have X:qS prog (jI L):=jr fun x V=>by rw[Z,List.mem_singleton] at V;subst V;exact⟨by simpa [aee.mem] using Gu (M:=[.cells true 0 (mC r++vL s),.cells true 3 (mC r++vL s)]) (b:=1) (C:=vL r.1++(vL r.2.1++(vL r.2.2++vL s))) rfl rfl (Lr S R h3 O),fun p N=>by cases N⟩
 refine ak X ?_ M;clear X;subst Z;simp[aa,U,f84,jI,afA,mC,vL]
variable{p:V3}
theorem yU(h:afC r s)(H:vC p)(M:Mem):kO prog 193 [afA r s,vA p] M (.int .i64 0) M:=by
 have U:aT prog 193=some f193:=by kernel_rfl
 obtain⟨L,X⟩:=xE (α:=List (FuncId×List AV×Mem×aee)) [(84,[afA r s],[.cells true 0 (mC r++vL s),.cells true 0 (vL p)],⟨.int .i64 0,none,[]⟩),(135,[.slice 2 0 1 none],[.cells true 0 (mC r++vL s),.cells true 0 (vL p),.cells true 3 (vL p)],⟨.int .i64 0,none,[]⟩)];have V:qS prog (jI L):=jr fun x Z=>by
  rw[X] at Z;simp only[lM] at Z;rcases Z with rfl | rfl
  ·exact⟨by simpa [aee.mem] using Gs h _,fun p H=>by cases H⟩
  ·exact⟨by simpa [aee.mem] using Gu (M:=[.cells true 0 (mC r++vL s),.cells true 0 (vL p),.cells true 3 (vL p)]) (b:=2) (C:=vL p) rfl rfl (Lq H),fun p H=>by cases H⟩
 refine ak V ?_ M;clear V;subst X;simp[aa,U,f193,jI,afA,mC,vL,vA]
structure afK (r:M3)(s p:V3):Prop where
 ck:afC r s
 pk:vC p
 mm:mOk r p
 fk:vF (mF r p)∧vF s
 rk:vC (pT (mF r p) s)
theorem Gr(h:afK r s p)(M:Mem):kO prog 114 [afA r s,vA p] M (.tuple [vA (pT (mF r p) s),.int .i64 0]) M:=by
 have O:aT prog 114=some f114:=by kernel_rfl
 obtain⟨N,L,K,⟨G,Z⟩,F⟩:=h;have U:qS prog (y9.or (ag (dx [(193,[afA r s,vA p],.int .i64 0),(195,[afA r s],.agg (mC r)),(196,[.agg (mC r),vA p],vA (mF r p)),(198,[vA (mF r p),vA s],vA (pT (mF r p) s)),(194,[vA (pT (mF r p) s)],.tuple [vA (pT (mF r p) s),.int .i64 0])])) (ag rW)):=qS.or (eG fun e S M=>by
  simp only[lM] at S;rcases S with rfl | rfl | rfl | rfl | rfl
  ·exact yU N L M
  ·exact Le r s M
  ·exact GG r p K M
  ·exact O1 _ _ G Z M
  ·exact Gt F M) tx
 refine ak U ?_ M;clear U;obtain⟨R,X⟩:∃R,aJ f114=[R]:=⟨_,rfl⟩
 obtain⟨V,B⟩:=de X (l:=[0,1,0,7,15,0,32,127,255,511,1023,1023,4095,8191]) (j:=13) (by kernel_rfl) (by decide);simp[aJ,bR,f114] at X;subst X;obtain⟨w,D⟩:=xE (mF r p);rw[←D];obtain⟨q,C⟩:=xE (pT w s);rw[←C];simp[aa,O,f114,y9.or,dx,ag,rW,afA,mC,vL,vA,-aK,bd V,bZ,ff,ef,cw,cM,gQ,bef,Nat.testBit]
def U8(k:Nat)(Q:List (Rat×Rat)):Prop:=∀q∈Q,big k q.1∧big k q.2
variable{Q:List (Rat×Rat)}
theorem oS{i:Nat}{q:Rat×Rat}(h:Q[i]? =some q):Q.getD i (0,0)=q:=by simp[List.getD,h]
theorem Lg(Q:List (Rat×Rat))(n:Nat)(hn:n≤Q.length)(hQ:U8 40 Q)(hl:Q.length≤1000000000)(hd:∀i a b,Q[i]? =some a→Q[i+1]? =some b→b.1-a.1≠0):
  kO prog 80 [.slice 0 0 Q.length none,.int .i64 n] [.cells false 2 (kC (kT Q))] (.tuple [.str (aj (mY Q n).1),.str (aj (mY Q n).2)]) [.cells false 2 (kC (kT Q))]:=by
 have S:aT prog 80=some f80:=by kernel_rfl
 have z:aj 0=[48]:=rfl;refine gT bK ?_;have kl:(kC (kT Q)).length=2*Q.length:=by rw[gp,eh]
 unfold mY;by_cases R:Q=[]
 ·subst R
  simp[aa,S,f80,z]
 ·have W:0<Q.length:=List.length_pos_iff.2 R
  have Z :¬Q.length=0:=by omega
  rw[if_neg R];by_cases J:n=0
  ·subst J
   obtain⟨q,I⟩:∃q,Q[0]? =some q:=⟨Q[0],List.getElem?_eq_getElem W⟩
   obtain⟨k1,k2,H⟩:=M1 (UA I);rw[if_pos rfl,oS I];simp at H;simp[aa,S,f80,z,R,W,H]
  ·rw[if_neg J]
   obtain⟨m,rfl⟩:∃m,n=m+1:=⟨n-1,by omega⟩
   obtain⟨a,O⟩:∃q,Q[m]? =some q:=⟨Q[m],List.getElem?_eq_getElem (by omega)⟩
   obtain⟨a1,a2,a3⟩:=M1 (UA O);have w2:IntKind.i64.wrap (((m+1:Nat):Int)-1)=(m:Int):=by rw[af];omega
   have e1:m+1-1=m:=by omega
   rw[e1,oS O];have hm:m<Q.length:=by omega
   by_cases N:m+1=Q.length
   ·rw[if_pos N]
    rw[N] at w2 ⊢;simp[aa,S,f80,z,Z,hm,a3,w2]
   ·rw[if_neg N]
    have Yd :¬((m:Int)+1=Q.length):=by omega
    obtain⟨b,L⟩:∃q,Q[m+1]? =some q:=⟨Q[m+1],List.getElem?_eq_getElem (by omega)⟩
    obtain⟨b1,b2,b3⟩:=M1 (UA L);rw[oS L];have X:=hd m a b O L;obtain⟨K,D⟩:=hQ a (List.mem_of_getElem? O);obtain⟨C,B⟩:=hQ b (List.mem_of_getElem? L);have A:=qV B D;have u:=qV C K;have j:=MM A u;have D4:=Bk j (K.mono (by omega));unfold KV;obtain⟨⟨f1,f2⟩,f3,f4⟩:dc a.1∧dc a.2:=⟨dr (by decide) (by decide) K,dr (by decide) (by decide) D⟩;obtain⟨⟨g1,g2⟩,g3,g4⟩:dc b.1∧dc b.2:=⟨dr (by decide) (by decide) C,dr (by decide) (by decide) B⟩;obtain⟨⟨i1,i2⟩,i3,i4⟩:dc (b.2-a.2)∧dc (b.1-a.1):=⟨dr (by decide) (by decide) A,dr (by decide) (by decide) u⟩;obtain⟨⟨G,F⟩,V,U⟩:dc ((b.2-a.2) / (b.1-a.1))∧dc ((b.2-a.2) / (b.1-a.1)*a.1):=⟨dr (by decide) (by decide) j,dr (by decide) (by decide) D4⟩;clear A u j D4 K D C B;obtain⟨x,hx⟩:=xE (b.2-a.2);obtain⟨y,hy⟩:=xE (b.1-a.1);rw[←hx] at i1 i2 G F V U ⊢;rw[←hy] at i3 i4 G F V U X ⊢;obtain⟨s,hs⟩:=xE (x / y);rw[←hs] at G F V U ⊢;obtain⟨t,ht⟩:=xE (s*a.1);rw[←ht] at V U ⊢;have ka:m*2+2≤(kC (kT Q)).length:=by omega
    have kb:(m+1)*2+2≤(kC (kT Q)).length:=by omega
    obtain⟨v,hv⟩:=xE (m+1);rw[←hv] at N b1 kb w2 ⊢;have Y:¬(v:Int)=Q.length:=by omega
    have v0:¬v=0:=by omega
    have vl:v<Q.length:=by omega
    simp[aa,S,f80,Z,hm,Y,v0,vl,a1,b1,ka,kb,w2,ag,aE,aH,ar,f1,f2,f3,f4,g1,g2,g3,g4,←hx,←hy,i1,i2,i3,i4,X,←hs,G,F,V,U,←ht,Nat.testBit]
def DK:List AV→Option (List (List UInt8×List UInt8))
 | []=>some []
 |.str a::.str b::l=>match DK l with
  |some r=>some ((a,b)::r)
  |none=>none
 |_=>none
theorem Kg:∀L:List (List UInt8×List UInt8),DK (kC L)=some L
 | []=>rfl
 |k::L=>by simp[kC,DK,Kg L]
theorem By:∀{cs:List AV} {L:List (List UInt8×List UInt8)},DK cs=some L→cs=kC L
 | [],L,h=>by cases h;rfl
 | [v],L,h=>by cases v<;>cases h
 |v::u::l,L,h=>by
  unfold DK at h;split at h
  next Z=>cases Z
  ·rename_i a b V Z
   cases Z;split at h
   ·rename_i r X
    cases h;rw[kC,By X]
   ·cases h
  ·cases h
def Xw(M:Mem)(x:AV)(L:List (List UInt8×List UInt8)):Prop:=∃b o Z,x=.slice b 0 L.length none∧M[b]? =some (.cells o 2 Z)∧Z.take (2*L.length)=kC L
def Cl(M:Mem):AV→Option (List (List UInt8×List UInt8))
 |.slice b 0 n none=>match M[b]? with
  |some (.cells _ 2 cs)=>if 2*n≤cs.length then DK (cs.take (2*n)) else none
  |_=>none
 |.qF=>some []
 |_=>none
variable{L:List (List UInt8×List UInt8)}{x:AV}
theorem Cm(h:Cl M x=some L):Xw M x L∨(x=.qF∧L=[]):=by
 unfold Cl at h;split at h
 ·rename_i b n
  split at h
  ·rename_i o X V
   split at h
   ·rename_i S
    have Z:=By h;have U:n=L.length:=by have:=congrArg List.length Z;rw[gp,List.length_take] at this;omega
    subst U;exact .inl ⟨b,o,X,rfl,V,Z⟩
   ·cases h
  ·cases h
 ·cases h;exact .inr ⟨rfl,rfl⟩
 ·cases h
variable{cs:List AV}
theorem SU{H:Bool}(h:M[b]? =some (.cells H 2 cs))(I:2*n≤cs.length)(J:cs.take (2*n)=kC L):Cl M (.slice b 0 n none)=some L:=by simp only[Cl,h];rw[if_pos I,J,Kg]
theorem R6(n:Nat):∀L:List (List UInt8×List UInt8),AV.aen n (kC L)=true
 | []=>by simp[kC,AV.aen]
 |k::L=>by simp[kC,AV.aen,AV.under,R6 n L]
theorem Uz:∀{L:List (List UInt8×List UInt8)} {i:Nat} {v:AV} (f:Nat→Option Nat),(kC L)[i]? =some v→v.ren f=v:=by
 intro L i v f h;have Z:=R5 f L;rw[gw] at Z;have:((kC L).map (AV.ren f))[i]? =(kC L)[i]? :=by rw[Z]
 rw[List.getElem?_map,h] at this;simpa using this
theorem KO{ks:List Nat}(h:M[b]? =some (.cells o 2 cs))(H:cs.take (2*L.length)=kC L):ae2 ks M b (.cells false 2 (kC L)):=by
 refine⟨R6 _ _,o,cs,h,fun j v Z=>?_⟩;have X:j<2*L.length:=by have:=gL Z;rw[gp] at this;exact this
 have:cs[j]? =(kC L)[j]? :=by rw[←H,List.getElem?_take_of_lt X]
 rw[this,Z,Uz _ Z]
theorem SG{P:Program}{f:FuncId}{rest:List AV}{v:AV}(hr:AV.aej rest=true)(H:v.closed=true)(h:kO P f (.slice 0 0 L.length none::rest) [.cells false 2 (kC L)] v [.cells false 2 (kC L)])(I:Xw M x L):kO P f (x::rest) M v M:=by
 obtain⟨b,o,cs,rfl,V,U⟩:=I;have S:=gL V;have R:AV.aen [b].length (.slice 0 0 L.length none::rest)=true:=by
  show(decide (0<1)&&AV.aen 1 rest)=true
  rw[aX hr];rfl
 have:=kO.frame (M:=M) (new:=[]) [b] (m:=[.cells false 2 (kC L)]) rfl (by simpa using S) R (fun i s Z=>by
  cases i with
  |zero=>simp at Z;subst Z;exact KO V U
  |succ i=>simp at Z) rfl (by simpa using h)
 have X:v.ren (fq [b] M.length)=v:=by have:=aL (vs:=[v]) (ρ:=fq [b] M.length) (by simp[AV.aej,H]);simpa [AV.aez] using this
 simpa [AV.aez,AV.ren,fq,aL hr,X] using this
def Ng:List (List UInt8×List UInt8)→Option (List (Rat×Rat))
 | []=>some []
 |k::l=>match ek k.1,ek k.2,Ng l with
  |some a,some b,some r=>some ((a,b)::r)
  |_,_,_=>none
theorem Oe:∀Q:List (Rat×Rat),Ng (kT Q)=some Q
 | []=>rfl
 |q::Q=>by have:=Oe Q;simp only[kT,List.map_cons,Ng,ar] at this ⊢;rw[this]
theorem xN:∀{L:List (List UInt8×List UInt8)} {Q:List (Rat×Rat)},Ng L=some Q→L=kT Q
 | [],Q,h=>by cases h;rfl
 |k::L,Q,h=>by
  unfold Ng at h;split at h
  ·rename_i a b r Z X h3
   cases h;have e:=xN h3;obtain⟨V,U⟩:=k;simp only at Z X;rw[e,aA Z,aA X];rfl
  ·cases h
theorem yY(u:List UInt8)(M:Mem):kO prog 141 [.qF,.str u] M (.int .i64 0) M:=by
 have Z:aT prog 141=some f141:=by kernel_rfl
 refine cE (az _) (lv:=fun _=>[5,10]) (K:=1) rfl rfl ?_ M;simp[aa,Z,f141,bh,fy]
theorem Cw(n:Int)(M:Mem):kO prog 80 [.qF,.int .i64 n] M (.tuple [.str [48],.str [48]]) M:=by
 have Z:aT prog 80=some f80:=by kernel_rfl
 refine ak (az _) ?_ M;simp[aa,Z,f80]
def Kj(Q:List (Rat×Rat)):Prop:=U8 40 Q∧Q.length≤1000000000∧∀i a b,Q[i]? =some a→Q[i+1]? =some b→b.1-a.1≠0
theorem Uo(h:U8 40 Q):PT Q:=fun q Z=>⟨dr (by decide) (by decide) (h q Z).1,dr (by decide) (by decide) (h q Z).2⟩
open Classical in
noncomputable def uW:y9:=fun c Z M=>match c,Z with
 |.fn 141,[x,.str u]=>match Cl M x with
  |some L=>match Ng L,ek u with
   |some Q,some r=>if Kj Q∧dc r then some ⟨.int .i64 (dV Q r),none,[]⟩ else none
   |_,_=>none
  |none=>none
 |.fn 80,[x,.int .i64 n]=>match Cl M x with
  |some L=>match Ng L with
   |some Q=>if Kj Q∧0≤n∧n.toNat≤Q.length then some ⟨.tuple [.str (aj (mY Q n.toNat).1),.str (aj (mY Q n.toNat).2)],none,[]⟩ else none
   |_=>none
  |none=>none
 |c,Z=>ag aE c Z M
theorem Hp:qS prog uW:=by
 refine cq fun c U M r h=>?_
 unfold uW at h;split at h
 ·split at h
  ·rename_i L V
   split at h
   ·rename_i Q S hQ R
    split at h
    ·rename_i X
     cases h;refine aC ?_;rw[List.append_nil,aA R];have Z:=xN hQ;rcases Cm V with hx | ⟨rfl,rfl⟩
     ·subst Z
      have:=uO Q S (Uo X.1.1) X.2 X.1.2.1;rw[←eh] at this;exact SG (rest:=[.str (aj S)]) rfl rfl this hx
     ·cases Q with
      |nil=>exact yY _ M
      |cons q Q=>cases Z
    ·cases h
   ·cases h
  ·cases h
 ·split at h
  ·rename_i L V
   split at h
   ·rename_i Q hQ
    split at h
    ·rename_i X
     obtain⟨X,O,N⟩:=X;cases h;refine aC ?_;rw[List.append_nil];have Z:=xN hQ;rcases Cm V with hx | ⟨rfl,rfl⟩
     ·subst Z
      have:=Lg Q _ N X.1 X.2.1 X.2.2;rw[←eh,Int.toNat_of_nonneg O] at this;exact SG (rest:=[.int .i64 _]) rfl rfl this hx
     ·cases Q with
      |nil=>exact Cw _ M
      |cons q Q=>cases Z
    ·cases h
   ·cases h
  ·cases h
 ·exact eW bK h
theorem Sb(h:Kj Q)(H:n≤Q.length):big 700 (mY Q n).1∧big 700 (mY Q n).2:=by
 obtain⟨O,A,h3⟩:=h;have get:∀i,i<Q.length→∃q,Q[i]? =some q∧big 40 q.1∧big 40 q.2:=fun i V=>⟨Q[i],List.getElem?_eq_getElem V,O _ (List.getElem_mem V)⟩
 have z:big 700 0:=NK (by decide);unfold mY;by_cases Z:Q=[]
 ·rw[if_pos Z];exact⟨z,z⟩
 ·have N:0<Q.length:=List.length_pos_iff.2 Z
  rw[if_neg Z];by_cases U:n=0
  ·rw[if_pos U]
   obtain⟨q,K,u,G⟩:=get 0 N;rw[oS K];exact⟨G.mono (by decide),z⟩
  ·rw[if_neg U]
   obtain⟨m,rfl⟩:∃m,n=m+1:=⟨n-1,by omega⟩
   obtain⟨a,F,S,X⟩:=get m (by omega);rw[show m+1-1=m by omega,oS F];by_cases R:m+1=Q.length
   ·rw[if_pos R];exact⟨X.mono (by decide),z⟩
   ·rw[if_neg R]
    obtain⟨b,D,C,B⟩:=get (m+1) (by omega);rw[oS D];unfold KV;have d3:=MM (qV B X) (qV C S);have d4:=Bk d3 (S.mono (by omega));have d5:=qV (X.mono (by omega)) d4;exact⟨d5.mono (by decide),d3.mono (by decide)⟩
theorem Em(Q:List (Rat×Rat))(u:Rat)(h:Kj Q)(H:big 40 u)(M:Mem)(x:AV)(I:Cl M x=some (kT Q)):
  kO prog 87 [x,.str (aj u)] M (.str (aj (rU Q u))) M:=by
 have B:aT prog 87=some f87:=by kernel_rfl
 have X:=xM Q u;obtain⟨A,N⟩:=Sb h X;have m:=Bk N (H.mono (by omega));obtain⟨f1,f2⟩:dc (mY Q (dV Q u)).1:=dr (by decide) (by decide) A;obtain⟨V,U⟩:dc (mY Q (dV Q u)).2:=dr (by decide) (by decide) N;obtain⟨S,R⟩:dc ((mY Q (dV Q u)).2*u):=dr (by decide) (by decide) m;obtain⟨K,G⟩:dc u:=dr (by decide) (by decide) H;have O:dc u:=⟨K,G⟩;have F:(0:Int)≤(dV Q u:Int):=by omega
 obtain⟨n,Z⟩:=xE (dV Q u);unfold rU;rw[←Z] at f1 f2 V U S R X F ⊢;obtain⟨c,D⟩:=xE ((mY Q n).1);obtain⟨s,C⟩:=xE ((mY Q n).2);rw[←D] at f1 f2 ⊢;rw[←C] at V U S R ⊢;have j:aa (aV prog) (fun _=>[]) (aT prog) uW 1 87 [x,.str (aj u)] M=some ⟨.str (aj (c+s*u)),none,[]⟩:=by simp[aa,B,f87,uW,I,Oe,ar,h,O,←Z,X,F,←D,←C,ag,aE,aH,f1,f2,V,U,S,R,K,G]
 have:=(aq ai (aO _) Hp (aR _) j).1;simpa [aee.mem] using this
end Go.Proofs
