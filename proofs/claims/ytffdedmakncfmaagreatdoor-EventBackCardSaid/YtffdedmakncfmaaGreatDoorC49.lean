/- See C54. -/
import Derived.Test.YtffdedmakncfmaaGreatDoorC48
import Derived.Test.YtffdedmakncfmaaGreatDoorC47
import Derived.Test.YtffdedmakncfmaaGreatDoorC45
import Derived.Test.YtffdedmakncfmaaGreatDoorC46
set_option linter.all false
set_option maxRecDepth 100000
set_option maxHeartbeats 40000000
namespace Go.Proofs
open Go.Eng
open Tryz
theorem YI{Q:List (Rat×Rat)}(h:∀(i:Nat) a b,Q[i]? =some a→Q[i+1]? =some b→a.1<b.1):asc Q:=by
 induction Q with
 |nil=>trivial
 |cons a l ih=>
  cases l with
  |nil=>trivial
  |cons b l=>exact⟨h 0 a b rfl rfl,ih fun i c d Z X=>h (i+1) c d Z X⟩
theorem Yt(r:M3)(p c:V3):iU c (mi r (BA p c))=iU (mi r p) (BA c (mi r c)):=by unfold iU mi BA fI;refine Prod.ext ?_ (Prod.ext ?_ ?_)<;>(simp only;grind)
section
variable {x y:AV}{M:Mem}
section
variable (cx:x.afR=true∧y.afR=true)
include cx
theorem yc{H:AV}(ck:H.afR=true)(rk:∀k,H.afP (fun b=>decide (b<M.length+k))=true)(nm:List UInt8)(n v p:V3)(L:List P2)(bck:Bool)(hd:Sb n p){u w:Rat}(I:u=fI n p)(hV:∀Z,kO prog 37 [H,.str (ax u)] (M++Z) (.str (ax w)) (M++Z))(J:cB w)(W:vG p)(Y:vG v)(fk:cB (sgB bck*w))(gs:vG (nO v (sgB bck*w))):
  kO prog 12 [.agg [x,y],.agg ((dR nm n L v).cells .qF .qF .qF H),vA p,.bool (!bck)] M (vA (iU p (nO v (sgB bck*w)))) M:=by
 have m:aS prog 12=some f12:=by kernel_rfl
 obtain⟨c1,c2⟩:=cx;have K:cB (sgB bck):=by cases bck;exact Ub;exact Hw
 have G:ax (sgB bck)=sgT bck:=by cases bck<;>decide +kernel
 have R:=fun M=>pf n p hd M
 rw[←I] at R;have U:=fun M=>ye (sgB bck) w K J M
 rw[G] at U;have S:=fun M=>pg v (sgB bck*w) Y fk M
 have X:=fun M=>pe p _ W gs M
 obtain⟨k,F⟩:=xE (sgB bck*w);rw[←F] at U S X ⊢;obtain⟨e,V⟩:=xE (nO v k);rw[←V] at S X ⊢;obtain⟨q,D⟩:=xE (iU p e);rw[←D] at X ⊢;have C:qS prog (afF.or (gH 37 [H,.str (ax u)] (.str (ax w)) (fun N=>∃Z,N=M++Z)) (ag (cc [(38,[vA n,vA p],.str (ax u)),(36,[.str (sgT bck),.str (ax w)],.str (ax k)),(29,[vA v,.str (ax k)],vA e),(35,[vA p,vA e],vA q)]))):=
  qS.or (iM fun N ⟨Z,hZ⟩=>by subst hZ;exact hV Z) (cD fun e V M=>by
   simp only[lM] at V;rcases V with rfl | rfl | rfl | rfl
   ·exact R M
   ·exact U M
   ·exact S M
   ·exact X M)
 clear R U S X hd hV J W Y gs K fk F V D G I;obtain⟨B,Q⟩:∃B,aG f12=B:=⟨_,rfl⟩
 have o:=cr Q sj;have j:dH [0,0,2,6,0,0,32,96,0,256,768,0,3840,8160,16368,32766,65535,131071] 17=true:=by decide
 simp only[aG,bQ,f12,lA] at Q;subst Q;simp only[lB] at o;obtain⟨-,S',-⟩:=o;have h:aa (bh prog) (fun _=>[]) (aS prog) (afF.or (gH 37 [H,.str (ax u)] (.str (ax w)) (fun N=>∃Z,N=M++Z)) (ag (cc [(38,[vA n,vA p],.str (ax u)),(36,[.str (sgT bck),.str (ax w)],.str (ax k)),(29,[vA v,.str (ax k)],vA e),(35,[vA p,vA e],vA q)]))) 1 12 [.agg [x,y],.agg ((dR nm n L v).cells .qF .qF .qF H),vA p,.bool (!bck)] M=some ⟨vA q,none,[]⟩:=by
  clear C;have O:∀s,(AV.str s).afR=true:=fun _=>rfl
  have hci:∀k n,(AV.int k n).afR=true:=fun _ _=>rfl
  have hcn:AV.qF.afR=true:=rfl;cases bck<;>simp[-getElem?_pos,-AV.afR,-AV.known,-AV.cells,-dy,-List.all_eq_true,O,vS,rS,mS,-bK,-bt,-AV.afP,-afU.afP,aa,m,f12,afF.or,gH,ag,cc,dR,Evc.cells,vA,rk,sgT,-aH,ak S',be,aV,aX,j,Nat.testBit]
 have:=(ar aj (aK _) C (aR _) h).1;simpa [y9.mem] using this
theorem yd(nm:List UInt8){t:I4}(I:tLe 20 t)(hz:¬xW t)(c p:V3)(bck:Bool)(J:vG p)(H:vG c)(W:ZW (A5 (mH t bck)) (BA p c))(Y:vG (mi (A5 (mH t bck)) (BA p c))):
  kO prog 12 [.agg [x,y],.agg ((gu nm t c).cells .qF .qF .qF .qF),vA p,.bool (!bck)] M (vA (iU c (mi (A5 (mH t bck)) (BA p c)))) M:=by
 have C:aS prog 12=some f12:=by kernel_rfl
 obtain⟨c1,c2⟩:=cx;have U:=fun M=>Im (xM I bck) (ug hz bck) M
 have S:=fun M=>NH p c J H M
 have X:=fun M=>Ih _ _ W M
 have Z:=fun M=>pe c _ H Y M
 obtain⟨r,N⟩:=xE (A5 (mH t bck));rw[←N] at U X Z ⊢;obtain⟨d,L⟩:=xE (BA p c);rw[←L] at S X Z ⊢;obtain⟨e,V⟩:=xE (mi r d);rw[←V] at X Z ⊢;obtain⟨q,K⟩:=xE (iU c e);rw[←K] at Z ⊢;have G:qS prog (ag (cc [(40,[tA (mH t bck)],.agg (mC r)),(41,[vA p,vA c],vA d),(39,[.agg (mC r),vA d],vA e),(35,[vA c,vA e],vA q)])):=cD fun e V M=>by
  simp only[lM] at V;rcases V with rfl | rfl | rfl | rfl
  ·exact U M
  ·exact S M
  ·exact X M
  ·exact Z M
 clear U S X Z J H W Y N L V K hz;obtain⟨t1,t2,t3,t4⟩:=t;obtain⟨B,u,o,m⟩:=I;simp only at B u o m;have j:IntKind.i64.wrap (-t2)= -t2:=by rw[af]
 have n3:IntKind.i64.wrap (-t3)= -t3:=by rw[af]
 have n4:IntKind.i64.wrap (-t4)= -t4:=by rw[af]
 obtain⟨F,R⟩:∃F,aG f12=F:=⟨_,rfl⟩
 have D:=cr R sj;have k0:dH [0,1,3,0,8,0,0,64,192,504,1016,2047,4095] 12=true:=by decide
 simp only[aG,bQ,f12,lA] at R;subst R;simp only[lB] at D;obtain⟨-,-,S'⟩:=D;have h:aa (bh prog) (fun _=>[]) (aS prog) (ag (cc [(40,[tA (mH (t1,t2,t3,t4) bck)],.agg (mC r)),(41,[vA p,vA c],vA d),(39,[.agg (mC r),vA d],vA e),(35,[vA c,vA e],vA q)])) 1 12 [.agg [x,y],.agg ((gu nm (t1,t2,t3,t4) c).cells .qF .qF .qF .qF),vA p,.bool (!bck)] M=some ⟨vA q,none,[]⟩:=by
  clear G;have Q:∀s,(AV.str s).afR=true:=fun _=>rfl
  have O:∀k n,(AV.int k n).afR=true:=fun _ _=>rfl
  have hcn:AV.qF.afR=true:=rfl;cases bck<;>simp[-getElem?_pos,-AV.afR,-AV.known,-AV.cells,-dy,-List.all_eq_true,Q,O,vS,rS,mS,-bK,-bt,-AV.afP,-afU.afP,aa,C,f12,ag,cc,gu,Evc.cells,vA,mC,tA,mH,j,n3,n4,bN,-aH,ak S',be,aV,aX,k0,Nat.testBit]
 have:=(ar aj (aK _) G (aR _) h).1;simpa [y9.mem] using this
end
end
variable{Q:List (Rat×Rat)}{k:Nat}{q u:Rat}
section
variable {x:afO}{s:af1}{M:Mem}{p t:Nat}{o o' :Bool}{ev:List AV}{v:V3}
theorem O0{n m:Nat}{a b:V3}(y:vDg n a)(H:vDg m b)(hk:5*(n+m)+10≤k):dg k k (fI a b):=(HV y H).mono hk hk
theorem Xv(bck:Bool):dg 1 1 (sgB bck):=by cases bck<;>exact⟨by decide,by decide⟩
theorem QF{n m:Nat}{e a:V3}(y:vDg k e)(H:vDg n a)(hq:dg m m q):vDg (k+n+m+5) (iU e (nO a q)):=by
 have f:∀{p r:Rat},dg k k p→dg n n r→dg (k+n+m+5) (k+n+m+5) (p+r*q):=fun Z h=>(kV Z (cV h hq) (m:=k+n+m) (by omega) (by omega)).mono (by omega) (by omega)
 exact⟨f y.1 H.1,f y.2.1 H.2.1,f y.2.2 H.2.2⟩
theorem Vj{n m:Nat}{a:V3}(y:vDg n a)(hq:dg m m q):vDg (n+m) (nO a q):=⟨cV y.1 hq,cV y.2.1 hq,cV y.2.2 hq⟩
theorem ON(h:Yy Q u){M:Mem}{b:Nat}{o:Bool}(y:M[b]? =some (.cells o 2 (kC (kT Q)))):
  kO prog 37 [.slice b 0 Q.length none,.str (ax u)] M (.str (ax (jS Q u))) M:=by
 rw[SX h.2.2.1];exact kO.ag6 (rest:=[.str (ax u)]) (iI _) rfl rfl (Ei Q u h) ⟨b,o,_,rfl,y,List.take_length⟩
theorem Vl(h:Xi 2 Q)(y:dg 40 40 u):dg 123 123 (jS Q u):=by obtain⟨Z,X⟩:=Qf h (FM Q u);have m:=cV X y;exact(kV Z m (m:=122) (by omega) (by omega)).mono (by omega) (by omega)
end
end Go.Proofs
namespace Go.Proofs
open Go.Eng
open Tryz
theorem U8(s:af1){i:Nat}{t:Tr}(h:s.T[i]? =some t):∃A B C,s.P[t.1]? =some A∧s.P[t.2.1]? =some B∧s.P[t.2.2]? =some C∧0<dj A B C:=by
 have Z:=Qw s;unfold iQ at Z;simp only[Bool.and_eq_true] at Z;have:=List.all_eq_true.1 Z.1.1.2 t (List.mem_of_getElem? h);split at this
 ·rename_i A B C X V h3
  exact⟨A,B,C,X,V,h3,W7 (by simpa using this)⟩
 ·cases this
theorem U7(s:af1):s.T.length≤1000:=by
 have:∀k<8,(bU k).length≤1000:=by decide
 exact this _ (Nat.mod_lt _ (by decide))
variable{K:Nat}{O:afF}{args:List AV}{f:FuncId}{lv:Code→List Nat}{mem:Mem}{v:AV}
theorem Tp(H:qS prog O){y:Mem}(h:aa (bh prog) lv (aS prog) O K f args mem=some ⟨v,none,y⟩):kO prog f args mem v (mem++y):=by have:=(ar aj (aK _) H (aR _) h).1;simpa [y9.mem] using this
theorem jj(y:qS prog O)(h:aa (bh prog) lv (aS prog) O K f args mem=some ⟨v,none,[]⟩):kO prog f args mem v mem:=by have:=(ar aj (aK _) y (aR _) h).1;simpa [y9.mem] using this
def ZH(a b c d:Rat):Prop:=(cB a∧cB b∧cB c∧cB d)∧cB (a*b)∧cB (c*d)
theorem Gg(a b c d:Rat)(h:ZH a b c d)(M:Mem):kO prog 123 [.str (ax a),.str (ax b),.str (ax c),.str (ax d)] M (.str (ax (a*b-c*d))) M:=by
 have Q:aS prog 123=some f123:=by kernel_rfl
 obtain⟨⟨⟨N,L⟩,⟨h3,G⟩,⟨F,D⟩,C,B⟩,⟨Z,X⟩,V,U⟩:=h;obtain⟨x,S⟩:=xE (a*b);obtain⟨y,R⟩:=xE (c*d);rw[←S] at Z X ⊢;rw[←R] at V U ⊢;refine ao gb ?_ M;simp[aa,Q,f123,ay,ag,eR,fy,N,L,h3,G,F,D,C,B,Z,X,V,U,←S,←R]
def arG(a b c:P2):Prop:=((cB a.1∧cB a.2)∧(cB b.1∧cB b.2)∧cB c.1∧cB c.2)∧ZH (b.1-a.1) (c.2-a.2) (b.2-a.2) (c.1-a.1)
theorem zj(a b c:P2)(h:arG a b c)(M:Mem):kO prog 150 [pA a,pA b,pA c] M (.str (ax (dj a b c))) M:=by
 have hG:aS prog 150=some f150:=by kernel_rfl
 obtain⟨L,G⟩:=a;obtain⟨b1,b2⟩:=b;obtain⟨c1,c2⟩:=c;obtain⟨⟨⟨⟨F,D⟩,C,B⟩,⟨⟨u,o⟩,m,Y⟩,⟨r1,r2⟩,W,J⟩,R⟩:=h;unfold dj;simp only at F D C B u o m Y r1 r2 W J R ⊢;have S:=fun M=>Gg _ _ _ _ R M
 obtain⟨I,Z⟩:=xE (b1-L);obtain⟨H,X⟩:=xE (c2-G);obtain⟨x3,V⟩:=xE (b2-G);obtain⟨x4,U⟩:=xE (c1-L);simp only[←Z,←X,←V,←U] at S ⊢;obtain⟨y,hy⟩:=xE (I*H-x3*x4);rw[←hy] at S ⊢;have hO:qS prog (afF.or (ag (cc [(123,[.str (ax I),.str (ax H),.str (ax x3),.str (ax x4)],.str (ax y))])) (ag eR)):=qS.or (cD fun e he M=>by rw[List.mem_singleton] at he;rw[he];exact S M) gb
 clear S R hy;refine ao hO ?_ M;clear hO;obtain⟨o1,Q⟩:∃o1,aG f150=[o1]:=⟨_,rfl⟩
 obtain⟨N,j1⟩:=cC Q (l:=[0,1,0,4,15,0,32,0,128,511,0,1024,0,4096,16383,0,32768,0,131072,524287,1048575,2097151]) (j:=21) (by kernel_rfl) (by decide);simp[aG,bQ,f150] at Q;subst Q;simp[aa,hG,f150,-aH,ak N,be,aV,aX,j1,afF.or,pA,ay,ag,cc,eR,F,D,C,B,u,o,m,Y,r1,r2,W,J,←Z,←X,←V,←U,Nat.testBit]
theorem ID(a b c:P2)(h:arG a b c)(M:Mem):kO prog 149 [pA a,pA b,pA c] M (.int .i64 (fL (dj a b c))) M:=by
 have V:aS prog 149=some f149:=by kernel_rfl
 have Z:=fun M=>zj a b c h M
 obtain⟨y,U⟩:=xE (dj a b c);rw[←U] at Z ⊢;have S:qS prog (ag (cc [(150,[pA a,pA b,pA c],.str (ax y)),(52,[.str (ax y)],.int .i64 (fL y))])):=cD fun e X M=>by
  simp only[lM] at X;rcases X with rfl | rfl
  ·exact Z M
  ·exact uL y M
 refine ao S ?_ M;simp[aa,V,f149,cc,ag,pA]
open Classical in
noncomputable def xc(f:FuncId)(args:List AV):Option AV:=
 match f,args with
 |149,[.agg [.str a,.str b],.agg [.str c,.str d],.agg [.str e,.str g]]=>match dY a,dY b,dY c,dY d,dY e,dY g with
  |some x,some y,some z,some w,some u,some v=>if arG (x,y) (z,w) (u,v) then some (.int .i64 (fL (dj (x,y) (z,w) (u,v)))) else none
  |_,_,_,_,_,_=>none
 |150,[.agg [.str a,.str b],.agg [.str c,.str d],.agg [.str e,.str g]]=>match dY a,dY b,dY c,dY d,dY e,dY g with
  |some x,some y,some z,some w,some u,some v=>if arG (x,y) (z,w) (u,v) then some (.str (ax (dj (x,y) (z,w) (u,v)))) else none
  |_,_,_,_,_,_=>none
 |f,args=>eR f args
theorem Fg:qS prog (ag xc):=bF fun f args v h mem=>by
 unfold xc at h;split at h
 ·split at h
  ·rename_i x y z w u v Z X h3 V U S
   split at h
   ·rename_i R
    cases h;rw[az Z,az X,az h3,az V,az U,az S];exact ID (x,y) (z,w) (u,v) R mem
   ·cases h
  ·cases h
 ·split at h
  ·rename_i x y z w u v Z X h3 V U S
   split at h
   ·rename_i R
    cases h;rw[az Z,az X,az h3,az V,az U,az S];exact zj (x,y) (z,w) (u,v) R mem
   ·cases h
  ·cases h
 ·have:=gb.fn _ _ mem ⟨v,none,[]⟩ (by unfold ag;simp only;rw[h])
  simpa [y9.mem] using this
variable{b:Rat}
theorem Ya{n:Nat}{a c d:Rat}(y:dg n n a)(H:dg n n b)(hc:dg n n c)(hd:dg n n d)(h0:0<n)(h1:n≤1000):ZH a b c d:=
 ⟨⟨de y h0 (by omega),de H h0 (by omega),de hc h0 (by omega),de hd h0 (by omega)⟩,de (cV y H) (by omega) (by omega),de (cV hc hd) (by omega) (by omega)⟩
section
variable{n m:Nat}{a:Rat}(ha:dg n n a)(hb:dg m m b)
include n m a ha hb
theorem CR:dg (n+m+1) (n+m+1) (a-b):=(Fq ha hb (m:=n+m) (by omega) (by omega)).mono (by omega) (by omega)
theorem WB:dg (n+m+1) (n+m+1) (a+b):=(kV ha hb (m:=n+m) (by omega) (by omega)).mono (by omega) (by omega)
end
variable{c:P2}
theorem CH{n:Nat}{a b:P2}(y:pDg n a)(H:pDg n b)(hc:pDg n c)(h0:0<n)(h1:n≤400):arG a b c:=by
 have f:∀{q:Rat},dg n n q→cB q:=fun h=>de h h0 (by omega)
 exact⟨⟨⟨f y.1,f y.2⟩,⟨f H.1,f H.2⟩,f hc.1,f hc.2⟩,Ya (CR H.1 y.1) (CR hc.2 y.2) (CR H.2 y.2) (CR hc.1 y.1) (by omega) (by omega)⟩
theorem mW{n:Nat}{a b:P2}(y:pDg n a)(H:pDg n b)(hc:pDg n c):dg (8*n+5) (8*n+5) (dj a b c):=
 (CR (cV (CR H.1 y.1) (CR hc.2 y.2)) (cV (CR H.2 y.2) (CR hc.1 y.1))).mono (by omega) (by omega)
def whI(x y z:Int):Int:=if z<(if y<(if x<1 then x else 1) then y else if x<1 then x else 1) then z else if y<(if x<1 then x else 1) then y else if x<1 then x else 1
def whV(A B C q:P2):Int:=whI (fL (dj A B q)) (fL (dj B C q)) (fL (dj C A q))
theorem Vn{A B C q:P2}:0≤whV A B C q↔inQ (M8 A B C q):=by
 unfold whV inQ M8;simp only;generalize fL (dj A B q)=x;generalize fL (dj B C q)=y;generalize fL (dj C A q)=z;unfold whI;constructor
 ·intro h
  repeat' split at h
  all_goals omega
 ·rintro ⟨Z,X,h3⟩
  repeat' split
  all_goals omega
def YH(A B C q:P2):Prop:=arG A B q∧arG B C q∧arG C A q
section
variable {P:List P2}{T:List Tr}{t:Tr}{A B C:P2}{i:Nat}
theorem ur(J:T[i]? =some t)(y:P[t.1]? =some A)(H:P[t.2.1]? =some B)(I:P[t.2.2]? =some C):
  kO prog 97 [.agg [.slice 0 0 P.length none,.slice 1 0 T.length none],.int .i64 (i:Int)] [.cells false 2 (pC P),.cells false 3 (tC T)] (.slice 2 0 3 none) ([.cells false 2 (pC P),.cells false 3 (tC T)]++[.cells true 2 (pC [A,B,C])]):=by
 have R:aS prog 97=some f97:=by kernel_rfl
 obtain⟨S,Q⟩:=Ve J;have X:=gL J;obtain⟨j,Y,W⟩:=t;simp only at y H I S;obtain⟨N,-,-,M⟩:=MB y;obtain⟨L,-,-,G⟩:=MB H;obtain⟨r1,-,-,F⟩:=MB I;have D:=gL y;have u:=gL H;have o:=gL I;obtain⟨Z,V⟩:∃Z,aG f97=[Z]:=⟨_,rfl⟩
 have m:=kJ V (l:=[0,1,0,4,15,31,0,64,0,256,960,1984,0,4096,0,16384,61440,126976,262143,524287]) (by kernel_rfl);have U:OR [0,1,0,4,15,31,0,64,0,256,960,1984,0,4096,0,16384,61440,126976,262143,524287] 20 18=true:=by decide
 simp[aG,bQ,f97] at V;subst V;refine Tp (aw _) (lv:=fun _=>[]) (K:=1) ?_;simp[aa,R,f97,X,S,Q,D,u,o,N,L,r1,M,G,F,pC,-aH,my m,nv,uA,CM,dE,U]
end
theorem Lr:(aG f96).map (fun o=>dm o.toList)=[[0,0,0,6,14,0,0,64,0,256,960,2016,4064,0,16382,32767,65535]]:=by kernel_rfl
theorem Gi(A B C q:P2)(h:YH A B C q):
  kO prog 96 [.slice 0 0 3 none,pA q] [.cells false 2 (pC [A,B,C])] (.int .i64 (whV A B C q)) [.cells false 2 (pC [A,B,C])]:=by
 have Q:aS prog 96=some f96:=by kernel_rfl
 obtain⟨N,M,h3⟩:=h;unfold whV;obtain⟨a,b⟩:=A;obtain⟨c,d⟩:=B;obtain⟨e,f⟩:=C;obtain⟨u,v⟩:=q;obtain⟨x,X⟩:=xE (fL (dj (a,b) (c,d) (u,v)));obtain⟨y,V⟩:=xE (fL (dj (c,d) (e,f) (u,v)));obtain⟨z,U⟩:=xE (fL (dj (e,f) (a,b) (u,v)));rw[←X,←V,←U];unfold whI;obtain⟨S,Z⟩:∃S,aG f96=S:=⟨_,rfl⟩
 have R:=cr Z Lr;have L:dH [0,0,0,6,14,0,0,64,0,256,960,2016,4064,0,16382,32767,65535] 16=true:=by decide
 simp only[aG,bQ,f96,List.nil_append,List.append_nil] at Z;subst Z;simp only[lB] at R;refine jj Fg (lv:=fun _=>[5,6]) (K:=5) ?_;simp[aa,Q,f96,aT,ga,pA,pC,w1,w2,w3,-aH,ak R,be,aV,aX,L,ag,xc,ay,N,M,h3,←X,←V,←U,Nat.testBit]
variable{M:Mem}
section
variable {P:List P2}{T:List Tr}{t:Tr}{A B C q:P2}{i:Nat}
theorem ru(H:T[i]? =some t)(I:P[t.1]? =some A)(J:P[t.2.1]? =some B)(W:P[t.2.2]? =some C){pb tb:Nat}{o1 o2:Bool}(y:M[pb]? =some (.cells o1 2 (pC P)))(m2:M[tb]? =some (.cells o2 3 (tC T))):
  kO prog 97 [.agg [.slice pb 0 P.length none,.slice tb 0 T.length none],.int .i64 (i:Int)] M (.slice M.length 0 3 none) (M++[.cells true 2 (pC [A,B,C])]):=by
 have X:=gL y;have V:=gL m2;have:=kO.frame (M:=M) (new:=[.cells true 2 (pC [A,B,C])]) (args:=[.agg [.slice 0 0 P.length none,.slice 1 0 T.length none],.int .i64 (i:Int)]) [pb,tb] (m:=[.cells false 2 (pC P),.cells false 3 (tC T)]) rfl (by simp[X,V]) (by rfl) (fun j s Z=>by
  match j with
  |0=>simp at Z;subst Z;exact cW (ez P) y List.take_length
  |1=>simp at Z;subst Z;exact cW (ig T) m2 List.take_length
  |j+2=>simp at Z) rfl (ur H I J W)
 simpa [AV.af9,AV.ren,fj,afU.ren,Qp] using this
theorem Gj(h:YH A B C q){b:Nat}{o:Bool}(y:M[b]? =some (.cells o 2 (pC [A,B,C]))):
  kO prog 96 [.slice b 0 3 none,pA q] M (.int .i64 (whV A B C q)) M:=by
 have X:=gL y;have:=kO.frame (M:=M) (new:=[]) (args:=[.slice 0 0 3 none,pA q]) [b] (m:=[.cells false 2 (pC [A,B,C])]) rfl (by simp[X]) (by rfl) (fun j s Z=>by
  match j with
  |0=>simp at Z;subst Z;exact cW (ez [A,B,C]) y List.take_length
  |j+1=>simp at Z) rfl (by rw[List.append_nil];exact Gi A B C q h)
 simpa [AV.af9,AV.ren,fj,pA] using this
end
end Go.Proofs
namespace Go.Proofs
open Go.Eng
open Tryz
theorem Yr{l:List Tr}{i:Nat}{t:Tr}(h:l[i]? =some t):(tC l)[i*3]? =some (.int .i64 (t.1:Int))∧(tC l)[i*3+1]? =some (.int .i64 (t.2.1:Int))∧(tC l)[i*3+2]? =some (.int .i64 (t.2.2:Int)):=by
 obtain⟨Z,V⟩:=Ve h;have f:∀k,k<3→(tC l)[i*3+k]? =(((tC l).drop (i*3)).take 3)[k]? :=fun k X=>by rw[List.getElem?_take_of_lt X,List.getElem?_drop]
 exact⟨by have:=f 0 (by omega);rw[Z] at this;exact this,by rw[f 1 (by omega),Z];rfl,by rw[f 2 (by omega),Z];rfl⟩
theorem Hf(a b c:P2):dj a b c=dj b c a:=by
 unfold dj
 grind
theorem WW{q:Rat}(h:0<q):0<q.num:=by
 have Z:0≤q.num:=Rat.num_nonneg.2 (by grind);have X:q.num≠0:=fun e=>by
  have:q=0:=Rat.num_eq_zero.1 e
  grind
 omega
structure OnG (A B C q:P2)(f g h:Rat):Prop where
 s0:arG q B C
 s1:arG q C A
 s2:arG q A B
 s:arG A B C
 pos:0<dj A B C
 n:cB f∧cB g∧cB h
 w:cB (dj q B C)∧cB (dj q C A)∧cB (dj q A B)
 m:cB (dj q B C*f)∧cB (dj q C A*g)∧cB (dj q A B*h)
 a:cB (dj q B C*f+dj q C A*g)∧cB (dj q B C*f+dj q C A*g+dj q A B*h)
 d:cB (dj A B C)
theorem Xq(A B C q:P2)(f g h:Rat):(dj q B C*f+dj q C A*g+dj q A B*h) / dj A B C=Uf (M8 A B C q) f g h:=by unfold Uf M8;simp only;rw[Wp,Hf q B C,Hf q C A,Hf q A B]
def vZ(P:List P2)(T:List Tr)(L:List Rat):Mem:=[.cells false 2 (pC P),.cells false 3 (tC T),.cells false 1 (qC L)]
section
variable {P:List P2}{T:List Tr}{L:List Rat}{t:Tr}{A B C q:P2}{f g h:Rat}{i:Nat}
theorem Lg:(aG f98).map (fun o=>dm o.toList)=[[0,0,0,4,12,30,62,0,0,256,768,1920,3968,8191,16383],[0,0,2,6,0,16,48,0,128,384,1022,2047,4095]]:=by kernel_rfl
theorem Q3(y:T[i]? =some t)(hA:P[t.1]? =some A)(hB:P[t.2.1]? =some B)(hC:P[t.2.2]? =some C)(hf:L[t.1]? =some f)(hg:L[t.2.1]? =some g)(hh:L[t.2.2]? =some h)(ok:OnG A B C q f g h):
  kO prog 98 [.agg [.slice 0 0 P.length none,.slice 1 0 T.length none],.slice 2 0 L.length none,.int .i64 (i:Int),pA q] (vZ P T L) (.str (ax (Uf (M8 A B C q) f g h))) (vZ P T L):=by
 have hG:aS prog 98=some f98:=by kernel_rfl
 have hc:=ur y hA hB hC;obtain⟨c0,c1,c2⟩:=Yr y;obtain⟨k1,k2⟩:=Ve y;have m:=gL y;have l1:=gL hf;have l2:=gL hg;have l3:=gL hh;have v1:(qC L)[t.1]? =some (.str (ax f)):=by simp[qC,hf]
 have v2:(qC L)[t.2.1]? =some (.str (ax g)):=by simp[qC,hg]
 have v3:(qC L)[t.2.2]? =some (.str (ax h)):=by simp[qC,hh]
 have ql:(qC L).length=L.length:=by simp[qC]
 rw[←Xq];obtain⟨r0,r1,r2,r,pos,⟨⟨n1,n2⟩,⟨n3,n4⟩,n5,n6⟩,⟨⟨w1,w2⟩,⟨w3,w4⟩,w5,w6⟩,⟨⟨j,Y⟩,⟨W,J⟩,I,H⟩,⟨⟨U,S⟩,X,V⟩,d1,d2⟩:=ok;have pos:0<(dj A B C).num:=WW pos;obtain⟨L1,Z⟩:=xE (α:=List (FuncId×List AV×(Mem→Prop)×y9)) [(97,[.agg [.slice 0 0 P.length none,.slice 1 0 T.length none],.int .i64 (i:Int)],(fun M=>M.length=5∧M[0]? =some (.cells false 2 (pC P))∧M[1]? =some (.cells false 3 (tC T))),⟨.slice 5 0 3 none,none,[.cells true 2 (pC [A,B,C])]⟩)];have R:qS prog (fC L1):=xp fun e he M hp=>by rw[Z,List.mem_singleton] at he;rw[he] at hp ⊢;obtain⟨h5,h0,h1⟩:M.length=5∧M[0]? =some (.cells false 2 (pC P))∧M[1]? =some (.cells false 3 (tC T)):=hp;have:=ru y hA hB hC h0 h1;rw[h5] at this;exact aC this
 have hO:qS prog (afF.or (fC L1) (ag xc)):=qS.or R Fg;have e1:∀M:Mem,(M.length=5∧M[0]? =some (.cells false 2 (pC P))∧M[1]? =some (.cells false 3 (tC T)))→fC L1 (.fn 97) [.agg [.slice 0 0 P.length none,.slice 1 0 T.length none],.int .i64 (i:Int)] M=some ⟨.slice 5 0 3 none,none,[.cells true 2 (pC [A,B,C])]⟩:=fun M h=>by rw[Z];exact ed h
 have e2:∀a M,fC L1 (.fn 150) a M=none:=fun a M=>by rw[Z,bd (.inl (by decide))];rfl
 have e3:∀a M,fC L1 (.fn 36) a M=none:=fun a M=>by rw[Z,bd (.inl (by decide))];rfl
 have e4:∀a M,fC L1 (.fn 68) a M=none:=fun a M=>by rw[Z,bd (.inl (by decide))];rfl
 have e5:∀a M,fC L1 (.fn 80) a M=none:=fun a M=>by rw[Z,bd (.inl (by decide))];rfl
 obtain⟨O,Q⟩:=xE (fC L1);rw[←Q] at hO e1 e2 e3 e4 e5;clear Q Z R hc;obtain⟨i1,i2,i3⟩:=t;obtain⟨x1,y1⟩:=A;obtain⟨x2,y2⟩:=B;obtain⟨x3,y3⟩:=C;obtain⟨u,v⟩:=q;simp only at c0 c1 c2 v1 v2 v3 l1 l2 l3;obtain⟨s0,hs0⟩:=xE (dj (u,v) (x2,y2) (x3,y3));obtain⟨s1,hs1⟩:=xE (dj (u,v) (x3,y3) (x1,y1));obtain⟨s2,hs2⟩:=xE (dj (u,v) (x1,y1) (x2,y2));obtain⟨s3,hs3⟩:=xE (dj (x1,y1) (x2,y2) (x3,y3));rw[←hs0] at w1 w2 j Y U S X V ⊢;rw[←hs1] at w3 w4 W J U S X V ⊢;rw[←hs2] at w5 w6 I H X V ⊢;rw[←hs3] at d1 d2 pos ⊢;obtain⟨p0,N⟩:=xE (s0*f);obtain⟨p1,G⟩:=xE (s1*g);obtain⟨p2,F⟩:=xE (s2*h);rw[←N] at j Y U S X V ⊢;rw[←G] at W J U S X V ⊢;rw[←F] at I H X V ⊢;obtain⟨t1,D⟩:=xE (p0+p1);rw[←D] at U S X V ⊢;obtain⟨t2,o⟩:=xE (t1+p2);rw[←o] at X V ⊢;have z0:dY [48]=some 0:=by
  have:([48]:List UInt8)=ax 0:=by decide
  rw[this];exact ay 0
 have zn:(ai 0).length≤2000∧(ai 1).length≤2000:=⟨by decide,by decide⟩;obtain⟨zn1,zn2⟩:=zn;obtain⟨os,D'⟩:∃os,aG f98=os:=⟨_,rfl⟩
 have PP:=cr D' Lg;have j0:dH [0,0,0,4,12,30,62,0,0,256,768,1920,3968,8191,16383] 14=true:=by decide
 have j1:dH [0,0,2,6,0,16,48,0,128,384,1022,2047,4095] 12=true:=by decide
 simp only[aG,bQ,f98,lA] at D';subst D';simp only[lB] at PP;obtain⟨S',hb1⟩:=PP;have y1' :IntKind.i64.wrap 1=1:=rfl;have y2' :IntKind.i64.wrap 2=2:=rfl;have y3' :IntKind.i64.wrap 3=3:=rfl;have y4' :IntKind.i64.wrap 4=4:=rfl;refine jj hO (lv:=fun _=>[10,11,12]) (K:=5) ?_;clear hO;unfold vZ;simp[-getElem?_pos,-AV.afR,-AV.known,-AV.cells,-dy,-List.all_eq_true,vS,mS,aa,hG,f98,afF.or,e1,e2,e3,e4,e5,aT,ga,pA,pC,y1',y2',y3',y4',m,c0,c1,c2,v1,v2,v3,l1,l2,l3,-aH,ak S',ak hb1,be,aV,aX,j0,j1,ag,xc,eR,fy,ay,z0,zn1,zn2,r0,r1,r2,r,pos,n1,n2,n3,n4,n5,n6,w1,w2,w3,w4,w5,w6,j,Y,W,J,I,H,U,S,X,V,d1,d2,←hs0,←hs1,←hs2,←hs3,←N,←G,←F,←D,←o,Rat.zero_add,Nat.testBit]
end
structure AtG (P:List P2)(T:List Tr)(L:List Rat)(q:P2):Prop where
 tri:∀(i:Nat) t,T[i]? =some t→∃A B C f g h,P[t.1]? =some A∧P[t.2.1]? =some B∧P[t.2.2]? =some C∧L[t.1]? =some f∧L[t.2.1]? =some g∧L[t.2.2]? =some h∧YH A B C q∧OnG A B C q f g h
 hl:T.length≤1000
def Bm(T:List Tr)(L:List Rat)(j:Nat)(w:Rat×Rat×Rat):Rat:=Uf w (L.getD (T.getD j (0,0,0)).1 0) (L.getD (T.getD j (0,0,0)).2.1 0) (L.getD (T.getD j (0,0,0)).2.2 0)
def atV(P:List P2)(T:List Tr)(L:List Rat)(q:P2):AV:=match Qg P q T 0 with
 |none=>.tuple [.str [],.bool false]
 |some (j,w)=>.tuple [.str (ax (Bm T L j w)),.bool true]
def atM(P:List P2)(T:List Tr)(L:List Rat)(q:P2):Mem:=vZ P T L++[.cells true 0 [.slice 0 0 P.length none,.slice 1 0 T.length none],.cells true 0 [.str (ax q.1),.str (ax q.2)]]
def kj(P:List P2)(T:List Tr)(L:List Rat)(q:P2)(c:Go.Eng.Callee)(a:List AV)(N:Mem)(r:y9):Prop:=
 (∃(i:Nat) (t:Tr) (A B C:P2),c=.fn 97∧a=[.agg [.slice 0 0 P.length none,.slice 1 0 T.length none],.int .i64 (i:Int)]∧N=atM P T L q∧T[i]? =some t∧(P[t.1]? =some A∧P[t.2.1]? =some B∧P[t.2.2]? =some C)∧r=⟨.slice 5 0 3 none,none,[.cells true 2 (pC [A,B,C])]⟩)∨
 (∃A B C:P2,c=.fn 96∧a=[.slice 5 0 3 none,pA q]∧N=atM P T L q++[.cells true 2 (pC [A,B,C])]∧YH A B C q∧r=⟨.int .i64 (whV A B C q),none,[]⟩)∨
 (∃(i:Nat) (t:Tr) (A B C:P2) (f g h:Rat) (x:afU),c=.fn 98∧a=[.agg [.slice 0 0 P.length none,.slice 1 0 T.length none],.slice 2 0 L.length none,.int .i64 (i:Int),pA q]∧N=atM P T L q++[x]∧T[i]? =some t∧(P[t.1]? =some A∧P[t.2.1]? =some B∧P[t.2.2]? =some C)∧(L[t.1]? =some f∧L[t.2.1]? =some g∧L[t.2.2]? =some h)∧OnG A B C q f g h∧r=⟨.str (ax (Uf (M8 A B C q) f g h)),none,[]⟩)
variable{A B C:P2}{env:Env}{i:Nat}{t:Tr}
section
variable {P:List P2}{T:List Tr}{L:List Rat}{q:P2}
theorem rz{c:Go.Eng.Callee}{a:List AV}{N:Mem}{r r' :y9}(h:kj P T L q c a N r)(h' :kj P T L q c a N r'):r' =r:=by
 rcases h with⟨i,t,A,B,C,rfl,rfl,rfl,O,⟨M,K,G⟩,rfl⟩ | ⟨A,B,C,rfl,rfl,rfl,_,rfl⟩ | ⟨i,t,A,B,C,f,g,h,x,rfl,rfl,rfl,O,⟨M,K,G⟩,⟨m,j,Y⟩,_,rfl⟩
 ·rcases h' with⟨F,W,D,u,o,_,e,_,Z,⟨X,V,U⟩,rfl⟩ | ⟨_,_,_,e,_⟩ | ⟨_,_,_,_,_,_,_,_,_,e,_⟩
  ·simp only[List.cons.injEq,AV.int.injEq,true_and,and_true] at e
   obtain rfl:i=F :=by omega
   rw[O] at Z;cases Z;rw[M] at X;rw[K] at V;rw[G] at U;obtain rfl:=Option.some.inj X;obtain rfl:=Option.some.inj V;obtain rfl:=Option.some.inj U;rfl
  ·cases e
  ·cases e
 ·rcases h' with⟨_,_,_,_,_,e,_⟩ | ⟨D,u,o,_,_,e,_,rfl⟩ | ⟨_,_,_,_,_,_,_,_,_,e,_⟩
  ·cases e
  ·have e:=List.append_cancel_left e
   simp only[pC,List.cons.injEq,afU.cells.injEq,AV.str.injEq,and_true,true_and] at e;obtain⟨J,I,H,y,e5,e6⟩:=e;obtain rfl:A=D :=Prod.ext (iS J) (iS I);obtain rfl:B=u :=Prod.ext (iS H) (iS y);obtain rfl:C=o :=Prod.ext (iS e5) (iS e6);rfl
  ·cases e
 ·rcases h' with⟨_,_,_,_,_,e,_⟩ | ⟨_,_,_,e,_⟩ | ⟨F,W,D,u,o,f',g',h',x',_,e,_,Z,⟨X,V,U⟩,⟨S,R,Q⟩,_,rfl⟩
  ·cases e
  ·cases e
  ·simp only[List.cons.injEq,AV.int.injEq,true_and,and_true] at e
   obtain rfl:i=F :=by omega
   rw[O] at Z;cases Z;rw[M] at X;rw[K] at V;rw[G] at U;rw[m] at S;rw[j] at R;rw[Y] at Q;obtain rfl:=Option.some.inj X;obtain rfl:=Option.some.inj V;obtain rfl:=Option.some.inj U;obtain rfl:=Option.some.inj S;obtain rfl:=Option.some.inj R;obtain rfl:=Option.some.inj Q;rfl
theorem Q4{f g h:Rat}(y:T[i]? =some t)(H:P[t.1]? =some A)(I:P[t.2.1]? =some B)(J:P[t.2.2]? =some C)(hf:L[t.1]? =some f)(hg:L[t.2.1]? =some g)(W:L[t.2.2]? =some h)(ok:OnG A B C q f g h)(Z:Mem):
  kO prog 98 [.agg [.slice 0 0 P.length none,.slice 1 0 T.length none],.slice 2 0 L.length none,.int .i64 (i:Int),pA q] (vZ P T L++Z) (.str (ax (Uf (M8 A B C q) f g h))) (vZ P T L++Z):=by
 have:=kO.frame (M:=vZ P T L++Z) (new:=[]) (args:=[.agg [.slice 0 0 P.length none,.slice 1 0 T.length none],.slice 2 0 L.length none,.int .i64 (i:Int),pA q]) [0,1,2] (m:=vZ P T L) rfl (by simp[vZ]) (by rfl) (fun j s X=>by
  match j with
  |0=>simp[vZ] at X;subst X;exact cW (ez P) rfl List.take_length
  |1=>simp[vZ] at X;subst X;exact cW (ig T) rfl List.take_length
  |2=>simp[vZ] at X;subst X;exact cW (xF L) rfl List.take_length
  |j+3=>simp[vZ] at X) rfl (by rw[List.append_nil];exact Q3 y H I J hf hg W ok)
 simpa [AV.af9,AV.ren,fj,pA] using this
theorem NW:qS prog (o9 (kj P T L q)):=uf fun c a N r h=>by
 rcases h with⟨i,t,A,B,C,rfl,rfl,rfl,Z,⟨X,V,U⟩,rfl⟩ | ⟨A,B,C,rfl,rfl,rfl,S,rfl⟩ | ⟨i,t,A,B,C,f,g,h,x,rfl,rfl,rfl,Z,⟨X,V,U⟩,⟨R,Q,O⟩,K,rfl⟩
 ·have:=ru (M:=atM P T L q) (pb:=0) (tb:=1) (o1:=false) (o2:=false) Z X V U rfl rfl
  exact aC this
 ·exact bG (Gj (M:=atM P T L q++[.cells true 2 (pC [A,B,C])]) (b:=5) (o:=true) S rfl)
 ·have:=Q4 Z X V U R Q O K ([.cells true 0 [.slice 0 0 P.length none,.slice 1 0 T.length none],.cells true 0 [.str (ax q.1),.str (ax q.2)]]++[x])
  rw[←List.append_assoc] at this;exact aC (by simpa [atM] using this)
variable {O:afF}
theorem I5:(aG f50).map (fun o=>dm o.toList)=[[0,0,3,0,15,31]]:=by kernel_rfl
def AU(L:List Rat)(env:Env):Prop:=ad env 1=.slice 2 0 L.length none∧ad env 3=.ptr 3 0∧ad env 5=.ptr 4 0
theorem rA{b:Code}(I:ah f50=[b])(J:i<T.length)(hT:T.length≤1000){R:List AV}(W:∀f,AV.afV f R=true){z:List UInt8}{n:Int}(y:O (.fn 97) [.agg [.slice 0 0 P.length none,.slice 1 0 T.length none],.int .i64 (i:Int)] (atM P T L q)=some ⟨.slice 5 0 3 none,none,[.cells true 2 R]⟩)(H:O (.fn 96) [.slice 5 0 3 none,pA q] (atM P T L q++[.cells true 2 R])=some ⟨.int .i64 n,none,[]⟩)(Y:∀x,O (.fn 98) [.agg [.slice 0 0 P.length none,.slice 1 0 T.length none],.slice 2 0 L.length none,.int .i64 (i:Int),pA q] (atM P T L q++[x])=some ⟨.str z,none,[]⟩)(hp:AU L env)(l8:ad env 8=.int .i64 (i:Int))(d:Bool):
  (¬0≤n→∃V,aW (bh prog) (fun _=>[8]) O 1100 27 3 true b ⟨env,atM P T L q,d⟩=some (.normal,V)∧(∃x,V.mem=atM P T L q++[x])∧V.agf=d∧ad V.env 8=.int .i64 ((i+1:Nat):Int))∧
  (0≤n→∃U x,aW (bh prog) (fun _=>[8]) O 1100 27 3 true b ⟨env,atM P T L q,d⟩=some (.ret,⟨U,atM P T L q++[x],d⟩)∧ad U 6=.str z∧ad U 7=.bool true):=by
 obtain⟨G,h3,M⟩:=hp;obtain⟨X,S⟩:∃X,aG f50=X :=⟨_,rfl⟩
 have Z :=cr S I5;simp only[aG,bQ,f50,List.nil_append,List.append_nil] at S;subst S;simp only[lB] at Z;simp[ah,aE,f50] at I;subst I;have K:IntKind.i64.wrap ((i:Int)+1)=((i+1:Nat):Int):=by rw[af];omega
 obtain⟨F,Q⟩:=xE (i+1);rw[←Q] at K ⊢;unfold atM vZ pA at*;simp only[List.cons_append,List.nil_append] at y H Y ⊢;constructor
 ·intro N
  simp[-getElem?_pos,-AV.afR,-AV.known,-AV.cells,-dy,-List.all_eq_true,rS,mS,h3,M,l8,J,y,H,W,N,K,-bK,-bt,-aH,-AV.afP,-afU.afP,Dp,bE Z,dh,fG,fJ,dw,dE,jQ,bef,Nat.testBit]
 ·intro N
  simp[-getElem?_pos,-AV.afR,-AV.known,-AV.cells,-dy,-List.all_eq_true,rS,mS,G,h3,M,l8,J,y,H,Y,W,N,-bK,-bt,-aH,-AV.afP,-afU.afP,Dp,bE Z,dh,fG,fJ,dw,dE,jQ,bef,Nat.testBit]
def atE(wr:List Nat)(y:Env)(i:Nat):Env:=[(8,.int .i64 (i:Int))]++((wr.filter fun t=> ![8].contains t).map fun t=>(t,AV.undef))++y
theorem zm{b:Code}(H:ah f50=[b])(y:Env)(i:Nat)(h:AU L y):AU L (atE (ae b) y i)∧ad (atE (ae b) y i) 8=.int .i64 (i:Int):=by simp[ah,aE,f50] at H;subst H;simpa [atE,AU] using h
theorem zo{b:Code}(y:ah f50=[b])(H:Env){s:XS}{k:Nat}{x:afU}{d:Bool}(I:s.mem=atM P T L q++[x])(hd:s.agf=d)(J:ad s.env 8=.int .i64 (k:Int)):
  sS [8] (ae b) H 5 s=⟨atE (ae b) H k,atM P T L q,d⟩:=by
 simp[ah,aE,f50] at y;subst y;unfold atM vZ at I;simp[sS,I,J,hd,atE,atM,vZ,wq,tw,fV]
theorem NX{b:Code}(y:ah f50=[b])(H:AU L env)(I:ad env 8=.int .i64 (T.length:Int))(d:Bool):
  ∃Z,aW (bh prog) (fun _=>[8]) O 1100 27 3 true b ⟨env,atM P T L q,d⟩=some (.exit 0,⟨Z,atM P T L q,d⟩):=by
 obtain⟨X,h3,V⟩:=H;simp[ah,aE,f50] at y;subst y;unfold atM vZ;simp[-getElem?_pos,-AV.afR,-AV.known,-AV.cells,-dy,-List.all_eq_true,mS,h3,I]
theorem AtG.at(H:AtG P T L q)(h:T[i]? =some t):∃A B C f g k,P[t.1]? =some A∧P[t.2.1]? =some B∧P[t.2.2]? =some C∧L[t.1]? =some f∧L[t.2.1]? =some g∧L[t.2.2]? =some k∧YH A B C q∧OnG A B C q f g k∧FY P q t=M8 A B C q∧Bm T L i (FY P q t)=Uf (M8 A B C q) f g k:=by
 obtain⟨A,B,C,f,g,k,Z,X,h3,V,U,S,R,Q⟩:=H.tri i t h;have e:FY P q t=M8 A B C q:=by unfold FY;simp[List.getD,Z,X,h3]
 have N:T.getD i (0,0,0)=t:=by simp[List.getD,h]
 refine⟨A,B,C,f,g,k,Z,X,h3,V,U,S,R,Q,e,?_⟩;unfold Bm;rw[e,N];simp[List.getD,V,U,S]
theorem uM(H:T[i]? =some t){f g k:Rat}(I:P[t.1]? =some A)(J:P[t.2.1]? =some B)(W:P[t.2.2]? =some C)(hf:L[t.1]? =some f)(hg:L[t.2.1]? =some g)(hk:L[t.2.2]? =some k)(Y:YH A B C q)(ok:OnG A B C q f g k)(hO:O=o9 (kj P T L q)):
  O (.fn 97) [.agg [.slice 0 0 P.length none,.slice 1 0 T.length none],.int .i64 (i:Int)] (atM P T L q)=some ⟨.slice 5 0 3 none,none,[.cells true 2 (pC [A,B,C])]⟩∧
  O (.fn 96) [.slice 5 0 3 none,pA q] (atM P T L q++[.cells true 2 (pC [A,B,C])])=some ⟨.int .i64 (whV A B C q),none,[]⟩∧
  ∀x,O (.fn 98) [.agg [.slice 0 0 P.length none,.slice 1 0 T.length none],.slice 2 0 L.length none,.int .i64 (i:Int),pA q] (atM P T L q++[x])=some ⟨.str (ax (Uf (M8 A B C q) f g k)),none,[]⟩:=by
 subst hO;refine⟨?_,?_,fun x=>?_⟩
 ·have y:kj P T L q (.fn 97) [.agg [.slice 0 0 P.length none,.slice 1 0 T.length none],.int .i64 (i:Int)] (atM P T L q) ⟨.slice 5 0 3 none,none,[.cells true 2 (pC [A,B,C])]⟩:=.inl ⟨i,t,A,B,C,rfl,rfl,rfl,H,⟨I,J,W⟩,rfl⟩
  exact gx y fun X Z =>rz y Z
 ·have y:kj P T L q (.fn 96) [.slice 5 0 3 none,pA q] (atM P T L q++[.cells true 2 (pC [A,B,C])]) ⟨.int .i64 (whV A B C q),none,[]⟩:=.inr (.inl ⟨A,B,C,rfl,rfl,rfl,Y,rfl⟩)
  exact gx y fun X Z =>rz y Z
 ·have y:kj P T L q (.fn 98) [.agg [.slice 0 0 P.length none,.slice 1 0 T.length none],.slice 2 0 L.length none,.int .i64 (i:Int),pA q] (atM P T L q++[x]) ⟨.str (ax (Uf (M8 A B C q) f g k)),none,[]⟩:=.inr (.inr ⟨i,t,A,B,C,f,g,k,x,rfl,rfl,rfl,H,⟨I,J,W⟩,⟨hf,hg,hk⟩,ok,rfl⟩)
  exact gx y fun X Z =>rz y Z
section
variable (H:AtG P T L q)
include H
theorem Gu(hO:O=o9 (kj P T L q)){b:Code}(I:ah f50=[b]){j:Nat}(J:T[j]? =some t)(y:inQ (FY P q t))(W:∀(l:Nat) s,l<j→T[l]? =some s→¬inQ (FY P q s)):
  ∃F:Env→Bool→Env×Mem×afU,∀Z d,(AU L Z∧ad Z 8=.int .i64 0)→
   aW (bh prog) (fun _=>[8]) O 1100 27 3 true (.loop b) ⟨Z,atM P T L q,d⟩=some (.ret,⟨(F Z d).1,(F Z d).2.1,d⟩)∧(F Z d).2.1=atM P T L q++[(F Z d).2.2]∧ad (F Z d).1 6=.str (ax (Bm T L j (FY P q t)))∧ad (F Z d).1 7=.bool true:=by
 have hT:=H.hl;have U:=gL J;refine qu rfl (fun Z=>AU L Z∧ad Z 8=.int .i64 0) (fun _ V X x=>X =atM P T L q++[x]∧ad V 6=.str (ax (Bm T L j (FY P q t)))∧ad V 7=.bool true) ?_;rintro Z d ⟨hp,h8⟩;have e0:aA [8] (ae b) Z Z=atE (ae b) Z 0:=by simp[aA,atE,h8]
 rw[e0];have G':(atM P T L q).length=5:=rfl;rw[G'];refine oP (α:=Nat) (fun i=>⟨atE (ae b) Z i,atM P T L q,d⟩) (fun i=>j-i) (fun i=>i≤j) .ret d (fun V X =>∃x,X =atM P T L q++[x]∧ad V 6=.str (ax (Bm T L j (FY P q t)))∧ad V 7=.bool true) (by simp) ?_ 1100 0 (by omega) (by omega);intro i hi;obtain⟨q1,q2⟩:=zm I Z i hp;by_cases S:i=j
 ·right
  subst S;obtain⟨A,B,C,f,g,k,R,Q,N,M,K,G,D,u,e,e2⟩:=H.at J;rw[e] at y;rw[e2];obtain⟨o,m,Y⟩:=uM J R Q N M K G D u hO;obtain⟨V,x,h1,h2,h3⟩:=(rA I U hT (fun f=>UP f _) o m Y q1 q2 d).2 (Vn.2 y);exact⟨V,_,h1,x,rfl,h2,h3⟩
 ·left
  obtain⟨s,hs⟩:∃s,T[i]? =some s:=⟨_,List.getElem?_eq_getElem (by omega)⟩
  obtain⟨A,B,C,f,g,k,R,Q,N,M,K,G,D,u,e,e2⟩:=H.at hs;have hn:=W i s (by omega) hs;rw[e] at hn;obtain⟨o,m,Y⟩:=uM hs R Q N M K G D u hO;obtain⟨s',h1,⟨x,h2⟩,h3,h4⟩:=(rA I (by omega) hT (fun f=>UP f _) o m Y q1 q2 d).1 (fun h=>hn (Vn.1 h));exact⟨i+1,s',h1,zo I Z h2 h3 h4,by omega,by omega⟩
theorem I6(J:O=o9 (kj P T L q)){b:Code}(y:ah f50=[b])(I:∀(l:Nat) s,T[l]? =some s→¬inQ (FY P q s)):
  ∃F:Env→Bool→Env,∀Z d,(AU L Z∧ad Z 8=.int .i64 0)→
   aW (bh prog) (fun _=>[8]) O 1100 27 3 true (.loop b) ⟨Z,atM P T L q,d⟩=some (.exit 0,⟨F Z d,atM P T L q,d⟩)∧True:=by
 have hT:=H.hl;refine bj rfl (fun Z=>AU L Z∧ad Z 8=.int .i64 0) (fun _ _=>True) ?_;rintro Z d ⟨hp,h8⟩;have N:aA [8] (ae b) Z Z=atE (ae b) Z 0:=by simp[aA,atE,h8]
 rw[N];have M:(atM P T L q).length=5:=rfl;rw[M];refine bz (α:=Nat) (fun i=>⟨atE (ae b) Z i,atM P T L q,d⟩) (fun i=>T.length-i) (fun i=>i≤T.length) (.exit 0) _ d (fun _=>True) (by simp) ?_ 1100 0 (by omega) (by omega);intro i hi;obtain⟨S,R⟩:=zm y Z i hp;by_cases X:i=T.length
 ·right
  subst X;obtain⟨K,V⟩:=NX (O:=O) (P:=P) (q:=q) y S R d;exact⟨K,V,trivial⟩
 ·left
  obtain⟨s,U⟩:∃s,T[i]? =some s:=⟨_,List.getElem?_eq_getElem (by omega)⟩
  obtain⟨A,B,C,f,g,k,G,D,u,o,m,j,Y,W,e,e2⟩:=H.at U;have Q:=I i s U;rw[e] at Q;obtain⟨c1,c2,c3⟩:=uM U G D u o m j Y W J;obtain⟨s',V,⟨x,h2⟩,h3,h4⟩:=(rA y (by omega) hT (fun f=>UP f _) c1 c2 c3 S R d).1 (fun h=>Q (Vn.1 h));exact⟨i+1,s',V,zo y Z h2 h3 h4,by omega,by omega⟩
theorem QZ:kO prog 50 [.agg [.slice 0 0 P.length none,.slice 1 0 T.length none],.slice 2 0 L.length none,pA q] (vZ P T L) (atV P T L q) (vZ P T L):=by
 have u:aS prog 50=some f50:=by kernel_rfl
 obtain⟨b,Q⟩:∃b,ah f50=[b]:=⟨_,rfl⟩
 have M:=NW (P:=P) (T:=T) (L:=L) (q:=q);obtain⟨O,X⟩:=xE (o9 (kj P T L q));unfold atV;have y:=H.hl;cases hloc:Qg P q T 0 with
 |none=>
  obtain⟨F,U⟩:=I6 H X Q (Mk hloc);have Z:=fun V d h=>(U V d h).1
  clear U;rw[←X] at M;simp[ah,aE,f50] at Q;subst Q;unfold atM vZ AU at Z;simp only[List.cons_append,List.nil_append] at Z;refine jj M (lv:=fun _=>[8]) (K:=1100) ?_;unfold vZ pA;simp[-AV.afR,-AV.known,-AV.cells,-List.all_eq_true,vS,aa,u,f50,Z]
 |some r=>
  obtain⟨j,w⟩:=r;obtain⟨i,t,o,m,G,rfl,D⟩:=Dh hloc;obtain rfl:i=j:=by omega
  obtain⟨F,U⟩:=Gu H X Q m G D;have Z:=fun V d h=>(U V d h).1
  have S:=fun V d h=>(U V d h).2.1
  have R:=fun V d h=>(U V d h).2.2.1
  have N:=fun V d h=>(U V d h).2.2.2
  clear U;rw[←X] at M;simp[ah,aE,f50] at Q;subst Q;obtain⟨z,Y⟩:=xE (Bm T L i (FY P q t));simp only;rw[←Y] at R ⊢;unfold atM vZ AU at Z S;unfold AU at R N;simp only[List.cons_append,List.nil_append] at Z S;have W:∃r,aa (bh prog) (fun _=>[8]) (aS prog) O 1100 50 [.agg [.slice 0 0 P.length none,.slice 1 0 T.length none],.slice 2 0 L.length none,pA q] (vZ P T L)=some r∧r.v=.tuple [.str (ax z),.bool true]∧r.mem (vZ P T L)=vZ P T L:=by unfold vZ pA;simp[-AV.afR,-AV.known,-AV.cells,-List.all_eq_true,vS,aa,u,f50,Z,S,R,N];done
  obtain⟨r,J,I,h3⟩:=W;have:=(ar aj (aK _) M (aR _) J).1
  rwa [I,h3] at this
theorem Q0{M:Mem}{pb tb y:Nat}{o1 o2 W:Bool}(I:M[pb]? =some (.cells o1 2 (pC P)))(m2:M[tb]? =some (.cells o2 3 (tC T)))(J:M[y]? =some (.cells W 1 (qC L))):
  kO prog 50 [.agg [.slice pb 0 P.length none,.slice tb 0 T.length none],.slice y 0 L.length none,pA q] M (atV P T L q) M:=by
 have X:=gL I;have V:=gL m2;have U:=gL J;have S:(atV P T L q).closed=true:=by unfold atV;split<;>rfl
 have:=kO.frame (M:=M) (new:=[]) (args:=[.agg [.slice 0 0 P.length none,.slice 1 0 T.length none],.slice 2 0 L.length none,pA q]) [pb,tb,y] (m:=vZ P T L) rfl (by simp[X,V,U]) (by rfl) (fun j s Z=>by
  match j with
  |0=>simp[vZ] at Z;subst Z;exact cW (ez P) I List.take_length
  |1=>simp[vZ] at Z;subst Z;exact cW (ig T) m2 List.take_length
  |2=>simp[vZ] at Z;subst Z;exact cW (xF L) J List.take_length
  |j+3=>simp[vZ] at Z) rfl (by rw[List.append_nil];exact QZ H)
 simpa [AV.af9,AV.ren,fj,pA,mu _ _ S] using this
end
end
end Go.Proofs
namespace Go.Proofs
open Go.Eng
open Tryz
section
variable {u v:V3}
theorem Jc:(aG f152).map (fun o=>dm o.toList)=[[0,1,3,0,8,24,63,0,128,384,0,1024,3072,8191,16383,32767]]:=by kernel_rfl
theorem rh(h:Wy u v)(i:Nat)(hi:i<3):kO prog 152 [.int .i64 i,.ptr 0 0,.ptr 1 0] (adM u v) (.str (ax (if i=0 then (HZ u v).1 else if i=1 then (HZ u v).2.1 else (HZ u v).2.2))) (adM u v):=by
 have hG:aS prog 152=some f152:=by kernel_rfl
 obtain⟨⟨⟨⟨C,B⟩,⟨o,m⟩,j,Y⟩,⟨W,J⟩,⟨I,H⟩,b5,b6⟩,⟨⟨Q,O⟩,N,M⟩,⟨⟨d1,d2⟩,d3,d4⟩,⟨L,K⟩,G,F⟩:=h;obtain⟨x,y,z⟩:=u;obtain⟨p,q,r⟩:=v;simp only at C B o m j Y W J I H b5 b6 Q O N M d1 d2 d3 d4 L K G F;unfold HZ;simp only;obtain⟨t1,Z⟩:=xE (y*r);obtain⟨t2,X⟩:=xE (z*q);obtain⟨t3,V⟩:=xE (z*p);obtain⟨t4,U⟩:=xE (x*r);obtain⟨t5,S⟩:=xE (x*q);obtain⟨t6,R⟩:=xE (y*p);rw[←Z] at Q O;rw[←X] at N M;rw[←V] at d1 d2;rw[←U] at d3 d4;rw[←S] at L K;rw[←R] at G F;rw[←Z,←X,←V,←U,←S,←R];have hc:i=0∨i=1∨i=2:=by omega
 obtain⟨o1,D⟩:∃o1,aG f152=o1:=⟨_,rfl⟩
 have PP:=cr D Jc;have k1:dH [0,1,3,0,8,24,63,0,128,384,0,1024,3072,8191,16383,32767] 15=true:=by decide
 simp only[aG,bQ,f152,List.nil_append,List.append_nil] at D;subst D;simp only[lB] at PP;have h:aa (bh prog) (fun _=>[]) (aS prog) (ag bn) 1 152 [.int .i64 i,.ptr 0 0,.ptr 1 0] (adM (x,y,z) (p,q,r))=some ⟨.str (ax (if i=0 then t1-t2 else if i=1 then t3-t4 else t5-t6)),none,[]⟩:=by rcases hc with rfl | rfl | rfl<;>simp[aa,hG,f152,w1,w2,w3,w4,-aH,ak PP,be,aV,aX,k1,ag,bn,bw,ay,adM,vL,C,B,o,m,j,Y,W,J,I,H,b5,b6,Q,O,N,M,d1,d2,d3,d4,L,K,G,F,←Z,←X,←V,←U,←S,←R,Nat.testBit]
 have:=(ar aj (aK _) cP (aR _) h).1;simpa [y9.mem] using this
theorem Nh(h:Wy u v):
  kO prog 101 [.func 152 [.ptr 0 0,.ptr 1 0]] [.cells true 0 (vL u),.cells true 0 (vL v),.cells true 0 [.str [],.str [],.str []]] (vA (HZ u v)) [.cells true 0 (vL u),.cells true 0 (vL v),.cells true 0 [.str [],.str [],.str []]]:=by
 have S:aS prog 101=some f101:=by kernel_rfl
 obtain⟨L,V⟩:∃L:List (FuncId×List AV×Mem×y9),L=[(152,[.int .i64 (0:Nat),.ptr 0 0,.ptr 1 0],adM u v,⟨.str (ax (HZ u v).1),none,[]⟩),
  (152,[.int .i64 (1:Nat),.ptr 0 0,.ptr 1 0],adM u v,⟨.str (ax (HZ u v).2.1),none,[]⟩),
  (152,[.int .i64 (2:Nat),.ptr 0 0,.ptr 1 0],adM u v,⟨.str (ax (HZ u v).2.2),none,[]⟩)]:=⟨_,rfl⟩
 have U:qS prog (jt L):=iO fun x X=>by
  rw[V] at X;simp only[lM] at X;rcases X with rfl | rfl | rfl
  ·exact⟨by simpa [y9.mem] using rh h 0 (by decide),fun p Z=>by cases Z⟩
  ·exact⟨by simpa [y9.mem] using rh h 1 (by decide),fun p Z=>by cases Z⟩
  ·exact⟨by simpa [y9.mem] using rh h 2 (by decide),fun p Z=>by cases Z⟩
 refine jj (K:=1) (lv:=fun _=>[]) U ?_;clear U;subst V;obtain⟨w,R⟩:=xE (HZ u v);rw[←R];simp[aa,S,f101,jt,adM,vA,vL,bN]
theorem IJ(h:Wy u v)(M:Mem):kO prog 105 [vA u,vA v] M (vA (HZ u v)) M:=by
 have U:aS prog 105=some f105:=by kernel_rfl
 obtain⟨L,Z⟩:=xE (α:=List (FuncId×List AV×Mem×y9)) [(101,[.func 152 [.ptr 0 0,.ptr 1 0]],[.cells true 0 (vL u),.cells true 0 (vL v),.cells true 0 [.str [],.str [],.str []]],⟨vA (HZ u v),none,[]⟩)];have X:qS prog (jt L):=iO fun x V=>by rw[Z,List.mem_singleton] at V;subst V;exact⟨by simpa [y9.mem] using Nh h,fun p S=>by cases S⟩
 refine ao X ?_ M;clear X;subst Z;obtain⟨w,R⟩:=xE (HZ u v);rw[←R];simp[aa,U,f105,jt,vA,vL]
end
def WQ(r:M3):Rat:=fI r.1 (HZ r.2.1 r.2.2)
def XO(r:M3):Prop:=Wy r.2.1 r.2.2∧yS r.1 (HZ r.2.1 r.2.2)
variable{r:M3}
theorem QV(h:XO r)(M:Mem):kO prog 60 [.agg (mC r)] M (.str (ax (WQ r))) M:=by
 have L:aS prog 60=some f60:=by kernel_rfl
 have X:=fun M=>IJ h.1 M
 have Z:=fun M=>Fb _ _ h.2 M
 unfold WQ;obtain⟨w,S⟩:=xE (HZ r.2.1 r.2.2);rw[←S] at X Z ⊢;obtain⟨d,R⟩:=xE (fI r.1 w);rw[←R] at Z ⊢;have Q:qS prog (ag (cc [(105,[vA r.2.1,vA r.2.2],vA w),(103,[vA r.1,vA w],.str (ax d))])):=cD fun e O M=>by
  simp only[lM] at O;rcases O with rfl | rfl
  ·exact X M
  ·exact Z M
 clear X Z h S R;refine ao Q ?_ M;clear Q;obtain⟨N,V⟩:∃N,aG f60=[N]:=⟨_,rfl⟩
 obtain⟨U,K⟩:=cC V (l:=[0,1,0,4,0,16,60,127,255]) (j:=8) (by kernel_rfl) (by decide);simp[aG,bQ,f60] at V;subst V;simp[aa,L,f60,-aH,ak U,be,aV,aX,K,cc,ag,mC,vA,Nat.testBit]
theorem M9{s:V3}(hc:afC r s)(h:XO r)(h1:WQ r=1)(M:Mem):kO prog 18 [afA r s] M (.tuple [.str [49],.int .i64 0]) M:=by
 have R:aS prog 18=some f18:=by kernel_rfl
 have Z:=fun M=>QV h M
 rw[h1] at Z;have X:ax 1=[49]:=rfl;rw[X] at Z;have V:qS prog (ag (cc [(49,[afA r s],.int .i64 0),(56,[afA r s],.agg (mC r)),(60,[.agg (mC r)],.str [49]),(61,[.str [49]],.int .i64 0)])):=cD fun e U M=>by
  simp only[lM] at U;rcases U with rfl | rfl | rfl | rfl
  ·exact jg hc M
  ·exact BC r s M
  ·exact Z M
  ·have S:AW (ax 1)=0:=jy ((show dg 1 1 (1:Rat) from⟨by decide,by decide⟩).mono (by decide) (by decide))
   have:=mL [49] (by decide) M;rw[X] at S;rw[S] at this;exact this
 clear Z h hc;refine ao V ?_ M;clear V;simp[aa,R,f18,cc,ag,afA,mC,vL]
theorem PX:WQ idM=1:=by decide +kernel
theorem WA{n v:V3}(b:Rat)(h:fI v n=0):WQ (L7 n v b)=1:=by
 obtain⟨Z,X,V⟩:=n;obtain⟨U,S,R⟩:=v;unfold fI at h;unfold WQ L7 fI HZ iU nO;simp only at h ⊢
 grind
theorem W2(w x y z:Rat):(w*w+x*x-y*y-z*z)*((w*w-x*x+y*y-z*z)*(w*w-x*x-y*y+z*z)-2*(y*z-w*x)*(2*(y*z+w*x)))+2*(x*y-w*z)*(2*(y*z-w*x)*(2*(x*z-w*y))-2*(x*y+w*z)*(w*w-x*x-y*y+z*z))+2*(x*z+w*y)*(2*(x*y+w*z)*(2*(y*z+w*x))-(w*w-x*x+y*y-z*z)*(2*(x*z-w*y)))=(w*w+x*x+y*y+z*z)*(w*w+x*x+y*y+z*z)*(w*w+x*x+y*y+z*z):=by
 grind
theorem XP(s w x y z:Rat)(hs:s*(w*w+x*x+y*y+z*z)=1):(w*w+x*x-y*y-z*z)*s*((w*w-x*x+y*y-z*z)*s*((w*w-x*x-y*y+z*z)*s)-2*(y*z-w*x)*s*(2*(y*z+w*x)*s))+2*(x*y-w*z)*s*(2*(y*z-w*x)*s*(2*(x*z-w*y)*s)-2*(x*y+w*z)*s*((w*w-x*x-y*y+z*z)*s))+2*(x*z+w*y)*s*(2*(x*y+w*z)*s*(2*(y*z+w*x)*s)-(w*w-x*x+y*y-z*z)*s*(2*(x*z-w*y)*s))=1:=by
 have Z:=W2 w x y z;obtain⟨D,X⟩:=xE ((w*w+x*x-y*y-z*z)*((w*w-x*x+y*y-z*z)*(w*w-x*x-y*y+z*z)-2*(y*z-w*x)*(2*(y*z+w*x)))+2*(x*y-w*z)*(2*(y*z-w*x)*(2*(x*z-w*y))-2*(x*y+w*z)*(w*w-x*x-y*y+z*z))+2*(x*z+w*y)*(2*(x*y+w*z)*(2*(y*z+w*x))-(w*w-x*x+y*y-z*z)*(2*(x*z-w*y))));rw[←X] at Z;have e:(w*w+x*x-y*y-z*z)*s*((w*w-x*x+y*y-z*z)*s*((w*w-x*x-y*y+z*z)*s)-2*(y*z-w*x)*s*(2*(y*z+w*x)*s))+2*(x*y-w*z)*s*(2*(y*z-w*x)*s*(2*(x*z-w*y)*s)-2*(x*y+w*z)*s*((w*w-x*x-y*y+z*z)*s))+2*(x*z+w*y)*s*(2*(x*y+w*z)*s*(2*(y*z+w*x)*s)-(w*w-x*x+y*y-z*z)*s*(2*(x*z-w*y)*s))=D*(s*s*s):=by rw[X];grind
 rw[e,Z];obtain⟨N,V⟩:=xE (w*w+x*x+y*y+z*z);rw[←V] at hs ⊢;have:N*N*N*(s*s*s)=(s*N)*(s*N)*(s*N):=by grind
 rw[this,hs,Rat.mul_one,Rat.mul_one]
theorem XQ{t:I4}(hz:¬xW t):WQ (A5 t)=1:=by
 have R:=Bu hz;obtain⟨w,x,y,z⟩:=t;simp only at R;have Q:∀(n:Int) (d:Nat),mkRat n d=(n:Rat)*(1 / (d:Rat)):=fun n d=>by rw[Rat.mkRat_eq_div,Rat.div_def,Rat.div_def,Rat.one_mul]
 have O:((E5 (w,x,y,z):Nat):Rat)=(w:Rat)*w+x*x+y*y+z*z:=by
  have e:((E5 (w,x,y,z):Nat):Int)=w*w+x*x+y*y+z*z:=by unfold E5;simp only;omega
  rw[show((E5 (w,x,y,z):Nat):Rat)=(((E5 (w,x,y,z):Nat):Int):Rat) from rfl,e,Rat.intCast_add,Rat.intCast_add,Rat.intCast_add,Rat.intCast_mul,Rat.intCast_mul,Rat.intCast_mul,Rat.intCast_mul]
 have N:(E5 (w,x,y,z):Rat)≠0:=by
  have:E5 (w,x,y,z)≠0:=by unfold E5;simp only;omega
  exact_mod_cast this
 have U:=Rat.div_mul_cancel (a:=1) N;unfold WQ A5 fI HZ;simp only[Q];obtain⟨s,S⟩:=xE (1 / (E5 (w,x,y,z):Rat));rw[←S] at U ⊢;rw[O] at U;simp only[Rat.intCast_add,Rat.intCast_sub,Rat.intCast_mul];have M:((2:Int):Rat)=2:=rfl;rw[M];have V:=XP s w x y z U;obtain⟨W,L⟩:=xE (α:=Rat) (w:Rat);obtain⟨X,K⟩:=xE (α:=Rat) (x:Rat);obtain⟨Y,G⟩:=xE (α:=Rat) (y:Rat);obtain⟨Z,F⟩:=xE (α:=Rat) (z:Rat);rw[←L,←K,←G,←F] at V ⊢;exact V
end Go.Proofs
