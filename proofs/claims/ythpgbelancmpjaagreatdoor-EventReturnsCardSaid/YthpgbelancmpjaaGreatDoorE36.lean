/- See E54. -/
import Derived.Test.YthpgbelancmpjaaGreatDoorE25
import Derived.Test.YthpgbelancmpjaaGreatDoorE35
set_option linter.all false
set_option maxRecDepth 100000
set_option maxHeartbeats 40000000
namespace Go.Proofs
open Go.Eng
open Tryz
theorem GN(a b c:P2)(h:Vz a b c)(M:Mem):kO prog 179 [pA a,pA b,pA c] M (.str (aj (cN a b c))) M:=by
 have Y:aT prog 179=some f179:=by kernel_rfl
 obtain⟨D,C⟩:=a;obtain⟨W,J⟩:=b;obtain⟨I,H⟩:=c;obtain⟨⟨⟨B,A⟩,⟨u,o⟩,r1,r2⟩,⟨O,N,L,K⟩,t1,t2⟩:=h;unfold cN;simp only at B A u o r1 r2 O N L K t1 t2 ⊢;obtain⟨x1,V⟩:=xE (W-D);obtain⟨x2,U⟩:=xE (H-C);obtain⟨x3,S⟩:=xE (J-C);obtain⟨x4,R⟩:=xE (I-D);simp only[←V,←U,←S,←R] at O N L K t1 t2 ⊢;obtain⟨y1,Z⟩:=xE (x1*x2);obtain⟨y2,X⟩:=xE (x3*x4);rw[←Z] at t1;rw[←X] at t2;rw[←Z,←X];unfold dc at*;refine ak bK ?_ M;obtain⟨m,j,G⟩:∃m j,aJ f179=[m,j]:=⟨_,_,rfl⟩
 obtain⟨F,Yv⟩:=vE G (l:=[0,1,0,4,15,0,32,0,128,511,1023,2047]) (l' :=[0,0,2,0,8,30,0,64,0,256,1022,2046,4095,8191]) (by kernel_rfl);have k1:fc [0,1,0,4,15,0,32,0,128,511,1023,2047] 11=true:=by decide
 have k2:fc [0,0,2,0,8,30,0,64,0,256,1022,2046,4095,8191] 13=true:=by decide
 simp[aJ,bR,f179] at G;obtain⟨rfl,rfl⟩:=G;simp[aa,Y,f179,-aK,ao F,ao Yv,br,bk,bl,k1,k2,pA,ar,ag,aE,aH,B,A,u,o,r1,r2,O,N,L,K,t1,t2,←V,←U,←S,←R,←Z,←X,Nat.testBit]
theorem GO(a b c:P2)(h:Vz a b c)(M:Mem):kO prog 99 [pA a,pA b,pA c] M (.int .i64 (ky (cN a b c))) M:=by
 have X:aT prog 99=some f99:=by kernel_rfl
 have Z:qS prog (y9.or (cX 179 [pA a,pA b,pA c] (.str (aj (cN a b c))) (fun _=>True)) (ag aE)):=qS.or (dO fun N _=>GN a b c h N) bK;obtain⟨y,V⟩:=xE (cN a b c);rw[←V] at Z ⊢;refine ak Z ?_ M;simp[aa,X,f99,y9.or,cX,pA,ar,ag,aE,aH,bj,be]
open Classical in
noncomputable def vo(f:FuncId)(args:List AV):Option AV:=
 match f,args with
 |99,[.agg [.str a,.str b],.agg [.str c,.str d],.agg [.str e,.str g]]=>match ek a,ek b,ek c,ek d,ek e,ek g with
  |some x,some y,some z,some w,some u,some v=>if Vz (x,y) (z,w) (u,v) then some (.int .i64 (ky (cN (x,y) (z,w) (u,v)))) else none
  |_,_,_,_,_,_=>none
 |_,_=>none
theorem Pt:qS prog (ag vo):=bM fun f Z v h mem=>by
 unfold vo at h;split at h
 ·split at h
  ·rename_i x y z w u v X V h3 U S R
   split at h
   ·rename_i O
    cases h;rw[aA X,aA V,aA h3,aA U,aA S,aA R];exact GO (x,y) (z,w) (u,v) O mem
   ·cases h
  ·cases h
 ·cases h
def Ef(A B C:P2):AV:=.agg [.str (aj A.1),.str (aj A.2),.str (aj B.1),.str (aj B.2),.str (aj C.1),.str (aj C.2)]
theorem Ev(A B C q:P2)(h:Ta A B C q)(M:Mem):kO prog 48 [Ef A B C,pA q] M (.bool (decide (inQ (Cp A B C q)))) M:=by
 have U:aT prog 48=some f48:=by kernel_rfl
 obtain⟨R,L,h3⟩:=h;obtain⟨a,b⟩:=A;obtain⟨c,d⟩:=B;obtain⟨e,f⟩:=C;obtain⟨u,v⟩:=q;have O:decide (inQ (Cp (a,b) (c,d) (e,f) (u,v)))=decide (0≤ky (cN (c,d) (e,f) (u,v))∧0≤ky (cN (e,f) (a,b) (u,v))∧0≤ky (cN (a,b) (c,d) (u,v))):=decide_eq_decide.2 Iff.rfl;rw[O];clear O;obtain⟨K,X⟩:=xE (ky (cN (c,d) (e,f) (u,v)));obtain⟨G,V⟩:=xE (ky (cN (e,f) (a,b) (u,v)));obtain⟨F,Z⟩:=xE (ky (cN (a,b) (c,d) (u,v)));rw[←X,←V,←Z];refine ak Pt ?_ M;by_cases S:0≤F
 ·by_cases N:0≤K
  ·by_cases D:0≤G<;>simp[aa,U,f48,ag,vo,Ef,pA,ar,R,L,h3,←X,←V,←Z,N,D,S]
  ·simp[aa,U,f48,ag,vo,Ef,pA,ar,R,h3,←X,←Z,N,S]
 ·simp[aa,U,f48,ag,vo,Ef,pA,ar,h3,←Z,S]
section
variable {P:List P2}{T:List Tr}{t:Tr}{A B C:P2}{i:Nat}
theorem Ap(W:T[i]? =some t)(H:P[t.1]? =some A)(I:P[t.2.1]? =some B)(J:P[t.2.2]? =some C){M:Mem}{pb tb:Nat}{o1 o2:Bool}(Y:M[pb]? =some (.cells o1 2 (pC P)))(m2:M[tb]? =some (.cells o2 3 (tC T))):
  kO prog 49 [.agg [.slice pb 0 P.length none,.slice tb 0 T.length none],.int .i64 (i:Int)] M (Ef A B C) M:=by
 have R:aT prog 49=some f49:=by kernel_rfl
 obtain⟨S,O⟩:=SZ W;have V:=gL W;obtain⟨i1,i2,i3⟩:=t;simp only at H I J S;obtain⟨N,-,-,L⟩:=zI H;obtain⟨K,-,-,G⟩:=zI I;obtain⟨r1,-,-,F⟩:=zI J;have D:=gL H;have u:=gL I;have o:=gL J;obtain⟨Z,U⟩:∃Z,aJ f49=[Z]:=⟨_,rfl⟩
 obtain⟨UV,YC⟩:=de U (l:=[0,1,0,4,15,31,0,64,0,256,960,1984,0,4096,0,16384,61440,126976,262143,524287]) (j:=19) (by kernel_rfl) (by decide);simp[aJ,bR,f49] at U;subst U;have h:aa (aV prog) (fun _=>[]) (aT prog) cu 1 49 [.agg [.slice 0 0 P.length none,.slice 1 0 T.length none],.int .i64 (i:Int)] [.cells false 2 (pC P),.cells false 3 (tC T)]=some ⟨Ef A B C,none,[]⟩:=by simp[aa,R,f49,V,S,O,D,u,o,N,K,r1,L,G,F,Ef,-aK,ao UV,br,bk,bl,YC,bJ]
 have h2:=(aq ai (aO _) (az _) (aR _) h).1;have l1:=gL Y;have l2:=gL m2;have:=kO.frame (M:=M) (new:=[]) (args:=[.agg [.slice 0 0 P.length none,.slice 1 0 T.length none],.int .i64 (i:Int)]) [pb,tb] (m:=[.cells false 2 (pC P),.cells false 3 (tC T)]) rfl (by simp[l1,l2]) (by rfl) (fun j s X=>by
  match j with
  |0=>simp at X;subst X;exact cP (ei P) Y List.take_length
  |1=>simp at X;subst X;exact cP (fR T) m2 List.take_length
  |j+2=>simp at X) rfl (by simpa [aee.mem] using h2)
 simpa [AV.aez,AV.ren,fq,Ef] using this
end
theorem GC(p q r s:Rat)(H:dc p)(hq:dc q)(hr:dc r)(I:dc s)(h1:dc (p*s))(h2:dc (q*r))(M:Mem):kO prog 307 [.str (aj p),.str (aj q),.str (aj r),.str (aj s)] M (.str (aj (p*s-q*r))) M:=by
 have S:aT prog 307=some f307:=by kernel_rfl
 obtain⟨R,O⟩:=H;obtain⟨N,L⟩:=hq;obtain⟨K,G⟩:=hr;obtain⟨d1,d2⟩:=I;obtain⟨Z,X⟩:=h1;obtain⟨f1,f2⟩:=h2;obtain⟨x,V⟩:=xE (p*s);obtain⟨y,U⟩:=xE (q*r);rw[←V] at Z X ⊢;rw[←U] at f1 f2 ⊢;refine ak bK ?_ M;simp[aa,S,f307,ar,ag,aE,aH,R,O,N,L,K,G,d1,d2,Z,X,f1,f2,←V,←U]
open Classical in
noncomputable def vn(f:FuncId)(args:List AV):Option AV:=
 match f,args with
 |307,[.str a,.str b,.str c,.str d]=>match ek a,ek b,ek c,ek d with
  |some p,some q,some r,some s=>if (dc p∧dc q∧dc r∧dc s)∧dc (p*s)∧dc (q*r) then some (.str (aj (p*s-q*r))) else none
  |_,_,_,_=>none
 |f,args=>aE f args
theorem Ps:qS prog (ag vn):=bM fun f X v h mem=>by
 unfold vn at h;split at h
 ·split at h
  ·rename_i p q r s V U h3 S
   split at h
   ·rename_i Z
    cases h;rw[aA V,aA U,aA h3,aA S];exact GC p q r s Z.1.1 Z.1.2.1 Z.1.2.2.1 Z.1.2.2.2 Z.2.1 Z.2.2 mem
   ·cases h
  ·cases h
 ·have:=bK.fn _ _ mem ⟨v,none,[]⟩ (by unfold ag;simp only;rw[h])
  simpa [aee.mem] using this
section
variable {P:List P2}{T:List Tr}{L:List Rat}{t:Tr}{A B C:P2}{f g h:Rat}{i:Nat}
def fsM(P:List P2)(T:List Tr)(L:List Rat):Mem:=[.cells false 2 (pC P),.cells false 3 (tC T),.cells false 1 (qC L)]
theorem CA(H:T[i]? =some t)(I:P[t.1]? =some A)(J:P[t.2.1]? =some B)(W:P[t.2.2]? =some C)(hf:L[t.1]? =some f)(hg:L[t.2.1]? =some g)(Y:L[t.2.2]? =some h):
  kO prog 306 [.agg [.slice 0 0 P.length none,.slice 1 0 T.length none],.slice 2 0 L.length none,.int .i64 i] (fsM P T L) (.agg [.str (aj A.1),.str (aj A.2),.str (aj f),.str (aj B.1),.str (aj B.2),.str (aj g),.str (aj C.1),.str (aj C.2),.str (aj h)]) (fsM P T L):=by
 have U:aT prog 306=some f306:=by kernel_rfl
 obtain⟨S,R⟩:=SZ H;have X:=gL H;obtain⟨O,-,-,N⟩:=zI I;obtain⟨M,-,-,K⟩:=zI J;obtain⟨r1,-,-,G⟩:=zI W;have F:=gL I;have D:=gL J;have u:=gL W;have f1:=Nf hf;have f2:=Nf hg;have f3:=Nf Y;have o:=gL hf;have m:=gL hg;have b3:=gL Y;obtain⟨t1,t2,t3⟩:=t;simp only at*;obtain⟨Z,V⟩:∃Z,aJ f306=[Z]:=⟨_,rfl⟩
 obtain⟨UV,YC⟩:=de V (l:=[0,0,2,0,14,30,0,0,192,448,1022,2047,4095]) (j:=12) (by kernel_rfl) (by decide);simp[aJ,bR,f306] at V;subst V;unfold fsM;have hr:aa (aV prog) (fun _=>[14]) (aT prog) cu 5 306 [.agg [.slice 0 0 P.length none,.slice 1 0 T.length none],.slice 2 0 L.length none,.int .i64 i] [.cells false 2 (pC P),.cells false 3 (tC T),.cells false 1 (qC L)]=some ⟨.agg [.str (aj A.1),.str (aj A.2),.str (aj f),.str (aj B.1),.str (aj B.2),.str (aj g),.str (aj C.1),.str (aj C.2),.str (aj h)],none,[]⟩:=by simp[aa,U,f306,bh,fy,X,S,R,F,D,u,O,M,r1,N,K,G,f1,f2,f3,o,m,b3,w1,w2,w3,-aK,ao UV,br,bk,bl,YC,bJ,aD]
 have:=(aq ai (aO _) (az _) (aR _) hr).1;simpa [aee.mem] using this
end
structure agE (A B C:P2)(f g h:Rat):Prop where
 a:dc A.1∧dc A.2
 b:dc B.1∧dc B.2
 c:dc C.1∧dc C.2
 z:dc f∧dc g∧dc h
 d:(dc (B.1-A.1)∧dc (B.2-A.2))∧dc (C.1-A.1)∧dc (C.2-A.2)
 e:dc (g-f)∧dc (h-f)
 m1:dc ((B.1-A.1)*(C.2-A.2))∧dc ((B.2-A.2)*(C.1-A.1))
 m2:dc ((g-f)*(C.2-A.2))∧dc ((B.2-A.2)*(h-f))
 m3:dc ((B.1-A.1)*(h-f))∧dc ((g-f)*(C.1-A.1))
 s:dc (cN A B C)∧cN A B C≠0
 n:dc ((g-f)*(C.2-A.2)-(B.2-A.2)*(h-f))∧dc ((B.1-A.1)*(h-f)-(g-f)*(C.1-A.1))
 k:dc (1 / cN A B C)
 r:sP [aj (slX A B C f g h).1,aj (slX A B C f g h).2]=0∧(aj (slX A B C f g h).1).length≤Kw∧(aj (slX A B C f g h).2).length≤Kw
section
variable {P:List P2}{T:List Tr}{L:List Rat}{t:Tr}{A B C:P2}{f g h:Rat}{i:Nat}
theorem Jw:(aJ f294).map (fun o=>dT o.toList)=[[0,1,3,7,0,16,48,112,255,0,512,1536,3584,0,8192,24576,57344,131071,262143,524287],[0,1,3,7,0,16,48,112,255,0,512,1536,3584,0,8192,24576,57344,131071,262143,524287],[0,1,3,0,8,24,63,0,128,384,0,1024,3072,8191,16383,32767]]:=by kernel_rfl
theorem agQ:fc [0,1,3,7,0,16,48,112,255,0,512,1536,3584,0,8192,24576,57344,131071,262143,524287] 19=true:=by decide
theorem Ep(hi:T[i]? =some t)(hA:P[t.1]? =some A)(hB:P[t.2.1]? =some B)(hC:P[t.2.2]? =some C)(hf:L[t.1]? =some f)(hg:L[t.2.1]? =some g)(hh:L[t.2.2]? =some h)(ok:agE A B C f g h)(Z:Mem):
  kO prog 294 [.agg [.slice 0 0 P.length none,.slice 1 0 T.length none],.slice 2 0 L.length none,.int .i64 i] (fsM P T L) (pA (slX A B C f g h)) (fsM P T L):=by
 have hG:aT prog 294=some f294:=by kernel_rfl
 have hc:=CA hi hA hB hC hf hg hh;have K:qS prog (y9.or (cX 306 [.agg [.slice 0 0 P.length none,.slice 1 0 T.length none],.slice 2 0 L.length none,.int .i64 i] (.agg [.str (aj A.1),.str (aj A.2),.str (aj f),.str (aj B.1),.str (aj B.2),.str (aj g),.str (aj C.1),.str (aj C.2),.str (aj h)]) (fun N=>∃Z,N=fsM P T L++Z)) (ag vn)):=
  qS.or (dO fun N ⟨Z,hZ⟩=>by
   subst hZ;have:=kO.frame (M:=fsM P T L++Z) (new:=[]) (args:=[.agg [.slice 0 0 P.length none,.slice 1 0 T.length none],.slice 2 0 L.length none,.int .i64 i]) [0,1,2] (m:=fsM P T L) rfl (by simp[fsM]) (by rfl) (fun j s X=>by
    match j with
    |0=>simp[fsM] at X;subst X;exact cP (ei P) rfl List.take_length
    |1=>simp[fsM] at X;subst X;exact cP (fR T) rfl List.take_length
    |2=>simp[fsM] at X;subst X;exact cP (v8 L) rfl List.take_length
    |j+3=>simp[fsM] at X) rfl (by rw[List.append_nil];exact hc)
   simpa [AV.aez,AV.ren,fq] using this) Ps
 obtain⟨⟨a1,a2⟩,⟨b1,b2⟩,⟨c1,c2⟩,⟨z1,z2,z3⟩,⟨⟨d1,d2⟩,d3,d4⟩,⟨G,F⟩,⟨D,o⟩,⟨Y,W⟩,⟨J,I⟩,⟨U,H⟩,⟨R,O⟩,k,-⟩:=ok;unfold slX;unfold cN at*;obtain⟨ax,ay⟩:=A;obtain⟨bx,V⟩:=B;obtain⟨cx,cy⟩:=C;simp only at*;obtain⟨x,hx⟩:=xE (bx-ax);obtain⟨y,hy⟩:=xE (V-ay);obtain⟨u,hu⟩:=xE (cx-ax);obtain⟨v,hv⟩:=xE (cy-ay);obtain⟨a,ha⟩:=xE (g-f);obtain⟨b,hb⟩:=xE (h-f);simp only[←hx,←hy,←hu,←hv,←ha,←hb] at d1 d2 d3 d4 G F D o Y W J I U H R O k ⊢;obtain⟨S,hS⟩:=xE (x*v-y*u);obtain⟨q,hq⟩:=xE (a*v-y*b);obtain⟨r,hr⟩:=xE (x*b-a*u);simp only[←hS,←hq,←hr] at U H R O k ⊢;obtain⟨w,hw⟩:=xE (1 / S);rw[←hw] at k ⊢;have aaT:ek [49]=some 1:=rfl;have o1:(au 1).length≤9:=by decide
 have o2:(au 1).length≤40000:=by decide
 unfold dc at a1 a2 b1 b2 c1 c2 z1 z2 z3 d1 d2 d3 d4 G F D o Y W J I U R O k;obtain⟨Zu,D'⟩:∃Zu,aJ f294=Zu :=⟨_,rfl⟩
 have Ya :=cc D' Jw;simp only[aJ,bR,f294,lA] at D';subst D';simp only[lB] at Ya;obtain⟨XN,hb1,Yv⟩:=Ya;have j2:fc [0,1,3,0,8,24,63,0,128,384,0,1024,3072,8191,16383,32767] 15=true:=by decide
 unfold fsM at K ⊢;have XP:aa (aV prog) (fun _=>[]) (aT prog) (y9.or (cX 306 [.agg [.slice 0 0 P.length none,.slice 1 0 T.length none],.slice 2 0 L.length none,.int .i64 i] (.agg [.str (aj ax),.str (aj ay),.str (aj f),.str (aj bx),.str (aj V),.str (aj g),.str (aj cx),.str (aj cy),.str (aj h)]) (fun N=>∃Z,N=[.cells false 2 (pC P),.cells false 3 (tC T),.cells false 1 (qC L)]++Z)) (ag vn)) 1 294 [.agg [.slice 0 0 P.length none,.slice 1 0 T.length none],.slice 2 0 L.length none,.int .i64 i] [.cells false 2 (pC P),.cells false 3 (tC T),.cells false 1 (qC L)]=some ⟨pA (w*q,w*r),none,[]⟩:=by clear K hc;simp[aa,hG,f294,y9.or,cX,ag,vn,aE,aH,ar,aaT,o2,a1,a2,b1,b2,c1,c2,z1,z2,z3,d1,d2,d3,d4,G,F,D,o,Y,W,J,I,U,H,R,O,k,←hx,←hy,←hu,←hv,←ha,←hb,←hS,←hq,←hr,←hw,dc,pA,bJ,aD,-aK,ao XN,ao hb1,ao Yv,br,bk,bl,agQ,j2,Nat.testBit]
 have:=(aq ai (aO _) K (aR _) XP).1;simpa [aee.mem] using this
end
variable{M:Mem}{fb pb tb:Nat}{o1 o2 o3:Bool}
section
variable {s:aeo}{Z:List Int}{t:Tr}{A B C:P2}{f g h:Rat}{i:Nat}
theorem qJ{fn:FuncId}{v:AV}{P:List P2}{T:List Tr}{L:List Rat}{n:Nat}(J:v.closed=true)(hc:kO prog fn [.agg [.slice 0 0 P.length none,.slice 1 0 T.length none],.slice 2 0 L.length none,.int .i64 (n:Int)] (fsM P T L) v (fsM P T L))(H:M[pb]? =some (.cells o1 2 (pC P)))(m2:M[tb]? =some (.cells o2 3 (tC T)))(I:M[fb]? =some (.cells o3 1 (qC L))):
  kO prog fn [.agg [.slice pb 0 P.length none,.slice tb 0 T.length none],.slice fb 0 L.length none,.int .i64 (n:Int)] M v M:=by
 have V:=gL H;have U:=gL m2;have S:=gL I;have:=kO.frame (M:=M) (new:=[]) (args:=[.agg [.slice 0 0 P.length none,.slice 1 0 T.length none],.slice 2 0 L.length none,.int .i64 (n:Int)]) [pb,tb,fb] (m:=fsM P T L) rfl (by simp[V,U,S]) (by rfl) (fun j s X=>by
  match j with
  |0=>simp[fsM] at X;subst X;exact cP (ei P) H List.take_length
  |1=>simp[fsM] at X;subst X;exact cP (fR T) m2 List.take_length
  |2=>simp[fsM] at X;subst X;exact cP (v8 L) I List.take_length
  |j+3=>simp[fsM] at X) rfl (by rw[List.append_nil];exact hc)
 simpa [AV.aez,AV.ren,fq,kW _ _ J] using this
section
variable (Z4:s.P.length≤1000)(hZ:∀z∈Z,z.natAbs<1000)(hl:Z.length=s.P.length)(hi:s.T[i]? =some t)(hA:s.P[t.1]? =some A)(hB:s.P[t.2.1]? =some B)(hC:s.P[t.2.2]? =some C)(hf:(qH Z)[t.1]? =some f)(hg:(qH Z)[t.2.1]? =some g)(hh:(qH Z)[t.2.2]? =some h)
include Z4 hZ hl hi hA hB hC hf hg hh
theorem GD(ok:agE A B C f g h):
  kO prog 274 [.agg [.slice 0 0 s.P.length none,.slice 1 0 s.T.length none],.slice 2 0 (qH Z).length none,.int .i64 (i:Int)] (fsM s.P s.T (qH Z)) (.tuple [pA (slX A B C f g h),.int .i64 0]) (fsM s.P s.T (qH Z)):=by
 have F:aT prog 274=some f274:=by kernel_rfl
 have U:=Ep hi hA hB hC hf hg hh ok [];have D:=gL hi;obtain⟨r1,r2,O⟩:=ok.r;have S:(qH Z).length=Z.length:=by simp[qH]
 obtain⟨X,u⟩:=xE (slX A B C f g h);rw[←u] at U r1 r2 O ⊢;obtain⟨R,V⟩:=xE (α:=Mem) [.cells true 0 [.slice 0 0 s.P.length none,.slice 1 0 s.T.length none],.cells true 0 [.str [],.str []],.cells true 1 [.slice 2 0 (qH Z).length none]];have L:=sR s Z hZ (by omega) hl (fsM s.P s.T (qH Z)++R) 2 5 false false false true rfl rfl rfl (by rw[V];simp[fsM,S]);have K:∀N,kO prog 47 [pA X] N (.int .i64 0) N:=fun N=>by
  have:=gA (aj X.1) (aj X.2) r2 O N
  rwa [r1] at this
 have G:qS prog (y9.or (cX 201 [.agg [.slice 0 0 s.P.length none,.slice 1 0 s.T.length none],.slice 5 0 1 none] (.int .i64 0) (fun N=>N=fsM s.P s.T (qH Z)++R)) (y9.or (cX 294 [.agg [.slice 0 0 s.P.length none,.slice 1 0 s.T.length none],.slice 2 0 (qH Z).length none,.int .i64 (i:Int)] (pA X) (fun N=>∃Y,N=fsM s.P s.T (qH Z)++Y)) (cX 47 [pA X] (.int .i64 0) (fun _=>True)))):=
  qS.or (dO fun N o=>by subst o;exact L) (qS.or (dO fun N ⟨Y,hY⟩=>by subst hY;exact qJ rfl U (o1:=false) (o2:=false) (o3:=false) rfl rfl rfl) (dO fun N _=>K N))
 have m:aa (aV prog) (fun _=>[]) (aT prog) (y9.or (cX 201 [.agg [.slice 0 0 s.P.length none,.slice 1 0 s.T.length none],.slice 5 0 1 none] (.int .i64 0) (fun N=>N=fsM s.P s.T (qH Z)++R)) (y9.or (cX 294 [.agg [.slice 0 0 s.P.length none,.slice 1 0 s.T.length none],.slice 2 0 (qH Z).length none,.int .i64 (i:Int)] (pA X) (fun N=>∃Y,N=fsM s.P s.T (qH Z)++Y)) (cX 47 [pA X] (.int .i64 0) (fun _=>True)))) 1 274 [.agg [.slice 0 0 s.P.length none,.slice 1 0 s.T.length none],.slice 2 0 (qH Z).length none,.int .i64 (i:Int)] (fsM s.P s.T (qH Z))=some ⟨.tuple [pA X,.int .i64 0],none,[]⟩:=by
  clear G L U K;subst V;obtain⟨n,j⟩:=xE ((qH Z).length);rw[←j];have H:∀Y:Mem,∃W,aek.cells false 2 (pC s.P)::.cells false 3 (tC s.T)::.cells false 1 (qC (qH Z))::Y=[.cells false 2 (pC s.P),.cells false 3 (tC s.T),.cells false 1 (qC (qH Z))]++W :=fun Y=>⟨Y,rfl⟩
  have J:¬((i:Int)<0):=by omega
  have I:¬s.T.length≤i:=by omega
  simp[aa,F,f274,y9.or,cX,fsM,J,I,pA]
 have:=(aq ai (aO _) G (aR _) m).1;simpa [aee.mem] using this
theorem Eo(H:dc (slX A B C f g h).1∧dc (slX A B C f g h).2)(ok:agE A B C f g h)(I:M[pb]? =some (.cells o1 2 (pC s.P)))(m2:M[tb]? =some (.cells o2 3 (tC s.T)))(J:M[fb]? =some (.cells o3 1 (qC (qH Z)))):
  kO prog 236 [.agg [.slice pb 0 s.P.length none,.slice tb 0 s.T.length none],.slice fb 0 (qH Z).length none,.int .i64 (i:Int)] M (.tuple [vA (UJ A B C f g h),.int .i64 0]) M:=by
 have G:aT prog 236=some f236:=by kernel_rfl
 have U:=GD Z4 hZ hl hi hA hB hC hf hg hh ok;unfold UJ;obtain⟨X,F⟩:=xE (slX A B C f g h);obtain⟨-,r2,L⟩:=ok.r;rw[←F] at U H r2 L ⊢;obtain⟨⟨W,x2⟩,x3,x4⟩:=H;have D:(aj X.1).length≤1000000000:=Nat.le_trans r2 (by decide);have u:(aj X.2).length≤1000000000:=Nat.le_trans L (by decide);refine qJ rfl ?_ I m2 J;have K:qS prog (y9.or (cX 274 [.agg [.slice 0 0 s.P.length none,.slice 1 0 s.T.length none],.slice 2 0 (qH Z).length none,.int .i64 (i:Int)] (.tuple [pA X,.int .i64 0]) (fun N=>∃Y,N=fsM s.P s.T (qH Z)++Y)) (ag aE)):=
  qS.or (dO fun N ⟨Y,hY⟩=>by subst hY;exact qJ rfl U (o1:=false) (o2:=false) (o3:=false) rfl rfl rfl) bK
 have S:aj 1=[49]:=by decide
 obtain⟨V,R⟩:∃V,aJ f236=[V]:=⟨_,rfl⟩
 have o:=kN R (l:=[0,1,3,0,8,31,63,127,255]) (by kernel_rfl);have O:ML [0,1,3,0,8,31,63,127,255] 9 7=true:=by decide
 simp[aJ,bR,f236] at R;subst R;have m:aa (aV prog) (fun _=>[]) (aT prog) (y9.or (cX 274 [.agg [.slice 0 0 s.P.length none,.slice 1 0 s.T.length none],.slice 2 0 (qH Z).length none,.int .i64 (i:Int)] (.tuple [pA X,.int .i64 0]) (fun N=>∃Y,N=fsM s.P s.T (qH Z)++Y)) (ag aE)) 1 236 [.agg [.slice 0 0 s.P.length none,.slice 1 0 s.T.length none],.slice 2 0 (qH Z).length none,.int .i64 (i:Int)] (fsM s.P s.T (qH Z))=some ⟨.tuple [vA (-X.1,-X.2,1),.int .i64 0],none,[]⟩:=by clear K U;obtain⟨n,j⟩:=xE ((qH Z).length);rw[←j];simp[aa,G,f236,y9.or,cX,fsM,ag,aE,aH,bj,be,ar,S,D,u,pA,vA,bJ,aD,-aK,kY o,mi,sX,Bj,cM,O,Nat.testBit]
 have:=(aq ai (aO _) K (aR _) m).1;simpa [aee.mem] using this
end
end
end Go.Proofs
