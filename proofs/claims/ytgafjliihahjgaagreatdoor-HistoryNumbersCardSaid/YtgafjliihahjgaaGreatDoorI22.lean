/- See I36. -/
import Derived.Test.YtgafjliihahjgaaGreatDoorI21
set_option linter.all false
set_option maxRecDepth 100000
set_option maxHeartbeats 40000000
namespace Go.Proofs
open Go.Eng
open Tryz
def kC:List (List UInt8×List UInt8)->List AV
 | []=>[]
 |k::l=>.str k.1::.str k.2::kC l
theorem lE:∀l:List (List UInt8×List UInt8),(kC l).length=2*l.length
 | []=>rfl
 |_::l=>by simp only[kC,List.length_cons,lE l];omega
theorem U0:∀(l:List (List UInt8×List UInt8)) (i:Nat),(kC l).drop (i*2)=kC (l.drop i)
 |l,0=>by simp
 | [],i+1=>by simp[kC]
 |k::l,i+1=>by
  have:(i+1)*2=i*2+1+1:=by omega
  rw[this];simp only[kC,List.drop_succ_cons];exact U0 l i
variable{i:Nat}
theorem O9{l:List (List UInt8×List UInt8)}{k:List UInt8×List UInt8}(h:l[i]? =some k):
  ((kC l).drop (i*2)).take 2=[.str k.1,.str k.2]/\(kC l)[i*2]? =some (.str k.1)/\(kC l)[i*2+1]? =some (.str k.2):=by
 have Z:l.drop i=k::l.drop (i+1):=by rw[N4] at h;obtain⟨X,W⟩:=h;rw[<-W];exact N2 X
 have e:=U0 l i;rw[Z] at e;refine⟨by rw[e];rfl,?_,?_⟩
 .have:(kC l)[i*2]? =((kC l).drop (i*2))[0]? :=by rw[QQc];rfl
  rw[this,e];rfl
 .have:(kC l)[i*2+1]? =((kC l).drop (i*2))[1]? :=by rw[QQc]
  rw[this,e];rfl
theorem Pa(n:Nat):∀l:List (List UInt8×List UInt8),AV.ago n (kC l)=[]
 | []=>by simp[kC,AV.ago]
 |k::l=>by simp[kC,AV.ago,AV.refs,Pa n l]
def kT(Q:List (Rat×Rat)):List (List UInt8×List UInt8):=Q.map fun q=>(aB q.1,aB q.2)
theorem ib(Q:List (Rat×Rat)):(kT Q).length=Q.length:=by simp[kT]
theorem U2{Q:List (Rat×Rat)}{q:Rat×Rat}(h:Q[i]? =some q):(kT Q)[i]? =some (aB q.1,aB q.2):=by simp[kT,h]
def Yt(Q:List (Rat×Rat)):Prop:=∀q∈Q,aga q.1/\aga q.2
theorem XQ(f:Nat->Option Nat):∀l:List (List UInt8×List UInt8),AV.agd f (kC l)=kC l
 | []=>by simp[kC,AV.agd]
 |k::l=>by simp[kC,AV.agd,AV.ren,XQ f l]
def Gg(p:Option Rat)(q:Rat):Bool:=match p with
 |some r=>decide (r<q)
 |none=>true
def ckE(p:Option Rat):List (List UInt8×List UInt8)->Int
 | []=>0
 |k::l=>if xz k.1=0/\xz k.2=0 then (if Gg p ((eS k.1).getD 0) then ckE (eS k.1) l else 6) else 2
def Ul(L:List (List UInt8×List UInt8))(n:Nat)(p:Option Rat):Prop:=
 (n=0/\p=none)\/(∃m q k,n=m+1/\p=some q/\L[m]? =some k/\k.1=aB q/\(az q.num.natAbs).length<=200/\(az q.den).length<=200)
variable{K:Nat}{b:Code}
theorem rz(L:List (List UInt8×List UInt8))(hL:∀k∈L,k.1.length<=1000000000/\k.2.length<=1000000000)(hl:L.length<=1000000000)(hK:L.length<K)(hb:ag f256=[b]):
  ∃F:Env->Bool->Env×Mem×(List UInt8×List UInt8),∀Z d,(ad Z 0=.slice 0 0 L.length none/\ad Z 8=.slice 0 0 L.length none/\ad Z 9=.int .i64 L.length/\ad Z 10=.int .i64 0)->
   aT (aU prog) (fun _=>[10]) (af aq) K 40 1 true (.loop b) ⟨Z,[.cells false 2 (kC L)],d⟩=some (if ckE none L=0 then .exit 0 else .ret,⟨(F Z d).1,(F Z d).2.1,d⟩)/\
    ((ckE none L=0->(F Z d).2.1=[.cells false 2 (kC L)])/\(ckE none L≠0->(F Z d).2.1=[.cells false 2 (kC L),.cells true 0 [.str (F Z d).2.2.1,.str (F Z d).2.2.2]]/\ad (F Z d).1 2=.int .i64 (ckE none L))):=by
 refine kH (β:=List UInt8×List UInt8) rfl (fun Z=>(ad Z 0=.slice 0 0 L.length none/\ad Z 8=.slice 0 0 L.length none/\ad Z 9=.int .i64 L.length/\ad Z 10=.int .i64 0)) (fun _ H X x=>(ckE none L=0->X =[.cells false 2 (kC L)])/\(ckE none L≠0->X =[.cells false 2 (kC L),.cells true 0 [.str x.1,.str x.2]]/\ad H 2=.int .i64 (ckE none L))) ?_;rintro Z d ⟨h0,h8,h9,h10⟩;simp[ag,aH,f256] at hb;have R:au [10] (ab b) Z ((10,.int .i64 ((0:Nat):Int))::Z)=au [10] (ab b) Z Z:=by simp[au,h10]
 rw[<-R];have kl:(kC L).length=2*L.length:=lE L;refine kG (α:=Nat) (fun n=>⟨au [10] (ab b) Z ((10,.int .i64 (n:Int))::Z),[.cells false 2 (kC L)],d⟩) (fun n=>L.length-n) (fun n=>n<=L.length/\∃p,Ul L n p/\ckE none L=ckE p (L.drop n)) (if ckE none L=0 then .exit 0 else .ret) d (fun H X =>∃x:List UInt8×List UInt8,(ckE none L=0->X =[.cells false 2 (kC L)])/\(ckE none L≠0->X =[.cells false 2 (kC L),.cells true 0 [.str x.1,.str x.2]]/\ad H 2=.int .i64 (ckE none L))) (by split<;>simp) ?_ K 0 ⟨by omega,none,.inl ⟨rfl,rfl⟩,by rw[List.drop_zero]⟩ (by omega);rintro n ⟨hn1,p,hp,he⟩;clear R;subst hb;by_cases W:n<L.length
 .obtain⟨k,O⟩:∃k,L[n]? =some k:=⟨L[n],GT W⟩
  obtain⟨S,k2,k3⟩:=O9 O;obtain⟨G,Q⟩:=hL k (Lo O);have hd:L.drop n=k::L.drop (n+1):=by rw[N4] at O;obtain⟨h1,h2⟩:=O;rw[<-h2];exact N2 h1
  rw[hd,ckE] at he;have w1:IntKind.i64.wrap ((n:Int)+1)=((n+1:Nat):Int):=by rw[ai];omega
  have M:n*2+2<=(kC L).length:=by omega
  by_cases V:xz k.1=0
  .by_cases D:xz k.2=0
   .rw[if_pos ⟨V,D⟩] at he
    obtain⟨q,hq,J,q1,q2⟩:=Bo V;rw[hq] at he;have C :(az q.num.natAbs).length<=40000:=by omega
    have B :(az q.den).length<=40000:=by omega
    simp only[Option.getD_some] at he;rcases hp with⟨rfl,rfl⟩ | ⟨m,r,j,rfl,rfl,hj,y,r1,r2⟩
    .rw[if_pos (by rfl)] at he
     left;refine⟨1,?_⟩;have hz:(0:Int)<L.length:=by omega
     have I:Ul L 1 (some q):=.inr ⟨0,q,k,rfl,rfl,O,J,q1,q2⟩;have w3:IntKind.i64.wrap 1=1:=rfl;simp at S M W;simp[h0,h8,h9,W,af,aq,G,Q,V,D,S,M,w3,Pa,Nat.testBit];exact⟨⟨by omega,_,I,by simpa using he⟩,by omega⟩
    .obtain⟨j1,j2,j3⟩:=O9 hj
     have w2:IntKind.i64.wrap (((m+1:Nat):Int)-1)=(m:Int):=by rw[ai];omega
     have A :(az r.num.natAbs).length<=40000:=by omega
     have z :(az r.den).length<=40000:=by omega
     obtain⟨n,R⟩:=xE (m+1);rw[<-R] at O S k2 k3 M w1 w2 W hn1 he hd |-;have n0:(0:Int)<n:=by omega
     have u :0<n:=by omega
     have hm:m<L.length:=by omega
     rw[J] at G V S;rw[y] at j2;have I:Ul L (n+1) (some q):=.inr ⟨n,q,k,rfl,rfl,O,J,q1,q2⟩;obtain⟨v,hv⟩:=xE (n+1);rw[<-hv] at w1 I he;by_cases Y:r<q
     .have c:¬nL q r<=0:=fun h=>by have:=vT.1 h;grind
      rw[if_pos (by simp[Gg,Y])] at he;left;refine⟨v,?_⟩;simp[h0,h8,h9,W,hm,u,af,aq,aI,aw,G,Q,V,D,S,M,j2,w1,w2,C,B,A,z,c,Pa,Nat.testBit];exact⟨⟨by omega,_,I,he⟩,by omega⟩
     .have c:nL q r<=0:=vT.2 (by grind)
      rw[if_neg (by simp[Gg,Y])] at he;right;rw[he];simp[h0,h8,h9,W,hm,u,af,aq,aI,aw,G,Q,V,D,S,M,j2,w2,C,B,A,z,c,Nat.testBit];exact⟨_,_,⟨rfl,rfl⟩,⟨_,_,rfl⟩,rfl⟩
   .rw[if_neg (fun h=>D h.2)] at he
    right;rw[he];simp[h8,h9,W,af,aq,G,Q,V,D,S,M];exact⟨_,_,⟨rfl,rfl⟩,⟨k.1,k.2,rfl⟩,rfl⟩
  .rw[if_neg (fun h=>V h.1)] at he
   right;rw[he];simp[h8,h9,W,af,aq,G,V,S,M];exact⟨_,_,⟨rfl,rfl⟩,⟨k.1,k.2,rfl⟩,rfl⟩
 .right
  have e:L.drop n=[]:=Mp (by omega);rw[e,ckE] at he;rw[he];simp[h9,W]
def knE(L:List (List UInt8×List UInt8)):Int:=if 20<L.length then 4 else ckE none L
theorem yo(L:List (List UInt8×List UInt8))(y:∀k∈L,k.1.length<=1000000000/\k.2.length<=1000000000)(H:L.length<=1000000000):
  kO prog 256 [.slice 0 0 L.length none] [.cells false 2 (kC L)] (.int .i64 (knE L)) [.cells false 2 (kC L)]:=by
 have O:aS prog 256=some f256:=by kernel_rfl
 obtain⟨b,M⟩:∃b,ag f256=[b]:=⟨_,rfl⟩
 obtain⟨F,Z⟩:=rz (K:=L.length+1) L y H (by omega) M;simp[ag,aH,f256] at M;subst M;refine dx (lv:=(fun _=>[10])) (K:=(L.length+1)) cw ?_;unfold knE;by_cases S:20<L.length
 .rw[if_pos S]
  have X:(20:Int)<L.length:=by omega
  simp[aa,O,f256,X]
 .rw[if_neg S]
  have X:¬(20:Int)<L.length:=by omega
  by_cases hc:ckE none L=0
  .rw[if_pos hc] at Z
   have J:=fun W d h=>(Z W d h).1
   have V:=fun W d h=>(Z W d h).2.1 hc
   clear Z;simp[aa,O,f256,X,J,V,hc]
  .rw[if_neg hc] at Z
   have J:=fun W d h=>(Z W d h).1
   have V:=fun W d h=>((Z W d h).2.2 hc).1
   have G:=fun W d h=>((Z W d h).2.2 hc).2
   clear Z;simp[aa,O,f256,X,J,V,G]
def vZ(d:agf)(j:Nat):P2:=(((d.N.tmod 3+2*j:Int):Rat),mkRat ((MW d.K j%4:Nat)-1:Int) (1+d.K.2.2.2%2))
def cJ(d:agf)(c:Nat):List P2:=(List.range c).map (vZ d)
theorem Pd(d:agf)(c:Nat):cJ d (c+1)=cJ d c++[vZ d c]:=by simp[cJ,List.range_succ]
theorem dK(d:agf)(c:Nat):(cJ d c).length=c:=by simp[cJ]
def Nv:List AV:=[.int .i64 0,.str [],.y9,.y9,.y9,.str [],.str [],.str [],.str [],.str [],.str [],.str [],.str [],.str [],.str [],.y9,.str [],.str [],.str [],.str [],.str [],.str [],.str [],.str [],.str [],.int .i64 0,.int .i64 0,.int .i64 0,.int .i64 0,.str [],.str [],.str []]
def Mz(d:agf)(n k:Nat)(nm:List UInt8)(v:Z3)(o:Int)(s:Z3)(x:AV):Mem:=
 [.HS,.HS,.cells true 0 [.slice 0 0 n none,.slice 1 0 k none],.cells true 0 d.cells,.cells true 0 Nv,.cells true 0 [.str (zS v.1),.str (zS v.2.1),.str (zS v.2.2)],.cells true 0 [.str (zS v.1),.str (zS v.2.1),.str (zS v.2.2),.str (zS o)],.cells true 0 (cn nm v x s)]
def Dg(d:agf)(n k:Nat)(nm:List UInt8)(v:Z3)(o:Int)(s:Z3)(j:Nat):Mem:=if j=0 then Mz d n k nm v o s .y9 else Mz d n k nm v o s (.slice 8 0 j none)++[.cells true 2 (pC (cJ d j))]
theorem zb{d:agf}{n k:Nat}{nm:List UInt8}{v:Z3}{o:Int}{s:Z3}{j:Nat}(h:0<j):Dg d n k nm v o s j=Mz d n k nm v o s (.slice 8 0 j none)++[.cells true 2 (pC (cJ d j))]:=if_neg (by omega)
theorem QI(n:Nat):AV.ago n Nv=[]:=rfl
theorem VV(f:Nat->Option Nat):AV.agd f Nv=Nv:=rfl
theorem EE(d:agf)(hd:d.Ok)(n k:Nat)(nm:List UInt8)(v:Z3)(o:Int)(s:Z3)(c:Nat)(hc:c<=3)(hK:c<K)(hb:ag f28=[b]):
  ∃F:Env->Env,∀W,(ad W 4=.ptr 3 0/\ad W 9=.ptr 7 0/\ad W 121=.int .i64 c/\ad W 122=.int .i64 0/\ad W 6=.ptr 4 0)->
   aT (aU prog) (fun _=>[122,122]) (eI d) K 172 2 true (.loop b) ⟨W,Dg d n k nm v o s 0,false⟩=some (.exit 1,⟨F W,Dg d n k nm v o s c,decide (0<c)⟩)/\ad (F W) 9=.ptr 7 0/\ad (F W) 6=.ptr 4 0:=by
 refine mL (L:=[122,122]) rfl false _ (fun W=>ad W 4=.ptr 3 0/\ad W 9=.ptr 7 0/\ad W 121=.int .i64 c/\ad W 122=.int .i64 0/\ad W 6=.ptr 4 0) (fun W AC =>ad AC 9=.ptr 7 0/\ad AC 6=.ptr 4 0) ?_;rintro W ⟨h4,h9,adw,afx,h6⟩;obtain⟨os,A'⟩:∃os,aN f28=os:=⟨_,rfl⟩
 have PP:=bP A' (ls:=[[0,0,2,6,14,30,63,0,255],[0,1,3,7,15,0,32,96,255,0,1023],[0,0,0,4,12,28,60,0,128,384,896,1920,0,4096,12288,28672,61440,131068,262142,524287,1048575,2097151],[0,0,0,4,12,28,60,0,128,384,896,1920,0,4096,12288,28672,61440,131068,262142,524287,1048575,2097151],[0,1,3,0,8,24,56,0,128,504,1016,0,0,6144,14336,30720,63488,129024,0,262144,786432,1835008,3932160,8126464,16777208,33554424,67108856,134217727,268435455,536870911,1073741823],[0,0,2,6,14,30,62,126,0,510,1022,2047,4095,8191],[0,0,0,0,0,0,63,0,128,384,896,2047,4095,0,8192,24576,57344,122880,0,262144,786432,1835008,3932160,0,8388608,25165824,58720256,125829120,268427264,536870911,1073741823,2147483647]]) (by kernel_rfl);simp only[aN,cj,f28,lA] at A';subst A';simp only[lB] at PP;obtain⟨-,-,-,-,A,-,-⟩:=PP;have z:su [0,1,3,0,8,24,56,0,128,504,1016,0,0,6144,14336,30720,63488,129024,0,262144,786432,1835008,3932160,8126464,16777208,33554424,67108856,134217727,268435455,536870911,1073741823] 31 26=true:=by decide
 have u:su [0,1,3,0,8,24,56,0,128,504,1016,0,0,6144,14336,30720,63488,129024,0,262144,786432,1835008,3932160,8126464,16777208,33554424,67108856,134217727,268435455,536870911,1073741823] 31 27=true:=by decide
 have R:su [0,1,3,0,8,24,56,0,128,504,1016,0,0,6144,14336,30720,63488,129024,0,262144,786432,1835008,3932160,8126464,16777208,33554424,67108856,134217727,268435455,536870911,1073741823] 31 30=true:=by decide
 have Q:be [0,1,3,0,8,24,56,0,128,504,1016,0,0,6144,14336,30720,63488,129024,0,262144,786432,1835008,3932160,8126464,16777208,33554424,67108856,134217727,268435455,536870911,1073741823] 27=true:=by decide
 have I:be [0,1,3,0,8,24,56,0,128,504,1016,0,0,6144,14336,30720,63488,129024,0,262144,786432,1835008,3932160,8126464,16777208,33554424,67108856,134217727,268435455,536870911,1073741823] 30=true:=by decide
 simp[ag,aH,f28] at hb;have H:au [122,122] (ab b) W ((122,.int .i64 ((0:Nat):Int))::W)=au [122,122] (ab b) W W:=by simp[au,afx]
 rw[<-H];have hm1:(Dg d n k nm v o s 0).length=8:=rfl;refine bW (α:=Nat) (fun j=>⟨au [122,122] (ab b) W ((122,.int .i64 (j:Int))::W),Dg d n k nm v o s j,decide (0<j)⟩) (fun j=>c-j) (fun j=>j<=c) (.exit 1) _ _ _ (by simp) ?_ K 0 (by omega) (by omega);intro j hn1;clear H;subst hb;by_cases B':j<c
 .left
  have hk1:=Pd d j;have V:vZ d j=(((d.N.tmod 3+2*j:Int):Rat),mkRat ((MW d.K j%4:Nat)-1:Int) (1+d.K.2.2.2%2)):=rfl;have q1:=zh d j (by omega);have q2:=Pk hd.K j;have q3:=pq d.N 3 (by decide);simp only[Int.cast_ofNat_Int] at q3;have hN:=hd.N;unfold Nx at hN;have hN7:=WS d;have h11:d.cells[11]? =some (.int .u8 (d.K.2.2.2:Nat)):=rfl;have wN:IntKind.i64.wrap d.N=d.N:=cd (by omega) (by omega);obtain⟨y,hy⟩:=xE (d.N.tmod 3);rw[<-hy] at q3 V;have l0:=zH d;have r0:=iX d;have o0:=Mn d;have n0:=FO d;have hdO:∀c a M,eI d c a M=eI d c a M:=fun _ _ _=>rfl
  obtain⟨C,hC⟩:=xE d.cells;have hC' :d.cells=C:=hC.symm;rw[<-hC] at q1 hN7 h11 l0;simp only[<-hC] at r0 o0 n0;obtain⟨X,hX⟩:=xE (MW d.K j);rw[<-hX] at q1 q2 V;have j7:∀h,C[7]'h=_:=gE hN7
  have j11:∀h,C[11]'h=_:=gE h11
  have j8:∀h,C[8+j]'h=_:=gE q1
  have t4:((X:Nat):Int).tmod 4=((X%4:Nat):Int):=rfl;have x4:X%4<4:=Nat.mod_lt _ (by decide);obtain⟨x,hx⟩:=xE (X%4);rw[<-hx] at t4 x4 V;have wX:IntKind.i64.wrap (X:Int)=(X:Int):=cd (by omega) (by omega);have wx:IntKind.i64.wrap ((x:Int)-1)=(x:Int)-1:=cd (by omega) (by omega);have t2:((d.K.2.2.2:Nat):Int).tmod 2=((d.K.2.2.2%2:Nat):Int):=rfl;have x2:d.K.2.2.2%2<2:=Nat.mod_lt _ (by decide);obtain⟨w,hw⟩:=xE (d.K.2.2.2%2);rw[<-hw] at t2 x2 V;have ww:IntKind.i64.wrap (w:Int)=(w:Int):=cd (by omega) (by omega);have O:IntKind.i64.wrap (1+(w:Int))=((1+w:Nat):Int):=by rw[cd (by omega) (by omega)];omega
  obtain⟨D,hD⟩:=xE (1+w);rw[<-hD] at O V;have hDp:0<D:=by omega
  have hDl:D<100000000:=by omega
  have w2j:IntKind.i64.wrap (2*(j:Int))=2*(j:Int):=cd (by omega) (by omega);have J:IntKind.i64.wrap (y+2*(j:Int))=y+2*(j:Int):=cd (by omega) (by omega);obtain⟨Y,hY⟩:=xE (y+2*(j:Int));rw[<-hY] at J V;have gY:Y.natAbs<100000000:=by omega
  obtain⟨Z,hZ⟩:=xE ((x:Int)-1);rw[<-hZ] at wx V;have gZ:Z.natAbs<100000000:=by omega
  have hpc:pC [vZ d j]=[.str (zS Y),.str (aB (mkRat Z D))]:=by rw[V];rfl
  have w1:IntKind.i64.wrap ((j:Int)+1)=((j+1:Nat):Int):=by rw[ai];omega
  obtain⟨m,hm⟩:=xE (j+1);rw[<-hm] at w1 hk1;have G:0<m:=by omega
  have hKm:pC (cJ d m)=pC (cJ d j)++[.str (zS Y),.str (aB (mkRat Z D))]:=by rw[hk1,DK,hpc]
  have hj3:(j:Int)<4:=by omega
  have aej :j<4:=by omega
  have hjc:(j:Int)<c:=by omega
  refine⟨m,?_⟩;rw[zb G,hKm];by_cases B:j=0
  .have e0:Dg d n k nm v o s j=Mz d n k nm v o s .y9:=if_pos B
   have e1:cJ d j=[]:=by rw[B];rfl
   have hd0:decide (0<j)=false:=by simp[B]
   have hmd:decide (0<m)=true:=by simpa using G
   have hm0:m=1:=by omega
   rw[e0,hd0,e1,hm0];rw[hm0] at w1;have e2:pC []++[.str (zS Y),.str (aB (mkRat Z D))]=[.str (zS Y),.str (aB (mkRat Z D))]:=rfl;rw[e2];simp[Mz,cn,hC',h4,h9,adw,hjc,l0,r0,n0,q1,j7,j11,hj3,QI,VV,wN,<-hy,t4,t2,wX,wx,ww,O,w2j,J,<-hY,<-hZ,gY,gZ,hDp,hDl,w1,hm1,eI,af,dF,-aJ,kK A,mc,sT,zP,dm,z,u,R,Q,I,bZ,aF,Nat.testBit];omega
  .have S:0<j:=by omega
   have hd1:decide (0<j)=true:=by simpa using S
   have hmd:decide (0<m)=true:=by simpa using G
   rw[zb S,hd1];have hPl:(pC (cJ d j)).length=j*2:=by rw[xX,dK]
   obtain⟨P,hP⟩:=xE (cJ d j);rw[<-hP] at hPl |-;have g3:(pC P).take (j*2)=pC P:=GE (by omega);have g4:m*32<=140737488355328:=by omega
   have g5:m<=140737488355328:=by omega
   simp[Mz,cn,hC',h4,h9,adw,hjc,l0,r0,n0,q1,j7,j11,hj3,QI,VV,wN,<-hy,t4,t2,wX,wx,ww,O,w2j,J,<-hY,<-hZ,gY,gZ,hDp,hDl,w1,hm1,hPl,<-hm,hmd,g3,g4,g5,fB,DL,iH,eI,af,dF,-aJ,kK A,mc,sT,zP,dm,z,u,R,Q,I,bZ,aF,Nat.testBit];omega
 .right
  have e:j=c:=by omega
  subst e;simp[h9,h6,adw]
theorem aiH:be [0,0,0,4,12,28,60,0,128,384,896,1920,0,4096,12288,28672,61440,131068,262142,524287,1048575,2097151] 21=true:=by decide
theorem BH(d:agf)(hd:d.Ok)(n k i:Nat)(hi:i<6)(hn:0<n)(hl:n<=1000)(hk:d.kind%5=2):
  kO prog 28 [.agg [.slice 0 0 n none,.slice 1 0 k none],.agg d.cells,.int .i64 i] [.HS,.HS] (.agg (cn (bR i) (bQ d.A) (.slice 2 0 (1+d.K.1%3) none) (fx (bQ d.A) (uO d.B)))) ([.HS,.HS]++[.cells true 2 (pC (cJ d (1+d.K.1%3)))]):=by
 have hG:aS prog 28=some f28:=by kernel_rfl
 obtain⟨os,A'⟩:∃os,aN f28=os:=⟨_,rfl⟩
 have PP:=bP A' (ls:=[[0,0,2,6,14,30,63,0,255],[0,1,3,7,15,0,32,96,255,0,1023],[0,0,0,4,12,28,60,0,128,384,896,1920,0,4096,12288,28672,61440,131068,262142,524287,1048575,2097151],[0,0,0,4,12,28,60,0,128,384,896,1920,0,4096,12288,28672,61440,131068,262142,524287,1048575,2097151],[0,1,3,0,8,24,56,0,128,504,1016,0,0,6144,14336,30720,63488,129024,0,262144,786432,1835008,3932160,8126464,16777208,33554424,67108856,134217727,268435455,536870911,1073741823],[0,0,2,6,14,30,62,126,0,510,1022,2047,4095,8191],[0,0,0,0,0,0,63,0,128,384,896,2047,4095,0,8192,24576,57344,122880,0,262144,786432,1835008,3932160,0,8388608,25165824,58720256,125829120,268427264,536870911,1073741823,2147483647]]) (by kernel_rfl);simp only[aN,cj,f28,lA] at A';subst A';simp only[lB] at PP;obtain⟨hb0,hb1,hb2,hb3,hb4,hb5,hb6⟩:=PP;have a08:be [0,0,2,6,14,30,63,0,255] 8=true:=by decide
 have adv:be [0,1,3,7,15,0,32,96,255,0,1023] 10=true:=by decide
 have ae7:be [0,0,2,6,14,30,62,126,0,510,1022,2047,4095,8191] 13=true:=by decide
 have ae8:be [0,0,0,0,0,0,63,0,128,384,896,2047,4095,0,8192,24576,57344,122880,0,262144,786432,1835008,3932160,0,8388608,25165824,58720256,125829120,268427264,536870911,1073741823,2147483647] 31=true:=by decide
 obtain⟨b,hb⟩:∃b,ag f28=[b]:=⟨_,rfl⟩
 have c3:d.K.1%3<3:=Nat.mod_lt _ (by decide);obtain⟨F,Z⟩:=EE (K:=9) d hd n k (bR i) (bQ d.A) (d.N.tmod 5) (fx (bQ d.A) (uO d.B)) (1+d.K.1%3) (by omega) (by omega) hb;have m:0<1+d.K.1%3:=by omega
 have hcd:decide (0<1+d.K.1%3)=true:=by simpa using m
 rw[zb m,hcd] at Z;have hF0:Dg d n k (bR i) (bQ d.A) (d.N.tmod 5) (fx (bQ d.A) (uO d.B)) 0=Mz d n k (bR i) (bQ d.A) (d.N.tmod 5) (fx (bQ d.A) (uO d.B)) .y9:=rfl;rw[hF0] at Z;simp[ag,aH,f28] at hb;subst hb;have hN:=hd.N;have hB:=xC hd.B;have hA:=xC hd.A;have n1:=cL d.A;have H:=iq d.B;have q3:=pq d.N 5 (by decide);have h8:=Yn d;have h0:=Yj d;have h4:=Yk d;have h5:=Yl d;have h6:=Ym d;have h7:=WS d;have h1:=Yo d;have l0:=zH d;have r0:=iX d;have o0:=Mn d;have okd:=jA d hd;clear hd;obtain⟨O,⟨M,J,G⟩,⟨X,W,V⟩,N,⟨S,y,K3,K4⟩⟩:=d;simp only at Z c3 hk hN hB hA n1 H q3 h8 h0 h4 h5 h6 h7 h1 |-;simp only[Int.cast_ofNat_Int] at q3;unfold Nx at hN;obtain⟨hB1,hB2,hB3⟩:=hB;simp only at hB1 hB2 hB3;have wN:IntKind.i64.wrap N=N:=cd (by omega) (by omega);have wB1:IntKind.i64.wrap X=X:=cd (by omega) (by omega);have wB2:IntKind.i64.wrap W=W:=cd (by omega) (by omega);have wB3:IntKind.i64.wrap V=V:=cd (by omega) (by omega);have hkt:((O:Nat):Int).tmod 5=2:=by have:((O:Nat):Int).tmod 5=((O%5:Nat):Int):=rfl;rw[this,hk];rfl
 obtain⟨⟨nx,ny,nz⟩,e1⟩:∃v,v=bQ (M,J,G):=⟨_,rfl⟩
 rw[<-e1] at n1;have e2:uO (X,W,V)=(X.tmod 3,W.tmod 3,V.tmod 3):=rfl;rw[e2] at H;obtain⟨o,ho⟩:=xE (N.tmod 5);rw[<-ho] at q3;have go:o.natAbs<100000000:=by omega
 have gi:i<100000000:=by omega
 obtain⟨bx,j⟩:=xE (X.tmod 3);obtain⟨D,Y⟩:=xE (W.tmod 3);obtain⟨bz,R⟩:=xE (V.tmod 3);rw[<-j,<-Y,<-R] at H e2;obtain⟨g1,g2,g3⟩:=H;simp only at g1 g2 g3;have g1' :bx.natAbs<=10000:=by omega
 have g2' :D.natAbs<=10000:=by omega
 have g3' :bz.natAbs<=10000:=by omega
 have m2:fR 2 (bx,D,bz):=⟨g1,g2,g3⟩;obtain⟨C,hC⟩:=xE (agf.cells ⟨O,(M,J,G),(X,W,V),N,(S,y,K3,K4)⟩);rw[<-hC] at h8 h0 h4 h5 h6 h7 h1 l0 r0 o0;have hC' :agf.cells ⟨O,(M,J,G),(X,W,V),N,(S,y,K3,K4)⟩=C:=hC.symm;have tk:C.take 12=C:=GE (by omega);have j8:∀h,C[8]'h=_:=gE h8
 have j0:∀h,C[0]'h=_:=gE h0
 have j4:∀h,C[4]'h=_:=gE h4
 have j5:∀h,C[5]'h=_:=gE h5
 have j6:∀h,C[6]'h=_:=gE h6
 have j7:∀h,C[7]'h=_:=gE h7
 have hp:=jf;rw[e2,<-e1,<-ho] at Z;obtain⟨⟨sx,sy,sz⟩,hs⟩:∃v,v=fx (nx,ny,nz) (bx,D,bz):=⟨_,rfl⟩
 rw[<-hs] at Z;simp only[Mz,cn,bR,Nv,<-hC,List.cons_append,List.nil_append] at Z;have S':=fun Q h=>(Z Q h).1
 have z:=fun Q h=>(Z Q h).2.1
 have u:=fun Q h=>(Z Q h).2.2
 clear Z;have t3:((S:Nat):Int).tmod 3=((S%3:Nat):Int):=rfl;obtain⟨x,hx⟩:=xE (S%3);rw[<-hx] at t3 c3 S' z u;have w13:IntKind.i64.wrap (x:Int)=(x:Int):=cd (by omega) (by omega);have I:IntKind.i64.wrap (1+(x:Int))=((1+x:Nat):Int):=by rw[cd (by omega) (by omega)];omega
 obtain⟨c,hc⟩:=xE (1+x);rw[<-hc] at I S' z u;have c1:=I;have u12:IntKind.i64.wrap (1+1)=2:=rfl;have u13:IntKind.i64.wrap (1+2)=3:=rfl;have u14:IntKind.i64.wrap (1+3)=4:=rfl;have u15:IntKind.i64.wrap (1+4)=5:=rfl;have hip:=gG (n:=(i:Int)) (by omega);have ace :(zS (i:Int)).length+1<=9223372036854775807:=by unfold zS;omega
 have aa2:1+(zS (i:Int)).length<=9223372036854775807:=by omega
 have h:aa (aU prog) (fun _=>[122,122]) (aS prog) (eI ⟨O,(M,J,G),(X,W,V),N,(S,y,K3,K4)⟩) 9 28 [.agg [.slice 0 0 n none,.slice 1 0 k none],.agg C,.int .i64 i] [.HS,.HS]=some ⟨(.agg (cn (bR i) (bQ (M,J,G)) (.slice 2 0 (1+S%3) none) (fx (bQ (M,J,G)) (uO (X,W,V))))),some [.HS,.HS],[.cells true 2 (pC (cJ ⟨O,(M,J,G),(X,W,V),N,(S,y,K3,K4)⟩ (1+S%3)))]⟩:=by rw[e2,<-e1,<-hs,<-hx,<-hc];simp[aa,hG,f28,eI,af,dF,zA,l0,j8,j0,j4,j5,j6,j7,h1,hA,<-e1,hkt,wN,wB1,wB2,wB3,<-ho,<-j,<-Y,<-R,go,gi,g1',g2',g3',hp,n1,m2,w2,w3,aa2,ix,bZ,aF,-aJ,cV hb0,cV hb1,cV hb3,kX,qM,D2,nV,dm,qS,bef,a08,adv,aiH,Nat.testBit,S',z,u,<-hs,c1,t3,w13,cn,bR,fB,iH]
 have:=(ah ae (al _) okd (ao _) h).1;rw[<-hC];simpa [afA.mem] using this
end Go.Proofs
namespace Go.Proofs
open Go.Eng
end Go.Proofs
namespace Go.Proofs
open Go.Eng
open Tryz
theorem Vy:∀L:List P2,pC L=kC (kT L)
 | []=>rfl
 |p::L=>by have:=Vy L;simp[pC,kC,kT,this]
theorem HZ(d:agf)(j:Nat)(y:j<3):xz (aB (vZ d j).1)=0/\xz (aB (vZ d j).2)=0:=by have h3: -3<d.N.tmod 3/\d.N.tmod 3<3:=pq d.N 3 (by decide);have X:MW d.K j%4<4:=Nat.mod_lt _ (by decide);obtain⟨u,hu⟩:=xE (MW d.K j%4);rw[<-hu] at X;refine⟨XI (n:=d.N.tmod 3+2*j) (by omega),?_⟩;have W:d.K.2.2.2%2<2:=Nat.mod_lt _ (by decide);obtain⟨v,Z⟩:=xE (d.K.2.2.2%2);rw[<-Z] at W;have:dg 3 1 (mkRat ((u:Int)-1) (1+v)):=tQ (by omega) (by omega) (by omega);unfold vZ;rw[<-hu,<-Z];exact vR (this.mono (by omega) (by omega))
theorem YB(d:agf)(c:Nat)(h1:0<c)(hc:c<=3):knE (kT (cJ d c))=0:=by
 have Z:=HZ d 0 (by omega);have X:=HZ d 1 (by omega);have V:=HZ d 2 (by omega);have p:∀q:Rat,eS (aB q)=some q:=aw
 have l:∀i j:Nat,i<j->(vZ d i).1<(vZ d j).1:=fun i j h=>by
  simp only[vZ]
  exact_mod_cast (by omega:d.N.tmod 3+2*(i:Int)<d.N.tmod 3+2*(j:Int))
 have W:=l 0 1 (by omega);have S:=l 1 2 (by omega);have r1:List.range 1=[0]:=rfl;have r2:List.range 2=[0,1]:=rfl;have O:List.range 3=[0,1,2]:=rfl;have:c=1\/c=2\/c=3:=by omega
 rcases this with rfl | rfl | rfl
 .simp[knE,cJ,r1,kT,ckE,Z,Gg]
 .simp[knE,cJ,r2,kT,ckE,Z,X,p,Gg,W]
 .simp[knE,cJ,O,kT,ckE,Z,X,V,p,Gg,W,S]
theorem wO(d:agf)(c:Nat)(h1:0<c)(hc:c<=3)(M:Mem)(b:Nat)(o:Bool)(y:M[b]? =some (.cells o 2 (pC (cJ d c)))):
  kO prog 256 [.slice b 0 c none] M (.int .i64 0) M:=by
 have W:(kT (cJ d c)).length=c:=by rw[ib,dK]
 have h:=yo (kT (cJ d c)) (fun q hq=>by
  simp only[kT,cJ,List.map_map,QQj,List.mem_range] at hq;obtain⟨j,S,rfl⟩:=hq;have h3: -3<d.N.tmod 3/\d.N.tmod 3<3:=pq d.N 3 (by decide);obtain⟨u,hu⟩:=xE (MW d.K j%4);have O:u<4:=by rw[hu];exact Nat.mod_lt _ (by decide)
  obtain⟨v,Z⟩:=xE (d.K.2.2.2%2);have J:v<2:=by rw[Z];exact Nat.mod_lt _ (by decide)
  have X:dg 3 1 (mkRat ((u:Int)-1) (1+v)):=tQ (by omega) (by omega) (by omega);have V:big 3 (mkRat ((u:Int)-1) (1+v)):=⟨X.1,by have:=X.2;omega⟩;have G:=FK (by decide) V;have F:=gG (n:=d.N.tmod 3+2*j) (by omega);have f1:(((fun q=>(aB q.1,aB q.2))∘vZ d) j).1=zS (d.N.tmod 3+2*j):=rfl;have f2:(((fun q=>(aB q.1,aB q.2))∘vZ d) j).2=aB (mkRat ((u:Int)-1) (1+v)):=by rw[hu,Z];rfl
  rw[f1,f2];exact⟨by unfold zS;omega,by omega⟩) (by omega)
 rw[W,YB d c h1 hc,<-Vy] at h;exact kO.ahP (rest:=[]) (fl _) rfl rfl h ⟨b,o,_,rfl,y,O1⟩
theorem Oa(d:Nat)(a b:List UInt8):mI (aU prog) (d+2) 124 (.agg [.str a,.str b]) (.agg [.str a,.str b])=some true:=by have i:=mf d;rw[mI];simp[Tj,kJ,TyI.isAgg,i]
section
variable (L:List P2)(h1:0<L.length)(hc:L.length<=3)
include L h1 hc
theorem Q6:
  kO prog 168 [.slice 0 0 L.length none,.slice 0 0 L.length none] [.cells false 2 (pC L)] (.bool true) [.cells false 2 (pC L)]:=by
 have X:aS prog 168=some f168:=by kernel_rfl
 obtain⟨S,W⟩:∃S,aN f168=S:=⟨_,rfl⟩
 have Z:=bP W (ls:=[[0,0,3,7,0,0,48,112,255]]) (by kernel_rfl);simp only[aN,cj,f168,List.nil_append,List.append_nil] at W;subst W;simp only[lB] at Z;have V:be [0,0,3,7,0,0,48,112,255] 8=true:=by decide
 have e:=fun d=>Oa d
 refine dx (lv:=(fun _=>[13])) (K:=5) (aj _) ?_
 match L,h1,hc with
 | [p],_,_=>simp[-aJ,ak Z,bt,bj,bp,V,aa,X,f168,aR,fW,pC,e,w1]
 | [p,q],_,_=>simp[-aJ,ak Z,bt,bj,bp,V,aa,X,f168,aR,fW,pC,e,w1,w2]
 | [p,q,r],_,_=>simp[-aJ,ak Z,bt,bj,bp,V,aa,X,f168,aR,fW,pC,e,w1,w2,w3]
theorem Tw(M:Mem)(b:Nat)(o:Bool)(y:M[b]? =some (.cells o 2 (pC L))):
  kO prog 168 [.slice b 0 L.length none,.slice b 0 L.length none] M (.bool true) M:=by
 have X:=gL y;have:=kO.frame (M:=M) (new:=[]) [b] rfl (by simpa using X) (by rfl) (fun i t Z=>by
  match i with
  |0=>simp at Z;subst Z;exact bY (fl _) y O1
  |i+1=>simp at Z) rfl (Q6 L h1 hc)
 simpa [AV.agd,AV.ren,eg] using this
end
open Classical in
noncomputable def fU(f:FuncId)(args:List AV)(v:AV)(p:Mem->Prop):af3:=fun c a M=>if c=.fn f/\a=args/\p M then some ⟨v,none,[]⟩ else none
theorem gn{P:Program}{f:FuncId}{args:List AV}{v:AV}{p:Mem->Prop}(h:∀M,p M->kO P f args M v M):adM P (fU f args v p):=by
 have k:∀c a M r,fU f args v p c a M=some r->(c=.fn f/\a=args/\p M)/\r=⟨v,none,[]⟩:=fun c a M r Z=>by
  unfold fU at Z;split at Z
  .cases Z;exact⟨‹_›,rfl⟩
  .cases Z
 refine⟨fun g a M r Z=>?_,fun b a M r Z=>?_,fun c a M r q Z hq=>?_⟩
 .obtain⟨⟨X,rfl,W⟩,rfl⟩:=k _ _ _ _ Z
  cases X;simpa [afA.mem] using h M W
 .obtain⟨⟨X,_⟩,_⟩:=k _ _ _ _ Z
  cases X
 .obtain⟨_,rfl⟩:=k _ _ _ _ Z
  cases hq
theorem Ej(nm:List UInt8)(n:Z3)(L:List P2)(s:Z3)(h1:0<L.length)(hc:L.length<=3)(M:Mem)(b:Nat)(o:Bool)(y:M[b]? =some (.cells o 2 (pC L))):
  kO prog 110 [.agg (cn nm n (.slice b 0 L.length none) s),.agg (cn nm n (.slice b 0 L.length none) s)] M (.bool true) M:=by
 have X:=gL y;refine ko (adM.or' jC (gn (f:=168) (args:=[.slice b 0 L.length none,.slice b 0 L.length none]) (v:=.bool true) (p:=fun Z =>Z[b]? =some (.cells o 2 (pC L))) fun Z h=>Tw L h1 hc Z b o h)) rfl rfl rfl ?_;have:(M++[.cells true 0 (cn nm n (.slice b 0 L.length none) s),.cells true 0 (cn nm n (.slice b 0 L.length none) s)])[b]? =some (.cells o 2 (pC L)):=gU y _;unfold af3.or;rw[show tL (.fn 168) [.slice b 0 L.length none,.slice b 0 L.length none] _=none from rfl];simp only[fU];exact if_pos ⟨rfl,rfl,this⟩
def gH:AV:=.agg [.func 194 [],.func 195 [],.func 196 [],.func 197 [],.func 198 []]
theorem BR(nm:List UInt8)(n:Z3)(c:Nat)(s:Z3):kO prog 77 [.agg (cn nm n (.slice 0 0 c none) s)] [.HS] gH [.HS]:=by
 have h:aa (aU prog) ab (aS prog) xf 6 77 [.agg (cn nm n (.slice 0 0 c none) s)] [.HS]=some ⟨gH,none,[]⟩:=by as_aux_lemma=>kernel_rfl
 have:=(ah ae (al _) jB (ao _) h).1;simpa [afA.mem] using this
theorem uF(nm:List UInt8)(n:Z3)(c:Nat)(s:Z3)(M:Mem)(b:Nat)(y:b<M.length):kO prog 77 [.agg (cn nm n (.slice b 0 c none) s)] M gH M:=by
 have:=kO.frame (M:=M) (new:=[]) [b] rfl (by simpa using y) (by rfl) (fun i t Z=>by
  match i with
  |0=>simp at Z;subst Z;trivial
  |i+1=>simp at Z) rfl (BR nm n c s)
 simpa [cn,AV.agd,AV.ren,eg,gH] using this
noncomputable def jM(n s:Z3):List (FuncId×List AV×AV):=[
 (14,[zA n],.int .i64 0),
 (255,[zA s,zA n],.int .i64 0)]
theorem Iy(nm:List UInt8)(n s:Z3)(d:agf)(c:Nat)(h1:0<c)(hc:c<=3)(I:fR 1000 n)(Q:jt n=false)(hs:fR 1000 s)(hd:Iq s n=0)(x y:AV)(m:Mem)(b:Nat)(o:Bool)(H:m[b]? =some (.cells o 2 (pC (cJ d c)))):
  kO prog 195 [.agg [x,y],.agg (cn nm n (.slice b 0 c none) s)] m (.int .i64 0) m:=by
 have J:aS prog 195=some f195:=by kernel_rfl
 have R:=gL H;have X:adM prog (af (dR (jM n s))):=gQ fun e he M=>by
  simp only[jM,lM] at he;rcases he with rfl | rfl
  .exact wU n I M
  .exact BA s n hs I hd M
 have W:adM prog (fU 256 [.slice b 0 c none] (.int .i64 0) (fun M=>∃ext,M=m++ext)):=gn fun M hM=>by obtain⟨ext,rfl⟩:=hM;exact wO d c h1 hc _ b o (gU H _)
 have hO:=adM.or' X W;have u:=qv n.1;have j:=qv n.2.1;have Y:=qv n.2.2;have V:((zS n.1==[48]&&zS n.2.1==[48])&&zS n.2.2==[48])=false:=by rw[u,j,Y];exact Q
 clear X W H R hd hs Q I u j Y;obtain⟨G,F,D⟩:=n;simp only at V;obtain⟨A,S⟩:=xE (zS G);obtain⟨B,O⟩:=xE (zS F);obtain⟨C,K⟩:=xE (zS D);rw[<-S,<-O,<-K] at V;have h:aa (aU prog) (fun _=>[]) (aS prog) (af3.or (af (dR (jM (G,F,D) s))) (fU 256 [.slice b 0 c none] (.int .i64 0) (fun M=>∃ext,M=m++ext))) 1 195 [.agg [x,y],.agg (cn nm (G,F,D) (.slice b 0 c none) s)] m=some ⟨.int .i64 0,none,[]⟩:=by
  have z:(A==[48])=false\/((A==[48])=true/\(B==[48])=false)\/((A==[48])=true/\(B==[48])=true/\(C==[48])=false):=by cases Z:(A==[48])<;>cases H:(B==[48])<;>cases hc:(C==[48])<;>simp_all
  rcases z with Z | ⟨Z,H⟩ | ⟨Z,H,hc⟩
  .simp[aa,J,f195,af3.or,af,jM,dR,fU,cn,zA,<-S,<-O,<-K,Z]
  .simp[aa,J,f195,af3.or,af,jM,dR,fU,cn,zA,<-S,<-O,<-K,Z,H]
  .simp[aa,J,f195,af3.or,af,jM,dR,fU,cn,zA,<-S,<-O,<-K,Z,H,hc]
 have:=(ah ae (al _) hO (ao _) h).1;simpa [afA.mem] using this
def xD(s:af8)(L:List P2):Mem:=[.cells false 2 (pC s.P),.cells false 3 (tC s.T),.cells false 2 (pC L)]
def ou(s:af8)(L:List P2)(y:List AV):Mem:=[.cells false 2 (pC s.P),.cells false 3 (tC s.T),.cells false 2 (pC L),.cells true 0 [.slice 0 0 s.P.length none,.slice 1 0 s.T.length none],.cells true 0 y]
theorem Al(y:af8)(nm:List UInt8)(n s:Z3)(L:List P2)(c:Nat):
  kO prog 194 [.agg (cn nm n (.slice 2 0 c none) s),.ptr 5 0] (ou y L (cn nm n (.slice 2 0 c none) s)++[.cells true 0 (dH 3 nm)]) (.tuple []) (ou y L (cn nm n (.slice 2 0 c none) s)++[.cells true 0 (cn nm n (.slice 2 0 c none) s)]):=by
 have Z:aS prog 194=some f194:=by kernel_rfl
 have h:aa (aU prog) (fun _=>[]) (aS prog) bD 1 194 [.agg (cn nm n (.slice 2 0 c none) s),.ptr 5 0] (ou y L (cn nm n (.slice 2 0 c none) s)++[.cells true 0 (dH 3 nm)])=some ⟨.tuple [],some (ou y L (cn nm n (.slice 2 0 c none) s)++[.cells true 0 (cn nm n (.slice 2 0 c none) s)]),[]⟩:=by simp[aa,Z,f194,ou,dH,cn,fB,fQ,iH,kj]
 have:=(ah ae (al _) (aj _) (ao _) h).1;simpa [afA.mem] using this
noncomputable def nC(H:af8)(L:List P2)(nm:List UInt8)(y:List AV):List (FuncId×List AV×Mem×afA):=[
 (59,[shA H],ou H L y,⟨.int .i64 0,none,[]⟩),
 (77,[.agg y],ou H L y++[.cells true 0 (dH 3 nm)],⟨gH,none,[]⟩),
 (194,[.agg y,.ptr 5 0],ou H L y++[.cells true 0 (dH 3 nm)],⟨.tuple [],some (ou H L y++[.cells true 0 y]),[]⟩),
 (110,[.agg y,.agg y],ou H L y++[.cells true 0 y],⟨.bool true,none,[]⟩),
 (77,[.agg y],ou H L y++[.cells true 0 y],⟨gH,none,[]⟩),
 (195,[shA H,.agg y],ou H L y++[.cells true 0 y],⟨.int .i64 0,none,[]⟩)]
theorem yv(y:af8)(nm:List UInt8)(n s:Z3)(d:agf)(c:Nat)(h1:0<c)(hc:c<=3)(H:nm∈bF)(I:fR 1000 n)(Q:jt n=false)(hs:fR 1000 s)(hd:Iq s n=0):
  kO prog 61 [shA y,.agg (cn nm n (.slice 2 0 c none) s)] (xD y (cJ d c)) (.int .i64 0) (xD y (cJ d c)):=by
 have D:aS prog 61=some f61:=by kernel_rfl
 obtain⟨K,X⟩:∃K,aN f61=K:=⟨_,rfl⟩
 have J:=bP X (ls:=[[0,1,3,0,15],[0,1,3,0,0,31,63]]) (by kernel_rfl);simp only[aN,cj,f61,lA] at X;subst X;simp only[lB] at J;obtain⟨W,V⟩:=J;have C:be [0,1,3,0,15] 4=true:=by decide
 have B:be [0,1,3,0,0,31,63] 6=true:=by decide
 have A:=dK d c;obtain⟨G,Z⟩:=xE (cn nm n (.slice 2 0 c none) s);have S:adM prog (af (dR [(109,[.str nm],.int .i64 0)])):=gQ fun e he M=>by simp only[lM] at he;subst he;exact dZ nm H M
 have O:adM prog (iY (nC y (cJ d c) nm G)):=kQ fun e he=>by
  simp only[nC,lM] at he;subst Z;have hq:=Ej nm n (cJ d c) s (by omega) (by omega) (ou y (cJ d c) (cn nm n (.slice 2 0 c none) s)++[.cells true 0 (cn nm n (.slice 2 0 c none) s)]) 2 false rfl;rw[A] at hq;rcases he with rfl | rfl | rfl | rfl | rfl | rfl
  .exact⟨by simpa [afA.mem,shA] using ft y (ou y (cJ d c) (cn nm n (.slice 2 0 c none) s)) 0 1 false false rfl rfl,by simp⟩
  .exact⟨by simpa [afA.mem] using uF nm n c s (ou y (cJ d c) (cn nm n (.slice 2 0 c none) s)++[.cells true 0 (dH 3 nm)]) 2 (by simp[ou]),by simp⟩
  .exact⟨by simpa [afA.mem] using Al y nm n s (cJ d c) c,by simp[ou]⟩
  .exact⟨by simpa [afA.mem] using hq,by simp⟩
  .exact⟨by simpa [afA.mem] using uF nm n c s (ou y (cJ d c) (cn nm n (.slice 2 0 c none) s)++[.cells true 0 (cn nm n (.slice 2 0 c none) s)]) 2 (by simp[ou]),by simp⟩
  .exact⟨by simpa [afA.mem,shA] using Iy nm n s d c h1 hc I Q hs hd (.slice 0 0 y.P.length none) (.slice 1 0 y.T.length none) (ou y (cJ d c) (cn nm n (.slice 2 0 c none) s)++[.cells true 0 (cn nm n (.slice 2 0 c none) s)]) 2 false rfl,by simp⟩
 have F:=adM.or' S O;obtain⟨L,z⟩:=xE (cJ d c);rw[<-z] at F |-;have h:aa (aU prog) (fun _=>[]) (aS prog) (af3.or (af (dR [(109,[.str nm],.int .i64 0)])) (iY (nC y L nm G))) 1 61 [shA y,.agg (cn nm n (.slice 2 0 c none) s)] (xD y L)=some ⟨.int .i64 0,some (xD y L),[]⟩:=by rw[Z];simp[dh,-aJ,ak W,ak V,bt,bj,bp,C,B,Nat.testBit,-oQ,iz,iA,aa,D,f61,af3.or,af,dR,iY,nC,gH,shA,ou,xD,dH,cn,bZ,aF,fB,fQ,iH,kj,DL,D6]
 have:=(ah ae (al _) F (ao _) h).1;simpa [afA.mem] using this
theorem Z6{Z:List Int}{i:Nat}{z:Int}(h:Z[i]? =some z):(qC (qH Z))[i]? =some (.str (aB (hQ z))):=Zv (by simp[qH,h])
def rv(c:Code):List Nat:=if (ab c).contains 18 then [18] else [30]
variable{O:af3}{b0 m0:Nat}{mem:Mem}{o:Bool}
theorem kq{K:Nat}(Z:List Int)(H:∀z∈Z,z.natAbs<1000)(R:Z.length<=1000)(Y:Z.length<K)(I:mem[b0]? =some (.cells o 1 (qC (qH Z))))(Q:∀z:Int,z.natAbs<1000->O (.fn 55) [.str (aB (hQ z))] mem=some ⟨.int .i64 0,none,[]⟩){b1 b:Code}(y:ag f281=[b1,b]):
  ∃F:Env->Bool->Env,∀X d,(ad X 28=.slice b0 0 Z.length none/\ad X 29=.int .i64 Z.length/\ad X 30=.int .i64 0)->
   aT (aU prog) rv O K 41 m0 true (.loop b) ⟨X,mem,d⟩=some (.exit 2,⟨F X d,mem,d⟩)/\(ad (F X d) 16=ad X 16/\ad (F X d) 17=ad X 17/\ad (F X d) 18=ad X 18/\ad (F X d) 2=ad X 2):=by
 refine bG (L:=[30]) (by simp[ag,aH,f281] at y;rw[<-y.2];rfl) (fun X=>ad X 28=.slice b0 0 Z.length none/\ad X 29=.int .i64 Z.length/\ad X 30=.int .i64 0) (fun X W =>ad W 16=ad X 16/\ad W 17=ad X 17/\ad W 18=ad X 18/\ad W 2=ad X 2) ?_;rintro X d ⟨h28,h29,h30⟩;simp[ag,aH,f281] at y;have S:au [30] (ab b) X ((30,.int .i64 ((0:Nat):Int))::X)=au [30] (ab b) X X:=by simp[au,h30]
 rw[<-S];refine bW (α:=Nat) (fun n=>⟨au [30] (ab b) X ((30,.int .i64 (n:Int))::X),mem,d⟩) (fun n=>Z.length-n) (fun n=>n<=Z.length) (.exit 2) _ d _ (by simp) ?_ K 0 (by omega) (by omega);rintro n J;clear S;obtain⟨_,rfl⟩:=y;by_cases V:n<Z.length
 .obtain⟨z,M⟩:∃z,Z[n]? =some z:=⟨Z[n],GT V⟩
  have G:=Z6 M;have D:=Q z (H z (Lo M));have w1:IntKind.i64.wrap ((n:Int)+1)=((n+1:Nat):Int):=by rw[ai];omega
  left;obtain⟨v,C⟩:=xE (n+1);rw[<-C] at w1;refine⟨v,?_⟩;simp[h28,h29,V,I,G,D,w1];omega
 .right
  simp[h29,V]
def xo(f:FuncId)(args:List AV):Option AV:=match f,args with
 |55,[.str s]=>if s.length<=9 then some (.int .i64 (xz s)) else none
 |_,_=>none
theorem RY:adM prog (af xo):=bX fun f Z v h mem=>by
 unfold xo at h;split at h
 .split at h
  .cases h;exact qX _ (by omega) mem
  .cases h
 .cases h
noncomputable def kN(s:af8)(m:Mem):af3:=af3.or (af xo) (fU 59 [shA s] (.int .i64 0) (fun M=>∃ext,M=m++ext))
section
variable (s:af8)
include s
theorem Cp(m:Mem)(p q:Nat)(o o' :Bool)(y:m[p]? =some (.cells o 2 (pC s.P)))(hq:m[q]? =some (.cells o' 3 (tC s.T)))(h0:p=0)(h1:q=1):adM prog (kN s m):=by subst h0;subst h1;have X:=gL y;have W:=gL hq;refine adM.or' RY (gn fun M Z=>?_);obtain⟨ext,rfl⟩:=Z;exact ft s _ 0 1 o o' (gU y _) (gU hq _)
theorem rM(m M:Mem)(z:Int)(h:z.natAbs<1000):kN s m (.fn 55) [.str (aB (hQ z))] M=some ⟨.int .i64 0,none,[]⟩:=by have Z:=Di h;have hc:=vR ((UN h).mono (by omega) (by omega));simp[kN,af3.or,af,xo,Z,hc]
theorem w8(m ext:Mem):kN s m (.fn 59) [shA s] (m++ext)=some ⟨.int .i64 0,none,[]⟩:=by simp[kN,af3.or,af,xo,fU]
section
variable (Z:List Int)(hZ:∀z∈Z,z.natAbs<1000)(hl:Z.length<=1000)(hn:Z.length=s.P.length)
include Z hZ hl hn
theorem Ep(m:Mem)(b c:Nat)(o1 o2 y o4:Bool)(I:m[0]? =some (.cells o1 2 (pC s.P)))(hq:m[1]? =some (.cells o2 3 (tC s.T)))(H:m[b]? =some (.cells y 1 (qC (qH Z))))(hc:m[c]? =some (.cells o4 1 [.slice b 0 Z.length none])):
  kO prog 281 [shA s,.slice c 0 1 none] m (.int .i64 0) m:=by
 have hG:aS prog 281=some f281:=by kernel_rfl
 have lb:=gL H;have lc:=gL hc;have Y:=Cp s m 0 1 o1 o2 I hq rfl rfl;obtain⟨R,Q,M⟩:∃R Q,ag f281=[R,Q]:=⟨_,_,rfl⟩
 obtain⟨F,G⟩:=kq (O:=kN s m) (K:=Z.length+3) Z hZ hl (by omega) (mem:=m++[.cells true 0 [.slice 0 0 s.P.length none,.slice 1 0 s.T.length none]]) (b0:=b) (o:=y) (gU H _) (m0:=m.length) (fun z h=>rM s m _ z h) M;have B:=fun S d X W V=>(G S d ⟨X,W,V⟩).1
 have A:=fun S d X W V=>(G S d ⟨X,W,V⟩).2.1
 have u:=fun S d X W V=>(G S d ⟨X,W,V⟩).2.2.1
 have D:=fun S d X W V=>(G S d ⟨X,W,V⟩).2.2.2.1
 have g2:=fun S d X W V=>(G S d ⟨X,W,V⟩).2.2.2.2
 clear G;simp[ag,aH,f281] at M;obtain⟨_,rfl⟩:=M;have w0:IntKind.i64.wrap 1=1:=rfl;have J:=w8 s m [.cells true 0 [.slice 0 0 s.P.length none,.slice 1 0 s.T.length none]];obtain⟨O,j⟩:=xE (kN s m);rw[<-j] at Y B J;have C :(m++[.cells true 0 [.slice 0 0 s.P.length none,.slice 1 0 s.T.length none]])[c]? =some (.cells o4 1 [.slice b 0 Z.length none]):=gU hc _;refine dx (lv:=rv) (K:=(Z.length+3)) Y ?_;obtain⟨N,hN⟩:=xE s.P.length;simp only[shA,hn,<-hN] at J B A u D g2 C |-;simp[aa,hG,f281,J,B,D,aR,fW,rv,C,w0]
theorem Er(Y:List Int)(hY:∀z∈Y,z.natAbs<1000)(I:Y.length=s.P.length)(m:Mem)(b H c:Nat)(o1 o2 o3 y o4:Bool)(hp:m[0]? =some (.cells o1 2 (pC s.P)))(hq:m[1]? =some (.cells o2 3 (tC s.T)))(hb:m[b]? =some (.cells o3 1 (qC (qH Z))))(Y' :m[H]? =some (.cells y 1 (qC (qH Y))))(hc:m[c]? =some (.cells o4 1 [.slice b 0 Z.length none,.slice H 0 Y.length none])):
  kO prog 281 [shA s,.slice c 0 2 none] m (.int .i64 0) m:=by
 have hG:aS prog 281=some f281:=by kernel_rfl
 have lb:=gL hb;have lb' :=(gL Y');have lc:=gL hc;have hO:=Cp s m 0 1 o1 o2 hp hq rfl rfl;obtain⟨b1,b2,J⟩:∃b1 b2,ag f281=[b1,b2]:=⟨_,_,rfl⟩
 obtain⟨F,C⟩:=kq (O:=kN s m) (K:=s.P.length+4) Z hZ hl (by omega) (mem:=m++[.cells true 0 [.slice 0 0 s.P.length none,.slice 1 0 s.T.length none]]) (b0:=b) (o:=o3) (gU hb _) (m0:=m.length) (fun z h=>rM s m _ z h) J;have j:=fun S d X W V=>(C S d ⟨X,W,V⟩).1
 have R:=fun S d X W V=>(C S d ⟨X,W,V⟩).2.1
 have Q:=fun S d X W V=>(C S d ⟨X,W,V⟩).2.2.1
 have B:=fun S d X W V=>(C S d ⟨X,W,V⟩).2.2.2.1
 have g2:=fun S d X W V=>(C S d ⟨X,W,V⟩).2.2.2.2
 obtain⟨F2,M⟩:=kq (O:=kN s m) (K:=s.P.length+4) Y hY (by omega) (by omega) (mem:=m++[.cells true 0 [.slice 0 0 s.P.length none,.slice 1 0 s.T.length none]]) (b0:=H) (o:=y) (gU Y' _) (m0:=m.length) (fun z h=>rM s m _ z h) J;have G :=fun S d X W V=>(M S d ⟨X,W,V⟩).1
 have afy :=fun S d X W V=>(M S d ⟨X,W,V⟩).2.1
 have afz :=fun S d X W V=>(M S d ⟨X,W,V⟩).2.2.1
 have A :=fun S d X W V=>(M S d ⟨X,W,V⟩).2.2.2.1
 have g2' :=fun S d X W V=>(M S d ⟨X,W,V⟩).2.2.2.2
 clear C M;simp[ag,aH,f281] at J;obtain⟨_,rfl⟩:=J;have w0:IntKind.i64.wrap 1=1:=rfl;have D:=w8 s m [.cells true 0 [.slice 0 0 s.P.length none,.slice 1 0 s.T.length none]];obtain⟨O,hOO⟩:=xE (kN s m);rw[<-hOO] at hO j G D;have u :(m++[.cells true 0 [.slice 0 0 s.P.length none,.slice 1 0 s.T.length none]])[c]? =some (.cells o4 1 [.slice b 0 Z.length none,.slice H 0 Y.length none]):=gU hc _;refine dx (lv:=rv) (K:=(s.P.length+4)) hO ?_;obtain⟨N,hN⟩:=xE s.P.length;simp only[shA,hn,I,<-hN] at D j R Q B g2 G afy afz A g2' u |-;simp[aa,hG,f281,D,j,B,G,A,w2,aR,fW,rv,u,w0]
theorem ra(m:Mem)(b:Nat)(o1 o2 y:Bool)(H:m[0]? =some (.cells o1 2 (pC s.P)))(hq:m[1]? =some (.cells o2 3 (tC s.T)))(I:m[b]? =some (.cells y 1 (qC (qH Z)))):
  kO prog 250 [shA s,.slice b 0 Z.length none] m (.int .i64 0) m:=by
 have W:aS prog 250=some f250:=by kernel_rfl
 have M:=gL H;have K:=gL hq;have J:=gL I;obtain⟨E,X⟩:=xE (α:=Mem) [.cells true 0 [.slice 0 0 s.P.length none,.slice 1 0 s.T.length none],.cells true 1 [.slice b 0 Z.length none]];have V:=Ep s Z hZ hl hn (m++E) b (m.length+1) o1 o2 y true (gU H _) (gU hq _) (gU I _) (by rw[X];simp);have S:adM prog (iY [(281,[shA s,.slice (m.length+1) 0 1 none],m++E,⟨.int .i64 0,none,[]⟩)]):=kQ fun e he=>by simp only[lM] at he;subst he;exact⟨by simpa [afA.mem] using V,by simp⟩
 refine fM S ?_;rw[X];simp[aa,W,f250,iY,shA]
end
end
theorem Yf{a b:Int}(h:a<=b):¬0<nL (hQ a) (hQ b):=by have:=vT.2 (ZZ h);omega
theorem B7{K:Nat}(Z Y:List Int)(H:∀(i:Nat) z y,Z[i]? =some z->Y[i]? =some y->z<=y/\z.natAbs<1000/\y.natAbs<1000)(hn:Z.length=Y.length)(hl:Z.length<=1000)(hK:Z.length<K){b1:Nat}{o' :Bool}(R:mem[b0]? =some (.cells o 1 (qC (qH Z))))(I :mem[b1]? =some (.cells o' 1 (qC (qH Y))))(hO:∀z y:Int,z.natAbs<1000->y.natAbs<1000->O (.fn 85) [.str (aB (hQ z)),.str (aB (hQ y))] mem=some ⟨.int .i64 (nL (hQ z) (hQ y)),none,[]⟩){b:Code}(Q:ag f251=[b]):
  ∃F:Env->Bool->Env,∀X d,(ad X 19=.slice b0 0 Z.length none/\ad X 20=.int .i64 Z.length/\ad X 21=.int .i64 0/\ad X 2=.slice b1 0 Z.length none)->
   aT (aU prog) (fun _=>[21]) O K 34 m0 true (.loop b) ⟨X,mem,d⟩=some (.exit 0,⟨F X d,mem,d⟩)/\True:=by
 refine bG (L:=[21]) rfl (fun X=>ad X 19=.slice b0 0 Z.length none/\ad X 20=.int .i64 Z.length/\ad X 21=.int .i64 0/\ad X 2=.slice b1 0 Z.length none) (fun _ _=>True) ?_;rintro X d ⟨h28,h29,h30,h2⟩;simp[ag,aH,f251] at Q;have W:au [21] (ab b) X ((21,.int .i64 ((0:Nat):Int))::X)=au [21] (ab b) X X:=by simp[au,h30]
 rw[<-W];refine bW (α:=Nat) (fun n=>⟨au [21] (ab b) X ((21,.int .i64 (n:Int))::X),mem,d⟩) (fun n=>Z.length-n) (fun n=>n<=Z.length) (.exit 0) _ d _ (by simp) ?_ K 0 (by omega) (by omega);rintro n J;clear W;subst Q;by_cases V:n<Z.length
 .obtain⟨z,S⟩:∃z,Z[n]? =some z:=⟨Z[n],GT V⟩
  obtain⟨y,M⟩:∃y,Y[n]? =some y:=⟨Y[n]'(by omega),GT (by omega)⟩
  have G:=Z6 S;have D:=Z6 M;obtain⟨C,B,A⟩:=H n z y S M;have u:=hO z y B A;have m:=Yf C;have w1:IntKind.i64.wrap ((n:Int)+1)=((n+1:Nat):Int):=by rw[ai];omega
  left;obtain⟨v,j⟩:=xE (n+1);rw[<-j] at w1;refine⟨v,?_⟩;simp[h28,h29,h2,V,R,I,G,D,u,w1,m];omega
 .right
  simp[h29,V]
open Classical in
noncomputable def wZ(f:FuncId)(args:List AV):Option AV:=match f,args with
 |85,[.str s,.str t]=>match eS s,eS t with
  |some a,some b=>if big 3 a/\big 3 b then some (.int .i64 (nL a b)) else none
  |_,_=>none
 |_,_=>none
theorem PX{k:Nat}{q:Rat}(h0:0<k)(hk:k<=40000)(h:big k q):aga q:=by have Z:=aV h0 h.1;have X:=aV h0 h.2;exact⟨by omega,by omega⟩
theorem Rr:adM prog (af wZ):=bX fun f Z v h mem=>by
 unfold wZ at h;split at h
 .split at h
  .rename_i a b X W
   split at h
   .rename_i hc
    cases h;rw[aA X,aA W];exact uA a b (PX (by decide) (by decide) hc.1) (PX (by decide) (by decide) hc.2) mem
   .cases h
  .cases h
 .cases h
theorem q9(s:af8)(Z Y:List Int)(hZ:∀z∈Z,z.natAbs<1000)(hY:∀z∈Y,z.natAbs<1000)(hl:Z.length<=1000)(hn:Z.length=s.P.length)(H:Y.length=s.P.length)(Q:∀(i:Nat) z y,Z[i]? =some z->Y[i]? =some y->z<=y)(m:Mem)(b I :Nat)(o1 o2 R o4:Bool)(hp:m[0]? =some (.cells o1 2 (pC s.P)))(hq:m[1]? =some (.cells o2 3 (tC s.T)))(hb:m[b]? =some (.cells R 1 (qC (qH Z))))(Y' :m[I]? =some (.cells o4 1 (qC (qH Y)))):
  kO prog 251 [shA s,.slice b 0 Z.length none,.slice I 0 Y.length none] m (.tuple [.bool true,.int .i64 0]) m:=by
 have hG:aS prog 251=some f251:=by kernel_rfl
 have l0:=gL hp;have l1:=gL hq;have lb:=gL hb;have lb' :=(gL Y');obtain⟨E,G⟩:=xE (α:=Mem) [.cells true 0 [.slice 0 0 s.P.length none,.slice 1 0 s.T.length none],.cells true 1 [.slice b 0 Z.length none,.slice I 0 Y.length none]];have D:=Er s Z hZ hl hn Y hY H (m++E) b I (m.length+1) o1 o2 R o4 true (gU hp _) (gU hq _) (gU hb _) (gU Y' _) (by rw[G];simp);obtain⟨O,X⟩:=xE (af3.or (af wZ) (iY [(281,[shA s,.slice (m.length+1) 0 2 none],m++E,⟨.int .i64 0,none,[]⟩)]));have hO:adM prog O:=by rw[X];refine adM.or' Rr (kQ fun e he=>?_);simp only[lM] at he;subst he;exact⟨by simpa [afA.mem] using D,by simp⟩
 have V:O (.fn 281) [shA s,.slice (m.length+1) 0 2 none] (m++E)=some ⟨.int .i64 0,none,[]⟩:=by rw[X];simp[af3.or,af,wZ,iY]
 have S:∀z y:Int,z.natAbs<1000->y.natAbs<1000->O (.fn 85) [.str (aB (hQ z)),.str (aB (hQ y))] (m++E)=some ⟨.int .i64 (nL (hQ z) (hQ y)),none,[]⟩:=fun z y M J=>by have C:=UN M;have B:=UN J;have A:big 3 (hQ z):=⟨C.1,by have:=C.2;omega⟩;have b2:big 3 (hQ y):=⟨B.1,by have:=B.2;omega⟩;rw[X];simp[af3.or,af,wZ,aw,A,b2]
 clear X;obtain⟨bb,W⟩:∃b,ag f251=[b]:=⟨_,rfl⟩
 obtain⟨F,u⟩:=B7 (O:=O) (K:=s.P.length+1) Z Y (fun i z y M J=>⟨Q i z y M J,hZ z (Lo M),hY y (Lo J)⟩) (by omega) hl (by omega) (mem:=m++E) (b0:=b) (b1:=I) (o:=R) (o' :=o4) (gU hb _) (gU Y' _) (m0:=m.length) S W;have j:=fun z' d h1 h2 h3 h4=>(u z' d ⟨h1,h2,h3,h4⟩).1
 clear u S;simp[ag,aH,f251] at W;subst W;refine dx (lv:=(fun _=>[21])) (K:=(s.P.length+1)) hO ?_;clear D;obtain⟨N,hN⟩:=xE s.P.length;subst G;simp only[shA,hn,H,<-hN] at V j |-;simp[aa,hG,f251,V,j]
end Go.Proofs
