/- See D38. -/
import Derived.Test.YthpgbelancmpjaaGreatDoorD32
import Derived.Test.YthpgbelancmpjaaGreatDoorD31
set_option linter.all false
set_option maxRecDepth 100000
set_option maxHeartbeats 40000000
namespace Go.Proofs
open Go.Eng
def afC(r:M3)(s:V3):Prop:=vC r.1/\vC r.2.1/\vC r.2.2/\vC s
structure ahU (r:M3)(s p:V3):Prop where
 ck:afC r s
 pk:vC p
 mm:mOk r p
 fk:vF (Yr r p)/\vF s
 rk:vC (Xm (Yr r p) s)
def YO(k:Nat)(Q:List (Rat×Rat)):Prop:=∀q∈Q,big k q.1/\big k q.2
def YV(M:Mem)(x:AV)(L:List (List UInt8×List UInt8)):Prop:=∃b o Z,x=.slice b 0 L.length none/\M[b]? =some (.cells o 2 Z)/\Z.take (2*L.length)=kC L
theorem Tu(n:Nat):∀L:List (List UInt8×List UInt8),AV.afp n (kC L)=true
 | []=>by simp[kC,AV.afp]
 |k::L=>by simp[kC,AV.afp,AV.under,Tu n L]
theorem VG:∀{L:List (List UInt8×List UInt8)} {i:Nat} {v:AV} (f:Nat->Option Nat),(kC L)[i]? =some v->v.ren f=v:=by
 intro L i v f h;have Z:=Wo f L;rw[ix] at Z;have:((kC L).map (AV.ren f))[i]? =(kC L)[i]? :=by rw[Z]
 rw[Zo,h] at this;simpa using this
variable{L:List (List UInt8×List UInt8)}
theorem T1{ks:List Nat}{M:Mem}{b:Nat}{o:Bool}{cs:List AV}(h:M[b]? =some (.cells o 2 cs))(H:cs.take (2*L.length)=kC L):afX ks M b (.cells false 2 (kC L)):=by
 refine⟨Tu _ _,o,cs,h,fun j v Z=>?_⟩;have X:j<2*L.length:=by have:=gL Z;rw[n9] at this;exact this
 have:cs[j]? =(kC L)[j]? :=by rw[<-H,QQQ X]
 rw[this,Z,VG _ Z]
theorem XY{P:Program}{f:FuncId}{M:Mem}{x:AV}{rest:List AV}{v:AV}(hr:AV.afm rest=true)(H:v.closed=true)(h:kO P f (.slice 0 0 L.length none::rest) [.cells false 2 (kC L)] v [.cells false 2 (kC L)])(I:YV M x L):kO P f (x::rest) M v M:=by
 obtain⟨b,o,O,rfl,V,U⟩:=I;have S:=gL V;have R:AV.afp [b].length (.slice 0 0 L.length none::rest)=true:=by
  show(decide (0<1)&&AV.afp 1 rest)=true
  rw[bj hr];rfl
 have:=kO.frame (M:=M) (new:=[]) [b] (m:=[.cells false 2 (kC L)]) rfl (by simpa using S) R (fun i s Z=>by
  cases i with
  |zero=>simp at Z;subst Z;exact T1 V U
  |succ i=>simp at Z) rfl (by simpa using h)
 have X:v.ren (fa [b] M.length)=v:=by have:=aL (vs:=[v]) (ρ:=fa [b] M.length) (by simp[AV.afm,H]);simpa [AV.afz] using this
 simpa [AV.afz,AV.ren,fa,aL hr,X] using this
def XN(Q:List (Rat×Rat)):Prop:=YO 40 Q/\Q.length<=1000000000/\∀i a b,Q[i]? =some a->Q[i+1]? =some b->b.1-a.1≠0
def v0:V3:=(0,0,0)
section
variable {pv tv b u sv kn:AV}{c:Evc}{x:Int}{M:Mem}{us:List (List UInt8)}{ub:Nat}{o:Bool}
end
end Go.Proofs
namespace Go.Proofs
open Go.Eng
open Tryz
def loK(k:Int):Int:=if k=1 then -2 else 0
section
variable {c:Evc}{b u sv kn:AV}{M:Mem}{ub kb nu nk:Nat}{n:Int}
section
variable (hb:b.afi=true)
include hb
theorem H9(H:u=.slice ub 0 nu none)(hs:sv.afi=true)(I:kn.afi=true)(J:nu<=1000):kO prog 156 [.agg (c.cells b u sv kn)] M (.int .i64 ((nu:Int)-1)) M:=by
 have Z:aX prog 156=some f156:=by kernel_rfl
 subst H;have w1:IntKind.i64.wrap ((nu:Int)-1)=(nu:Int)-1:=af;have h:aa (bd prog) (fun _=>[]) (aX prog) cP 1 156 [.agg (c.cells b (.slice ub 0 nu none) sv kn)] M=some ⟨.int .i64 ((nu:Int)-1),none,[]⟩:=by simp[-AV.afi,aa,Z,f156,Evc.cells,w1]
 have:=(ar aj (aJ _) (az _) (aM _) h).1;simpa [afh.mem] using this
section
variable (hu:u.afi=true)(hs:sv.afi=true)
include hu hs
theorem Ia(H:kn.afi=true):kO prog 161 [.agg (c.cells b u sv kn)] M (.int .i64 1) M:=by
 have Z:aX prog 161=some f161:=by kernel_rfl
 refine iS (az _) ?_;simp[-AV.afi,aa,Z,f161,Evc.cells]
theorem Ib(H:kn=.slice kb 0 nk none):kO prog 165 [.agg (c.cells b u sv kn)] M (.int .i64 (nk:Int)) M:=by
 have Z:aX prog 165=some f165:=by kernel_rfl
 subst H;have h:aa (bd prog) (fun _=>[]) (aX prog) cP 1 165 [.agg (c.cells b u sv (.slice kb 0 nk none))] M=some ⟨.int .i64 (nk:Int),none,[]⟩:=by simp[-AV.afi,aa,Z,f165,Evc.cells]
 have:=(ar aj (aJ _) (az _) (aM _) h).1;simpa [afh.mem] using this
theorem Ic(H:kn.afi=true):kO prog 170 [.agg (c.cells b u sv kn)] M (.int .i64 2) M:=by
 have Z:aX prog 170=some f170:=by kernel_rfl
 refine iS (az _) ?_;simp[-AV.afi,aa,Z,f170,Evc.cells]
theorem Ie(H:kn.afi=true):kO prog 175 [.agg (c.cells b u sv kn)] M (.int .i64 0) M:=by
 have Z:aX prog 175=some f175:=by kernel_rfl
 refine iS (az _) ?_;simp[-AV.afi,aa,Z,f175,Evc.cells]
end
end
end
end Go.Proofs
namespace Go.Proofs
open Go.Eng
section
variable {O:y9}{m0:Nat}{ops:Array Oper}{env:Env}{mem:Mem}{d:Bool}{w x y z A B C D E F G H I J K1 K2 K3 K4 K5 K6 K7 K8 K9 S1 S4 S5 S6 S7 S8 S9 S10 S11 S12 S13:Int}{r1 r2 r3:V3}
end
theorem YW:dg 1 1 (0:Rat):=⟨by decide,by decide⟩
section
variable {pv tv:AV}{M:Mem}
end
theorem ON{a b:V3}{n m:Nat}(H:vDg n a)(I:vDg m b):dg (5*(n+m)+10) (5*(n+m)+10) (gw a b):=by obtain⟨Z,X,V⟩:=H;obtain⟨U,S,R⟩:=I;have O:=dy Z U;have P2:=dy X S;have N:=dy V R;have M:=rN O P2 (m:=2*(n+m)) (by omega) (by omega);have L:=rN M N (m:=3*(n+m)+2) (by omega) (by omega);exact L.mono (by omega) (by omega)
section
variable {pv tv kn:AV}{M:Mem}
end
end Go.Proofs
namespace Go.Proofs
open Go.Eng
open Tryz
def sgB(H:Bool):Rat:=if H then -1 else 1
theorem GH{a b:Rat}:0<=qu a b↔b<=a:=by
 have h:=WO (a:=a) (b:=b);constructor
 .intro X
  exact Rat.not_lt.1 fun Z=>by have:=h.2 Z;omega
 .intro X
  have:¬qu a b<0:=fun Z=>absurd (h.1 Z) (Rat.not_lt.2 X)
  omega
def wC(n:V3)(o:Rat)(p:V3):Int:=if o<=gw n p then 1 else 0
theorem yn(a b:Nat)(nm:List UInt8)(n:V3)(o:Rat)(v:V3)(p:V3)(d:nA n p)(H:ek (gw n p))(I:ek o):
  kO prog 111 [.agg [.slice 0 0 a none,.slice 1 0 b none],.agg ((fY nm n o v).cells .qF .qF .qF .qF),vA p] [.qK,.qK] (.tuple [.int .i64 (wC n o p),.int .i64 0]) [.qK,.qK]:=by
 have M:aX prog 111=some f111:=by kernel_rfl
 obtain⟨Z,X⟩:=H;obtain⟨S,L⟩:=I;obtain⟨C,O⟩:∃S,aI f111=[S]:=⟨_,rfl⟩
 obtain⟨U,K⟩:=dx O (l:=[0,1,3,7,0,31,0,64,192,448,1023,2047]) (j:=11) (by kernel_rfl) (by decide);simp[aI,ca,f111] at O;subst O;unfold wC;obtain⟨G,F,D⟩:=n;obtain⟨N,V⟩:=xE (gw (G,F,D) p);rw[<-V] at Z X |-;have h:aa (bd prog) (fun _=>[]) (aX prog) (ag dP) 1 111 [.agg [.slice 0 0 a none,.slice 1 0 b none],.agg ((fY nm (G,F,D) o v).cells .qF .qF .qF .qF),vA p] [.qK,.qK]=some ⟨.tuple [.int .i64 (if o<=N then 1 else 0),.int .i64 0],none,[]⟩:=by
  by_cases R:o<=N
  .have c:=GH.2 R
   rw[if_pos R];simp[aa,M,f111,ag,dP,aT,aV,vA,fY,Evc.cells,OM,aB,<-V,d,Z,X,S,L,c,-aG,an U,bD,bt,bB,K,Nat.testBit]
  .have c:¬0<=qu N o:=fun h=>R (GH.1 h)
   rw[if_neg R];simp[aa,M,f111,ag,dP,aT,aV,vA,fY,Evc.cells,OM,aB,<-V,d,Z,X,S,L,c,-aG,an U,bD,bt,bB,K,Nat.testBit]
 have:=(ar aj (aJ _) lQ (aM _) h).1;simpa [afh.mem] using this
variable{M:Mem}
theorem Mx{pb tb a b:Nat}(H:pb<M.length)(W:tb<M.length)(nm:List UInt8)(n:V3)(o:Rat)(v:V3)(p:V3)(d:nA n p)(I:ek (gw n p))(J:ek o):
  kO prog 111 [.agg [.slice pb 0 a none,.slice tb 0 b none],.agg ((fY nm n o v).cells .qF .qF .qF .qF),vA p] M (.tuple [.int .i64 (wC n o p),.int .i64 0]) M:=by
 by_cases X:pb=tb
 .subst X
  have:=kO.frame (M:=M) (new:=[]) [pb,pb] rfl (by simpa using H) (by rfl) (fun i t Z=>by
   match i with
   |0=>simp at Z;subst Z;trivial
   |1=>simp at Z;subst Z;trivial
   |i+2=>simp at Z) rfl (yn a b nm n o v p d I J)
  simpa [fY,Evc.cells,vA,AV.afz,AV.ren,fa] using this
 .have:=kO.frame (M:=M) (new:=[]) [pb,tb] rfl (by simp[H,W]) (by rfl) (fun i t Z=>by
   match i with
   |0=>simp at Z;subst Z;trivial
   |1=>simp at Z;subst Z;trivial
   |i+2=>simp at Z) rfl (yn a b nm n o v p d I J)
  simpa [fY,Evc.cells,vA,AV.afz,AV.ren,fa] using this
theorem Hp{m:AV}{H:List AV}(J:∃a b,m=.agg [a,b]/\a.afi=true/\b.afi=true)(W:H.length=32)(I:∀x∈H,x.afi=true)(hc:∀Z,kO prog 25 [m,.agg H] (M++Z) (.int .i64 0) (M++Z)){p:V3}(Y:vC p):
  kO prog 57 [m,.agg H,vA p] M (.int .i64 0) M:=by
 have V:aX prog 57=some f57:=by kernel_rfl
 obtain⟨a,b,rfl,L,K⟩:=J;obtain⟨U,S,h3,R⟩:=Y;have X:qS prog (y9.or (fR 25 [.agg [a,b],.agg H] (.int .i64 0) (fun N=>∃Z,N=M++Z)) (ag dP)):=qS.or (gC fun N ⟨Z,hZ⟩=>by subst hZ;exact hc Z) lQ;have h:aa (bd prog) (fun _=>[]) (aX prog) (y9.or (fR 25 [.agg [a,b],.agg H] (.int .i64 0) (fun N=>∃Z,N=M++Z)) (ag dP)) 1 57 [.agg [a,b],.agg H,vA p] M=some ⟨.int .i64 0,none,[]⟩:=by
  clear X hc;have G:(∀x:AV,x∈H->x.afi=true)=True:=eq_true I;have t32:List.take 32 H=H:=B5 (by omega);have O:∀s,(AV.str s).afi=true:=fun _=>rfl
  simp[-AV.afi,aa,V,f57,y9.or,fR,ag,dP,vA,W,t32,U,S,h3,R]
 have:=(ar aj (aJ _) X (aM _) h).1;simpa [afh.mem] using this
structure ahV (n:V3)(o:Rat)(v:V3)(bck:Bool)(p:V3):Prop where
 pk:vC p
 dk:nA n p
 fd:ek (gw n p)
 fo:ek o
 pl:Po p v (sgB bck)
 rk:vC (Xm p (Xv v (sgB bck)))
structure ahW (n:V3)(L:List P2)(v:V3)(bck:Bool)(p:V3):Prop where
 pk:vC p
 dk:nA n p
 lk:XN L
 vk:big 40 (gw n p)
 fw:ek (Uj L (gw n p))
 fk:ek (sgB bck)
 pl:Po p v (sgB bck*Uj L (gw n p))
 rk:vC (Xm p (Xv v (sgB bck*Uj L (gw n p))))
theorem Wr:∀{X:List (V3×Rat)} {i:Nat} {x:V3×Rat},X[i]? =some x->((pnC X).drop (i*4)).take 4=vL x.1++[.str (ao x.2)]/\i*4+4<=(pnC X).length
 |y::X,0,x,h=>by rw[List.getElem?_cons_zero] at h;cases h;rw[pnC];exact⟨by simp[vL],by simp[vL]⟩
 |y::X,i+1,x,h=>by rw[List.getElem?_cons_succ] at h;obtain⟨Z,U⟩:=Wr h;rw[pnC];have V:(vL y.1++[AV.str (ao y.2)]).length=4:=rfl;refine⟨?_,by rw[SP,V];omega⟩;rw[show(i+1)*4=4+i*4 by omega,<-QQk,show List.drop 4 (vL y.1++[AV.str (ao y.2)]++pnC X)=pnC X from rfl];exact Z
theorem yE:(aI f157).map (fun o=>dO o.toList)=[[0,0,0,4,12,31,63,127,127,255,1023],[0,1,0,7,0,16,63,127]]:=by kernel_rfl
section
variable {O:y9}{N:Mem}{n i b5 wb:Nat}{o:Bool}{X:List (V3×Rat)}{x:V3×Rat}{p:V3}{c:Nat}{dt:Rat}
theorem Ko{b:Code}(hb:ah f157=[b])(hv:N[b5]? =some (.cells true 0 (vL p)))(hw:N[wb]? =some (.cells o 4 (pnC X)))(hn:X.length=n)(hx:X[i]? =some x)(hn3:n<=3)(hc:c<=3)(eD:∀Z,O (.fn 113) [vA x.1,vA p] (N++Z)=some ⟨.str (ao dt),none,[]⟩)(eC:∀Z,O (.fn 136) [.str (ao dt),.str (ao x.2)] (N++Z)=some ⟨.int .i64 (qu dt x.2),none,[]⟩){env:Env}(l5:ae env 5=.ptr b5 0)(H:ae env 12=.int .i64 (-1+(c:Int)))(I:ae env 44=.slice wb 0 n none)(J:ae env 45=.int .i64 (n:Int))(W:ae env 46=.int .i64 (i:Int))(m0:Nat)(d:Bool):
  ∃S,aU (bd prog) (fun _=>[46,46,46,12]) O 6 62 m0 true b ⟨env,N,d⟩=some (.normal,S)/\ae S.env 46=.int .i64 ((i+1:Nat):Int)/\ae S.env 12=.int .i64 (-1+((c+(if x.2<=dt then 1 else 0):Nat):Int))/\S.mem=N++[.cells true 0 (vL x.1++[.str (ao x.2)])]:=by
 obtain⟨V,R⟩:∃V,aI f157=V :=⟨_,rfl⟩
 have G :=cG R yE;simp only[aI,ca,f157,lA] at R;subst R;simp only[lB] at G;obtain⟨P',U⟩:=G;simp[ah,aE,f157] at hb;subst hb;have g1:=gL hv;have F:∀Y:Mem,(N++Y)[b5]? =some (.cells true 0 (vL p)):=fun Y=>gU hv _
 have D:i<n:=by have:=gL hx;omega
 obtain⟨C,B⟩:=Wr hx;have L:IntKind.i64.wrap ((i:Int)+1)=((i+1:Nat):Int):=by rw[af];omega
 obtain⟨m1,j⟩:=xE (i+1);rw[<-j] at L |-;have u:IntKind.i64.wrap (-1+(c:Int)+1)= -1+((c+1:Nat):Int):=by rw[af];omega
 have m:0<=qu dt x.2↔x.2<=dt:=GH;unfold vA vL at*;by_cases h:x.2<=dt
 .have K:=m.2 h
  rw[if_pos h];obtain⟨m2,Z6⟩:=xE (α:=Int) (-1+((c+1:Nat):Int));rw[<-Z6] at u |-;simp[-getElem?_pos,-AV.afi,-AV.known,-AV.cells,-cO,-List.all_eq_true,vS,rS,mS,l5,H,I,J,W,D,hw,eD,eC,L,u,F,C,B,K,-bF,-bn,-aG,-AV.adM,-afl.adM,aY U,cq,cc,dW,cK,cS,gB,bef,Nat.testBit]
 .have K:¬0<=qu dt x.2:=fun k=>h (m.1 k)
  rw[if_neg h];simp[-getElem?_pos,-AV.afi,-AV.known,-AV.cells,-cO,-List.all_eq_true,vS,rS,mS,l5,H,I,J,W,D,hw,eD,eC,L,F,C,B,K,-bF,-bn,-aG,-AV.adM,-afl.adM,aY U,cq,cc,dW,cK,cS,gB,bef,Nat.testBit]
end
end Go.Proofs
namespace Go.Proofs
open Go.Eng
open Tryz
def W1(X:List (V3×Rat)):Mem:=X.map fun x=>.cells true 0 (vL x.1++[.str (ao x.2)])
structure ahH (O:y9)(N:Mem)(dF cF:Go.Eng.Callee)(b5 wb:Nat)(p:V3)(X:List (V3×Rat)):Prop where
 v:N[b5]? =some (.cells true 0 (vL p))
 w:∃o,N[wb]? =some (.cells o 4 (pnC X))
 l:X.length<=3
 d:∀x∈X,(∀Z,O dF [vA x.1,vA p] (N++Z)=some ⟨.str (ao (gw x.1 p)),none,[]⟩)/\∀Z,O cF [.str (ao (gw x.1 p)),.str (ao x.2)] (N++Z)=some ⟨.int .i64 (qu (gw x.1 p) x.2),none,[]⟩
variable{b:Code}
section
variable {O:y9}{N:Mem}{b5 wb:Nat}{p:V3}{X:List (V3×Rat)}
theorem yG(I:ah f157=[b])(H env:Env):ae (aw [46,46,46,12] (ad b) H env) 46=ae env 46/\ae (aw [46,46,46,12] (ad b) H env) 12=ae env 12/\ae (aw [46,46,46,12] (ad b) H env) 5=ae H 5/\ae (aw [46,46,46,12] (ad b) H env) 44=ae H 44/\ae (aw [46,46,46,12] (ad b) H env) 45=ae H 45:=by simp[ah,aE,f157] at I;subst I;simp[aw]
theorem NG(J:ah f157=[b]){n:Nat}{env:Env}(H:ae env 45=.int .i64 (n:Int))(I:ae env 46=.int .i64 (n:Int))(m0:Nat)(d:Bool):
  ∃Z,aU (bd prog) (fun _=>[46,46,46,12]) O 6 62 m0 true b ⟨env,N,d⟩=some (.exit 0,⟨Z,N,d⟩)/\ae Z 12=ae env 12:=by
 simp[ah,aE,f157] at J;subst J;simp[H,I]
theorem yF{b:Code}(I:ah f157=[b])(W:ahH O N (.fn 113) (.fn 136) b5 wb p X)
  {H:Env}(l5:ae H 5=.ptr b5 0) (l44:ae H 44=.slice wb 0 X.length none) (J:ae H 45=.int .i64 (X.length:Int)) (m1 m0:Nat):
  ∀(k i c:Nat) (Z:Mem) (env:Env) (d:Bool) (K:Nat),i+k=X.length->k<K->c<=i->ae env 46=.int .i64 (i:Int)->ae env 12=.int .i64 (-1+(c:Int))->
   ∃r:Env×Bool,ga [46,46,46,12] (ad b) H m1 (aU (bd prog) (fun _=>[46,46,46,12]) O 6 62 m0 true b) K ⟨aw [46,46,46,12] (ad b) H env,N++Z,d⟩=some (.exit 0,⟨r.1,N++(Z++W1 (X.drop i)),r.2⟩)/\ae r.1 12=.int .i64 (-1+((c+Uq p (X.drop i):Nat):Int))
 |0,i,c,Z,env,d,K,hk,hK,hc,h46,h12=>by
  obtain⟨K,rfl⟩:∃k,K=k+1:=⟨K-1,by omega⟩
  obtain rfl:i=X.length:=by omega
  obtain⟨U,R,G,F,M⟩:=yG I H env;obtain⟨C,B,u⟩:=NG (O:=O) (N:=N++Z) I (env:=aw [46,46,46,12] (ad b) H env) (by rw[M];exact J) (by rw[U];exact h46) m0 d;rw[List.drop_length,show W1 []=[] from rfl,List.append_nil];exact⟨(C,d),by rw[ga,B],by rw[u,R];exact h12⟩
 |k+1,i,c,Z,env,d,K,hk,hK,hc,h46,h12=>by
  obtain⟨K,rfl⟩:∃k,K=k+1:=⟨K-1,by omega⟩
  obtain⟨U,R,G,F,M⟩:=yG I H env;obtain⟨x,L⟩:∃t,X[i]? =some t:=⟨_,GT (by omega)⟩
  obtain⟨d1,d2⟩:=W.d x (J1 L);obtain⟨o,m⟩:=W.w;have j:X.drop i=x::X.drop (i+1):=by obtain⟨FS,e⟩:=Ns.1 L;rw[N0 FS,e]
  have D:∀{b:Nat}{S:afl},N[b]? =some S->(N++Z)[b]? =some S:=fun {b S} I=>gU I _
  have hl:=W.l;obtain⟨V,t1,t2,t3,t4⟩:=Ko (O:=O) (n:=X.length) (i:=i) (c:=c) (dt:=gw x.1 p) I (D W.v) (D m) rfl L hl (by omega) (fun Y=>by rw[Y1];exact d1 _) (fun Y=>by rw[Y1];exact d2 _)
   (env:=aw [46,46,46,12] (ad b) H env) (by rw[G];exact l5) (by rw[R];exact h12) (by rw[F];exact l44) (by rw[M];exact J) (by rw[U];exact h46) m0 d
  rw[j,Uq];rw[ga,t1];simp only;have hs:mg [46,46,46,12] (ad b) H m1 V =⟨aw [46,46,46,12] (ad b) H V.env,V.mem,V.afD⟩:=by simp[mg,wZ]
  rw[hs,t4,Y1];obtain⟨r,r1,r2⟩:=yF I W l5 l44 J m1 m0 k (i+1) (c+if x.2<=gw x.1 p then 1 else 0) (Z++[.cells true 0 (vL x.1++[.str (ao x.2)])]) V.env V.afD K (by omega) (by omega) (by split<;>omega) t2 t3;refine⟨r,?_,?_⟩
  .rw[r1]
   simp[W1]
  .rw[r2,QXX]
theorem Kl(H:ahH O N (.fn 113) (.fn 136) b5 wb p X)(I:ah f157=[b])(m0:Nat):
  ∃G:Env->Bool->Env×Bool,∀env d,(ae env 5=.ptr b5 0/\ae env 44=.slice wb 0 X.length none/\ae env 45=.int .i64 (X.length:Int)/\ae env 46=.int .i64 0/\ae env 12=.int .i64 (-1))->
   aU (bd prog) (fun _=>[46,46,46,12]) O 6 62 m0 true (.loop b) ⟨env,N,d⟩=some (.exit 0,⟨(G env d).1,N++W1 X,(G env d).2⟩)/\ae (G env d).1 12=.int .i64 (-1+(Uq p X:Int)):=by
 obtain⟨G,Z⟩:=CX (β:=Env×Bool) (p:=fun env _=>ae env 5=.ptr b5 0/\ae env 44=.slice wb 0 X.length none/\ae env 45=.int .i64 (X.length:Int)/\ae env 46=.int .i64 0/\ae env 12=.int .i64 (-1))
  (q:=fun env d r=>aU (bd prog) (fun _=>[46,46,46,12]) O 6 62 m0 true (.loop b) ⟨env,N,d⟩=some (.exit 0,⟨r.1,N++W1 X,r.2⟩)/\ae r.1 12=.int .i64 (-1+(Uq p X:Int))) (fun env d ⟨a5,a44,a45,a46,a12⟩=>by
  have V:=H.l;have:=yF (O:=O) (N:=N) I H a5 a44 a45 N.length m0 X.length 0 0 [] env d 6 (by omega) (by omega) (by omega) a46 a12;rw[List.drop_zero,List.append_nil,List.nil_append,QQZ] at this;exact this)
 exact⟨G,Z⟩
end
end Go.Proofs
namespace Go.Proofs
open Go.Eng
open Tryz
section
variable {O:y9}{M Z1 V:Mem}{ev L:List AV}{pv tv w:AV}{p:V3}{X:List (V3×Rat)}{lb wb nL j:Nat}{o:Bool}
def ndB(pv tv:AV)(ev:List AV)(p:V3):Mem:=[.cells true 0 [pv,tv],.cells true 0 ev,.cells true 0 (vL p),.cells true 0 [.str (ao p.1),.str (ao p.2.1)]]
section
variable (hO:qS prog O)(cp:pv.afi=true/\tv.afi=true)
include hO cp
theorem Km(H:ev.length=32)(I:ev.all AV.afi=true)(J:O (.fn 12) [.agg [pv,tv],pA (p.1,p.2.1)] (M++ndB pv tv ev p)=some ⟨.tuple [.qF,.int .i64 0],none,Z1⟩):
  kO prog 157 [.agg [pv,tv],.agg ev,vA p] M (.tuple [.int .i64 (-2),.int .i64 0]) (M++(ndB pv tv ev p++Z1)):=by
 have Z:aX prog 157=some f157:=by kernel_rfl
 have t0:ev.take 32=ev:=B5 (by omega);have w2:IntKind.i64.wrap (-2)= -2:=rfl;obtain⟨S,R⟩:=cp;have U:cE (bd prog) (fun _=>[46,46,46,12]) (aX prog) O 6 157 [.agg [pv,tv],.agg ev,vA p] M=some (.tuple [.int .i64 (-2),.int .i64 0],M++(ndB pv tv ev p++Z1)):=by unfold ndB vL pA vA at*;simp[-getElem?_pos,-AV.afi,-AV.known,-AV.cells,-cO,-List.all_eq_true,vS,mS,cE,Z,f157,J,cv,aH]
 exact cL aj (aJ _) hO (aM _) U
theorem Kn(kn:pv.known=true/\tv.known=true)(rp:∀x,pv.adM (fun b=>decide (b<M.length+x))=true)(rt:∀x,tv.adM (fun b=>decide (b<M.length+x))=true)(I:ev.length=32)(hec:ev.all AV.afi=true)(J:∀x,AV.afn (fun b=>decide (b<M.length+x)) ev=true)(eL:O (.fn 12) [.agg [pv,tv],pA (p.1,p.2.1)] (M++ndB pv tv ev p)=some ⟨.tuple [.slice lb 0 nL none,.int .i64 0],none,Z1⟩)(W:0<nL/\nL<=1000)(H:(M++(ndB pv tv ev p++Z1))[lb]? =some (.cells o 1 (.int .i64 (j:Int)::L)))(eP:O (.fn 158) [.agg [pv,tv],.agg ev,.int .i64 (j:Int)] (M++(ndB pv tv ev p++Z1))=some ⟨.tuple [.slice wb 0 X.length none,.int .i64 0],none,V⟩)(hV:∀f,(V.all fun s=>mh s&&s.adM f)=true)(hwb:wb<M.length+(4+Z1.length)+V.length)(H0:ahH O (M++(ndB pv tv ev p++(Z1++V))) (.fn 113) (.fn 136) (M.length+2) wb p X):
  ∃R,kO prog 157 [.agg [pv,tv],.agg ev,vA p] M (.tuple [.int .i64 (-1+(Uq p X:Int)),.int .i64 0]) (M++R):=by
 have m:aX prog 157=some f157:=by kernel_rfl
 have t0:ev.take 32=ev:=B5 (by omega);have w2:IntKind.i64.wrap (-2)= -2:=rfl;have w1:IntKind.i64.wrap (-1)= -1:=rfl;obtain⟨c1,c2⟩:=cp;obtain⟨k1,k2⟩:=kn;obtain⟨N,nL1⟩:=W;have K:¬nL=0:=by omega
 obtain⟨b,F⟩:∃b,ah f157=[b]:=⟨_,rfl⟩
 obtain⟨G,Z⟩:=Kl H0 F M.length;have D:=fun env d h=>(Z env d h).1
 have S:=fun env d h=>(Z env d h).2
 clear Z H0;obtain⟨U,C⟩:∃U,aI f157=U :=⟨_,rfl⟩
 have u :=cG C yE;simp only[aI,ca,f157,lA] at C;subst C;simp only[lB] at u;obtain⟨P',hb1⟩:=u;have ll:lb<M.length+(Z1.length+4):=by have:=gL H;simp[ndB] at this;omega
 have lw:wb<M.length+(Z1.length+V.length+1+1+1+1):=by omega
 obtain⟨n,hn⟩:=xE X.length;rw[<-hn] at D S eP;obtain⟨cn,B⟩:=xE (α:=Int) (-1+(Uq p X:Int));rw[<-B] at S |-;refine⟨ndB pv tv ev p++(Z1++(V++W1 X)),?_⟩;have Y6:cE (bd prog) (fun _=>[46,46,46,12]) (aX prog) O 6 157 [.agg [pv,tv],.agg ev,vA p] M=some (.tuple [.int .i64 cn,.int .i64 0],M++(ndB pv tv ev p++(Z1++(V++W1 X)))):=by
  simp[ah,aE,f157] at F;subst F;unfold ndB vL pA vA at*;simp only[List.cons_append,List.nil_append,Y1] at H eP D S eL;have z5:∀a b c d (Y:Mem),List.drop (M.length+(Z1.length+4)) (M++a::b::c::d::(Z1++Y))=Y:=fun a b c d Y=>by
   rw[<-QQk,List.drop_left,show Z1.length+4=4+Z1.length by omega,<-QQk];show List.drop Z1.length (Z1++Y)=Y
   rw[List.drop_left]
  simp[-getElem?_pos,-AV.afi,-AV.known,-AV.cells,-cO,-List.all_eq_true,vS,rS,mS,cE,m,f157,rp,rt,J,I,t0,eL,eP,hV,H,ll,lw,z5,N,K,cv,aH,D,S,-bF,-bn,-aG,-AV.adM,-afl.adM,aY P',cq,cc,dW,cK,cS,gB,bef,Nat.testBit]
 exact cL aj (aJ _) hO (aM _) Y6
end
end
variable{k:Nat}
theorem Lh{n:Int}(h:n.natAbs<10 ^ k)(h0:0<k):dg k k ((n:Int):Rat):=⟨h,by show(1:Nat)<10 ^ k;have:10 ^ 1<=10 ^ k:=P3 (by omega) h0;omega⟩
theorem DS{z:Int}(h:z.natAbs<10 ^ k)(h0:0<k):dg k k (hQ z):=pG (by decide) h (by have:10 ^ 1<=10 ^ k:=P3 (by omega) h0;omega)
variable{n:Nat}
section
variable{v:Z3}(h:PD n v)(hn:n<10 ^ k)(h0:0<k)
include v h hn h0
theorem Un:vDg k (zQ v):=⟨Lh (by have:=h.1;omega) h0,Lh (by have:=h.2.1;omega) h0,Lh (by have:=h.2.2;omega) h0⟩
theorem YB:vDg k (hV v):=⟨DS (by have:=h.1;omega) h0,DS (by have:=h.2.1;omega) h0,DS (by have:=h.2.2;omega) h0⟩
end
theorem YM{v:Z3}(h:We v=false):¬E4 (zQ v):=by
 rintro ⟨Z,X,h3⟩;have V:v.1=0:=by have:((v.1:Int):Rat)=0:=Z;exact_mod_cast this
 have U:v.2.1=0:=by have:((v.2.1:Int):Rat)=0:=X;exact_mod_cast this
 have S:v.2.2=0:=by have:((v.2.2:Int):Rat)=0:=h3;exact_mod_cast this
 simp[We,V,U,S] at h
theorem WQ(n v:Z3):(rM n v).1*n.1+(rM n v).2.1*n.2.1+(rM n v).2.2*n.2.2=0:=by
 unfold rM
 grind
theorem Wz{a b:Z3}(h:a.1*b.1+a.2.1*b.2.1+a.2.2*b.2.2=0):gw (zQ a) (zQ b)=0:=by
 unfold gw zQ;have:(((a.1*b.1+a.2.1*b.2.1+a.2.2*b.2.2:Int)):Rat)=0:=by rw[h];rfl
 simpa [Rat.intCast_add,Rat.intCast_mul] using this
theorem XG{a b:Z3}(h:a.1*b.1+a.2.1*b.2.1+a.2.2*b.2.2=0):gw (hV a) (zQ b)=0:=by
 have k:=Wz h;unfold gw zQ hV at*;simp only[mO] at*
 grind
theorem lI(s:afq):0<s.P.length/\s.P.length<=1000:=by
 have h:∀k<8,0<(ej k).length/\(ej k).length<=1000:=by decide
 have:=h (s.kind%8) (Nat.mod_lt _ (by decide));unfold afq.P
 rwa [QXY]
def ctM(x:afg):Nat:=(ct3 (x.n 7)).toNat
theorem SJ{x:afg}:ct3 (x.n 7)=(ctM x:Int):=by have:=OZ (x.n 7);unfold ctM;omega
theorem wz(x:afg):ctM x=1\/ctM x=2\/ctM x=3:=by have:=OZ (x.n 7);unfold ctM;omega
def cSk(x:afg)(n:Nat):Evc:=match x.kind%5 with
 |0=>tF x n (ctN x)
 |1=>fY [110] (zQ (fJ x)) (hQ (ie (x.n 6))) (hV (Ae x))
 |2=>eV [110] (zQ (fJ x)) (x.afI (ctM x)) (zQ (Ae x))
 |3=>jW [110] (zQ (fJ x)) (hQ (ie (x.n 6))) (hQ (ps9 (x.n 7))) [110,95,114,111,99,107]
 |_=>mJ [110] (Ap x) (zQ (fJ x))
variable{c:Nat}
theorem Lz{x:afg}(hc:c<=3){q:Rat×Rat}(h:q∈x.afI c):big 2 q.1/\big 2 q.2:=by unfold afg.afI at h;obtain⟨i,Z,rfl⟩:=QQh.1 h;have Z:=List.mem_range.1 Z;have X:=x.ahv i;have V:=dG (x.n ((i+7)%8));exact⟨Lh (k:=2) (by omega) (by decide),DS (k:=2) (by show(ie _).natAbs<_;omega) (by decide)⟩
variable{i:Nat}
theorem Pc{x:afg}{a:Rat×Rat}(h:(x.afI c)[i]? =some a):a=x.ahY i:=by
 unfold afg.afI at h;rw[Zo] at h;by_cases Z:i<c
 .rw[List.getElem?_range Z] at h
  exact(ZQ h).symm
 .rw[List.getElem?_eq_none (by simp;omega)] at h
  cases h
theorem VH{x:afg}{a b:Rat×Rat}(H:(x.afI c)[i]? =some a)(I:(x.afI c)[i+1]? =some b):a.1<b.1:=by
 rw[Pc H,Pc I];have:=x.ahR i;show((x.at i:Int):Rat)<((x.at (i+1):Int):Rat)
 exact_mod_cast this
theorem qR(s:afq)(x:afg):lf s (cSk x s.P.length):=by
 obtain⟨S,R⟩:=lI s;have Z:=(Un (sX x) (k:=1) (by decide) (by decide));have X:=YM (VO x);have V:=DS (z:=ie (x.n 6)) (k:=1) (by have:=dG (x.n 6);omega) (by decide);have U:=WQ (fJ x) (ie (x.n 3),ie (x.n 4),ie (x.n 5));unfold cSk;split
 .exact Im s x _ _ rfl S R (ir x)
 .exact Dt s [110] _ _ _ (by decide) (Z.mono (by omega)) X (V.mono (by omega) (by omega)) ((YB (NW x) (k:=3) (by decide) (by decide)).mono (by omega)) (XG U)
 .have K:=wz x
  refine FH s [110] _ _ _ (by decide) (Z.mono (by omega)) X (by rw[afg.afR];omega) (by rw[afg.afR];omega) (fun q O=>?_) (fun i a b N L=>VH N L) ((Un (NW x) (k:=3) (by decide) (by decide)).mono (by omega)) (Wz U);have:=Lz (c:=ctM x) (by omega) O;exact⟨this.1.mono (by omega),this.2.mono (by omega)⟩
 .have G:=mT (x.n 7)
  exact FG s [110] _ _ _ _ (by decide) (Z.mono (by omega)) X (V.mono (by omega) (by omega)) ((DS (z:=ps9 (x.n 7)) (k:=1) (by omega) (by decide)).mono (by omega) (by omega)) (XD (by omega)) (by decide)
 .exact FI s [110] _ _ (by decide) (fun M=>Fq (Wa x) (Wb x) M) (Z.mono (by omega))
def Vy(m:Nat)(x:afg)(n:Nat):List AV:=(cSk x n).cells (if x.kind%5=0 then .slice m 0 n none else .qF) (if x.kind%5=0 then .slice (m+1) 0 (ctN x) none else .qF) (if x.kind%5=0 then dqS m n (ctN x) else .qF) (if x.kind%5=2 then .slice m 0 (ctM x) none else .qF)
def Om(m:Nat)(x:afg)(n:Nat):Mem:=if x.kind%5=0 then dqN m x n (ctN x) else if x.kind%5=2 then [.cells true 2 (kC (kT (x.afI (ctM x))))] else []
theorem pI(k:Nat):k%5=0\/k%5=1\/k%5=2\/k%5=3\/k%5=4:=by omega
section
variable{x:afg}
include x
theorem Yl(h:x.kind%5=0):cSk x n=tF x n (ctN x):=by unfold cSk;rw[h];rfl
theorem Ym(h:x.kind%5=1):cSk x n=fY [110] (zQ (fJ x)) (hQ (ie (x.n 6))) (hV (Ae x)):=by unfold cSk;rw[h];rfl
theorem Yn(h:x.kind%5=2):cSk x n=eV [110] (zQ (fJ x)) (x.afI (ctM x)) (zQ (Ae x)):=by unfold cSk;rw[h];rfl
theorem Yo(h:x.kind%5=3):cSk x n=jW [110] (zQ (fJ x)) (hQ (ie (x.n 6))) (hQ (ps9 (x.n 7))) [110,95,114,111,99,107]:=by unfold cSk;rw[h];rfl
theorem Yp(h:x.kind%5=4):cSk x n=mJ [110] (Ap x) (zQ (fJ x)):=by unfold cSk;rw[h];rfl
end
theorem H6(x:afg)(H:x.Ok)(n k:Nat)(I:0<n)(J:n<=1000):kO prog 9 [.agg [.slice 0 0 n none,.slice 1 0 k none],.agg x.cells,.str [110]] [.qK,.qK] (.agg (Vy 2 x n)) ([.qK,.qK]++Om 2 x n):=by
 unfold Vy Om;rcases pI x.kind with h | h | h | h | h
 .rw[Yl h,h];exact Fz x H n k I J h
 .rw[Ym h,h];exact FA x H n k h
 .rw[Yn h,h]
  rcases wz x with h3 | h3 | h3
  .rw[h3];exact Dn x H n k h (by rw[SJ,h3];rfl)
  .rw[h3];exact Dp x H n k h (by rw[SJ,h3];rfl)
  .rw[h3];exact Dq x H n k h (by rw[SJ,h3];rfl)
 .rw[Yo h,h];exact FB x H n k h
 .rw[Yp h,h];exact FC x H n k h
theorem H7(x:afg)(H:x.Ok)(n k:Nat)(I:0<n)(J:n<=1000)(M:Mem)(p t:Nat)(W:p<M.length)(Y:t<M.length):
  kO prog 9 [.agg [.slice p 0 n none,.slice t 0 k none],.agg x.cells,.str [110]] M (.agg (Vy M.length x n)) (M++Om M.length x n):=by
 have Z:=fun f=>aL (ρ:=f) x.closed
 have h3:=ir x;have U:=H6 x H n k I J;have:=kO.frame (M:=M) (new:=Om 2 x n) [p,t] (m:=[.qK,.qK]) rfl (by
  intro k V;simp only[lM] at V;rcases V with rfl | rfl
  .exact W
  .exact Y) (by simp[AV.afp,AV.under,bj x.closed]) (fun i s X=>by
  match i with
  |0=>simp at X;subst X;trivial
  |1=>simp at X;subst X;trivial
  |i+2=>simp at X) (by
   unfold Om;rcases pI x.kind with h | h | h | h | h<;>rw[h]<;>try rfl
   rcases h3 with h3 | h3 | h3<;>rw[h3]<;>rfl) U
 unfold Vy Om at this |-;obtain⟨C,S⟩:=xE (cSk x n);rw[<-S] at this |-;have R:∀f,AV.afz f (kC (kT (x.afI (ctM x))))=kC (kT (x.afI (ctM x))):=fun f=>aL (jI _)
 rcases pI x.kind with h | h | h | h | h
 .obtain⟨c,O⟩:=xE (ctN x)
  rw[<-O] at this h3 |-;rcases h3 with rfl | rfl | rfl<;>simpa [h,AV.afz,AV.ren,fa,afl.ren,dqS,dqN,kS,uNm,nmE,stC,Z,Evc.cells] using this
 .simpa [h,AV.afz,AV.ren,fa,afl.ren,Z,Evc.cells] using this
 .simpa [h,AV.afz,AV.ren,fa,afl.ren,Z,Evc.cells,R] using this
 .simpa [h,AV.afz,AV.ren,fa,afl.ren,Z,Evc.cells] using this
 .simpa [h,AV.afz,AV.ren,fa,afl.ren,Z,Evc.cells] using this
theorem BV(M N:Mem)(k:Nat):(M++N)[M.length+k]? =N[k]? :=by rw[V1 (by omega)];congr 1;omega
theorem Sw(M N:Mem):(M++N)[M.length]? =N[0]? :=BV M N 0
variable{C:List AV}{N:Mem}
theorem mY{b es n:Nat}{o:Bool}(h0:0<n)(h:N[b]? =some (.cells o es C)):aft N (.slice b 0 n none) es n C:=.inr ⟨b,o,rfl,h0,h⟩
variable{es:Nat}
theorem kg:aft N .qF es 0 []:=.inl ⟨rfl,rfl,rfl⟩
theorem Md:agF N .qF []:=⟨[],rfl,kg,fun i x L h=>by simp at h⟩
theorem He(h:c=1\/c=2\/c=3):(uNm c).length=c:=by rcases h with rfl | rfl | rfl<;>rfl
theorem SU(x:afg)(n:Nat)(H:0<n)(M:Mem):af8 (M++Om M.length x n) (Vy M.length x n) (cSk x n):=by
 unfold Vy Om;have h3:=ir x;rcases pI x.kind with h | h | h | h | h
 .rw[Yl h,h]
  refine⟨_,_,_,_,rfl,?_,?_,?_,kg⟩
  .simp only[if_true]
   have V:(tF x n (ctN x)).B.length=n:=by show(hS _).length=n;rw[kN,Hts.afJ]
   rw[V];refine mY (o:=true) H ?_;rw[Sw];show _=some (afl.cells true 1 (stC (hS _)))
   rw[O5];rcases h3 with h3 | h3 | h3<;>rw[h3]<;>rfl
  .simp only[if_true]
   have V:(tF x n (ctN x)).U.length=ctN x:=He h3;rw[V];refine mY (o:=true) (by omega) ?_;rw[BV];show _=some (afl.cells true 1 (stC (uNm (ctN x))))
   rcases h3 with h3 | h3 | h3<;>rw[h3]<;>rfl
  .simp only[if_true]
   show agF _ _ ((ja x n (ctN x)).map hS)
   rcases h3 with h3 | h3 | h3<;>rw[h3]
   .exact Md
   .refine⟨[.slice (M.length+3) 0 n none],rfl,mY (o:=true) (by show 0<1;omega) (by rw[BV];rfl),fun i x L Z X=>?_⟩
    match i,Z,X with
    |0,Z,X=>
     cases Z;cases X;rw[kN,fE];refine mY (o:=true) H ?_;rw[BV,O5];rfl
    |i+1,Z,_=>simp at Z
   .refine⟨[.slice (M.length+3) 0 n none,.slice (M.length+4) 0 n none],rfl,mY (o:=true) (by show 0<2;omega) (by rw[BV];rfl),fun i x L Z X=>?_⟩
    match i,Z,X with
    |0,Z,X=>
     cases Z;cases X;rw[kN,fE];refine mY (o:=true) H ?_;rw[BV,O5];rfl
    |1,Z,X=>
     cases Z;cases X;rw[kN,fE];refine mY (o:=true) H ?_;rw[BV,O5];rfl
    |i+2,Z,_=>simp at Z
 .rw[Ym h,h];exact⟨_,_,_,_,rfl,kg,kg,Md,kg⟩
 .rw[Yn h,h]
  refine⟨_,_,_,_,rfl,kg,kg,Md,?_⟩;have V:(eV [110] (zQ (fJ x)) (x.afI (ctM x)) (zQ (Ae x))).K.length=ctM x:=by show(kT _).length=_;rw[mc,afg.afR]
  rw[V];have:=wz x;exact mY (o:=true) (by omega) (by rw[Sw];rfl)
 .rw[Yo h,h];exact⟨_,_,_,_,rfl,kg,kg,Md,kg⟩
 .rw[Yp h,h];exact⟨_,_,_,_,rfl,kg,kg,Md,kg⟩
theorem cX{M:Mem}{p:Nat}{s:afl}(h:M[p]? =some s)(Z:Mem):(M++Z)[p]? =some s:=by rw[GE (gL h)];exact h
theorem rO{M:Mem}{p:Nat}{s:afl}(h:M[p]? =some s):p<M.length:=gL h
theorem aft.refs{v:AV}(h:aft N v es n C)(x:Nat):v.adM (fun b=>decide (b<N.length+x))=true:=by
 rcases h with⟨rfl,_⟩ | ⟨b,o,rfl,_,h⟩
 .rfl
 .have:=rO h
  simp only[AV.adM,Es];omega
theorem af8.refs{e:List AV}{c:Evc}(h:af8 N e c)(x:Nat):AV.afn (fun b=>decide (b<N.length+x)) e=true:=by obtain⟨b,u,M,L,rfl,Z,X,⟨_,_,h3,_⟩,V⟩:=h;have U:=Z.refs x;have S:=X.refs x;have R:=h3.refs x;have O:=V.refs x;simp only[Evc.cells,AV.afn,U,S,R,O,AV.adM,Bool.and_self]
def Al(s:afq)(p t:Nat):AV:=.agg [.slice p 0 s.P.length none,.slice t 0 s.T.length none]
theorem kE{K:Int}{g g1 J g3 g4:FuncId}{W:Evc->Evc}{x y:Bool}(kp:agm K g g1 J g3 g4 W x y){s:afq}{c:Evc}(hk:c.k=K)(Y:lf s c){M:Mem}{p t:Nat}{o o' :Bool}{H:List AV}(hp:M[p]? =some (.cells o 2 (pC s.P)))(ht:M[t]? =some (.cells o' 3 (tC s.T)))(I:af8 M H c){mo:Int}(hN:∀Z,kO prog J [.agg H] (M++Z) (.int .i64 mo) (M++Z))(n1:25≠J)(n2:44≠J)(n:Int)(Z:Mem):
  kO prog 58 [Al s p t,.agg H,.int .i64 n] (M++Z) (.int .i64 (if loK K<=n/\n<=mo then 0 else 10)) (M++Z):=by
 have V:=I.more Z;have L:=rO (cX hp Z);have G:=rO (cX ht Z);have F:loK K=if K=1 then -2 else 0:=rfl
 have U:∀(q k x:Nat),q<(M++Z).length->(AV.slice q 0 k none).adM (fun b=>decide (b<(M++Z).length+x))=true:=fun q k x h=>by simp only[AV.adM,Es];omega
 have D:H[0]? =some (.int .i64 K):=by
  obtain⟨b,u,S,O,rfl,_⟩:=id I;show some (AV.int .i64 c.k)=_
  rw[hk]
 refine A6 (kd:=K) (k0:=g) (k1:=g1) (k3:=g3) (k4:=g4) ⟨rfl,rfl⟩ I.l32 (List.all_eq_true.2 I.cok) (fun x=>U _ _ x L) (fun x=>U _ _ x G) (fun x=>V.refs x) D F (fun X =>Y _ p t o o' H (cX (cX hp Z) X) (cX (cX ht Z) X) (V.more X)) (fun X =>?_) (fun X =>by rw[Y1];exact hN (Z++X)) n1 n2;obtain⟨b,u,S,O,rfl,B,m,⟨_,_,h3,_⟩,j⟩:=I;have:=Ge kp (N:=(M++Z)++X) (nm:=c.nm) (R:=((c.cells b u S O).drop 2)) rfl (by simp[Evc.cells,B.ck,m.ck,h3.ck,j.ck,vS,-AV.afi]);rw[<-hk] at this;exact this
theorem kne{c:Evc}(k:Int){m:Int}(h:c.k=k)(e:k≠m):¬c.k=m:=fun Z =>e (h.symm.trans Z)
section
variable {x:afg}{s:afq}{M:Mem}{p t:Nat}{o o' :Bool}{ev:List AV}
end
end Go.Proofs
