/- See D38. -/
import Derived.Test.YthpgbelancmpjaaGreatDoorD34
set_option linter.all false
set_option maxRecDepth 100000
set_option maxHeartbeats 40000000
namespace Go.Proofs
open Go.Eng
open Tryz
def sH(M:Mem)(mv:AV)(P:List P2)(T:List Tr)(q:P2)(c:Go.Eng.Callee)(a:List AV)(N:Mem)(r:afh):Prop:=
 (∃x Q,c=.fn 55/\a=[mv,x,pA q]/\(∃Z,N=M++Z)/\aft M x 1 Q.length (qC Q)/\(∀Z,kO prog 55 [mv,x,pA q] (M++Z) (atV P T Q q) (M++Z))/\r=⟨atV P T Q q,none,[]⟩)\/
 (∃x y,c=.fn 56/\a=[.str (ao x),.str (ao y)]/\dv x/\dv y/\r=⟨.int .i64 (gd (x-y)),none,[]⟩)
variable{N:Mem}
theorem aft.inj{v:AV}{es n n' :Nat}{C H :List AV}(h:aft N v es n C)(h' :aft N v es n' H):n=n' /\C=H :=by
 rcases h with⟨rfl,rfl,rfl⟩ | ⟨b,o,rfl,S,X⟩
 .rcases h' with⟨_,rfl,rfl⟩ | ⟨V,U,h,_⟩
  .exact⟨rfl,rfl⟩
  .cases h
 .rcases h' with⟨h,_⟩ | ⟨V,U,h,_,Z⟩
  .cases h
  .cases h
   rw[X] at Z;cases Z;exact⟨rfl,rfl⟩
theorem Wt{Q R:List Rat}(h:qC Q=qC R):Q=R:=by unfold qC at h;exact List.map_inj_right (f:=fun q=>AV.str (ao q)) (fun x y e=>eH (by simpa using e)) |>.1 h
variable{a b:Rat}
section
variable {M:Mem}{mv:AV}{P:List P2}{T:List Tr}{q:P2}
theorem yD{c:Go.Eng.Callee}{a:List AV}{r r' :afh}(h:sH M mv P T q c a N r)(h' :sH M mv P T q c a N r'):r' =r:=by
 rcases h with⟨x,Q,rfl,rfl,_,X,_,rfl⟩ | ⟨x,y,rfl,rfl,_,_,rfl⟩
 .rcases h' with⟨Z,V,_,e,_,U,_,rfl⟩ | ⟨Z,S,e,_⟩
  .have R:x=Z :=by simpa using e
   subst R;rw[Wt (X.inj U).2]
  .cases e
 .rcases h' with⟨Z,V,e,_⟩ | ⟨Z,S,_,e,_,_,rfl⟩
  .cases e
  .simp only[List.cons.injEq,AV.str.injEq,and_true] at e
   rw[eH e.1,eH e.2]
theorem NF:qS prog (qt (sH M mv P T q)):=tn fun c a N r h=>by
 rcases h with⟨x,Q,rfl,rfl,⟨Z,rfl⟩,V,X,rfl⟩ | ⟨x,y,rfl,rfl,V,X,rfl⟩
 .exact bH (X Z)
 .exact bH (nj x y V X N)
theorem PC:gd (a-b)<0↔a<b:=by rw[<-Rat.not_le,<-T7];omega
theorem Yf{q:Rat}:gd q<=0↔q<=0:=by
 have h:gd q<=0↔q.num<=0:=by
  unfold gd jB;split
  .omega
  .split<;>omega
 have Z:0<=(-q).num↔0<= -q:=Rat.num_nonneg;rw[Rat.neg_num] at Z;rw[h];constructor
 .intro h3
  have:=Z.1 (by omega)
  grind
 .intro h3
  have:=Z.2 (by grind);omega
theorem xa:gd (a-b)<=0↔a<=b:=by rw[Yf];constructor<;>intro h<;>grind
noncomputable def SM(P:List P2)(T:List Tr)(B:List Rat)(Qs:List (List Rat))(p:V3):Int:=
 match GQ P (p.1,p.2.1) T 0 with
 |none=> -2
 |some (j,w)=>if p.2.2<xd T B j w then -1 else (RS p.2.2 (Qs.map fun Q=>xd T Q j w):Int)
theorem yC:(aI f17).map (fun o=>dO o.toList)=[[0,0,2,6,0,30,62,0,128,0,512,1920,4095,8191,16383,16383,32767,131071],[0,1,3,0,15,31,63,0,128,384,0,1920,4095,8191]]:=by kernel_rfl
variable {B:List Rat}{sfs:List (Nat×List Rat)}{pb tb fb sb:Nat}{o1 o2 o3 o4:Bool}{u sv:AV}{p:V3}{c:Evc}
theorem agd:aX prog 17=some f17:=by kernel_rfl
theorem tX(h2:sfs.length<=2)(m1:M[pb]? =some (.cells o1 2 (pC P)))(m2:M[tb]? =some (.cells o2 3 (tC T)))(m3:M[fb]? =some (.cells o3 1 (qC B)))(h0:0<B.length)(hl:∀e∈sfs,e.2.length=B.length)(hB:AtG P T B (p.1,p.2.1))(I:(sv=.qF/\sfs=[])\/(sv=.slice sb 0 sfs.length none/\0<sfs.length/\M[sb]? =some (.cells o4 1 (sfs.map fun e=>.slice e.1 0 e.2.length none))))(hS:∀e∈sfs,(∃o,M[e.1]? =some (.cells o 1 (qC e.2)))/\AtG P T e.2 (p.1,p.2.1))(fp:dv p.2.2)(fB:∀j w,GQ P (p.1,p.2.1) T 0=some (j,w)->dv (xd T B j w))(J:∀e∈sfs,∀j w,GQ P (p.1,p.2.1) T 0=some (j,w)->dv (xd T e.2 j w))(hk:c.k=1)(cu:u.afi=true):
  kO prog 17 [.agg [.slice pb 0 P.length none,.slice tb 0 T.length none],.agg (c.cells (.slice fb 0 B.length none) u sv .qF),vA p] M (.int .i64 (SM P T B (sfs.map (·.2)) p)) M:=by
 have lm1:=gL m1;have lm2:=gL m2;have lm3:=gL m3;have y1:∀k,pb<M.length+k:=fun k=>by omega
 have y2:∀k,tb<M.length+k:=fun k=>by omega
 have y3:∀k,fb<M.length+k:=fun k=>by omega
 have more:∀{b:Nat}{x:afl},M[b]? =some x->∀Z,(M++Z)[b]? =some x:=fun h Z=>by rw[GE (gL h)];exact h
 have hO:=NF (M:=M) (mv:=.agg [.slice pb 0 P.length none,.slice tb 0 T.length none]) (P:=P) (T:=T) (q:=(p.1,p.2.1));obtain⟨O,S⟩:=xE (qt (sH M (.agg [.slice pb 0 P.length none,.slice tb 0 T.length none]) P T (p.1,p.2.1)));have eA:∀(b:Nat) (Q:List Rat),0<Q.length->(∃o,M[b]? =some (.cells o 1 (qC Q)))->AtG P T Q (p.1,p.2.1)->∀Z,O (.fn 55) [.agg [.slice pb 0 P.length none,.slice tb 0 T.length none],.slice b 0 Q.length none,.agg [.str (ao p.1),.str (ao p.2.1)]] (M++Z)=some ⟨atV P T Q (p.1,p.2.1),none,[]⟩:=fun b Q h0 ⟨o,hb⟩ H Z=>by have y:sH M (.agg [.slice pb 0 P.length none,.slice tb 0 T.length none]) P T (p.1,p.2.1) (.fn 55) [.agg [.slice pb 0 P.length none,.slice tb 0 T.length none],.slice b 0 Q.length none,pA (p.1,p.2.1)] (M++Z) ⟨atV P T Q (p.1,p.2.1),none,[]⟩:=.inl ⟨_,Q,rfl,rfl,⟨Z,rfl⟩,.inr ⟨b,o,rfl,h0,hb⟩,fun Z=>PW H (more m1 Z) (more m2 Z) (more hb Z),rfl⟩;rw[S];exact fj y fun r' L =>yD y L
 have eK:∀x y:Rat,dv x->dv y->∀N,O (.fn 56) [.str (ao x),.str (ao y)] N=some ⟨.int .i64 (gd (x-y)),none,[]⟩:=fun x y hx hy N=>by have z:sH M (.agg [.slice pb 0 P.length none,.slice tb 0 T.length none]) P T (p.1,p.2.1) (.fn 56) [.str (ao x),.str (ao y)] N ⟨.int .i64 (gd (x-y)),none,[]⟩:=.inr ⟨x,y,rfl,rfl,hx,hy,rfl⟩;rw[S];exact fj z fun r' L =>yD z L
 rw[<-S] at hO;clear S;have R:=eA fb B h0 ⟨o3,m3⟩ hB;have hcs:∀s,(AV.str s).afi=true:=fun _=>rfl
 have hci:∀k n,(AV.int k n).afi=true:=fun _ _=>rfl
 obtain⟨os,D'⟩:∃os,aI f17=os:=⟨_,rfl⟩
 have UV:=cG D' yC;have k0:fv [0,0,2,6,0,30,62,0,128,0,512,1920,4095,8191,16383,16383,32767,131071] 17=true:=by decide
 simp only[aI,ca,f17,lA] at D';subst D';simp only[lB] at UV;obtain⟨P',-⟩:=UV;have u0:IntKind.i64.wrap 0=0:=rfl;have u1:IntKind.i64.wrap 1=1:=rfl;have u2:IntKind.i64.wrap 2=2:=rfl;refine gQ (K:=4) (lv:=fun c=>if (ad c).contains 10 then [9,10] else [13,14]) hO ?_;unfold SM atV at*;obtain⟨x,y,z⟩:=p;simp only at*;cases ZM:GQ P (x,y) T 0 with
 |none=>
  simp only[ZM] at R |-;rcases I with⟨rfl,rfl⟩ | ⟨rfl,-,X⟩<;>
   simp[-getElem?_pos,-AV.afi,-AV.known,-AV.cells,-cO,-List.all_eq_true,vS,mS,-bF,-bn,-AV.adM,-afl.adM,aa,agd,f17,Evc.cells,vA,hk,R,cv,aH]
 |some r=>
  obtain⟨j,w⟩:=r;have fB:=fB j w ZM;have J:=fun e he=>J e he j w ZM
  simp only[ZM] at R |-;have W:=eK _ _ fp fB;have U:=PC (a:=z) (b:=xd T B j w);obtain⟨z0,hz0⟩:=xE (xd T B j w);rw[<-hz0] at R W U |-;obtain⟨g0,hg0⟩:=xE (gd (z-z0));rw[<-hg0] at W U;by_cases FS:z<z0
  .have U:=U.2 FS
   rw[if_pos FS];rcases I with⟨rfl,rfl⟩ | ⟨rfl,-,X⟩<;>
    simp[-getElem?_pos,-AV.afi,-AV.known,-AV.cells,-cO,-List.all_eq_true,vS,mS,-bF,-bn,-AV.adM,-afl.adM,aa,agd,f17,Evc.cells,vA,hk,R,W,U,cv,aH]
  .have U:¬g0<0:=fun h=>FS (U.1 h)
   rw[if_neg FS];clear fB
   match sfs,h2 with
   | [],_=>
    have I:sv=.qF:=by
     rcases I with⟨h,_⟩ | ⟨_,h,_⟩
     .exact h
     .exact absurd h (by simp)
    subst I;simp[-getElem?_pos,-AV.afi,-AV.known,-AV.cells,-cO,-List.all_eq_true,vS,mS,-bF,-bn,-AV.adM,-afl.adM,aa,agd,f17,Evc.cells,vA,hk,R,W,cv,aH,ba,ga,U,RS,-aG]
   | [(b1,Q1)],_=>
    have I:sv=.slice sb 0 1 none/\M[sb]? =some (.cells o4 1 [.slice b1 0 Q1.length none]):=by
     rcases I with⟨_,h⟩ | ⟨h,_,L⟩
     .cases h
     .exact⟨h,L⟩
    obtain⟨rfl,X⟩:=I;have lsb:=gL X;have G:∀k,sb<M.length+k:=fun k=>by omega
    have X:=more X;obtain⟨V,H1⟩:=hS (b1,Q1) (by simp);have F:=eA b1 Q1 (by rw[hl (b1,Q1) (by simp)];exact h0) V H1;simp only[ZM] at F;have f1:=J (b1,Q1) (by simp);simp only at f1;have D:=eK _ _ f1 fp;have C:=xa (a:=xd T Q1 j w) (b:=z);obtain⟨o,V⟩:=V;have g1:=gL V;clear V H1;simp only at g1;have m:∀k,b1<M.length+k:=fun k=>by omega
    simp only[List.map_cons,List.map_nil];obtain⟨z1,Y⟩:=xE (xd T Q1 j w);rw[<-Y] at F D C |-;obtain⟨n1,Z5⟩:=xE (gd (z1-z));rw[<-Z5] at D C;by_cases a1:z1<=z<;>simp[-getElem?_pos,-AV.afi,-AV.known,-AV.cells,-cO,-List.all_eq_true,vS,rS,mS,-bF,-bn,-AV.adM,-afl.adM,aa,agd,f17,Evc.cells,vA,hk,R,W,cv,aH,ba,ga,u1,y1,y2,F,D,m,G,X,U,RS,C,a1,-aG,an P',bD,bt,bB,k0,Nat.testBit]
   | [(b1,Q1),(b2,Q2)],_=>
    have I:sv=.slice sb 0 2 none/\M[sb]? =some (.cells o4 1 [.slice b1 0 Q1.length none,.slice b2 0 Q2.length none]):=by
     rcases I with⟨_,h⟩ | ⟨h,_,L⟩
     .cases h
     .exact⟨h,L⟩
    obtain⟨rfl,X⟩:=I;have lsb:=gL X;have G:∀k,sb<M.length+k:=fun k=>by omega
    have X:=more X;obtain⟨V,H1⟩:=hS (b1,Q1) (by simp);have F:=eA b1 Q1 (by rw[hl (b1,Q1) (by simp)];exact h0) V H1;simp only[ZM] at F;have f1:=J (b1,Q1) (by simp);simp only at f1;have D:=eK _ _ f1 fp;have C:=xa (a:=xd T Q1 j w) (b:=z);obtain⟨o,V⟩:=V;have g1:=gL V;clear V H1;simp only at g1;have m:∀k,b1<M.length+k:=fun k=>by omega
    simp only[List.map_cons,List.map_nil];obtain⟨z1,Y⟩:=xE (xd T Q1 j w);rw[<-Y] at F D C |-;obtain⟨n1,Z5⟩:=xE (gd (z1-z));rw[<-Z5] at D C;obtain⟨Z6,H2⟩:=hS (b2,Q2) (by simp);have e2:=eA b2 Q2 (by rw[hl (b2,Q2) (by simp)];exact h0) Z6 H2;simp only[ZM] at e2;have f2:=J (b2,Q2) (by simp);simp only at f2;have c2:=eK _ _ f2 fp;have l2:=xa (a:=xd T Q2 j w) (b:=z);obtain⟨o,Z6⟩:=Z6;have g2:=gL Z6;clear Z6 H2;simp only at g2;have yg2:∀k,b2<M.length+k:=fun k=>by omega
    obtain⟨z2,hz2⟩:=xE (xd T Q2 j w);rw[<-hz2] at e2 c2 l2 |-;obtain⟨n2,hn2⟩:=xE (gd (z2-z));rw[<-hn2] at c2 l2;by_cases a1:z1<=z<;>by_cases a2:z2<=z<;>simp[-getElem?_pos,-AV.afi,-AV.known,-AV.cells,-cO,-List.all_eq_true,vS,rS,mS,-bF,-bn,-AV.adM,-afl.adM,aa,agd,f17,Evc.cells,vA,hk,R,W,cv,aH,ba,ga,u1,u2,y1,y2,F,D,m,G,e2,c2,yg2,X,U,RS,C,a1,l2,a2,-aG,an P',bD,bt,bB,k0,Nat.testBit]
end
end Go.Proofs
namespace Go.Proofs
open Go.Eng
open Tryz
theorem Hx{a0 a1:Nat}(nm:List UInt8)(n v p:V3){d:Rat}(hd:WS n p)(H:d=gw n p)(fd:dv d):∀(Q:List (Rat×Rat)),(0<Q.length/\Q.length<=3)->(∀x∈Q,dv x.1/\True)->
  kO prog 17 [.agg [.slice 0 0 a0 none,.slice 1 0 a1 none],.agg ((eV nm n Q v).cells .qF .qF .qF (.slice 2 0 Q.length none)),vA p] [.qK,.qK,.cells false 2 (kC (kT Q))] (.int .i64 (fg Q d:Int)) [.qK,.qK,.cells false 2 (kC (kT Q))]:=by
 intro Q hl V;have G:=fun M=>AY n p hd M
 rw[<-H] at G;have Y:qS prog (y9.or (ag (fD [(54,[vA n,vA p],.str (ao d))])) (ag lC)):=qS.or (ic fun e W M=>by rw[List.mem_singleton] at W;rw[W];exact G M) Kz
 clear G hd H;obtain⟨F,D⟩:=fd;obtain⟨J,C⟩:∃J,aI f17=J:=⟨_,rfl⟩
 have I:=cG C yC;have B:fv [0,1,3,0,15,31,63,0,128,384,0,1920,4095,8191] 13=true:=by decide
 simp only[aI,ca,f17,lA] at C;subst C;simp only[lB] at I;obtain⟨-,S⟩:=I;have u0:IntKind.i64.wrap 0=0:=rfl;have u:IntKind.i64.wrap 1=1:=rfl;have u2:IntKind.i64.wrap 2=2:=rfl;have u3:IntKind.i64.wrap 3=3:=rfl;have hcs:∀s,(AV.str s).afi=true:=fun _=>rfl
 have hci:∀k n,(AV.int k n).afi=true:=fun _ _=>rfl
 have hcn:AV.qF.afi=true:=rfl;refine gQ (K:=5) (lv:=fun c=>if (ad c).contains 10 then [9,10] else [13,14]) Y ?_;clear Y
 match Q,hl,V with
 | [a],_,V=>
  obtain⟨a1,R⟩:=(V a (by simp)).1;have U:=xa (a:=a.1) (b:=d);obtain⟨na,Z⟩:=xE (gd (a.1-d));rw[<-Z] at U;by_cases O:a.1<=d<;>simp[-getElem?_pos,-AV.afi,-AV.known,-AV.cells,-cO,-List.all_eq_true,vS,mS,aa,agd,f17,eV,Evc.cells,vA,kC,kT,fg,y9.or,fD,ag,lC,aB,ba,ga,u,F,D,-aG,an S,bD,bt,bB,B,a1,R,<-Z,U,O,Nat.testBit]
 | [a,b],_,V=>
  obtain⟨a1,R⟩:=(V a (by simp)).1;have U:=xa (a:=a.1) (b:=d);obtain⟨na,Z⟩:=xE (gd (a.1-d));rw[<-Z] at U;obtain⟨o,m⟩:=(V b (by simp)).1;have N:=xa (a:=b.1) (b:=d);obtain⟨nb,X⟩:=xE (gd (b.1-d));rw[<-X] at N;by_cases O:a.1<=d<;>by_cases j:b.1<=d<;>simp[-getElem?_pos,-AV.afi,-AV.known,-AV.cells,-cO,-List.all_eq_true,vS,mS,aa,agd,f17,eV,Evc.cells,vA,kC,kT,fg,y9.or,fD,ag,lC,aB,ba,ga,u,u2,F,D,-aG,an S,bD,bt,bB,B,a1,R,<-Z,U,o,m,<-X,N,O,j,Nat.testBit]
 | [a,b,c],_,V=>
  obtain⟨a1,R⟩:=(V a (by simp)).1;have U:=xa (a:=a.1) (b:=d);obtain⟨na,Z⟩:=xE (gd (a.1-d));rw[<-Z] at U;obtain⟨o,m⟩:=(V b (by simp)).1;have N:=xa (a:=b.1) (b:=d);obtain⟨nb,X⟩:=xE (gd (b.1-d));rw[<-X] at N;obtain⟨c1,c2⟩:=(V c (by simp)).1;have lc:=xa (a:=c.1) (b:=d);obtain⟨nc,L⟩:=xE (gd (c.1-d));rw[<-L] at lc;by_cases O:a.1<=d<;>by_cases j:b.1<=d<;>by_cases tc:c.1<=d<;>simp[-getElem?_pos,-AV.afi,-AV.known,-AV.cells,-cO,-List.all_eq_true,vS,mS,aa,agd,f17,eV,Evc.cells,vA,kC,kT,fg,y9.or,fD,ag,lC,aB,ba,ga,u,u2,u3,F,D,-aG,an S,bD,bt,bB,B,a1,R,<-Z,U,o,m,<-X,N,c1,c2,<-L,lc,O,j,tc,Nat.testBit]
noncomputable def dkL(n:V3)(o w:Rat)(p:V3):Int:=if gw n p-o<0 then 0 else if gw n p-o<w then 1 else 2
section
variable {x y:AV}{M:Mem}
section
variable (cx:x.afi=true/\y.afi=true)
include cx
theorem MI(nm un:List UInt8)(n:V3)(o w:Rat)(p:V3)(hd:WS n p)(H:dv (gw n p))(I:dv o)(J:dv (gw n p-o))(W:dv w):
  kO prog 17 [.agg [x,y],.agg ((jW nm n o w un).cells .qF .qF .qF .qF),vA p] M (.int .i64 (dkL n o w p)) M:=by
 obtain⟨u,m⟩:=cx;have S:=fun M=>vH n p o hd H I M
 unfold dkL;have Z:=fun M=>tY (gw n p-o) M
 have X:=fun M=>nj (gw n p-o) w J W M
 obtain⟨q,N⟩:=xE (α:=Rat) (gw n p-o);rw[<-N] at S Z X |-;have t1:=PC (a:=q) (b:=0);have L:q-0=q:=by grind
 rw[L] at t1;have t2:=PC (a:=q) (b:=w);obtain⟨g,G⟩:=xE (gd q);rw[<-G] at Z t1;obtain⟨k,F⟩:=xE (gd (q-w));rw[<-F] at X t2;have R:qS prog (ag (fD [(16,[.agg [.str (ao n.1),.str (ao n.2.1),.str (ao n.2.2),.str (ao o)],vA p],.str (ao q)),(15,[.str (ao q)],.int .i64 g),(56,[.str (ao q),.str (ao w)],.int .i64 k)])):=ic fun e O M=>by
  simp only[lM] at O;rcases O with rfl | rfl | rfl
  .exact S M
  .exact Z M
  .exact X M
 clear S Z X;refine gQ (K:=1) (lv:=fun _=>[]) R ?_;clear R;have D:∀s,(AV.str s).afi=true:=fun _=>rfl
 have C:∀k n,(AV.int k n).afi=true:=fun _ _=>rfl
 have B:AV.qF.afi=true:=rfl;by_cases V:q<0
 .have t1:=t1.2 V
  rw[if_pos V];simp[-AV.afi,aa,agd,f17,ag,fD,jW,Evc.cells,vA,t1]
 .have t1:¬g<0:=fun h=>V (t1.1 h)
  rw[if_neg V];by_cases U:q<w
  .have t2:=t2.2 U
   rw[if_pos U];simp[-AV.afi,aa,agd,f17,ag,fD,jW,Evc.cells,vA,t1,t2]
  .have t2:¬k<0:=fun h=>U (t2.1 h)
   rw[if_neg U];simp[-AV.afi,aa,agd,f17,ag,fD,jW,Evc.cells,vA,t1,t2]
theorem MJ(nm:List UInt8)(t:I4)(c p:V3):
  kO prog 17 [.agg [x,y],.agg ((mJ nm t c).cells .qF .qF .qF .qF),vA p] M (.int .i64 0) M:=by
 obtain⟨U,S⟩:=cx;refine gQ (K:=1) (lv:=fun _=>[]) (az _) ?_;have Z:∀s,(AV.str s).afi=true:=fun _=>rfl
 have X:∀k n,(AV.int k n).afi=true:=fun _ _=>rfl
 have V:AV.qF.afi=true:=rfl;simp[-AV.afi,aa,agd,f17,mJ,Evc.cells,vA]
end
end
theorem MH{M:Mem}{pb tb H a0 a1:Nat}{o:Bool}(J:pb<M.length)(W:tb<M.length)(nm:List UInt8)(n v p:V3)(Q:List (Rat×Rat))(hd:WS n p)(Y:dv (gw n p))(hl:0<Q.length/\Q.length<=3)(hq:∀x∈Q,dv x.1)(I:M[H]? =some (.cells o 2 (kC (kT Q)))):
  kO prog 17 [.agg [.slice pb 0 a0 none,.slice tb 0 a1 none],.agg ((eV nm n Q v).cells .qF .qF .qF (.slice H 0 Q.length none)),vA p] M (.int .i64 (fg Q (gw n p):Int)) M:=by
 have X:=gL I;have:=kO.frame (M:=M) (new:=[]) (args:=[.agg [.slice 0 0 a0 none,.slice 1 0 a1 none],.agg ((eV nm n Q v).cells .qF .qF .qF (.slice 2 0 Q.length none)),vA p]) [pb,tb,H] (m:=[.qK,.qK,.cells false 2 (kC (kT Q))]) rfl (by simp[J,W,X]) (by simp[AV.afp,AV.under,eV,Evc.cells,vA]) (fun j s Z=>by
  match j with
  |0=>simp at Z;subst Z;trivial
  |1=>simp at Z;subst Z;trivial
  |2=>simp at Z;subst Z;exact cw (jI _) I P1
  |j+3=>simp at Z) rfl (by rw[List.append_nil];exact Hx (a0:=a0) (a1:=a1) nm n v p hd rfl Y Q hl fun x V=>⟨hq x V,trivial⟩)
 simpa [AV.afz,AV.ren,fa,eV,Evc.cells,vA] using this
theorem T8:∀k<8,∀p∈ej k,0<=p.1/\p.1<=6/\0<=p.2/\p.2<=6:=by decide
theorem gG(s:afq){a:P2}(h:a∈s.P):pDg 5 a:=by
 unfold afq.P at h;rw[QQh] at h;obtain⟨q,Z,rfl⟩:=h;obtain⟨X,V,U,S⟩:=T8 _ (Nat.mod_lt _ (by decide)) q Z;have R:=RK s.sx;have O:=RK s.sy;have N:((if s.half then 2 else 1)*1:Nat)=1\/((if s.half then 2 else 1)*1:Nat)=2:=by cases s.half<;>simp
 unfold afq.pt;exact⟨pG (by omega) (by omega) (by omega),pG (by omega) (by omega) (by omega)⟩
variable{A B C q:P2}{f g h:Rat}{m n:Nat}
theorem XH(H:pDg n A)(I:pDg n B)(J:pDg n C)(hq:pDg n q)(hf:dg m m f)(hg:dg m m g)(W:dg m m h)(hS:0<cf A B C):dg (32*n+3*m+22) (32*n+3*m+22) (DV (qi A B C q) f g h):=by rw[<-Wp];have Z:=dy (jE hq I J) hf;have X:=dy (jE hq J H) hg;have V:=dy (jE hq H I) W;exact(SN (Vu (Vu Z X) V) (jE H I J) (by grind)).mono (by omega) (by omega)
theorem XU(h0:0<n)(h1:0<m)(h2:n+m<=50)(H:pDg n A)(I:pDg n B)(J:pDg n C)(hq:pDg n q)(hf:dg m m f)(hg:dg m m g)(W:dg m m h)(hS:0<cf A B C):OnG A B C q f g h:=by
 have w1:=jE hq I J;have w2:=jE hq J H;have w3:=jE hq H I;have Z:=dy w1 hf;have X:=dy w2 hg;have V:=dy w3 W;have t1:=Vu Z X;have t2:=Vu t1 V;have F:∀{k:Nat}{z:Rat},dg k k z->0<k->k<=2000->dv z:=fun h a b=>ee h a b
 exact⟨BU hq I J h0 (by omega),BU hq J H h0 (by omega),BU hq H I h0 (by omega),BU H I J h0 (by omega),hS,⟨F hf h1 (by omega),F hg h1 (by omega),F W h1 (by omega)⟩,⟨F w1 (by omega) (by omega),F w2 (by omega) (by omega),F w3 (by omega) (by omega)⟩,⟨F Z (by omega) (by omega),F X (by omega) (by omega),F V (by omega) (by omega)⟩,⟨F t1 (by omega) (by omega),F t2 (by omega) (by omega)⟩,F (jE H I J) (by omega) (by omega)⟩
variable{L:List Rat}
section
variable (s:afq)(hL:L.length=s.P.length)
include s hL
theorem Mf{i:Nat}{t:Tr}(H:s.T[i]? =some t):∃A B C f g h,(s.P[t.1]? =some A/\s.P[t.2.1]? =some B/\s.P[t.2.2]? =some C)/\(L[t.1]? =some f/\L[t.2.1]? =some g/\L[t.2.2]? =some h)/\0<cf A B C/\(pDg 5 A/\pDg 5 B/\pDg 5 C)/\(f∈L/\g∈L/\h∈L):=by
 obtain⟨A,B,C,Z,X,h3,R⟩:=CW s H;have g:∀{k:Nat}{A:P2},s.P[k]? =some A->∃f,L[k]? =some f:=fun h=>⟨_,GT (by have:=gL h;omega)⟩
 obtain⟨f,V⟩:=g Z;obtain⟨k,U⟩:=g X;obtain⟨h,S⟩:=g h3;exact⟨A,B,C,f,k,h,⟨Z,X,h3⟩,⟨V,U,S⟩,R,⟨gG s (J1 Z),gG s (J1 X),gG s (J1 h3)⟩,J1 V,J1 U,J1 S⟩
section
variable (hb:∀z∈L,dg 4 4 z)(hq:pDg 5 q)
include hb hq
theorem Sv:AtG s.P s.T L q where
 tri:=fun i t hi=>by obtain⟨A,B,C,f,g,h,⟨U,S,h3⟩,⟨R,O,N⟩,hS,⟨Z,X,V⟩,b1,b2,M⟩:=Mf s hL hi;exact⟨A,B,C,f,g,h,U,S,h3,R,O,N,⟨BU Z X hq (by omega) (by omega),BU X V hq (by omega) (by omega),BU V Z hq (by omega) (by omega)⟩,XU (by omega) (by omega) (by omega) Z X V hq (hb _ b1) (hb _ b2) (hb _ M) hS⟩
 hl:=Mg s
theorem WU{j:Nat}{w:V3}(H:GQ s.P q s.T 0=some (j,w)):dg 194 194 (xd s.T L j w):=by
 obtain⟨i,t,X,Z,o,rfl,_⟩:=sc H;obtain rfl:i=j:=by omega
 obtain⟨A,B,C,f,g,h,⟨V,U,h3⟩,⟨S,R,O⟩,hS,⟨N,M,K⟩,G,F,D⟩:=Mf s hL Z;have e:xf s.P q t=qi A B C q:=by unfold xf;simp[List.getD,V,U,h3]
 have u:s.T.getD i (0,0,0)=t:=by simp[List.getD,Z]
 have:xd s.T L i (xf s.P q t)=DV (qi A B C q) f g h:=by unfold xd;rw[e,u];simp[List.getD,S,R,O]
 rw[this];exact(XH N M K hq (hb _ G) (hb _ F) (hb _ D) hS).mono (by omega) (by omega)
end
end
theorem SI(z:Rat):∀l,RS z l<=l.length
 | []=>L9 0
 |h::l=>by have:=SI z l;rw[RS,List.length_cons];split<;>omega
theorem WR{P:List P2}{T:List Tr}{B:List Rat}{Qs:List (List Rat)}{p:V3}: -2<=SM P T B Qs p/\SM P T B Qs p<=(Qs.length:Int):=by
 unfold SM;split
 .omega
 .split
  .omega
  .rename_i j w _ _
   have:=SI p.2.2 (Qs.map fun Q=>xd T Q j w);rw[QXY] at this;omega
theorem VX{Z:List Int}(h:∀z∈Z,z.natAbs<1000):∀q∈qH Z,dg 4 4 q:=fun q X=>by unfold qH at X;obtain⟨z,V,rfl⟩:=QQh.1 X;exact DS (by have:=h z V;omega) (by omega)
section
variable {x:afg}{s:afq}{M:Mem}{p t:Nat}{o o' :Bool}{ev:List AV}{v:V3}
end
end Go.Proofs
namespace Go.Proofs
open Go.Eng
open Tryz
section
variable {x:afg}{s:afq}{M:Mem}{p t:Nat}{o o' :Bool}{ev:List AV}{v:V3}
theorem sM(x:afg)(n:Nat):∀q∈qH (x.base.l n),dg 4 4 q:=VX fun z Z=>by have:=ka x n z Z;omega
theorem wV(x:afg)(n:Nat):∀q∈qH (upL x.s0 (x.base.l n) n),dg 4 4 q:=VX fun z Z=>by have:=mw x n z Z;omega
theorem Mj(x:afg)(n:Nat):∀q∈qH (upL x.s1 (upL x.s0 (x.base.l n) n) n),dg 4 4 q:=VX fun z X=>by unfold upL at X;obtain⟨k,Z,rfl⟩:=QQh.1 X;have Z:=List.mem_range.1 Z;have V:=mw x n _ (mN (l:=upL x.s0 (x.base.l n) n) (k:=k) (by rw[fE];exact Z));have:=x.s1.ag0 k;unfold upL at V;omega
theorem TW(Z:List Int):(qH Z).length=Z.length:=by simp[qH]
noncomputable def Wh(s:afq)(x:afg)(v:V3):Int:=SM s.P s.T (qH (x.base.l s.P.length)) ((ja x s.P.length (ctN x)).map qH) v
theorem NI(H:vDg 5 v)(I:M[p]? =some (.cells o 2 (pC s.P)))(ht:M[t]? =some (.cells o' 3 (tC s.T)))(hE:af8 M ev (tF x s.P.length (ctN x))):kO prog 17 [Al s p t,.agg ev,vA v] M (.int .i64 (Wh s x v)) M:=by
 obtain⟨Y,p2⟩:=lI s;have hq:pDg 5 (v.1,v.2.1):=⟨H.1,H.2.1⟩;obtain⟨b,u,sv,kn,rfl,h1,h2,h3,h4⟩:=hE;obtain rfl:=h4.af6 rfl;have lB:(x.base.l s.P.length).length=s.P.length:=x.base.afJ _;have N:∀h L,(upL h L s.P.length).length=s.P.length:=fun h L=>fE h L _
 have e1:(tF x s.P.length (ctN x)).B.length=s.P.length:=by show(hS _).length=_;rw[kN,lB]
 rw[e1] at h1;obtain⟨fb,fo,rfl,G⟩:=h1.pos Y;have hB:M[fb]? =some (.cells fo 1 (qC (qH (x.base.l s.P.length)))):=by rw[<-O5];exact G
 have cu:=h2.ck;obtain⟨vs,D,V,K⟩:=h3;have W:∀Z:List Int,Z.length=s.P.length->(qH Z).length=s.P.length:=fun Z h=>by rw[TW,h]
 have U:=W _ lB;have R:=ir x;have F:∀{L:List Rat},L.length=s.P.length->(∀z∈L,dg 4 4 z)->∀j w,GQ s.P (v.1,v.2.1) s.T 0=some (j,w)->dv (xd s.T L j w):=fun hL G j w h=>ee (WU s hL G hq h) (by omega) (by omega)
 have fp:dv v.2.2:=ee H.2.2 (by omega) (by omega);have A:=fun {L:List Rat}(hL:L.length=s.P.length) (G:∀z∈L,dg 4 4 z)=>Sv s hL G hq
 unfold Wh;rw[show Al s p t=.agg [.slice p 0 s.P.length none,.slice t 0 s.T.length none] from rfl];rcases R with R | R | R
 .rw[R] at D K V |-
  obtain rfl:=V.af6 rfl;have:=tX (M:=M) (sfs:=[]) (sb:=0) (o4:=false) (sv:=.qF) (c:=tF x s.P.length 1) (u:=u) (by simp) I ht hB (by omega) (fun e X=>by cases X) (A U (sM x _)) (.inl ⟨rfl,rfl⟩) (fun e X=>by cases X) fp (F U (sM x _)) (fun e X=>by cases X) rfl cu;rw[U] at this;exact this
 .rw[R] at D K V |-
  obtain⟨C,oc,rfl,O⟩:=V.pos (by show 0<1;omega)
  match vs,D with
  | [v1],_=>
   have r1:=K 0 v1 (hS (upL x.s0 (x.base.l s.P.length) s.P.length)) rfl rfl;rw[kN,N] at r1;obtain⟨b1,o1,rfl,m⟩:=r1.pos Y;rw[O5] at m;have S:=W _ (N x.s0 (x.base.l s.P.length));have:=tX (M:=M) (sfs:=[(b1,qH (upL x.s0 (x.base.l s.P.length) s.P.length))]) (sb:=C) (o4:=oc) (sv:=.slice C 0 1 none) (c:=tF x s.P.length 2) (u:=u) (by simp) I ht hB (by omega) (fun e X=>by
    simp only[List.mem_singleton] at X;subst X;rw[S,U]) (A U (sM x _)) (.inr ⟨rfl,by simp,by simp only[List.map_cons,List.map_nil,S];exact O⟩) (fun e X=>by
    simp only[List.mem_singleton] at X;subst X;exact⟨⟨_,m⟩,A S (wV x _)⟩) fp (F U (sM x _)) (fun e X=>by
    simp only[List.mem_singleton] at X;subst X;exact F S (wV x _)) rfl cu
   rw[U] at this;exact this
 .rw[R] at D K V |-
  obtain⟨C,oc,rfl,O⟩:=V.pos (by show 0<2;omega)
  match vs,D with
  | [v1,v2],_=>
   have r1:=K 0 v1 (hS (upL x.s0 (x.base.l s.P.length) s.P.length)) rfl rfl;rw[kN,N] at r1;obtain⟨b1,o1,rfl,m⟩:=r1.pos Y;rw[O5] at m;have r2:=K 1 v2 (hS (upL x.s1 (upL x.s0 (x.base.l s.P.length) s.P.length) s.P.length)) rfl rfl;rw[kN,N] at r2;obtain⟨b2,o2,rfl,g2⟩:=r2.pos Y;rw[O5] at g2;have S:=W _ (N x.s0 (x.base.l s.P.length));have J:=W _ (N x.s1 (upL x.s0 (x.base.l s.P.length) s.P.length));have:=tX (M:=M) (sfs:=[(b1,qH (upL x.s0 (x.base.l s.P.length) s.P.length)),(b2,qH (upL x.s1 (upL x.s0 (x.base.l s.P.length) s.P.length) s.P.length))]) (sb:=C) (o4:=oc) (sv:=.slice C 0 2 none) (c:=tF x s.P.length 3) (u:=u) (by simp) I ht hB (by omega) (fun e X=>by
    simp only[lM] at X;rcases X with rfl | rfl
    .simp only;rw[S,U]
    .simp only;rw[J,U]) (A U (sM x _)) (.inr ⟨rfl,by simp,by simp only[List.map_cons,List.map_nil,S,J];exact O⟩) (fun e X=>by
    simp only[lM] at X;rcases X with rfl | rfl
    .exact⟨⟨_,m⟩,A S (wV x _)⟩
    .exact⟨⟨_,g2⟩,A J (Mj x _)⟩) fp (F U (sM x _)) (fun e X=>by
    simp only[lM] at X;rcases X with rfl | rfl
    .exact F S (wV x _)
    .exact F J (Mj x _)) rfl cu
   rw[U] at this;exact this
end
end Go.Proofs
namespace Go.Eng
theorem kO.pad{P:Program}{f:FuncId}{args:List AV}{m H:Mem}{v:AV}(h:kO P f args m v H)(k:Nat):kO P f args m v (H++List.replicate k .qK):=by
 refine⟨h.1,fun base μ w Vs hG hH hV=>(h.2 base μ w Vs hG hH hV).mono ?_⟩;rintro e w' ⟨V,v',m',μ',rfl,q1,q2,q3,rfl,rfl⟩;have X:m'.length<=(m' ++List.replicate k afl.qK).length:=by rw[SP];omega
 have U:∀(b:Nat) s,(m' ++List.replicate k afl.qK)[b]? =some s->m'[b]? =some s\/s=.qK:=fun b s Z=>by
  by_cases S:b<m'.length
  .rw[GE S] at Z;exact .inl Z
  .rw[V1 (by omega)] at Z
   exact .inr (List.eq_of_mem_replicate (J1 Z))
 have R:∀{b:Nat},eJ (m' ++List.replicate k afl.qK) b->eJ m' b:=fun {b} ⟨s,S,h2⟩=>by
  rcases U b s S with h | rfl
  .exact⟨s,h,h2⟩
  .cases h2
 refine⟨V,v',_,μ',rfl,q1.mono X (fun _ _=>rfl),⟨q2.afr,fun b s Z=>?_,fun b O N Z L M K=>?_⟩,⟨QQJ q3.len X,q3.agree,q3.os,q3.tape,q3.output,q3.size,q3.frame,fun b Z=>q3.owner b (R Z),q3.drawn⟩,rfl,rfl⟩
 .rcases U b s Z with h | rfl
  .exact(q2.slot b s h).mono X (fun _ _=>rfl) (fun _=>rfl)
  .trivial
 .rcases U O N L with h | rfl
  .exact q2.sep b O N (R Z) h M K
  .exact absurd rfl M
end Go.Eng
namespace Go.Proofs
open Go.Eng
def lwM(s:afq)(C:List AV)(H d1 I d2 J d3:Int):Mem:=[.cells true 0 [.int .u8 s.kind,.int .i8 s.sx,.int .i8 s.sy,.bool s.half],.cells true 0 C,.cells true 0 [.int .i16 H,.int .u8 d1,.int .i16 I,.int .u8 d2,.int .i16 J,.int .u8 d3],.cells true 2 (pC s.P),.cells true 3 (tC s.T),.cells true 0 [.slice 3 0 s.P.length none,.slice 4 0 s.T.length none]]
def XA(X:Nat->afl):Prop:=∀i,mh (X i)=true/\∀k,(X i).adM (fun b=>decide (b<11+k))=true
def Ai(X:Nat->afl):Mem:=[X 0,X 1,X 2,X 3,X 4]
theorem W4{x:afg}{n:Nat}:∃X k,XA X/\Om 6 x n++List.replicate k .qK=Ai X:=by
 have h3:=ir x;have Z:mh afl.qK=true/\∀k:Nat,afl.adM (fun b=>decide (b<11+k)) .qK=true:=⟨rfl,fun _=>rfl⟩
 have row:∀{es:Nat}{C:List AV},AV.afm C=true->mh (.cells true es C)=true/\∀k:Nat,afl.adM (fun b=>decide (b<11+k)) (.cells true es C)=true:=fun h=>⟨rfl,fun k=>ib h _⟩
 have S:∀L:List Int,AV.afm (qC (qH L))=true:=fun L=>by rw[Wu];exact ea _
 have R:∀{b n:Nat},b<11->∀k:Nat,AV.adM (fun b=>decide (b<11+k)) (.slice b 0 n none)=true:=fun h k=>by simp only[AV.adM,Es];omega
 have U:∀a b c d e:afl,(mh a=true/\∀k:Nat,a.adM (fun b=>decide (b<11+k))=true)->(mh b=true/\∀k:Nat,b.adM (fun b=>decide (b<11+k))=true)->(mh c=true/\∀k:Nat,c.adM (fun b=>decide (b<11+k))=true)->(mh d=true/\∀k:Nat,d.adM (fun b=>decide (b<11+k))=true)->(mh e=true/\∀k:Nat,e.adM (fun b=>decide (b<11+k))=true)->
   ∃X,XA X/\[a,b,c,d,e]=Ai X:=fun a b c d e N M K G F=>⟨fun i=>[a,b,c,d].getD i e,fun i=>by
  match i with
  |0=>exact N
  |1=>exact M
  |2=>exact K
  |3=>exact G
  |i+4=>exact F,rfl⟩
 have V:∀{O:Mem}(k:Nat) {a b c d e:afl},O++List.replicate k .qK=[a,b,c,d,e]->(∃X,XA X/\[a,b,c,d,e]=Ai X)->∃X k,XA X/\O++List.replicate k .qK=Ai X:=fun k _ _ _ _ _ e ⟨X,h1,h2⟩=>⟨X,k,h1,e.trans h2⟩
 unfold Om;rcases pI x.kind with h | h | h | h | h
 .simp only[h,if_true]
  rcases h3 with h3 | h3 | h3
  .rw[h3]
   exact V 3 rfl (U _ _ _ _ _ (row (S _)) (row (ea _)) Z Z Z)
  .rw[h3]
   exact V 1 rfl (U _ _ _ _ _ (row (S _)) (row (ea _)) ⟨rfl,fun k=>by simp only[afl.adM,AV.afn,R (b:=9) (by omega) k,Bool.and_true]⟩ (row (S _)) Z)
  .rw[h3]
   exact V 0 rfl (U _ _ _ _ _ (row (S _)) (row (ea _)) ⟨rfl,fun k=>by simp only[afl.adM,AV.afn,R (b:=9) (by omega) k,R (b:=10) (by omega) k,Bool.and_true]⟩ (row (S _)) (row (S _)))
 .simp only[h,Nat.one_ne_zero,if_false,show¬(1:Nat)=2 by decide]
  exact V 5 rfl (U _ _ _ _ _ Z Z Z Z Z)
 .simp only[h,show¬(2:Nat)=0 by decide,if_false,if_true]
  exact V 4 rfl (U _ _ _ _ _ (row (jI _)) Z Z Z Z)
 .simp only[h,show¬(3:Nat)=0 by decide,if_false,show¬(3:Nat)=2 by decide]
  exact V 5 rfl (U _ _ _ _ _ Z Z Z Z Z)
 .simp only[h,show¬(4:Nat)=0 by decide,if_false,show¬(4:Nat)=2 by decide]
  exact V 5 rfl (U _ _ _ _ _ Z Z Z Z Z)
end Go.Proofs
