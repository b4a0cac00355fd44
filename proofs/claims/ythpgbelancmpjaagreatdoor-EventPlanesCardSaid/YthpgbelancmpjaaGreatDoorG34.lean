/- See G38. -/
import Derived.Test.YthpgbelancmpjaaGreatDoorG32
set_option linter.all false
set_option maxRecDepth 100000
set_option maxHeartbeats 40000000
namespace Go.Proofs
open Go.Eng
open Tryz
def sM(M:Mem)(mv:AV)(P:List P2)(T:List Tr)(q:P2)(c:Go.Eng.Callee)(a:List AV)(N:Mem)(r:afl):Prop:=
 (∃x Q,c=.fn 55/\a=[mv,x,pA q]/\(∃Z,N=M++Z)/\afw M x 1 Q.length (qC Q)/\(∀Z,kO prog 55 [mv,x,pA q] (M++Z) (atV P T Q q) (M++Z))/\r=⟨atV P T Q q,none,[]⟩)\/
 (∃x y,c=.fn 56/\a=[.str (aq x),.str (aq y)]/\dw x/\dw y/\r=⟨.int .i64 (ga (x-y)),none,[]⟩)
variable{N:Mem}
theorem afw.inj{v:AV}{es n n' :Nat}{C H :List AV}(h:afw N v es n C)(h' :afw N v es n' H):n=n' /\C=H :=by
 rcases h with⟨rfl,rfl,rfl⟩ | ⟨b,o,rfl,S,X⟩
 .rcases h' with⟨_,rfl,rfl⟩ | ⟨V,U,h,_⟩
  .exact⟨rfl,rfl⟩
  .cases h
 .rcases h' with⟨h,_⟩ | ⟨V,U,h,_,Z⟩
  .cases h
  .cases h
   rw[X] at Z;cases Z;exact⟨rfl,rfl⟩
theorem WB{Q R:List Rat}(h:qC Q=qC R):Q=R:=by unfold qC at h;exact List.map_inj_right (f:=fun q=>AV.str (aq q)) (fun x y e=>dy (by simpa using e)) |>.1 h
variable{a b:Rat}
section
variable {M:Mem}{mv:AV}{P:List P2}{T:List Tr}{q:P2}
theorem yT{c:Go.Eng.Callee}{a:List AV}{r r' :afl}(h:sM M mv P T q c a N r)(h' :sM M mv P T q c a N r'):r' =r:=by
 rcases h with⟨x,Q,rfl,rfl,_,V,_,rfl⟩ | ⟨x,y,rfl,rfl,_,_,rfl⟩
 .rcases h' with⟨Z,U,_,e,_,X,_,rfl⟩ | ⟨Z,S,e,_⟩
  .have R:x=Z :=by simpa using e
   subst R;rw[WB (V.inj X).2]
  .cases e
 .rcases h' with⟨Z,U,e,_⟩ | ⟨Z,S,_,e,_,_,rfl⟩
  .cases e
  .simp only[List.cons.injEq,AV.str.injEq,and_true] at e
   rw[dy e.1,dy e.2]
theorem NL:qS prog (jV (sM M mv P T q)):=mX fun c a N r h=>by
 rcases h with⟨x,Q,rfl,rfl,⟨Z,rfl⟩,V,X,rfl⟩ | ⟨x,y,rfl,rfl,V,X,rfl⟩
 .exact bz (X Z)
 .exact bz (nd x y V X N)
theorem Uw:ga (a-b)<0↔a<b:=by rw[<-Rat.not_le,<-OM];omega
theorem YD{q:Rat}:ga q<=0↔q<=0:=by
 have h:ga q<=0↔q.num<=0:=by
  unfold ga jz;split
  .omega
  .split<;>omega
 have Z:0<=(-q).num↔0<= -q:=Rat.num_nonneg;rw[Rat.neg_num] at Z;rw[h];constructor
 .intro h3
  have:=Z.1 (by omega)
  grind
 .intro h3
  have:=Z.2 (by grind);omega
theorem xn:ga (a-b)<=0↔a<=b:=by rw[YD];constructor<;>intro h<;>grind
noncomputable def XV(P:List P2)(T:List Tr)(B:List Rat)(H:List (List Rat))(p:V3):Int:=
 match MH P (p.1,p.2.1) T 0 with
 |none=> -2
 |some (j,w)=>if p.2.2<ym T B j w then -1 else (UC p.2.2 (H.map fun Q=>ym T Q j w):Int)
theorem yS:(aJ f17).map (fun o=>dT o.toList)=[[0,0,2,6,0,30,62,0,128,0,512,1920,4095,8191,16383,16383,32767,131071],[0,1,3,0,15,31,63,0,128,384,0,1920,4095,8191]]:=by kernel_rfl
variable {B:List Rat}{sfs:List (Nat×List Rat)}{pb tb fb sb:Nat}{o1 o2 o3 o4:Bool}{u sv:AV}{p:V3}{c:Evc}
theorem agj:aZ prog 17=some f17:=by kernel_rfl
theorem ua(h2:sfs.length<=2)(m1:M[pb]? =some (.cells o1 2 (pC P)))(m2:M[tb]? =some (.cells o2 3 (tC T)))(m3:M[fb]? =some (.cells o3 1 (qC B)))(h0:0<B.length)(hl:∀e∈sfs,e.2.length=B.length)(hB:AtG P T B (p.1,p.2.1))(I:(sv=.qF/\sfs=[])\/(sv=.slice sb 0 sfs.length none/\0<sfs.length/\M[sb]? =some (.cells o4 1 (sfs.map fun e=>.slice e.1 0 e.2.length none))))(hS:∀e∈sfs,(∃o,M[e.1]? =some (.cells o 1 (qC e.2)))/\AtG P T e.2 (p.1,p.2.1))(fp:dw p.2.2)(fB:∀j w,MH P (p.1,p.2.1) T 0=some (j,w)->dw (ym T B j w))(fS:∀e∈sfs,∀j w,MH P (p.1,p.2.1) T 0=some (j,w)->dw (ym T e.2 j w))(hk:c.k=1)(cu:u.afp=true):
  kO prog 17 [.agg [.slice pb 0 P.length none,.slice tb 0 T.length none],.agg (c.cells (.slice fb 0 B.length none) u sv .qF),vA p] M (.int .i64 (XV P T B (sfs.map (·.2)) p)) M:=by
 have lm1:=gL m1;have lm2:=gL m2;have lm3:=gL m3;have y1:∀k,pb<M.length+k:=fun k=>by omega
 have y2:∀k,tb<M.length+k:=fun k=>by omega
 have y3:∀k,fb<M.length+k:=fun k=>by omega
 have more:∀{b:Nat}{x:afq},M[b]? =some x->∀Z,(M++Z)[b]? =some x:=fun h Z=>by rw[GT (gL h)];exact h
 have hO:=NL (M:=M) (mv:=.agg [.slice pb 0 P.length none,.slice tb 0 T.length none]) (P:=P) (T:=T) (q:=(p.1,p.2.1));obtain⟨O,R⟩:=xE (jV (sM M (.agg [.slice pb 0 P.length none,.slice tb 0 T.length none]) P T (p.1,p.2.1)));have eA:∀(b:Nat) (Q:List Rat),0<Q.length->(∃o,M[b]? =some (.cells o 1 (qC Q)))->AtG P T Q (p.1,p.2.1)->∀Z,O (.fn 55) [.agg [.slice pb 0 P.length none,.slice tb 0 T.length none],.slice b 0 Q.length none,.agg [.str (aq p.1),.str (aq p.2.1)]] (M++Z)=some ⟨atV P T Q (p.1,p.2.1),none,[]⟩:=fun b Q h0 ⟨o,hb⟩ H Z=>by have y:sM M (.agg [.slice pb 0 P.length none,.slice tb 0 T.length none]) P T (p.1,p.2.1) (.fn 55) [.agg [.slice pb 0 P.length none,.slice tb 0 T.length none],.slice b 0 Q.length none,pA (p.1,p.2.1)] (M++Z) ⟨atV P T Q (p.1,p.2.1),none,[]⟩:=.inl ⟨_,Q,rfl,rfl,⟨Z,rfl⟩,.inr ⟨b,o,rfl,h0,hb⟩,fun Z=>P9 H (more m1 Z) (more m2 Z) (more hb Z),rfl⟩;rw[R];exact dL y fun r' G =>yT y G
 have eK:∀x y:Rat,dw x->dw y->∀N,O (.fn 56) [.str (aq x),.str (aq y)] N=some ⟨.int .i64 (ga (x-y)),none,[]⟩:=fun x y hx hy N=>by have z:sM M (.agg [.slice pb 0 P.length none,.slice tb 0 T.length none]) P T (p.1,p.2.1) (.fn 56) [.str (aq x),.str (aq y)] N ⟨.int .i64 (ga (x-y)),none,[]⟩:=.inr ⟨x,y,rfl,rfl,hx,hy,rfl⟩;rw[R];exact dL z fun r' G =>yT z G
 rw[<-R] at hO;clear R;have L:=eA fb B h0 ⟨o3,m3⟩ hB;have hcs:∀s,(AV.str s).afp=true:=fun _=>rfl
 have hci:∀k n,(AV.int k n).afp=true:=fun _ _=>rfl
 obtain⟨os,F'⟩:∃os,aJ f17=os:=⟨_,rfl⟩
 have X':=cG F' yS;have k0:fu [0,0,2,6,0,30,62,0,128,0,512,1920,4095,8191,16383,16383,32767,131071] 17=true:=by decide
 simp only[aJ,cB,f17,lA] at F';subst F';simp only[lB] at X';obtain⟨UV,-⟩:=X';have u0:IntKind.i64.wrap 0=0:=rfl;have u1:IntKind.i64.wrap 1=1:=rfl;have u2:IntKind.i64.wrap 2=2:=rfl;refine j9 (K:=4) (lv:=fun c=>if (aa c).contains 10 then [9,10] else [13,14]) hO ?_;unfold XV atV at*;obtain⟨x,y,z⟩:=p;simp only at*;cases hloc:MH P (x,y) T 0 with
 |none=>
  simp only[hloc] at L |-;rcases I with⟨rfl,rfl⟩ | ⟨rfl,-,X⟩<;>
   simp[-getElem?_pos,-AV.afp,-AV.known,-AV.cells,-cN,-List.all_eq_true,vS,mS,-bP,-bw,-AV.afm,-afq.afm,ae,agj,f17,Evc.cells,vA,hk,L,cj,aH]
 |some r=>
  obtain⟨j,w⟩:=r;have fB:=fB j w hloc;have fS:=fun e he=>fS e he j w hloc
  simp only[hloc] at L |-;have e0:=eK _ _ fp fB;have S:=Uw (a:=z) (b:=ym T B j w);obtain⟨z0,hz0⟩:=xE (ym T B j w);rw[<-hz0] at L e0 S |-;obtain⟨g0,hg0⟩:=xE (ga (z-z0));rw[<-hg0] at e0 S;by_cases FS:z<z0
  .have S:=S.2 FS
   rw[if_pos FS];rcases I with⟨rfl,rfl⟩ | ⟨rfl,-,X⟩<;>
    simp[-getElem?_pos,-AV.afp,-AV.known,-AV.cells,-cN,-List.all_eq_true,vS,mS,-bP,-bw,-AV.afm,-afq.afm,ae,agj,f17,Evc.cells,vA,hk,L,e0,S,cj,aH]
  .have S:¬g0<0:=fun h=>FS (S.1 h)
   rw[if_neg FS];clear fB
   match sfs,h2 with
   | [],_=>
    have I:sv=.qF:=by
     rcases I with⟨h,_⟩ | ⟨_,h,_⟩
     .exact h
     .exact absurd h (by simp)
    subst I;simp[-getElem?_pos,-AV.afp,-AV.known,-AV.cells,-cN,-List.all_eq_true,vS,mS,-bP,-bw,-AV.afm,-afq.afm,ae,agj,f17,Evc.cells,vA,hk,L,e0,cj,aH,aM,fj,S,UC,-aR]
   | [(b1,Q1)],_=>
    have I:sv=.slice sb 0 1 none/\M[sb]? =some (.cells o4 1 [.slice b1 0 Q1.length none]):=by
     rcases I with⟨_,h⟩ | ⟨h,_,G⟩
     .cases h
     .exact⟨h,G⟩
    obtain⟨rfl,X⟩:=I;have lsb:=gL X;have F:∀k,sb<M.length+k:=fun k=>by omega
    have X:=more X;obtain⟨V,H1⟩:=hS (b1,Q1) (by simp);have C:=eA b1 Q1 (by rw[hl (b1,Q1) (by simp)];exact h0) V H1;simp only[hloc] at C;have f1:=fS (b1,Q1) (by simp);simp only at f1;have m:=eK _ _ f1 fp;have Y:=xn (a:=ym T Q1 j w) (b:=z);obtain⟨o,V⟩:=V;have g1:=gL V;clear V H1;simp only at g1;have J:∀k,b1<M.length+k:=fun k=>by omega
    simp only[List.map_cons,List.map_nil];obtain⟨z1,hz1⟩:=xE (ym T Q1 j w);rw[<-hz1] at C m Y |-;obtain⟨n1,hn1⟩:=xE (ga (z1-z));rw[<-hn1] at m Y;by_cases a1:z1<=z<;>simp[-getElem?_pos,-AV.afp,-AV.known,-AV.cells,-cN,-List.all_eq_true,vS,rS,mS,-bP,-bw,-AV.afm,-afq.afm,ae,agj,f17,Evc.cells,vA,hk,L,e0,cj,aH,aM,fj,u1,y1,y2,C,m,J,F,X,S,UC,Y,a1,-aR,aC UV,bV,bK,bQ,k0,Nat.testBit]
   | [(b1,Q1),(b2,Q2)],_=>
    have I:sv=.slice sb 0 2 none/\M[sb]? =some (.cells o4 1 [.slice b1 0 Q1.length none,.slice b2 0 Q2.length none]):=by
     rcases I with⟨_,h⟩ | ⟨h,_,G⟩
     .cases h
     .exact⟨h,G⟩
    obtain⟨rfl,X⟩:=I;have lsb:=gL X;have F:∀k,sb<M.length+k:=fun k=>by omega
    have X:=more X;obtain⟨V,H1⟩:=hS (b1,Q1) (by simp);have C:=eA b1 Q1 (by rw[hl (b1,Q1) (by simp)];exact h0) V H1;simp only[hloc] at C;have f1:=fS (b1,Q1) (by simp);simp only at f1;have m:=eK _ _ f1 fp;have Y:=xn (a:=ym T Q1 j w) (b:=z);obtain⟨o,V⟩:=V;have g1:=gL V;clear V H1;simp only at g1;have J:∀k,b1<M.length+k:=fun k=>by omega
    simp only[List.map_cons,List.map_nil];obtain⟨z1,hz1⟩:=xE (ym T Q1 j w);rw[<-hz1] at C m Y |-;obtain⟨n1,hn1⟩:=xE (ga (z1-z));rw[<-hn1] at m Y;obtain⟨U,H2⟩:=hS (b2,Q2) (by simp);have e2:=eA b2 Q2 (by rw[hl (b2,Q2) (by simp)];exact h0) U H2;simp only[hloc] at e2;have f2:=fS (b2,Q2) (by simp);simp only at f2;have c2:=eK _ _ f2 fp;have l2:=xn (a:=ym T Q2 j w) (b:=z);obtain⟨o,U⟩:=U;have g2:=gL U;clear U H2;simp only at g2;have yg2:∀k,b2<M.length+k:=fun k=>by omega
    obtain⟨z2,hz2⟩:=xE (ym T Q2 j w);rw[<-hz2] at e2 c2 l2 |-;obtain⟨n2,hn2⟩:=xE (ga (z2-z));rw[<-hn2] at c2 l2;by_cases a1:z1<=z<;>by_cases a2:z2<=z<;>simp[-getElem?_pos,-AV.afp,-AV.known,-AV.cells,-cN,-List.all_eq_true,vS,rS,mS,-bP,-bw,-AV.afm,-afq.afm,ae,agj,f17,Evc.cells,vA,hk,L,e0,cj,aH,aM,fj,u1,u2,y1,y2,C,m,J,F,e2,c2,yg2,X,S,UC,Y,a1,l2,a2,-aR,aC UV,bV,bK,bQ,k0,Nat.testBit]
end
end Go.Proofs
namespace Go.Proofs
open Go.Eng
open Tryz
theorem HJ{a0 a1:Nat}(nm:List UInt8)(n v p:V3){d:Rat}(hd:W1 n p)(H:d=iK n p)(fd:dw d):∀(Q:List (Rat×Rat)),(0<Q.length/\Q.length<=3)->(∀x∈Q,dw x.1/\True)->
  kO prog 17 [.agg [.slice 0 0 a0 none,.slice 1 0 a1 none],.agg ((eL nm n Q v).cells .qF .qF .qF (.slice 2 0 Q.length none)),vA p] [.qK,.qK,.cells false 2 (kC (kT Q))] (.int .i64 (mh Q d:Int)) [.qK,.qK,.cells false 2 (kC (kT Q))]:=by
 intro Q hl V;have G:=fun M=>Bf n p hd M
 rw[<-H] at G;have J:qS prog (y9.or (ah (eR [(54,[vA n,vA p],.str (aq d))])) (ah lz)):=qS.or (gi fun e I M=>by rw[List.mem_singleton] at I;rw[I];exact G M) KN
 clear G hd H;obtain⟨F,C⟩:=fd;obtain⟨os,B⟩:∃os,aJ f17=os:=⟨_,rfl⟩
 have X':=cG B yS;have u:fu [0,1,3,0,15,31,63,0,128,384,0,1920,4095,8191] 13=true:=by decide
 simp only[aJ,cB,f17,lA] at B;subst B;simp only[lB] at X';obtain⟨-,S⟩:=X';have u0:IntKind.i64.wrap 0=0:=rfl;have o:IntKind.i64.wrap 1=1:=rfl;have u2:IntKind.i64.wrap 2=2:=rfl;have u3:IntKind.i64.wrap 3=3:=rfl;have hcs:∀s,(AV.str s).afp=true:=fun _=>rfl
 have hci:∀k n,(AV.int k n).afp=true:=fun _ _=>rfl
 have hcn:AV.qF.afp=true:=rfl;refine j9 (K:=5) (lv:=fun c=>if (aa c).contains 10 then [9,10] else [13,14]) J ?_;clear J
 match Q,hl,V with
 | [a],_,V=>
  obtain⟨a1,R⟩:=(V a (by simp)).1;have U:=xn (a:=a.1) (b:=d);obtain⟨na,Z⟩:=xE (ga (a.1-d));rw[<-Z] at U;by_cases O:a.1<=d<;>simp[-getElem?_pos,-AV.afp,-AV.known,-AV.cells,-cN,-List.all_eq_true,vS,mS,ae,agj,f17,eL,Evc.cells,vA,kC,kT,mh,y9.or,eR,ah,lz,aF,aM,fj,o,F,C,-aR,aC S,bV,bK,bQ,u,a1,R,<-Z,U,O,Nat.testBit]
 | [a,b],_,V=>
  obtain⟨a1,R⟩:=(V a (by simp)).1;have U:=xn (a:=a.1) (b:=d);obtain⟨na,Z⟩:=xE (ga (a.1-d));rw[<-Z] at U;obtain⟨m,j⟩:=(V b (by simp)).1;have N:=xn (a:=b.1) (b:=d);obtain⟨nb,X⟩:=xE (ga (b.1-d));rw[<-X] at N;by_cases O:a.1<=d<;>by_cases Y:b.1<=d<;>simp[-getElem?_pos,-AV.afp,-AV.known,-AV.cells,-cN,-List.all_eq_true,vS,mS,ae,agj,f17,eL,Evc.cells,vA,kC,kT,mh,y9.or,eR,ah,lz,aF,aM,fj,o,u2,F,C,-aR,aC S,bV,bK,bQ,u,a1,R,<-Z,U,m,j,<-X,N,O,Y,Nat.testBit]
 | [a,b,c],_,V=>
  obtain⟨a1,R⟩:=(V a (by simp)).1;have U:=xn (a:=a.1) (b:=d);obtain⟨na,Z⟩:=xE (ga (a.1-d));rw[<-Z] at U;obtain⟨m,j⟩:=(V b (by simp)).1;have N:=xn (a:=b.1) (b:=d);obtain⟨nb,X⟩:=xE (ga (b.1-d));rw[<-X] at N;obtain⟨c1,c2⟩:=(V c (by simp)).1;have lc:=xn (a:=c.1) (b:=d);obtain⟨nc,L⟩:=xE (ga (c.1-d));rw[<-L] at lc;by_cases O:a.1<=d<;>by_cases Y:b.1<=d<;>by_cases tc:c.1<=d<;>simp[-getElem?_pos,-AV.afp,-AV.known,-AV.cells,-cN,-List.all_eq_true,vS,mS,ae,agj,f17,eL,Evc.cells,vA,kC,kT,mh,y9.or,eR,ah,lz,aF,aM,fj,o,u2,u3,F,C,-aR,aC S,bV,bK,bQ,u,a1,R,<-Z,U,m,j,<-X,N,c1,c2,<-L,lc,O,Y,tc,Nat.testBit]
noncomputable def dkL(n:V3)(o w:Rat)(p:V3):Int:=if iK n p-o<0 then 0 else if iK n p-o<w then 1 else 2
section
variable {x y:AV}{M:Mem}
section
variable (cx:x.afp=true/\y.afp=true)
include cx
theorem MO(nm un:List UInt8)(n:V3)(o w:Rat)(p:V3)(hd:W1 n p)(H:dw (iK n p))(I:dw o)(J:dw (iK n p-o))(Y:dw w):
  kO prog 17 [.agg [x,y],.agg ((kL nm n o w un).cells .qF .qF .qF .qF),vA p] M (.int .i64 (dkL n o w p)) M:=by
 obtain⟨m,j⟩:=cx;have S:=fun M=>oH n p o hd H I M
 unfold dkL;have Z:=fun M=>uc (iK n p-o) M
 have X:=fun M=>nd (iK n p-o) w J Y M
 obtain⟨q,N⟩:=xE (α:=Rat) (iK n p-o);rw[<-N] at S Z X |-;have t1:=Uw (a:=q) (b:=0);have L:q-0=q:=by grind
 rw[L] at t1;have t2:=Uw (a:=q) (b:=w);obtain⟨g,G⟩:=xE (ga q);rw[<-G] at Z t1;obtain⟨k,F⟩:=xE (ga (q-w));rw[<-F] at X t2;have R:qS prog (ah (eR [(16,[.agg [.str (aq n.1),.str (aq n.2.1),.str (aq n.2.2),.str (aq o)],vA p],.str (aq q)),(15,[.str (aq q)],.int .i64 g),(56,[.str (aq q),.str (aq w)],.int .i64 k)])):=gi fun e O M=>by
  simp only[lM] at O;rcases O with rfl | rfl | rfl
  .exact S M
  .exact Z M
  .exact X M
 clear S Z X;refine j9 (K:=1) (lv:=fun _=>[]) R ?_;clear R;have C:∀s,(AV.str s).afp=true:=fun _=>rfl
 have B:∀k n,(AV.int k n).afp=true:=fun _ _=>rfl
 have u:AV.qF.afp=true:=rfl;by_cases V:q<0
 .have t1:=t1.2 V
  rw[if_pos V];simp[-AV.afp,ae,agj,f17,ah,eR,kL,Evc.cells,vA,t1]
 .have t1:¬g<0:=fun h=>V (t1.1 h)
  rw[if_neg V];by_cases U:q<w
  .have t2:=t2.2 U
   rw[if_pos U];simp[-AV.afp,ae,agj,f17,ah,eR,kL,Evc.cells,vA,t1,t2]
  .have t2:¬k<0:=fun h=>U (t2.1 h)
   rw[if_neg U];simp[-AV.afp,ae,agj,f17,ah,eR,kL,Evc.cells,vA,t1,t2]
theorem MP(nm:List UInt8)(t:I4)(c p:V3):
  kO prog 17 [.agg [x,y],.agg ((rN nm t c).cells .qF .qF .qF .qF),vA p] M (.int .i64 0) M:=by
 obtain⟨U,S⟩:=cx;refine j9 (K:=1) (lv:=fun _=>[]) (az _) ?_;have Z:∀s,(AV.str s).afp=true:=fun _=>rfl
 have X:∀k n,(AV.int k n).afp=true:=fun _ _=>rfl
 have V:AV.qF.afp=true:=rfl;simp[-AV.afp,ae,agj,f17,rN,Evc.cells,vA]
end
end
theorem MN{M:Mem}{pb tb H a0 a1:Nat}{o:Bool}(J:pb<M.length)(Y:tb<M.length)(nm:List UInt8)(n v p:V3)(Q:List (Rat×Rat))(hd:W1 n p)(fd:dw (iK n p))(hl:0<Q.length/\Q.length<=3)(hq:∀x∈Q,dw x.1)(I:M[H]? =some (.cells o 2 (kC (kT Q)))):
  kO prog 17 [.agg [.slice pb 0 a0 none,.slice tb 0 a1 none],.agg ((eL nm n Q v).cells .qF .qF .qF (.slice H 0 Q.length none)),vA p] M (.int .i64 (mh Q (iK n p):Int)) M:=by
 have X:=gL I;have:=kO.frame (M:=M) (new:=[]) (args:=[.agg [.slice 0 0 a0 none,.slice 1 0 a1 none],.agg ((eL nm n Q v).cells .qF .qF .qF (.slice 2 0 Q.length none)),vA p]) [pb,tb,H] (m:=[.qK,.qK,.cells false 2 (kC (kT Q))]) rfl (by simp[J,Y,X]) (by simp[AV.afu,AV.under,eL,Evc.cells,vA]) (fun j s Z=>by
  match j with
  |0=>simp at Z;subst Z;trivial
  |1=>simp at Z;subst Z;trivial
  |2=>simp at Z;subst Z;exact cH (kR _) I P1
  |j+3=>simp at Z) rfl (by rw[List.append_nil];exact HJ (a0:=a0) (a1:=a1) nm n v p hd rfl fd Q hl fun x V=>⟨hq x V,trivial⟩)
 simpa [AV.afI,AV.ren,fA,eL,Evc.cells,vA] using this
theorem Uk:∀k<8,∀p∈ef k,0<=p.1/\p.1<=6/\0<=p.2/\p.2<=6:=by decide
theorem gF(s:afv){a:P2}(h:a∈s.P):pDg 5 a:=by
 unfold afv.P at h;rw[QQm] at h;obtain⟨q,Z,rfl⟩:=h;obtain⟨X,V,U,S⟩:=Uk _ (Nat.mod_lt _ (by decide)) q Z;have R:=RU s.sx;have O:=RU s.sy;have N:((if s.half then 2 else 1)*1:Nat)=1\/((if s.half then 2 else 1)*1:Nat)=2:=by cases s.half<;>simp
 unfold afv.pt;exact⟨pG (by omega) (by omega) (by omega),pG (by omega) (by omega) (by omega)⟩
variable{A B C q:P2}{f g h:Rat}{m n:Nat}
theorem Ye(H:pDg n A)(I:pDg n B)(J:pDg n C)(hq:pDg n q)(hf:dg m m f)(hg:dg m m g)(Y:dg m m h)(hS:0<bD A B C):dg (32*n+3*m+22) (32*n+3*m+22) (mz (gZ A B C q) f g h):=by rw[<-Wz];have Z:=dp (jC hq I J) hf;have X:=dp (jC hq J H) hg;have V:=dp (jC hq H I) Y;exact(Ta (S0 (S0 Z X) V) (jC H I J) (by grind)).mono (by omega) (by omega)
theorem Yp(h0:0<n)(h1:0<m)(h2:n+m<=50)(H:pDg n A)(I:pDg n B)(J:pDg n C)(hq:pDg n q)(hf:dg m m f)(hg:dg m m g)(Y:dg m m h)(hS:0<bD A B C):OnG A B C q f g h:=by
 have w1:=jC hq I J;have w2:=jC hq J H;have w3:=jC hq H I;have Z:=dp w1 hf;have X:=dp w2 hg;have V:=dp w3 Y;have t1:=S0 Z X;have t2:=S0 t1 V;have F:∀{k:Nat}{z:Rat},dg k k z->0<k->k<=2000->dw z:=fun h a b=>dO h a b
 exact⟨B9 hq I J h0 (by omega),B9 hq J H h0 (by omega),B9 hq H I h0 (by omega),B9 H I J h0 (by omega),hS,⟨F hf h1 (by omega),F hg h1 (by omega),F Y h1 (by omega)⟩,⟨F w1 (by omega) (by omega),F w2 (by omega) (by omega),F w3 (by omega) (by omega)⟩,⟨F Z (by omega) (by omega),F X (by omega) (by omega),F V (by omega) (by omega)⟩,⟨F t1 (by omega) (by omega),F t2 (by omega) (by omega)⟩,F (jC H I J) (by omega) (by omega)⟩
variable{L:List Rat}
section
variable (s:afv)(hL:L.length=s.P.length)
include s hL
theorem Mu{i:Nat}{t:Tr}(H:s.T[i]? =some t):∃A B C f g h,(s.P[t.1]? =some A/\s.P[t.2.1]? =some B/\s.P[t.2.2]? =some C)/\(L[t.1]? =some f/\L[t.2.1]? =some g/\L[t.2.2]? =some h)/\0<bD A B C/\(pDg 5 A/\pDg 5 B/\pDg 5 C)/\(f∈L/\g∈L/\h∈L):=by
 obtain⟨A,B,C,Z,X,h3,R⟩:=sF s H;have g:∀{k:Nat}{A:P2},s.P[k]? =some A->∃f,L[k]? =some f:=fun h=>⟨_,G2 (by have:=gL h;omega)⟩
 obtain⟨f,V⟩:=g Z;obtain⟨k,U⟩:=g X;obtain⟨h,S⟩:=g h3;exact⟨A,B,C,f,k,h,⟨Z,X,h3⟩,⟨V,U,S⟩,R,⟨gF s (J1 Z),gF s (J1 X),gF s (J1 h3)⟩,J1 V,J1 U,J1 S⟩
section
variable (hb:∀z∈L,dg 4 4 z)(hq:pDg 5 q)
include hb hq
theorem SH:AtG s.P s.T L q where
 tri:=fun i t hi=>by obtain⟨A,B,C,f,g,h,⟨U,S,h3⟩,⟨R,O,N⟩,hS,⟨Z,X,V⟩,b1,b2,M⟩:=Mu s hL hi;exact⟨A,B,C,f,g,h,U,S,h3,R,O,N,⟨B9 Z X hq (by omega) (by omega),B9 X V hq (by omega) (by omega),B9 V Z hq (by omega) (by omega)⟩,Yp (by omega) (by omega) (by omega) Z X V hq (hb _ b1) (hb _ b2) (hb _ M) hS⟩
 hl:=mq s
theorem W5{j:Nat}{w:V3}(H:MH s.P q s.T 0=some (j,w)):dg 194 194 (ym s.T L j w):=by
 obtain⟨i,t,X,Z,Y,rfl,_⟩:=se H;obtain rfl:i=j:=by omega
 obtain⟨A,B,C,f,g,h,⟨V,U,h3⟩,⟨S,R,O⟩,hS,⟨N,M,K⟩,G,F,u⟩:=Mu s hL Z;have e:qc s.P q t=gZ A B C q:=by unfold qc;simp[List.getD,V,U,h3]
 have o:s.T.getD i (0,0,0)=t:=by simp[List.getD,Z]
 have:ym s.T L i (qc s.P q t)=mz (gZ A B C q) f g h:=by unfold ym;rw[e,o];simp[List.getD,S,R,O]
 rw[this];exact(Ye N M K hq (hb _ G) (hb _ F) (hb _ u) hS).mono (by omega) (by omega)
end
end
theorem V8{Z:List Int}(h:∀z∈Z,z.natAbs<1000):∀q∈qH Z,dg 4 4 q:=fun q X=>by unfold qH at X;obtain⟨z,V,rfl⟩:=QQm.1 X;exact yf (by have:=h z V;omega) (by omega)
section
variable {x:adM}{s:afv}{M:Mem}{p t:Nat}{o o' :Bool}{ev:List AV}{v:V3}
end
end Go.Proofs
namespace Go.Proofs
open Go.Eng
open Tryz
section
variable {x:adM}{s:afv}{M:Mem}{p t:Nat}{o o' :Bool}{ev:List AV}{v:V3}
theorem sR(x:adM)(n:Nat):∀q∈qH (x.base.l n),dg 4 4 q:=V8 fun z Z=>by have:=kc x n z Z;omega
theorem xh(x:adM)(n:Nat):∀q∈qH (upL x.s0 (x.base.l n) n),dg 4 4 q:=V8 fun z Z=>by have:=mr x n z Z;omega
theorem Mw(x:adM)(n:Nat):∀q∈qH (upL x.s1 (upL x.s0 (x.base.l n) n) n),dg 4 4 q:=V8 fun z X=>by unfold upL at X;obtain⟨k,Z,rfl⟩:=QQm.1 X;have Z:=List.mem_range.1 Z;have V:=mr x n _ (mK (l:=upL x.s0 (x.base.l n) n) (k:=k) (by rw[fE];exact Z));have:=x.s1.ag4 k;unfold upL at V;omega
theorem Ua(Z:List Int):(qH Z).length=Z.length:=by simp[qH]
noncomputable def XK(s:afv)(x:adM)(v:V3):Int:=XV s.P s.T (qH (x.base.l s.P.length)) ((iW x s.P.length (ctN x)).map qH) v
theorem NM(hv:vDg 5 v)(hp:M[p]? =some (.cells o 2 (pC s.P)))(ht:M[t]? =some (.cells o' 3 (tC s.T)))(hE:agc M ev (uX x s.P.length (ctN x))):kO prog 17 [nt s p t,.agg ev,vA v] M (.int .i64 (XK s x v)) M:=by
 obtain⟨J,p2⟩:=lH s;have hq:pDg 5 (v.1,v.2.1):=⟨hv.1,hv.2.1⟩;obtain⟨b,u,sv,kn,rfl,h1,h2,h3,h4⟩:=hE;obtain rfl:=h4.af0 rfl;have lB:(x.base.l s.P.length).length=s.P.length:=x.base.afP _;have N:∀h L,(upL h L s.P.length).length=s.P.length:=fun h L=>fE h L _
 have e1:(uX x s.P.length (ctN x)).B.length=s.P.length:=by show(hS _).length=_;rw[kP,lB]
 rw[e1] at h1;obtain⟨fb,fo,rfl,G⟩:=h1.pos J;have hB:M[fb]? =some (.cells fo 1 (qC (qH (x.base.l s.P.length)))):=by rw[<-Pg];exact G
 have cu:=h2.ck;obtain⟨vs,C,V,K⟩:=h3;have I:∀Z:List Int,Z.length=s.P.length->(qH Z).length=s.P.length:=fun Z h=>by rw[Ua,h]
 have U:=I _ lB;have R:=fR x;have F:∀{L:List Rat},L.length=s.P.length->(∀z∈L,dg 4 4 z)->∀j w,MH s.P (v.1,v.2.1) s.T 0=some (j,w)->dw (ym s.T L j w):=fun hL G j w h=>dO (W5 s hL G hq h) (by omega) (by omega)
 have fp:dw v.2.2:=dO hv.2.2 (by omega) (by omega);have A:=fun {L:List Rat}(hL:L.length=s.P.length) (G:∀z∈L,dg 4 4 z)=>SH s hL G hq
 unfold XK;rw[show nt s p t=.agg [.slice p 0 s.P.length none,.slice t 0 s.T.length none] from rfl];rcases R with R | R | R
 .rw[R] at C K V |-
  obtain rfl:=V.af0 rfl;have:=ua (M:=M) (sfs:=[]) (sb:=0) (o4:=false) (sv:=.qF) (c:=uX x s.P.length 1) (u:=u) (by simp) hp ht hB (by omega) (fun e X=>by cases X) (A U (sR x _)) (.inl ⟨rfl,rfl⟩) (fun e X=>by cases X) fp (F U (sR x _)) (fun e X=>by cases X) rfl cu;rw[U] at this;exact this
 .rw[R] at C K V |-
  obtain⟨m,oc,rfl,O⟩:=V.pos (by show 0<1;omega)
  match vs,C with
  | [v1],_=>
   have r1:=K 0 v1 (hS (upL x.s0 (x.base.l s.P.length) s.P.length)) rfl rfl;rw[kP,N] at r1;obtain⟨b1,o1,rfl,Y⟩:=r1.pos J;rw[Pg] at Y;have S:=I _ (N x.s0 (x.base.l s.P.length));have:=ua (M:=M) (sfs:=[(b1,qH (upL x.s0 (x.base.l s.P.length) s.P.length))]) (sb:=m) (o4:=oc) (sv:=.slice m 0 1 none) (c:=uX x s.P.length 2) (u:=u) (by simp) hp ht hB (by omega) (fun e X=>by
    simp only[List.mem_singleton] at X;subst X;rw[S,U]) (A U (sR x _)) (.inr ⟨rfl,by simp,by simp only[List.map_cons,List.map_nil,S];exact O⟩) (fun e X=>by
    simp only[List.mem_singleton] at X;subst X;exact⟨⟨_,Y⟩,A S (xh x _)⟩) fp (F U (sR x _)) (fun e X=>by
    simp only[List.mem_singleton] at X;subst X;exact F S (xh x _)) rfl cu
   rw[U] at this;exact this
 .rw[R] at C K V |-
  obtain⟨m,oc,rfl,O⟩:=V.pos (by show 0<2;omega)
  match vs,C with
  | [v1,v2],_=>
   have r1:=K 0 v1 (hS (upL x.s0 (x.base.l s.P.length) s.P.length)) rfl rfl;rw[kP,N] at r1;obtain⟨b1,o1,rfl,Y⟩:=r1.pos J;rw[Pg] at Y;have r2:=K 1 v2 (hS (upL x.s1 (upL x.s0 (x.base.l s.P.length) s.P.length) s.P.length)) rfl rfl;rw[kP,N] at r2;obtain⟨b2,o2,rfl,g2⟩:=r2.pos J;rw[Pg] at g2;have S:=I _ (N x.s0 (x.base.l s.P.length));have H:=I _ (N x.s1 (upL x.s0 (x.base.l s.P.length) s.P.length));have:=ua (M:=M) (sfs:=[(b1,qH (upL x.s0 (x.base.l s.P.length) s.P.length)),(b2,qH (upL x.s1 (upL x.s0 (x.base.l s.P.length) s.P.length) s.P.length))]) (sb:=m) (o4:=oc) (sv:=.slice m 0 2 none) (c:=uX x s.P.length 3) (u:=u) (by simp) hp ht hB (by omega) (fun e X=>by
    simp only[lM] at X;rcases X with rfl | rfl
    .simp only;rw[S,U]
    .simp only;rw[H,U]) (A U (sR x _)) (.inr ⟨rfl,by simp,by simp only[List.map_cons,List.map_nil,S,H];exact O⟩) (fun e X=>by
    simp only[lM] at X;rcases X with rfl | rfl
    .exact⟨⟨_,Y⟩,A S (xh x _)⟩
    .exact⟨⟨_,g2⟩,A H (Mw x _)⟩) fp (F U (sR x _)) (fun e X=>by
    simp only[lM] at X;rcases X with rfl | rfl
    .exact F S (xh x _)
    .exact F H (Mw x _)) rfl cu
   rw[U] at this;exact this
end
end Go.Proofs
namespace Go.Eng
theorem kO.pad{P:Program}{f:FuncId}{args:List AV}{m H:Mem}{v:AV}(h:kO P f args m v H)(k:Nat):kO P f args m v (H++List.replicate k .qK):=by
 refine⟨h.1,fun base μ w Vs hG hH hV=>(h.2 base μ w Vs hG hH hV).mono ?_⟩;rintro e w' ⟨V,v',m',μ',rfl,q1,q2,q3,rfl,rfl⟩;have X:m'.length<=(m' ++List.replicate k afq.qK).length:=by rw[Qs];omega
 have U:∀(b:Nat) s,(m' ++List.replicate k afq.qK)[b]? =some s->m'[b]? =some s\/s=.qK:=fun b s Z=>by
  by_cases S:b<m'.length
  .rw[GT S] at Z;exact .inl Z
  .rw[V1 (by omega)] at Z
   exact .inr (List.eq_of_mem_replicate (J1 Z))
 have R:∀{b:Nat},eG (m' ++List.replicate k afq.qK) b->eG m' b:=fun {b} ⟨s,S,h2⟩=>by
  rcases U b s S with h | rfl
  .exact⟨s,h,h2⟩
  .cases h2
 refine⟨V,v',_,μ',rfl,q1.mono X (fun _ _=>rfl),⟨q2.afx,fun b s Z=>?_,fun b O N Z L M K=>?_⟩,⟨QQd q3.len X,q3.agree,q3.os,q3.tape,q3.output,q3.size,q3.frame,fun b Z=>q3.owner b (R Z),q3.drawn⟩,rfl,rfl⟩
 .rcases U b s Z with h | rfl
  .exact(q2.slot b s h).mono X (fun _ _=>rfl) (fun _=>rfl)
  .trivial
 .rcases U O N L with h | rfl
  .exact q2.sep b O N (R Z) h M K
  .exact absurd rfl M
end Go.Eng
namespace Go.Proofs
open Go.Eng
def lwM(s:afv)(C:List AV)(H d1 I d2 J d3:Int):Mem:=[.cells true 0 [.int .u8 s.kind,.int .i8 s.sx,.int .i8 s.sy,.bool s.half],.cells true 0 C,.cells true 0 [.int .i16 H,.int .u8 d1,.int .i16 I,.int .u8 d2,.int .i16 J,.int .u8 d3],.cells true 2 (pC s.P),.cells true 3 (tC s.T),.cells true 0 [.slice 3 0 s.P.length none,.slice 4 0 s.T.length none]]
def X8(X:Nat->afq):Prop:=∀i,ma (X i)=true/\∀k,(X i).afm (fun b=>decide (b<11+k))=true
def Ef(X:Nat->afq):Mem:=[X 0,X 1,X 2,X 3,X 4]
theorem Xh{x:adM}{n:Nat}:∃X k,X8 X/\UI 6 x n++List.replicate k .qK=Ef X:=by
 have h3:=fR x;have Z:ma afq.qK=true/\∀k:Nat,afq.afm (fun b=>decide (b<11+k)) .qK=true:=⟨rfl,fun _=>rfl⟩
 have row:∀{es:Nat}{C:List AV},AV.afr C=true->ma (.cells true es C)=true/\∀k:Nat,afq.afm (fun b=>decide (b<11+k)) (.cells true es C)=true:=fun h=>⟨rfl,fun k=>ig h _⟩
 have S:∀L:List Int,AV.afr (qC (qH L))=true:=fun L=>by rw[WC];exact eF _
 have R:∀{b n:Nat},b<11->∀k:Nat,AV.afm (fun b=>decide (b<11+k)) (.slice b 0 n none)=true:=fun h k=>by simp only[AV.afm,GE];omega
 have U:∀a b c d e:afq,(ma a=true/\∀k:Nat,a.afm (fun b=>decide (b<11+k))=true)->(ma b=true/\∀k:Nat,b.afm (fun b=>decide (b<11+k))=true)->(ma c=true/\∀k:Nat,c.afm (fun b=>decide (b<11+k))=true)->(ma d=true/\∀k:Nat,d.afm (fun b=>decide (b<11+k))=true)->(ma e=true/\∀k:Nat,e.afm (fun b=>decide (b<11+k))=true)->
   ∃X,X8 X/\[a,b,c,d,e]=Ef X:=fun a b c d e N M K G F=>⟨fun i=>[a,b,c,d].getD i e,fun i=>by
  match i with
  |0=>exact N
  |1=>exact M
  |2=>exact K
  |3=>exact G
  |i+4=>exact F,rfl⟩
 have V:∀{O:Mem}(k:Nat) {a b c d e:afq},O++List.replicate k .qK=[a,b,c,d,e]->(∃X,X8 X/\[a,b,c,d,e]=Ef X)->∃X k,X8 X/\O++List.replicate k .qK=Ef X:=fun k _ _ _ _ _ e ⟨X,h1,h2⟩=>⟨X,k,h1,e.trans h2⟩
 unfold UI;rcases jH x.kind with h | h | h | h | h
 .simp only[h,if_true]
  rcases h3 with h3 | h3 | h3
  .rw[h3]
   exact V 3 rfl (U _ _ _ _ _ (row (S _)) (row (eF _)) Z Z Z)
  .rw[h3]
   exact V 1 rfl (U _ _ _ _ _ (row (S _)) (row (eF _)) ⟨rfl,fun k=>by simp only[afq.afm,AV.afs,R (b:=9) (by omega) k,Bool.and_true]⟩ (row (S _)) Z)
  .rw[h3]
   exact V 0 rfl (U _ _ _ _ _ (row (S _)) (row (eF _)) ⟨rfl,fun k=>by simp only[afq.afm,AV.afs,R (b:=9) (by omega) k,R (b:=10) (by omega) k,Bool.and_true]⟩ (row (S _)) (row (S _)))
 .simp only[h,Nat.one_ne_zero,if_false,show¬(1:Nat)=2 by decide]
  exact V 5 rfl (U _ _ _ _ _ Z Z Z Z Z)
 .simp only[h,show¬(2:Nat)=0 by decide,if_false,if_true]
  exact V 4 rfl (U _ _ _ _ _ (row (kR _)) Z Z Z Z)
 .simp only[h,show¬(3:Nat)=0 by decide,if_false,show¬(3:Nat)=2 by decide]
  exact V 5 rfl (U _ _ _ _ _ Z Z Z Z Z)
 .simp only[h,show¬(4:Nat)=0 by decide,if_false,show¬(4:Nat)=2 by decide]
  exact V 5 rfl (U _ _ _ _ _ Z Z Z Z Z)
end Go.Proofs
