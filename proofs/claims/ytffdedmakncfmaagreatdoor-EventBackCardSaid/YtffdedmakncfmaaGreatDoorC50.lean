/- See C54. -/
import Derived.Test.YtffdedmakncfmaaGreatDoorC49
set_option linter.all false
set_option maxRecDepth 100000
set_option maxHeartbeats 40000000
namespace Go.Proofs
open Go.Eng
open Tryz
def tG(M:Mem)(mv:AV)(P:List P2)(T:List Tr)(q:P2)(c:Go.Eng.Callee)(a:List AV)(N:Mem)(r:y9):Prop:=
 (∃x Q,c=.fn 50∧a=[mv,x,pA q]∧(∃Z,N=M++Z)∧af0 M x 1 Q.length (qC Q)∧(∀Z,kO prog 50 [mv,x,pA q] (M++Z) (atV P T Q q) (M++Z))∧r=⟨atV P T Q q,none,[]⟩)∨
 (∃x y,c=.fn 51∧a=[.str (ax x),.str (ax y)]∧cB x∧cB y∧r=⟨.int .i64 (fL (x-y)),none,[]⟩)
variable{N:Mem}
theorem af0.inj{v:AV}{es n n' :Nat}{C y :List AV}(h:af0 N v es n C)(h' :af0 N v es n' y):n=n' ∧C=y :=by
 rcases h with⟨rfl,rfl,rfl⟩ | ⟨b,o,rfl,S,X⟩
 ·rcases h' with⟨_,rfl,rfl⟩ | ⟨V,U,h,_⟩
  ·exact⟨rfl,rfl⟩
  ·cases h
 ·rcases h' with⟨h,_⟩ | ⟨V,U,h,_,Z⟩
  ·cases h
  ·cases h
   rw[X] at Z;cases Z;exact⟨rfl,rfl⟩
theorem Zb{Q R:List Rat}(h:qC Q=qC R):Q=R:=by unfold qC at h;exact List.map_inj_right (f:=fun q=>AV.str (ax q)) (fun x y e=>iS (by simpa using e)) |>.1 h
variable{a b:Rat}
section
variable {M:Mem}{mv:AV}{P:List P2}{T:List Tr}{q:P2}
theorem zv{c:Go.Eng.Callee}{a:List AV}{r r' :y9}(h:tG M mv P T q c a N r)(h' :tG M mv P T q c a N r'):r' =r:=by
 rcases h with⟨x,Q,rfl,rfl,_,V,_,rfl⟩ | ⟨x,y,rfl,rfl,_,_,rfl⟩
 ·rcases h' with⟨Z,U,_,e,_,X,_,rfl⟩ | ⟨Z,S,e,_⟩
  ·have R:x=Z :=by simpa using e
   subst R;rw[Zb (V.inj X).2]
  ·cases e
 ·rcases h' with⟨Z,U,e,_⟩ | ⟨Z,S,_,e,_,_,rfl⟩
  ·cases e
  ·simp only[List.cons.injEq,AV.str.injEq,and_true] at e
   rw[iS e.1,iS e.2]
theorem Oy:qS prog (o9 (tG M mv P T q)):=uf fun c a N r h=>by
 rcases h with⟨x,Q,rfl,rfl,⟨Z,rfl⟩,V,X,rfl⟩ | ⟨x,y,rfl,rfl,V,X,rfl⟩
 ·exact bG (X Z)
 ·exact bG (nQ x y V X N)
theorem Vm:fL (a-b)<0↔a<b:=by rw[←Rat.not_le,←U5];omega
theorem Zi{q:Rat}:fL q≤0↔q≤0:=by
 have h:fL q≤0↔q.num≤0:=by
  unfold fL kf;split
  ·omega
  ·split<;>omega
 have Z:0≤(-q).num↔0≤ -q:=Rat.num_nonneg;rw[Rat.neg_num] at Z;rw[h];constructor
 ·intro h3
  have:=Z.1 (by omega)
  grind
 ·intro h3
  have:=Z.2 (by grind);omega
theorem xS:fL (a-b)≤0↔a≤b:=by rw[Zi];constructor<;>intro h<;>grind
noncomputable def YA(P:List P2)(T:List Tr)(B:List Rat)(Qs:List (List Rat))(p:V3):Int:=
 match Qg P (p.1,p.2.1) T 0 with
 |none=> -2
 |some (j,w)=>if p.2.2<Bm T B j w then -1 else (XM p.2.2 (Qs.map fun Q=>Bm T Q j w):Int)
theorem zu:(aG f16).map (fun o=>dm o.toList)=[[0,0,2,6,0,30,62,0,128,0,512,1920,4095,8191,16383,16383,32767,131071],[0,1,3,0,15,31,63,0,128,384,0,1920,4095,8191]]:=by kernel_rfl
variable {B:List Rat}{sfs:List (Nat×List Rat)}{pb tb fb sb:Nat}{o1 o2 o3 o4:Bool}{u sv:AV}{p:V3}{c:Evc}
theorem uK(h2:sfs.length≤2)(m1:M[pb]? =some (.cells o1 2 (pC P)))(m2:M[tb]? =some (.cells o2 3 (tC T)))(m3:M[fb]? =some (.cells o3 1 (qC B)))(h0:0<B.length)(hl:∀e∈sfs,e.2.length=B.length)(hB:AtG P T B (p.1,p.2.1))(I:(sv=.qF∧sfs=[])∨(sv=.slice sb 0 sfs.length none∧0<sfs.length∧M[sb]? =some (.cells o4 1 (sfs.map fun e=>.slice e.1 0 e.2.length none))))(hS:∀e∈sfs,(∃o,M[e.1]? =some (.cells o 1 (qC e.2)))∧AtG P T e.2 (p.1,p.2.1))(fp:cB p.2.2)(fB:∀j w,Qg P (p.1,p.2.1) T 0=some (j,w)→cB (Bm T B j w))(fS:∀e∈sfs,∀j w,Qg P (p.1,p.2.1) T 0=some (j,w)→cB (Bm T e.2 j w))(hk:c.k=1)(cu:u.afR=true):
  kO prog 16 [.agg [.slice pb 0 P.length none,.slice tb 0 T.length none],.agg (c.cells (.slice fb 0 B.length none) u sv .qF),vA p] M (.int .i64 (YA P T B (sfs.map (·.2)) p)) M:=by
 have hG:aS prog 16=some f16:=by kernel_rfl
 have lm1:=gL m1;have lm2:=gL m2;have lm3:=gL m3;have y1:∀k,pb<M.length+k:=fun k=>by omega
 have y2:∀k,tb<M.length+k:=fun k=>by omega
 have y3:∀k,fb<M.length+k:=fun k=>by omega
 have more:∀{b:Nat}{x:afU},M[b]? =some x→∀Z,(M++Z)[b]? =some x:=fun h Z=>by rw[List.getElem?_append_left (gL h)];exact h
 have hO:=Oy (M:=M) (mv:=.agg [.slice pb 0 P.length none,.slice tb 0 T.length none]) (P:=P) (T:=T) (q:=(p.1,p.2.1));obtain⟨O,R⟩:=xE (o9 (tG M (.agg [.slice pb 0 P.length none,.slice tb 0 T.length none]) P T (p.1,p.2.1)));have eA:∀(b:Nat) (Q:List Rat),0<Q.length→(∃o,M[b]? =some (.cells o 1 (qC Q)))→AtG P T Q (p.1,p.2.1)→∀Z,O (.fn 50) [.agg [.slice pb 0 P.length none,.slice tb 0 T.length none],.slice b 0 Q.length none,.agg [.str (ax p.1),.str (ax p.2.1)]] (M++Z)=some ⟨atV P T Q (p.1,p.2.1),none,[]⟩:=fun b Q h0 ⟨o,hb⟩ H Z=>by have y:tG M (.agg [.slice pb 0 P.length none,.slice tb 0 T.length none]) P T (p.1,p.2.1) (.fn 50) [.agg [.slice pb 0 P.length none,.slice tb 0 T.length none],.slice b 0 Q.length none,pA (p.1,p.2.1)] (M++Z) ⟨atV P T Q (p.1,p.2.1),none,[]⟩:=.inl ⟨_,Q,rfl,rfl,⟨Z,rfl⟩,.inr ⟨b,o,rfl,h0,hb⟩,fun Z=>Q0 H (more m1 Z) (more m2 Z) (more hb Z),rfl⟩;rw[R];exact gx y fun r' G =>zv y G
 have eK:∀x y:Rat,cB x→cB y→∀N,O (.fn 51) [.str (ax x),.str (ax y)] N=some ⟨.int .i64 (fL (x-y)),none,[]⟩:=fun x y hx hy N=>by have z:tG M (.agg [.slice pb 0 P.length none,.slice tb 0 T.length none]) P T (p.1,p.2.1) (.fn 51) [.str (ax x),.str (ax y)] N ⟨.int .i64 (fL (x-y)),none,[]⟩:=.inr ⟨x,y,rfl,rfl,hx,hy,rfl⟩;rw[R];exact gx z fun r' G =>zv z G
 rw[←R] at hO;clear R;have L:=eA fb B h0 ⟨o3,m3⟩ hB;have hcs:∀s,(AV.str s).afR=true:=fun _=>rfl
 have hci:∀k n,(AV.int k n).afR=true:=fun _ _=>rfl
 obtain⟨os,D'⟩:∃os,aG f16=os:=⟨_,rfl⟩
 have PP:=cr D' zu;have k0:dH [0,0,2,6,0,30,62,0,128,0,512,1920,4095,8191,16383,16383,32767,131071] 17=true:=by decide
 simp only[aG,bQ,f16,lA] at D';subst D';simp only[lB] at PP;obtain⟨S',-⟩:=PP;have u0:IntKind.i64.wrap 0=0:=rfl;have u1:IntKind.i64.wrap 1=1:=rfl;have u2:IntKind.i64.wrap 2=2:=rfl;refine jj (K:=4) (lv:=fun c=>if (ae c).contains 10 then [9,10] else [13,14]) hO ?_;unfold YA atV at*;obtain⟨x,y,z⟩:=p;simp only at*;cases hloc:Qg P (x,y) T 0 with
 |none=>
  simp only[hloc] at L ⊢;rcases I with⟨rfl,rfl⟩ | ⟨rfl,-,X⟩<;>
   simp[-getElem?_pos,-AV.afR,-AV.known,-AV.cells,-dy,-List.all_eq_true,vS,mS,-bK,-bt,-AV.afP,-afU.afP,aa,hG,f16,Evc.cells,vA,hk,L,bN,aF]
 |some r=>
  obtain⟨j,w⟩:=r;have fB:=fB j w hloc;have fS:=fun e he=>fS e he j w hloc
  simp only[hloc] at L ⊢;have e0:=eK _ _ fp fB;have S:=Vm (a:=z) (b:=Bm T B j w);obtain⟨z0,hz0⟩:=xE (Bm T B j w);rw[←hz0] at L e0 S ⊢;obtain⟨g0,hg0⟩:=xE (fL (z-z0));rw[←hg0] at e0 S;by_cases FS:z<z0
  ·have S:=S.2 FS
   rw[if_pos FS];rcases I with⟨rfl,rfl⟩ | ⟨rfl,-,X⟩<;>
    simp[-getElem?_pos,-AV.afR,-AV.known,-AV.cells,-dy,-List.all_eq_true,vS,mS,-bK,-bt,-AV.afP,-afU.afP,aa,hG,f16,Evc.cells,vA,hk,L,e0,S,bN,aF]
  ·have S:¬g0<0:=fun h=>FS (S.1 h)
   rw[if_neg FS];clear fB
   match sfs,h2 with
   | [],_=>
    have I:sv=.qF:=by
     rcases I with⟨h,_⟩ | ⟨_,h,_⟩
     ·exact h
     ·exact absurd h (by simp)
    subst I;simp[-getElem?_pos,-AV.afR,-AV.known,-AV.cells,-dy,-List.all_eq_true,vS,mS,-bK,-bt,-AV.afP,-afU.afP,aa,hG,f16,Evc.cells,vA,hk,L,e0,bN,aF,aT,ga,S,XM,-aH]
   | [(b1,Q1)],_=>
    have I:sv=.slice sb 0 1 none∧M[sb]? =some (.cells o4 1 [.slice b1 0 Q1.length none]):=by
     rcases I with⟨_,h⟩ | ⟨h,_,G⟩
     ·cases h
     ·exact⟨h,G⟩
    obtain⟨rfl,X⟩:=I;have lsb:=gL X;have F:∀k,sb<M.length+k:=fun k=>by omega
    have X:=more X;obtain⟨V,H1⟩:=hS (b1,Q1) (by simp);have D:=eA b1 Q1 (by rw[hl (b1,Q1) (by simp)];exact h0) V H1;simp only[hloc] at D;have f1:=fS (b1,Q1) (by simp);simp only at f1;have C:=eK _ _ f1 fp;have m:=xS (a:=Bm T Q1 j w) (b:=z);obtain⟨o,V⟩:=V;have g1:=gL V;clear V H1;simp only at g1;have Y:∀k,b1<M.length+k:=fun k=>by omega
    simp only[List.map_cons,List.map_nil];obtain⟨z1,W⟩:=xE (Bm T Q1 j w);rw[←W] at D C m ⊢;obtain⟨n1,J⟩:=xE (fL (z1-z));rw[←J] at C m;by_cases a1:z1≤z<;>simp[-getElem?_pos,-AV.afR,-AV.known,-AV.cells,-dy,-List.all_eq_true,vS,rS,mS,-bK,-bt,-AV.afP,-afU.afP,aa,hG,f16,Evc.cells,vA,hk,L,e0,bN,aF,aT,ga,u1,y1,y2,D,C,Y,F,X,S,XM,m,a1,-aH,ak S',be,aV,aX,k0,Nat.testBit]
   | [(b1,Q1),(b2,Q2)],_=>
    have I:sv=.slice sb 0 2 none∧M[sb]? =some (.cells o4 1 [.slice b1 0 Q1.length none,.slice b2 0 Q2.length none]):=by
     rcases I with⟨_,h⟩ | ⟨h,_,G⟩
     ·cases h
     ·exact⟨h,G⟩
    obtain⟨rfl,X⟩:=I;have lsb:=gL X;have F:∀k,sb<M.length+k:=fun k=>by omega
    have X:=more X;obtain⟨V,H1⟩:=hS (b1,Q1) (by simp);have D:=eA b1 Q1 (by rw[hl (b1,Q1) (by simp)];exact h0) V H1;simp only[hloc] at D;have f1:=fS (b1,Q1) (by simp);simp only at f1;have C:=eK _ _ f1 fp;have m:=xS (a:=Bm T Q1 j w) (b:=z);obtain⟨o,V⟩:=V;have g1:=gL V;clear V H1;simp only at g1;have Y:∀k,b1<M.length+k:=fun k=>by omega
    simp only[List.map_cons,List.map_nil];obtain⟨z1,W⟩:=xE (Bm T Q1 j w);rw[←W] at D C m ⊢;obtain⟨n1,J⟩:=xE (fL (z1-z));rw[←J] at C m;obtain⟨U,H2⟩:=hS (b2,Q2) (by simp);have e2:=eA b2 Q2 (by rw[hl (b2,Q2) (by simp)];exact h0) U H2;simp only[hloc] at e2;have f2:=fS (b2,Q2) (by simp);simp only at f2;have c2:=eK _ _ f2 fp;have l2:=xS (a:=Bm T Q2 j w) (b:=z);obtain⟨o,U⟩:=U;have g2:=gL U;clear U H2;simp only at g2;have yg2:∀k,b2<M.length+k:=fun k=>by omega
    obtain⟨z2,hz2⟩:=xE (Bm T Q2 j w);rw[←hz2] at e2 c2 l2 ⊢;obtain⟨n2,hn2⟩:=xE (fL (z2-z));rw[←hn2] at c2 l2;by_cases a1:z1≤z<;>by_cases a2:z2≤z<;>simp[-getElem?_pos,-AV.afR,-AV.known,-AV.cells,-dy,-List.all_eq_true,vS,rS,mS,-bK,-bt,-AV.afP,-afU.afP,aa,hG,f16,Evc.cells,vA,hk,L,e0,bN,aF,aT,ga,u1,u2,y1,y2,D,C,Y,F,e2,c2,yg2,X,S,XM,m,a1,l2,a2,-aH,ak S',be,aV,aX,k0,Nat.testBit]
end
end Go.Proofs
