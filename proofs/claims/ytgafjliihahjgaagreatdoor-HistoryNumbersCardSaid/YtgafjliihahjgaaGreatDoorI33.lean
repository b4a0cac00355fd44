/- See I36. -/
import Derived.Test.YtgafjliihahjgaaGreatDoorI32
set_option linter.all false
set_option maxRecDepth 100000
set_option maxHeartbeats 40000000
namespace Go.Proofs
open Go.Eng
theorem VM:∀k<8,∀p∈er k,0<=p.1/\p.1<=6/\0<=p.2/\p.2<=6:=by decide
structure PtS (P:List P2):Prop where
 p:∀a∈P,Sm 2 13 a.1/\Sm 2 13 a.2
 d:∀a∈P,∀b∈P,Sm 2 6 (b.1-a.1)/\Sm 2 6 (b.2-a.2)
variable{n:Int}
theorem HW{V:Nat}{c:Nat}(hc:c=1\/c=2)(y:n.natAbs<=V):Sm 2 V (mkRat n c):=by
 rcases hc with rfl | rfl
 .exact(Ny (V:=V) (by decide) (by omega)).to (by decide) (by decide) (L9 V)
 .exact Ny (by decide) (by omega)
theorem XR{m:Int}{c:Nat}(hc:0<c):mkRat n c-mkRat m c=mkRat (n-m) c:=by
 rw[H3,H3,H3,Rat.intCast_sub]
 grind
theorem VA(s:af8):PtS s.P:=by
 have Z:∀a∈s.P,∃x y:Int,(0<=x/\x<=6/\0<=y/\y<=6)/\a=s.pt 1 x y:=fun a X=>by unfold af8.P at X;rw[QQj] at X;obtain⟨q,W,V⟩:=X;exact⟨q.1,q.2,VM _ (Nat.mod_lt _ (by decide)) q W,V.symm⟩
 have K:=Tc s.sx;have J:=Tc s.sy;have hc:((if s.half then 2 else 1)*1:Nat)=1\/((if s.half then 2 else 1)*1:Nat)=2:=by cases s.half<;>simp
 have S:0<((if s.half then 2 else 1)*1:Nat):=by cases s.half<;>simp
 constructor
 .intro a X
  obtain⟨x,y,⟨W,V,h3,O⟩,rfl⟩:=Z a X;exact⟨HW hc (by omega),HW hc (by omega)⟩
 .intro a X b M
  obtain⟨x,y,⟨W,V,h3,O⟩,rfl⟩:=Z a X;obtain⟨G,F,⟨D,C,B,A⟩,rfl⟩:=Z b M;unfold af8.pt;simp only;rw[XR S,XR S];exact⟨HW hc (by omega),HW hc (by omega)⟩
section
variable {P:List P2}{D:Nat}{a b c q:P2}
theorem X0{D:Nat}{x y:Rat}(hx:Sm 2 13 x)(H:Sm D (10 ^ 22) y):Sm (2*D) (10 ^ 22+13) (y-x):=by
 have d0:=H.1;have Z:Sm (2*D) (10 ^ 22) y:=by have:=H.up 2 (by decide);rwa [V1] at this
 have X:Sm (2*D) 13 x:=hx.to ⟨D,rfl⟩ (by omega) (L9 _);have:=Z.sub X;exact this
theorem Sb(H:PtS P)(y:a∈P)(I:b∈P)(h1:Sm D (10 ^ 22) q.1)(h2:Sm D (10 ^ 22) q.2)(Q:D<=(10 ^ 63)):Y6 a b q/\Sm (4*D) (12*(10 ^ 22+13)) (dJ a b q):=by obtain⟨Z,X⟩:=H.p a y;obtain⟨S,O⟩:=H.p b I;obtain⟨d1,d2⟩:=H.d a y b I;have W:=X0 Z h1;have V:=X0 X h2;have f1:=d1.mul V;have f2:=d2.mul W;rw[show 2*(2*D)=4*D by omega] at f1 f2;have f3:=f1.sub f2;refine⟨⟨⟨⟨Z.aga,X.aga⟩,⟨S.aga,O.aga⟩,h1.aga,h2.aga⟩,⟨d1.aga,V.aga,d2.aga,W.aga⟩,f1.aga,f2.aga⟩,f3⟩
end
theorem Qj(s:af8){D:Nat}{v:V3}(y:vSm D (10 ^ 22) v)(I:D<=(10 ^ 63)):aix s.P s.T (v.1,v.2.1) where
 tri:=fun i t h=>by obtain⟨A,B,C,Z,X,h3,_⟩:=DZ s h;have W:=Lo Z;have V:=Lo X;have S:=Lo h3;have H:=VA s;exact⟨A,B,C,Z,X,h3,(Sb (q:=(v.1,v.2.1)) H V S y.1 y.2.1 I).1,(Sb (q:=(v.1,v.2.1)) H S W y.1 y.2.1 I).1,(Sb (q:=(v.1,v.2.1)) H W V y.1 y.2.1 I).1⟩
 hl:=⟨(jr s).2,VN s⟩
end Go.Proofs
namespace Go.Eng
variable{D V:Nat}{q:Rat}
theorem Sm.bd{W:Nat}(h:Sm D V q)(h1: -(W:Rat)<=q)(h2:q<=(W:Rat)):Sm D W q:=⟨h.1,h.2.1,h1,h2⟩
theorem Sm.nat(h:Sm D V q)(h0:0<q):∃m:Nat,0<m/\q*(D:Rat)=(m:Rat)/\m<=V*D:=by
 obtain⟨d0,⟨n,X⟩,_,h3⟩:=h;have S:(0:Rat)<(D:Rat):=by exact_mod_cast d0
 have W:(0:Rat)<(n:Rat):=by rw[<-X];exact Rat.mul_pos h0 S
 have O:0<n:=by exact_mod_cast W
 have Z:(n:Rat)<=(((V*D:Nat):Int):Rat):=by
  rw[Rat.intCast_natCast,oh,<-X];have:=Rat.mul_nonneg (show 0<=(V:Rat)-q by grind) (Uo D)
  grind
 have Z:=Rat.intCast_le_intCast.1 Z;refine⟨n.toNat,by omega,?_,by omega⟩;rw[X,<-Rat.intCast_natCast,QQe (by omega)]
end Go.Eng
namespace Go.Proofs
open Go.Eng
section
variable {P:List P2}{D:Nat}{A B C q:P2}{f g h:Rat}
theorem XM(H:PtS P)(I:A∈P)(R:B∈P)(Y:C∈P)(hS:0<dJ A B C)(h1:Sm D (10 ^ 22) q.1)(h2:Sm D (10 ^ 22) q.2)(hD:D<=(10 ^ 63))(hin:inQ (D9 A B C q))(hf:Sm 2 500 f)(hg:Sm 2 500 g)(hh:Sm 2 500 h):
  Yx (D9 A B C q) f g h/\aga (Yy (D9 A B C q) f g h):=by
 obtain⟨M,K,J⟩:=hin;have M:=DY.1 M;have K:=DY.1 K;have J:=DY.1 J;have X:=WL A B C q;have w1:=(Sb H R Y h1 h2 hD).2;have w2:=(Sb H Y I h1 h2 hD).2;have w3:=(Sb H I R h1 h2 hD).2;have s1:=((H.d A I B R).1.mul (H.d A I C Y).2).sub ((H.d A I B R).2.mul (H.d A I C Y).1);have F:Sm 4 72 (dJ A B C):=s1;unfold D9 at*;unfold Yx Yy;simp only at*;obtain⟨S,G⟩:=xE (dJ A B C);obtain⟨x,hx⟩:=xE (dJ B C q);obtain⟨y,hy⟩:=xE (dJ C A q);obtain⟨z,hz⟩:=xE (dJ A B q);rw[<-G] at X hS F;rw[<-hx] at M w1 X |-;rw[<-hy] at K w2 X |-;rw[<-hz] at J w3 X |-;clear hx hy hz G s1;have d0:=h1.1;have sU:S<=72:=F.2.2.2;have W:((72:Nat):Rat)=72:=rfl;have w1:Sm (4*D) 72 x:=w1.bd (by rw[W];grind) (by rw[W];grind);have w2:Sm (4*D) 72 y:=w2.bd (by rw[W];grind) (by rw[W];grind);have w3:Sm (4*D) 72 z:=w3.bd (by rw[W];grind) (by rw[W];grind);have m1:=w1.mul hf;have m2:=w2.mul hg;have m3:=w3.mul hh;have a1:=w1.add w2;have a2:=a1.add w3;have b1:=m1.add m2;have u:=b1.add m3;have nz:x+y+z≠0:=by rw[X];grind
 refine⟨⟨⟨w1.aga,w2.aga,w3.aga⟩,⟨hf.aga,hg.aga,hh.aga⟩,⟨a1.aga,a2.aga,nz⟩,⟨m1.aga,m2.aga,m3.aga⟩,b1.aga,u.aga⟩,?_⟩;rw[X];obtain⟨m,mp,hm,afY⟩:=F.nat hS;obtain⟨Z,j⟩:=xE (x*f+y*g+z*h);rw[<-j] at u |-;obtain⟨Q,hQ⟩:=xE (Z / S);rw[<-hQ];have V:Q*S=Z:=by rw[hQ];exact QXK (by grind)
 have O:((500:Nat):Rat)=500:=rfl;obtain⟨_,_,f1,f2⟩:=hf;obtain⟨_,_,g1,g2⟩:=hg;obtain⟨_,_,k1,k2⟩:=hh;rw[O] at f1 f2 g1 g2 k1 k2;have up:Q<=500:=MH hS (by
  rw[V,j,<-X];have:=Rat.mul_nonneg M (show 0<=500-f by grind);have:=Rat.mul_nonneg K (show 0<=500-g by grind);have:=Rat.mul_nonneg J (show 0<=500-h by grind)
  grind)
 have dn: -Q<=500:=MH hS (by
  rw[Rat.neg_mul,V,j,<-X];have:=Rat.mul_nonneg M (show 0<=500+f by grind);have:=Rat.mul_nonneg K (show 0<=500+g by grind);have:=Rat.mul_nonneg J (show 0<=500+h by grind)
  grind)
 obtain⟨c0,⟨n,hn⟩,_,_⟩:=u;have hE:Sm (4*D*2*m) 500 Q:=by
  refine⟨Nat.mul_pos c0 mp,⟨n*4,?_⟩,by rw[O];grind,by rw[O];exact up⟩;rw[oh (4*D*2),<-hm,Rat.intCast_mul,<-hn];have e4:((4:Nat):Rat)=4:=rfl;have e4' :((4:Int):Rat)=4:=rfl;rw[e4,e4',<-V]
  grind
 have l1:4*D*2*m<=(8*10 ^ 63)*288:=Nat.mul_le_mul (by omega) (by omega);exact hE.aga
end
theorem Zi{z:Int}(h:z.natAbs<1000):Sm 2 500 (hQ z):=Ny (by decide) (by omega)
end Go.Proofs
namespace Go.Proofs
open Go.Eng
open Tryz
variable{o1 o2:Bool}
theorem uH{f:FuncId}{a v:AV}{P:List P2}{T:List Tr}{n k y tb:Nat}{M:Mem}(hc:a.closed=true)(H:v.closed=true)(h:kO prog f [.agg [.slice 0 0 n none,.slice 1 0 k none],a] [.cells false 2 (pC P),.cells false 3 (tC T)] v [.cells false 2 (pC P),.cells false 3 (tC T)])(m1:M[y]? =some (.cells o1 2 (pC P)))(m2:M[tb]? =some (.cells o2 3 (tC T))):
  kO prog f [.agg [.slice y 0 n none,.slice tb 0 k none],a] M v M:=by
 have W:=gL m1;have V:=gL m2;have X:AV.af9 [a]=true:=by simp[AV.af9,hc]
 have:=kO.frame (f:=f) (args:=[.agg [.slice 0 0 n none,.slice 1 0 k none],a]) (v:=v) (M:=M) (m:=[.cells false 2 (pC P),.cells false 3 (tC T)]) (new:=[]) [y,tb] rfl (by simp[W,V]) (by have:=cT (n:=2) X;simpa [AV.agn,AV.under] using this) (fun i s Z=>by
  match i with
  |0=>simp at Z;subst Z;exact bY (fl P) m1 (GE (L9 _))
  |1=>simp at Z;subst Z;exact bY (gA T) m2 (GE (L9 _))
  |i+2=>simp at Z) rfl (by rw[List.append_nil];exact h)
 simpa [AV.agd,AV.ren,eg,iI _ _ H,iI _ _ hc] using this
theorem YT{Q R:List Rat}(h:stC (Q.map aB)=stC (R.map aB)):Q=R:=by unfold stC at h;rw[List.map_map,List.map_map] at h;exact List.map_inj_right (f:=AV.str∘aB) (fun x y e=>kW (by simpa using e)) |>.1 h
variable{bv sv uv:AV}{pb tb:Nat}
section
variable {s:af8}{M:Mem}{p:V3}{D j:Nat}{w:V3}
def nr(s:af8)(pb tb:Nat)(bv uv sv:AV)(p:V3)(M:Mem)(j:Nat)(w:V3)(c:Go.Eng.Callee)(a:List AV)(N:Mem)(r:afA):Prop:=
 (c=.fn 134/\a=[.agg [.slice pb 0 s.P.length none,.slice tb 0 s.T.length none],vA p]/\N=M++[.cells true 0 [.slice pb 0 s.P.length none,.slice tb 0 s.T.length none],.cells true 0 [bv,uv,sv],.cells true 0 (vL p)]/\r=⟨.tuple [.int .i64 (j:Int),vA w,.bool true],none,[]⟩)\/
 (∃x Q,c=.fn 135/\a=[x,.ptr M.length 0,.ptr (M.length+3) 0,.ptr (M.length+4) 0]/\N=M++[.cells true 0 [.slice pb 0 s.P.length none,.slice tb 0 s.T.length none],.cells true 0 [bv,uv,sv],.cells true 0 (vL p),.cells true 0 [.int .i64 (j:Int)],.cells true 0 (vL w)]/\agi M x 1 Q.length (stC (Q.map aB))/\Q.length=s.P.length/\(∀q∈Q,Sm 2 500 q)/\r=⟨.str (aB (Ir s j w Q)),none,[]⟩)\/
 (∃x y,c=.fn 85/\a=[.str (aB x),.str (aB y)]/\aga x/\aga y/\r=⟨.int .i64 (nL x y),none,[]⟩)
theorem lh{s:af8}{p:V3}{M:Mem}{j:Nat}{w:V3}{c:Go.Eng.Callee}{a:List AV}{N:Mem}{r r' :afA}(h:nr s pb tb bv uv sv p M j w c a N r)(h' :nr s pb tb bv uv sv p M j w c a N r'):r' =r:=by
 rcases h with⟨rfl,rfl,rfl,rfl⟩ | ⟨x,Q,rfl,rfl,rfl,X,W,h3,rfl⟩ | ⟨x,y,rfl,rfl,X,W,rfl⟩
 .rcases h' with⟨_,_,_,rfl⟩ | ⟨x,Q,e,_⟩ | ⟨x,y,e,_⟩
  .rfl
  .cases e
  .cases e
 .rcases h' with⟨e,_⟩ | ⟨Z,V,_,e,_,S,K,J,rfl⟩ | ⟨x,y,e,_⟩
  .cases e
  .have O:x=Z :=by simpa using e
   subst O;have:=(X.inj S).2;rw[YT this]
  .cases e
 .rcases h' with⟨e,_⟩ | ⟨Z,V,e,_⟩ | ⟨Z,G,_,e,_,_,rfl⟩
  .cases e
  .cases e
  .simp only[List.cons.injEq,AV.str.injEq,and_true] at e
   rw[kW e.1,kW e.2]
theorem N6(m1:M[pb]? =some (.cells o1 2 (pC s.P)))(m2:M[tb]? =some (.cells o2 3 (tC s.T)))(H:vSm D (10 ^ 22) p)(I:D<=(10 ^ 63))(R:Vb s.P (p.1,p.2.1) s.T 0=some (j,w)):adM prog (tI (nr s pb tb bv uv sv p M j w)):=QD fun c a N r h=>by
 have l1:=gL m1;have l2:=gL m2;rcases h with⟨rfl,rfl,rfl,rfl⟩ | ⟨x,Q,rfl,rfl,rfl,X,W,h3,rfl⟩ | ⟨x,y,rfl,rfl,X,W,rfl⟩
 .exact aE (uH (by rfl) (by rfl) (Q8 (Qj s H I) R) (gU m1 _) (gU m2 _))
 .obtain⟨i,t,Y,V,Z,rfl,_⟩:=xM R
  obtain rfl:i=j:=by omega
  obtain⟨A,B,C,S,O,K,hS⟩:=DZ s V;have et:s.T.getD i (0,0,0)=t:=by simp[List.getD,V]
  have eA:D7 s.P (p.1,p.2.1) t=D9 A B C (p.1,p.2.1):=by unfold D7;simp[List.getD,S,O,K]
  have b1:=gL S;have b2:=gL O;have b3:=gL K;obtain⟨f1,J⟩:∃f,Q[t.1]? =some f:=⟨_,GT (by omega)⟩
  obtain⟨f2,G⟩:∃f,Q[t.2.1]? =some f:=⟨_,GT (by omega)⟩
  obtain⟨f3,F⟩:∃f,Q[t.2.2]? =some f:=⟨_,GT (by omega)⟩
  have hq:Ir s i (D7 s.P (p.1,p.2.1) t) Q=Yy (D7 s.P (p.1,p.2.1) t) f1 f2 f3:=by unfold Ir;rw[et];simp[List.getD,J,G,F]
  rw[hq];rw[eA] at Z |-;have z:=(XM (q:=(p.1,p.2.1)) (VA s) (Lo S) (Lo O) (Lo K) hS H.1 H.2.1 I Z (h3 _ (Lo J)) (h3 _ (Lo G)) (h3 _ (Lo F))).1;obtain⟨u,o,rfl,m⟩:=X.pos (by have:=(jr s).1;omega);have l3:=gL m;exact aE (IK (N:=M++[.cells true 0 [.slice pb 0 s.P.length none,.slice tb 0 s.T.length none],.cells true 0 [bv,uv,sv],.cells true 0 (vL p),.cells true 0 [.int .i64 (i:Int)],.cells true 0 (vL (D9 A B C (p.1,p.2.1)))]) (a3:=M.length) (a7:=M.length+3) (a8:=M.length+4) (tb:=tb) (fb:=u) (pv:=.slice pb 0 s.P.length none) (by rw[wo];rfl) (gU m2 _) rfl (by rw[iG];rfl) (by rw[iG];rfl) (gU m _) rfl V J G F z)
 .have:aq 85 [.str (aB x),.str (aB y)]=some (.int .i64 (nL x y)):=by unfold aga at X W;simp[aq,aI,aw,X,W]
  have:=cw.fn _ _ N ⟨.int .i64 (nL x y),none,[]⟩ (by unfold af;simp only;rw[this]);exact aC (by simpa [afA.mem] using this)
end
end Go.Proofs
namespace Go.Proofs
open Go.Eng
open Tryz
theorem agi.val{N:Mem}{v:AV}{es n:Nat}{C:List AV}(h:agi N v es n C):v.af2=true/\v.known=true/\v.cells=[v]:=by
 rcases h with⟨rfl,_⟩ | ⟨b,o,rfl,_⟩
 .exact⟨rfl,rfl,rfl⟩
 .exact⟨rfl,rfl,rfl⟩
variable{Z:List Int}
section
variable {s:af8}{M:Mem}{p:V3}{D:Nat}
theorem N7{O:af3}{pv tv bv uv sv:AV}{S1 S2 S3:List UInt8}(ck:pv.af2=true/\tv.af2=true/\bv.af2=true/\uv.af2=true/\sv.af2=true)(y:pv.known=true/\tv.known=true/\bv.known=true/\uv.known=true/\sv.known=true)(cs:pv.cells=[pv]/\tv.cells=[tv]/\bv.cells=[bv]/\uv.cells=[uv]/\sv.cells=[sv])(H:O (.fn 134) [.agg [pv,tv],vA p] (M++[.cells true 0 [pv,tv],.cells true 0 [bv,uv,sv],.cells true 0 (vL p)])=some ⟨.tuple [.int .i64 0,.agg [.str S1,.str S2,.str S3],.bool false],none,[]⟩):
  aa (aU prog) (fun _=>[11]) (aS prog) O 2 84 [.agg [pv,tv],.agg [bv,uv,sv],vA p] M=some ⟨.int .i64 (-2),none,[]⟩:=by
 have W:aS prog 84=some f84:=by kernel_rfl
 have w2:IntKind.i64.wrap (-2)= -2:=rfl;have X:∀j,(M.length+j<M.length)=False:=fun j=>gN _ _
 obtain⟨V,S,K,J,G⟩:=ck;obtain⟨F,C,B,A,z⟩:=y;obtain⟨u,m,Y,R,Q⟩:=cs;unfold vA at*;simp only[vL] at*;simp[-getElem?_pos,-AV.af2,-AV.known,-AV.cells,-cG,-List.all_eq_true,vS,mS,aa,W,f84,X,H]
theorem ZF(h:∀z∈Z,z.natAbs<1000):∀q∈qH Z,Sm 2 500 q:=fun q hq=>by unfold qH at hq;rw[QQj] at hq;obtain⟨z,X,rfl⟩:=hq;exact Zi (h z X)
theorem Q3{H tb:Nat}{o1 o2:Bool}{bv uv sv:AV}{us:List (List UInt8)}{I:List (List Int)}(hw:EvD.Ok s (.dep Z us I))(k1:agi M bv 1 (hT Z).length (stC (hT Z)))(k2:agi M uv 1 us.length (stC us))(k3:ahm M sv (I.map hT))(R:vSm D (10 ^ 22) p)(hD:D<=(10 ^ 63))(m1:M[H]? =some (.cells o1 2 (pC s.P)))(m2:M[tb]? =some (.cells o2 3 (tC s.T))):
  kO prog 84 [.agg [.slice H 0 s.P.length none,.slice tb 0 s.T.length none],.agg [bv,uv,sv],vA p] M (.int .i64 (Y9 s Z I p)) M:=by
 have l1:=gL m1;have l2:=gL m2;obtain⟨F,v1,v2,v3⟩:=k3;obtain⟨b1,b2,b3⟩:=k1.val;obtain⟨u1,u2,u3⟩:=k2.val;obtain⟨s1,s2,s3⟩:=v2.val;unfold Y9;cases hl:Vb s.P (p.1,p.2.1) s.T 0 with
 |none=>
  obtain⟨S1,S2,S3,hc⟩:=Q7 (Qj s R hD) hl;have hO:adM prog (cX [(134,[.agg [.slice H 0 s.P.length none,.slice tb 0 s.T.length none],vA p],(fun N=>N=M++[.cells true 0 [.slice H 0 s.P.length none,.slice tb 0 s.T.length none],.cells true 0 [bv,uv,sv],.cells true 0 (vL p)]),⟨.tuple [.int .i64 0,.agg [.str S1,.str S2,.str S3],.bool false],none,[]⟩)]):=iM fun y hy N hN=>by rw[List.mem_singleton] at hy;subst hy;subst hN;exact aE (uH (by rfl) (by rfl) hc (gU m1 _) (gU m2 _))
  exact CI hO (N7 (M:=M) (p:=p) ⟨rfl,rfl,b1,u1,s1⟩ ⟨rfl,rfl,b2,u2,s2⟩ ⟨rfl,rfl,b3,u3,s3⟩ (bo rfl))
 |some jw=>
  obtain⟨j,w⟩:=jw;simp only;have hO:=N6 (bv:=bv) (uv:=uv) (sv:=sv) m1 m2 R hD hl;have z:(qH Z).length=s.P.length:=by rw[<-hw.1];simp[qH]
  have u:=ZF hw.2.2.2.1;have fp:aga p.2.2:=R.2.2.aga;have m:∀Q:List Rat,Q.length=s.P.length->(∀q∈Q,Sm 2 500 q)->aga (Ir s j w Q):=fun Q hQ X=>by
   obtain⟨i,t,hji,W,hin,rfl,_⟩:=xM hl;obtain rfl:i=j:=by omega
   obtain⟨A,B,C,hA,hB,hC,hSp⟩:=DZ s W;have et:s.T.getD i (0,0,0)=t:=by simp[List.getD,W]
   have eA:D7 s.P (p.1,p.2.1) t=D9 A B C (p.1,p.2.1):=by unfold D7;simp[List.getD,hA,hB,hC]
   have a1:=gL hA;have a2:=gL hB;have a3:=gL hC;obtain⟨f1,q1⟩:∃f,Q[t.1]? =some f:=⟨_,GT (by omega)⟩
   obtain⟨f2,q2⟩:∃f,Q[t.2.1]? =some f:=⟨_,GT (by omega)⟩
   obtain⟨f3,q3⟩:∃f,Q[t.2.2]? =some f:=⟨_,GT (by omega)⟩
   have hq:Ir s i (D7 s.P (p.1,p.2.1) t) Q=Yy (D7 s.P (p.1,p.2.1) t) f1 f2 f3:=by unfold Ir;rw[et];simp[List.getD,q1,q2,q3]
   rw[hq];rw[eA] at hin |-;exact(XM (q:=(p.1,p.2.1)) (VA s) (Lo hA) (Lo hB) (Lo hC) hSp R.1 R.2.1 hD hin (X _ (Lo q1)) (X _ (Lo q2)) (X _ (Lo q3))).2
  have rb:=k1.refs;have ru:=k2.refs;have rs:=v2.refs;have hYl:(I.map hT).length=I.length:=QQi ..;have aaC:agi M bv 1 (qH Z).length (stC ((qH Z).map aB)):=by have:hT Z=(qH Z).map aB:=rfl;rw[this,QQi] at k1;exact k1
  obtain⟨hs,S⟩:=xE (I.map fun Y=>Ir s j w (qH Y));have hsl:hs.length=I.length:=by rw[S,QQi]
  rw[<-S];have K:(sv=.y9/\hs=[])\/∃V o,sv=.slice V 0 hs.length none/\M[V]? =some (.cells o 1 F):=by
   rcases v2 with⟨h1,h2,_⟩ | ⟨b,o,h1,h2,h3⟩
   .exact .inl ⟨h1,M0 (by omega)⟩
   .exact .inr ⟨b,o,by rw[hsl,<-hYl];exact h1,h3⟩
  obtain⟨V,K⟩:∃V,(sv=.y9/\hs=[])\/∃o,sv=.slice V 0 hs.length none/\M[V]? =some (.cells o 1 F):=by
   rcases K with h | ⟨V,o,h⟩
   .exact⟨0,.inl h⟩
   .exact⟨V,.inr ⟨o,h⟩⟩
  have I':∀(i:Nat) x,F[i]? =some x->∃Y,I[i]? =some Y/\agi M x 1 (qH Y).length (stC ((qH Y).map aB))/\(qH Y).length=s.P.length/\(∀q∈qH Y,Sm 2 500 q):=fun i x J=>by
   obtain⟨Y,hY⟩:∃Y,I[i]? =some Y:=⟨_,GT (by have:=gL J;omega)⟩
   have G:=v3 i x (hT Y) J (by simp[hY]);have e:hT Y=(qH Y).map aB:=rfl;rw[e,QQi] at G;obtain⟨y1,y2⟩:=hw.2.2.2.2 Y (Lo hY);exact⟨Y,hY,G,by rw[<-y1];simp[qH],ZF y2⟩
  refine CI hO (N8 (O:=tI (nr s H tb bv uv sv p M j w)) (M:=M) (p:=p) (h0:=Ir s j w (qH Z)) (j:=j) (w:=w) (vs:=F) ⟨rfl,rfl,b1,u1,s1⟩ ⟨rfl,rfl,b2,u2,s2⟩ ⟨rfl,rfl,b3,u3,s3⟩ (fun x=>⟨by simp only[AV.afF,L0];omega,by simp only[AV.afF,L0];omega,rb x,ru x,rs x⟩) K (by omega) (by have:=hw.2.2.1;omega) (fun x J=>?_) ?_ ?_ ?_ ?_)
  .obtain⟨i,W⟩:=QQg J
   obtain⟨Y,_,G,_⟩:=I' i x W;exact G.refs 0
  .exact kg (.inl ⟨rfl,rfl,rfl,rfl⟩) fun r' h=>lh (.inl ⟨rfl,rfl,rfl,rfl⟩) h
  .have X:nr s H tb bv uv sv p M j w (.fn 135) [bv,.ptr M.length 0,.ptr (M.length+3) 0,.ptr (M.length+4) 0] _ ⟨.str (aB (Ir s j w (qH Z))),none,[]⟩:=.inr (.inl ⟨bv,qH Z,rfl,rfl,rfl,aaC,z,u,rfl⟩)
   exact kg X fun r' h=>lh X h
  .have X:∀N,nr s H tb bv uv sv p M j w (.fn 85) [.str (aB p.2.2),.str (aB (Ir s j w (qH Z)))] N ⟨.int .i64 (nL p.2.2 (Ir s j w (qH Z))),none,[]⟩:=fun N=>.inr (.inr ⟨_,_,rfl,rfl,fp,m _ z u,rfl⟩)
   exact kg (X _) fun r' h=>lh (X _) h
  .intro i h W
   obtain⟨x,J⟩:∃x,F[i]? =some x:=⟨_,GT (by have:=gL W;omega)⟩
   obtain⟨Y,hY,G,y1,y2⟩:=I' i x J;have e:h=Ir s j w (qH Y):=by rw[S,QQX,hY] at W;simpa using W.symm
   obtain⟨r1,r2,r3⟩:=G.val;subst e;have X:nr s H tb bv uv sv p M j w (.fn 135) [x,.ptr M.length 0,.ptr (M.length+3) 0,.ptr (M.length+4) 0] _ ⟨.str (aB (Ir s j w (qH Y))),none,[]⟩:=.inr (.inl ⟨x,qH Y,rfl,rfl,rfl,G,y1,y2,rfl⟩);have hS2:∀N,nr s H tb bv uv sv p M j w (.fn 85) [.str (aB (Ir s j w (qH Y))),.str (aB p.2.2)] N ⟨.int .i64 (nL (Ir s j w (qH Y)) p.2.2),none,[]⟩:=fun N=>.inr (.inr ⟨_,_,rfl,rfl,m _ y1 y2,fp,rfl⟩)
   exact⟨x,J,r1,r3,fun f=>.inr trivial,kg X fun r' h=>lh X h,kg (hS2 _) fun r' h=>lh (hS2 _) h⟩
end
end Go.Proofs
namespace Go.Proofs
open Go.Eng
open Tryz
noncomputable def nuE(s:af8):EvD->V3->Int
 |.dep Z _ Ys,p=>Y9 s Z Ys p
 |.fault n o _,p=>if (o:Rat)<=gm (zV n) p then 1 else 0
 |.fold n d c _,p=>(cz (cJ d c) (gm (zV n) p):Int)
 |.ahG n o w _,p=>if gm (zV n) p-(o:Rat)<0 then 0 else if gm (zV n) p-(o:Rat)<hQ w then 1 else 2
 |.ahM ..,_=>0
theorem Xw{a:Rat}:oB a<0↔a<0:=by
 have h:=DY (a:=a);constructor
 .intro X
  exact Rat.not_le.1 fun Z=>by have:=h.2 Z;omega
 .intro X
  have:¬0<=oB a:=fun Z=>absurd (h.1 Z) (Rat.not_le.2 X)
  omega
theorem sk:(aN f50).map (fun o=>fN o.toList)=[[0,1,3,7,0,31,0,64,192,448,1023,2047],[0,1,3,0,8,24,0,120,255,511,1023,1023,2047,8191],[0,1,3,7,0,31,0,64,192,448,1023,2047]]:=by kernel_rfl
variable{o:Int}{v:Z3}
section
variable {a b:Nat}{nm:List UInt8}{p:V3}
theorem ahb:aS prog 50=some f50:=by kernel_rfl
theorem ahF:be [0,1,3,7,0,31,0,64,192,448,1023,2047] 11=true:=by decide
theorem BW{n:Z3}(d:agw (zV n) p)(y:aga (gm (zV n) p))(H:aga (o:Rat)):
  kO prog 50 [.agg [.slice 0 0 a none,.slice 1 0 b none],.agg (cO nm n o v),vA p] [.HS,.HS] (.int .i64 (if (o:Rat)<=gm (zV n) p then 1 else 0)) [.HS,.HS]:=by
 obtain⟨X,W⟩:=y;obtain⟨M,K⟩:=H;obtain⟨F,J⟩:∃F,aN f50=F:=⟨_,rfl⟩
 have D:=bP J sk;simp only[aN,cj,f50,lA] at J;subst J;simp only[lB] at D;obtain⟨S,C,B⟩:=D;have Z:0<=nL (gm (zV n) p) (o:Rat)↔(o:Rat)<=gm (zV n) p:=OY;obtain⟨N,O⟩:=xE (zV n);rw[<-O] at d X W Z |-;obtain⟨q,hq⟩:=xE (α:=Rat) (o:Rat);rw[<-hq] at M K Z |-;obtain⟨G,V⟩:=xE (gm N p);rw[<-V] at X W Z |-;unfold zV at O;have h:aa (aU prog) (fun _=>[]) (aS prog) (af dQ) 1 50 [.agg [.slice 0 0 a none,.slice 1 0 b none],.agg (cO nm n o v),vA p] [.HS,.HS]=some ⟨.int .i64 (if q<=G then 1 else 0),none,[]⟩:=by
  by_cases hc:q<=G
  .have c:=Z.2 hc
   simp[aa,ahb,f50,af,dQ,eJ,dG,aq,aI,vA,cO,zS,yh,aw,<-O,<-hq,<-V,d,X,W,M,K,c,hc,-aJ,ak S,bt,bj,bp,ahF,Nat.testBit]
  .have c:¬0<=nL G q:=fun h=>hc (Z.1 h)
   simp[aa,ahb,f50,af,dQ,eJ,dG,aq,aI,vA,cO,zS,yh,aw,<-O,<-hq,<-V,d,X,W,M,K,c,hc,-aJ,ak S,bt,bj,bp,ahF,Nat.testBit]
 have:=(ah ae (al _) ky (ao _) h).1;simpa [afA.mem] using this
theorem Ev{n:Z3}{w:Int}{u:List UInt8}(d:agw (zV n) p)(H:aga (gm (zV n) p))(I:aga (o:Rat))(Q:aga (hQ w))(fs:aga (gm (zV n) p-(o:Rat))):
  kO prog 50 [.agg [.slice 0 0 a none,.slice 1 0 b none],.agg (dY nm n o w u),vA p] [.HS,.HS] (.int .i64 (if gm (zV n) p-(o:Rat)<0 then 0 else if gm (zV n) p-(o:Rat)<hQ w then 1 else 2)) [.HS,.HS]:=by
 obtain⟨Z,X⟩:=H;obtain⟨G,F⟩:=I;obtain⟨w1,w2⟩:=Q;obtain⟨S,O⟩:=fs;obtain⟨m,A⟩:∃m,aN f50=m:=⟨_,rfl⟩
 have j:=bP A sk;simp only[aN,cj,f50,lA] at A;subst A;simp only[lB] at j;obtain⟨hb0,hb1,V⟩:=j;obtain⟨N,M⟩:=xE (zV n);rw[<-M] at d Z X S O |-;obtain⟨q,hq⟩:=xE (α:=Rat) (o:Rat);rw[<-hq] at G F S O |-;obtain⟨dt,W⟩:=xE (gm N p);rw[<-W] at Z X S O |-;obtain⟨y,D⟩:=xE (hQ w);rw[<-D] at w1 w2 |-;obtain⟨x,C⟩:=xE (dt-q);rw[<-C] at S O |-;have Y:=Xw (a:=x);have R:=HN (a:=x) (b:=y);unfold zV at M;have h:aa (aU prog) (fun _=>[]) (aS prog) (af dQ) 1 50 [.agg [.slice 0 0 a none,.slice 1 0 b none],.agg (dY nm n o w u),vA p] [.HS,.HS]=some ⟨.int .i64 (if x<0 then 0 else if x<y then 1 else 2),none,[]⟩:=by
  by_cases K:x<0
  .have:=Y.2 K
   simp[aa,ahb,f50,af,dQ,eJ,dG,aq,aI,ba,aX,vA,dY,zS,yh,aw,<-M,<-hq,<-W,<-C,<-D,d,Z,X,G,F,this,K,-aJ,ak V,bt,bj,bp,ahF,Nat.testBit]
  .have J :¬oB x<0:=fun h=>K (Y.1 h)
   by_cases B:x<y
   .have:=R.2 B
    simp[aa,ahb,f50,af,dQ,eJ,dG,aq,aI,ba,aX,vA,dY,zS,yh,aw,<-M,<-hq,<-W,<-C,<-D,d,Z,X,G,F,S,O,w1,w2,this,K,J,B,-aJ,ak V,bt,bj,bp,ahF,Nat.testBit]
   .have z :¬nL x y<0:=fun h=>B (R.1 h)
    simp[aa,ahb,f50,af,dQ,eJ,dG,aq,aI,ba,aX,vA,dY,zS,yh,aw,<-M,<-hq,<-W,<-C,<-D,d,Z,X,G,F,S,O,w1,w2,K,J,B,z,-aJ,ak V,bt,bj,bp,ahF,Nat.testBit]
 have:=(ah ae (al _) ky (ao _) h).1;simpa [afA.mem] using this
theorem Ew{n:Z3}{L:List P2}(d:agw (zV n) p)(y:Y4 L (gm (zV n) p))(H:0<L.length)(I:L.length<=1000):
  kO prog 50 [.agg [.slice 0 0 a none,.slice 1 0 b none],.agg (cn nm n (.slice 2 0 L.length none) v),vA p] [.HS,.HS,.cells false 2 (kC (Go.Proofs.kT L))] (.int .i64 (cz L (gm (zV n) p):Int)) [.HS,.HS,.cells false 2 (kC (Go.Proofs.kT L))]:=by
 have X:adM prog (af3.or (fU 87 [.slice 2 0 L.length none,.str (aB (gm (zV n) p))] (.tuple [.int .i64 (cz L (gm (zV n) p):Int),.str (aB (gB L (gm (zV n) p)))]) (fun N=>∃Z,N=af6.HS::.HS::.cells false 2 (kC (Go.Proofs.kT L))::Z)) (af dQ)):=
  adM.or (gn fun N ⟨Z,hZ⟩=>by subst hZ;exact wR H I (b:=2) (o:=false) rfl y) ky
 obtain⟨M,W⟩:∃M,aN f50=M:=⟨_,rfl⟩
 have K:=bP W sk;simp only[aN,cj,f50,lA] at W;subst W;simp only[lB] at K;obtain⟨G,V,F⟩:=K;have D:be [0,1,3,0,8,24,0,120,255,511,1023,1023,2047,8191] 13=true:=by decide
 obtain⟨N,S⟩:=xE (zV n);rw[<-S] at d X |-;obtain⟨u,hu⟩:=xE (gm N p);rw[<-hu] at X |-;obtain⟨x,C⟩:=xE (gB L u);rw[<-C] at X;obtain⟨J,O⟩:=xE (cz L u);rw[<-O] at X |-;unfold zV at S;have h:aa (aU prog) (fun _=>[]) (aS prog) (af3.or (fU 87 [.slice 2 0 L.length none,.str (aB u)] (.tuple [.int .i64 (J:Int),.str (aB x)]) (fun N=>∃Z,N=af6.HS::.HS::.cells false 2 (kC (Go.Proofs.kT L))::Z)) (af dQ)) 1 50 [.agg [.slice 0 0 a none,.slice 1 0 b none],.agg (cn nm n (.slice 2 0 L.length none) v),vA p] [.HS,.HS,.cells false 2 (kC (Go.Proofs.kT L))]=some ⟨.int .i64 (J:Int),none,[]⟩:=by clear X;simp[aa,ahb,f50,af3.or,fU,af,dQ,eJ,dG,vA,cn,zS,yh,<-S,<-hu,d,-aJ,ak V,bt,bj,bp,D,Nat.testBit]
 have:=(ah ae (al _) X (ao _) h).1;simpa [afA.mem] using this
end
theorem Ex{pv tv:AV}(y:pv.af2=true)(H:tv.af2=true)(nm:List UInt8)(t:Int×Int×Int×Int)(c:Z3)(p:V3)(M:Mem):
  kO prog 50 [.agg [pv,tv],.agg (eG nm t c),vA p] M (.int .i64 0) M:=by
 refine fM (aj _) ?_;have Z:∀s,(AV.str s).af2=true:=fun _=>rfl
 have X:∀k n,(AV.int k n).af2=true:=fun _ _=>rfl
 simp[-AV.af2,aa,ahb,f50,eG,vA]
variable{M:Mem}{x:Int}
theorem GG{pv tv b u sv y:AV}{c:Evc}{p:V3}(hk:c.k=1)(H:pv.af2=true)(I:tv.af2=true)(Q:b.af2=true)(hu:u.af2=true)(hs:sv.af2=true)(R:y.af2=true)(h:∀Z,kO prog 84 [.agg [pv,tv],.agg [b,u,sv],vA p] (M++Z) (.int .i64 x) (M++Z)):
  kO prog 50 [.agg [pv,tv],.agg (c.cells b u sv y),vA p] M (.int .i64 x) M:=by
 have X:adM prog (fU 84 [.agg [pv,tv],.agg [b,u,sv],vA p] (.int .i64 x) (fun N=>∃Z,N=M++Z)):=gn fun N ⟨Z,hZ⟩=>by subst hZ;exact h Z
 clear h;refine fM X ?_;clear X;have W:∀s,(AV.str s).af2=true:=fun _=>rfl
 have V:∀k n,(AV.int k n).af2=true:=fun _ _=>rfl
 simp[-AV.af2,aa,ahb,f50,fU,Evc.cells,vA,hk]
theorem Cy{A B:AV}{a b y tb:Nat}(H:A.closed=true)(I:B.closed=true)(Q:y<M.length)(R:tb<M.length)(h:kO prog 50 [.agg [.slice 0 0 a none,.slice 1 0 b none],A,B] [.HS,.HS] (.int .i64 x) [.HS,.HS]):
  kO prog 50 [.agg [.slice y 0 a none,.slice tb 0 b none],A,B] M (.int .i64 x) M:=by
 have X:AV.af9 [A,B]=true:=by simp[AV.af9,H,I]
 have:=kO.frame (f:=50) (args:=[.agg [.slice 0 0 a none,.slice 1 0 b none],A,B]) (v:=.int .i64 x) (M:=M) (m:=[.HS,.HS]) (new:=[]) [y,tb] rfl (by simp[Q,R]) (by have:=cT (n:=2) X;simpa [AV.agn,AV.under] using this) (fun i t Z=>by
  match i with
  |0=>simp at Z;subst Z;trivial
  |1=>simp at Z;subst Z;trivial
  |i+2=>simp at Z) rfl (by rw[List.append_nil];exact h)
 simpa [AV.agd,AV.ren,eg,iI _ _ H,iI _ _ I] using this
section
variable {s:af8}{w:EvD}{D:Nat}{p:V3}
theorem Rd{Q tb:Nat}{o1 o2:Bool}{R:List AV}{nm:List UInt8}(h:agO M R (w.con nm))(y:w.Ok s)(H:vSm D (10 ^ 22) p)(I:D<=(10 ^ 63))(m1:M[Q]? =some (.cells o1 2 (pC s.P)))(m2:M[tb]? =some (.cells o2 3 (tC s.T))):
  kO prog 50 [.agg [.slice Q 0 s.P.length none,.slice tb 0 s.T.length none],.agg R,vA p] M (.int .i64 (nuE s w p)) M:=by
 have C:=gL m1;have B:=gL m2;have d0:=H.1.1;obtain⟨b,u,j,kn,rfl,S,O,J,G⟩:=h;have Y:j.af2=true:=by obtain⟨_,_,h3,_⟩:=J;exact h3.ck
 cases w with
 |dep Z us Ys=>
  refine GG rfl rfl rfl S.ck O.ck Y G.ck fun X=>?_
  exact Q3 y (S.more X) (O.more X) (J.more X) H I (gU m1 _) (gU m2 _)
 |ahG n o w u=>
  obtain rfl:=S.agB rfl;obtain rfl:=O.agB rfl;obtain rfl:=J.agB rfl;obtain rfl:=G.agB rfl;have F:Sm D 4 (o:Rat):=(Sm.int (V:=4) y.2.2.1).to (Nat.one_dvd _) d0 (L9 _);exact Cy (by rfl) (by rfl) C B (Ev (xB y.1 H I) ((FQ y.1 H).aga) (F.aga) ((Zi (z:=w) (by have:=y.2.2.2;omega)).aga) (((FQ y.1 H).sub F).aga))
 |fault n o v=>
  obtain rfl:=S.agB rfl;obtain rfl:=O.agB rfl;obtain rfl:=J.agB rfl;obtain rfl:=G.agB rfl;have F:Sm D 4 (o:Rat):=(Sm.int (V:=4) y.2.2.1).to (Nat.one_dvd _) d0 (L9 _);exact Cy (by rfl) (by rfl) C B (BW (xB y.1 H I) ((FQ y.1 H).aga) (F.aga))
 |ahM i c=>
  obtain rfl:=S.agB rfl;obtain rfl:=O.agB rfl;obtain rfl:=J.agB rfl;obtain rfl:=G.agB rfl;exact Ex rfl rfl nm (cK i) c p M
 |fold n d c v=>
  obtain rfl:=S.agB rfl;obtain rfl:=O.agB rfl;obtain rfl:=J.agB rfl;have e:(EvD.con nm (.fold n d c v)).K.length=(cJ d c).length:=ib _;have A:0<(cJ d c).length:=by rw[dK];exact y.2.2.1
  rw[e] at G;obtain⟨kb,q,rfl,m⟩:=G.pos A;have lb:=gL m;have h0:=Ew (a:=s.P.length) (b:=s.T.length) (nm:=nm) (v:=v) (xB y.1 H I) (U5 (Dq d c y.2.2.2.1) (FQ y.1 H) I) A (by rw[dK];have:=y.2.2.2.1;omega);have:=kO.frame (M:=M) (new:=[]) [Q,tb,kb] rfl (by simp[C,B,lb]) (by rfl) (fun i t W=>by
   match i with
   |0=>simp at W;subst W;trivial
   |1=>simp at W;subst W;trivial
   |2=>simp at W;subst W;exact DW (o:=q) m (GE (by rw[lE,ib];omega))
   |i+3=>simp at W) rfl h0
  simpa [nuE,cn,vA,AV.agd,AV.ren,eg,Evc.cells,EvD.con,Md] using this
end
end Go.Proofs
namespace Go.Proofs
open Go.Eng
open Tryz
noncomputable def UB:EvD->Int->Option (List UInt8)
 |.dep _ us _,n=>if n= -2 then some [] else if 0<=n then some (us.getD n.toNat []) else none
 |.ahG _ _ _ u,n=>if n=1 then some u else none
 |_,_=>none
def Qa:Option (List UInt8)->AV
 |none=>.tuple [.str [],.bool false]
 |some u=>.tuple [.str u,.bool true]
def aai:EvD->Int->Prop
 |.dep _ us _,n=>n<us.length
 |_,_=>True
variable{s:af8}{w:EvD}
theorem Vm(y:w.Ok s)(p:V3):aai w (nuE s w p):=by
 cases w with
 |dep Z us Ys=>
  have X:=y.2.1;show Y9 s Z Ys p<(us.length:Int)
  unfold Y9;split
  .omega
  .rename_i j w e
   have:=OZ p.2.2 (Ys.map fun Y=>Ir s j w (qH Y));rw[QQi] at this;split<;>omega
 |_=>trivial
variable{c:Evc}
section
variable {nm:List UInt8}
theorem ahq:aS prog 51=some f51:=by kernel_rfl
theorem Eo{b u sv I:AV}{x:Int}{M:Mem}{us:List (List UInt8)}{H:Nat}{o:Bool}(hk:c.k=1)(Q:b.af2=true)(hu:u=.slice H 0 us.length none)(hs:sv.af2=true)(R:I.af2=true)(hr:M[H]? =some (.cells o 1 (stC us)))(hx:x<us.length)(Y:us.length<=1000):
  kO prog 51 [.agg (c.cells b u sv I),.int .i64 x] M (Qa (if x= -2 then some [] else if 0<=x then some (us.getD x.toNat []) else none)) M:=by
 have w2:IntKind.i64.wrap (-2)= -2:=rfl;have K:∀s,(AV.str s).af2=true:=fun _=>rfl
 have J:∀k n,(AV.int k n).af2=true:=fun _ _=>rfl
 have G:∀b o n c,(AV.slice b o n c).af2=true:=fun _ _ _ _=>rfl
 subst hu;have C:=gL hr;have W :∀Z,(M++Z)[H]? =some (.cells o 1 (stC us)):=fun Z=>gU hr _
 have h:aa (aU prog) (fun _=>[]) (aS prog) bD 1 51 [.agg (c.cells b (.slice H 0 us.length none) sv I),.int .i64 x] M=some ⟨Qa (if x= -2 then some [] else if 0<=x then some (us.getD x.toNat []) else none),none,[]⟩:=by
  by_cases O:x= -2
  .subst O
   simp[-AV.af2,aa,ahq,f51,Evc.cells,Qa,hk]
  .by_cases F:0<=x
   .obtain⟨k,rfl⟩:∃k:Nat,x=k:=⟨x.toNat,by omega⟩
    have X:k<us.length:=by omega
    obtain⟨y,V⟩:∃y,us[k]? =some y:=⟨_,GT X⟩
    have B:us.getD k []=y:=by simp[List.getD,V]
    have S:(stC us)[k]? =some (.str y):=uQ V;have D:k+1<=(stC us).length:=by rw[ga];omega
    have h3:¬((k:Int)= -2):=by omega
    simp[-AV.af2,aa,ahq,f51,Evc.cells,Qa,hk,W,X,S,h3];exact((N4.1 V).2).symm
   .simp[-AV.af2,aa,ahq,f51,Evc.cells,Qa,hk,O,F]
 have:=(ah ae (al _) (aj _) (ao _) h).1;simpa [afA.mem] using this
theorem pw{b u sv y:AV}{x:Int}{M:Mem}(hk:c.k≠1/\c.k≠4)(H:b.af2=true)(hu:u.af2=true)(hs:sv.af2=true)(I:y.af2=true):
  kO prog 51 [.agg (c.cells b u sv y),.int .i64 x] M (Qa none) M:=by
 have Z:∀s,(AV.str s).af2=true:=fun _=>rfl
 have X:∀k n,(AV.int k n).af2=true:=fun _ _=>rfl
 obtain⟨W,V⟩:=hk;refine fM (aj _) ?_;simp[-AV.af2,aa,ahq,f51,Evc.cells,Qa,W,V]
theorem BS{b u sv y:AV}{x:Int}{M:Mem}(hk:c.k=4)(H:b.af2=true)(hu:u.af2=true)(hs:sv.af2=true)(I:y.af2=true):
  kO prog 51 [.agg (c.cells b u sv y),.int .i64 x] M (Qa (if x=1 then some c.x24 else none)) M:=by
 have X:∀s,(AV.str s).af2=true:=fun _=>rfl
 have W:∀k n,(AV.int k n).af2=true:=fun _ _=>rfl
 refine fM (aj _) ?_;by_cases Z:x=1
 .subst Z
  simp[-AV.af2,aa,ahq,f51,Evc.cells,Qa,hk]
 .simp[-AV.af2,aa,ahq,f51,Evc.cells,Qa,hk,Z]
end
theorem NB{M:Mem}{y:List AV}{nm:List UInt8}{n:Int}(h:agO M y (w.con nm))(H:w.Ok s)(I:aai w n):
  kO prog 51 [.agg y,.int .i64 n] M (Qa (UB w n)) M:=by
 obtain⟨b,u,O,G,rfl,X,W,K,V⟩:=h;have S:O.af2=true:=by obtain⟨_,_,h3,_⟩:=K;exact h3.ck
 cases w with
 |dep Z us Ys=>
  have F:us.length=Ys.length+1:=H.2.1;obtain⟨D,o,hu,J⟩:=W.pos (show 0<us.length by omega);exact Eo rfl X.ck hu S V.ck J I (by have:=H.2.2.1;omega)
 |ahG n o w u=>exact BS rfl X.ck W.ck S V.ck
 |fault n o v=>exact pw ⟨show(2:Int)≠1 by decide,show(2:Int)≠4 by decide⟩ X.ck W.ck S V.ck
 |fold n d c v=>exact pw ⟨show(3:Int)≠1 by decide,show(3:Int)≠4 by decide⟩ X.ck W.ck S V.ck
 |ahM i c=>exact pw ⟨show(5:Int)≠1 by decide,show(5:Int)≠4 by decide⟩ X.ck W.ck S V.ck
end Go.Proofs
