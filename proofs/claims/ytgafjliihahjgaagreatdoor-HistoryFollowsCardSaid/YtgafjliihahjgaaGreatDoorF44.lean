/- See F54. -/
import Derived.Test.YtgafjliihahjgaaGreatDoorF43
set_option linter.all false
set_option maxRecDepth 100000
set_option maxHeartbeats 40000000
namespace Go.Proofs
open Go.Eng
theorem Vk:∀k<8,∀p∈dM k,0≤p.1∧p.1≤6∧0≤p.2∧p.2≤6:=by decide
theorem rN{a:Rat}:0≤jV a↔0≤a:=by
 have h:0≤jV a↔0≤a.num:=by
  unfold jV mJ;split
  ·omega
  ·split<;>omega
 rw[h,Rat.num_nonneg]
theorem Xe{a:Rat}(h:0<jV a):0<a:=by
 have Z:=rN.1 (show 0≤jV a by omega);have X:a≠0:=by rintro rfl;exact absurd h (by decide)
 grind
structure PtS (P:List P2):Prop where
 p:∀a∈P,Sm 2 13 a.1∧Sm 2 13 a.2
 d:∀a∈P,∀b∈P,Sm 2 6 (b.1-a.1)∧Sm 2 6 (b.2-a.2)
variable{n:Int}
theorem GP{V:Nat}{c:Nat}(hc:c=1∨c=2)(A:n.natAbs≤V):Sm 2 V (mkRat n c):=by
 rcases hc with rfl | rfl
 ·exact(CS (V:=V) (by decide) (by omega)).to (by decide) (by decide) (Nat.le_refl V)
 ·exact CS (by decide) (by omega)
theorem Xr{m:Int}{c:Nat}(hc:0<c):mkRat n c-mkRat m c=mkRat (n-m) c:=by
 rw[xH,xH,xH,Rat.intCast_sub]
 grind
theorem yK(s:aeX):PtS s.P:=by
 have Z:∀a∈s.P,∃x y:Int,(0≤x∧x≤6∧0≤y∧y≤6)∧a=s.pt 1 x y:=fun a X=>by unfold aeX.P at X;rw[List.mem_map] at X;obtain⟨q,W,V⟩:=X;exact⟨q.1,q.2,Vk _ (Nat.mod_lt _ (by decide)) q W,V.symm⟩
 have K:=DO s.sx;have J:=DO s.sy;have hc:((if s.half then 2 else 1)*1:Nat)=1∨((if s.half then 2 else 1)*1:Nat)=2:=by cases s.half<;>simp
 have S:0<((if s.half then 2 else 1)*1:Nat):=by cases s.half<;>simp
 constructor
 ·intro a X
  obtain⟨x,y,⟨W,V,h3,O⟩,rfl⟩:=Z a X;exact⟨GP hc (by omega),GP hc (by omega)⟩
 ·intro a X b M
  obtain⟨x,y,⟨W,V,h3,O⟩,rfl⟩:=Z a X;obtain⟨F,D,⟨C,B,z,u⟩,rfl⟩:=Z b M;unfold aeX.pt;simp only;rw[Xr S,Xr S];exact⟨GP hc (by omega),GP hc (by omega)⟩
section
variable {P:List P2}{D:Nat}{a b c q:P2}
theorem XD{D:Nat}{x y:Rat}(G:Sm 2 13 x)(A:Sm D 800 y):Sm (2*D) 813 (y-x):=by
 have d0:=A.1;have Z:Sm (2*D) 800 y:=by have:=A.up 2 (by decide);rwa [Nat.mul_comm] at this
 have X:Sm (2*D) 13 x:=G.to ⟨D,rfl⟩ (by omega) (Nat.le_refl _);have:=Z.sub X;exact this
theorem Rz(H:PtS P)(A:a∈P)(G:b∈P)(I:Sm D 800 q.1)(R:Sm D 800 q.2)(Y:D≤500):Xk a b q∧Sm (4*D) 9756 (bU a b q):=by obtain⟨Z,X⟩:=H.p a A;obtain⟨S,O⟩:=H.p b G;obtain⟨d1,d2⟩:=H.d a A b G;have W:=XD Z I;have V:=XD X R;have f1:=d1.mul V;have f2:=d2.mul W;rw[show 2*(2*D)=4*D by omega] at f1 f2;have f3:=f1.sub f2;refine⟨⟨⟨⟨Z.aeZ,X.aeZ⟩,⟨S.aeZ,O.aeZ⟩,I.aeZ,R.aeZ⟩,⟨d1.aeZ,V.aeZ,d2.aeZ,W.aeZ⟩,f1.aeZ,f2.aeZ⟩,f3⟩
end
theorem wB(s:aeX){i:Nat}{t:Tr}(h:s.T[i]? =some t):∃A B C,s.P[t.1]? =some A∧s.P[t.2.1]? =some B∧s.P[t.2.2]? =some C∧0<bU A B C:=by
 have Z:=P9 s;unfold ix at Z;simp only[Bool.and_eq_true] at Z;have:=List.all_eq_true.1 Z.1.1.2 t (List.mem_of_getElem? h);split at this
 ·rename_i A B C X W h3
  exact⟨A,B,C,X,W,h3,Xe (by simpa using this)⟩
 ·cases this
theorem Vl(s:aeX):s.T.length≤1000:=by
 have:∀k<8,(bJ k).length≤1000:=by decide
 exact this _ (Nat.mod_lt _ (by decide))
theorem GW(s:aeX){D:Nat}{v:V3}(G:vSm D 800 v)(I:D≤500):ahd s.P s.T (v.1,v.2.1) where
 tri:=fun i t h=>by obtain⟨A,B,C,Z,X,h3,_⟩:=wB s h;have m1:=List.mem_of_getElem? Z;have m2:=List.mem_of_getElem? X;have m3:=List.mem_of_getElem? h3;have H:=yK s;exact⟨A,B,C,Z,X,h3,(Rz (q:=(v.1,v.2.1)) H m2 m3 G.1 G.2.1 I).1,(Rz (q:=(v.1,v.2.1)) H m3 m1 G.1 G.2.1 I).1,(Rz (q:=(v.1,v.2.1)) H m1 m2 G.1 G.2.1 I).1⟩
 hl:=⟨(fR s).2,Vl s⟩
end Go.Proofs
namespace Go.Eng
variable{D V:Nat}{q:Rat}
theorem Sm.bd{W:Nat}(h:Sm D V q)(A: -(W:Rat)≤q)(G:q≤(W:Rat)):Sm D W q:=⟨h.1,h.2.1,A,G⟩
theorem Sm.nat(h:Sm D V q)(h0:0<q):∃m:Nat,0<m∧q*(D:Rat)=(m:Rat)∧m≤V*D:=by
 obtain⟨d0,⟨n,X⟩,_,h3⟩:=h;have S:(0:Rat)<(D:Rat):=by exact_mod_cast d0
 have W:(0:Rat)<(n:Rat):=by rw[←X];exact Rat.mul_pos h0 S
 have O:0<n:=by exact_mod_cast W
 have Z:(n:Rat)≤(((V*D:Nat):Int):Rat):=by
  rw[Rat.intCast_natCast,iX,←X];have:=Rat.mul_nonneg (show 0≤(V:Rat)-q by grind) (PA D)
  grind
 have Z:=Rat.intCast_le_intCast.1 Z;refine⟨n.toNat,by omega,?_,by omega⟩;rw[X,←Rat.intCast_natCast,Int.toNat_of_nonneg (by omega)]
end Go.Eng
namespace Go.Proofs
open Go.Eng
theorem Gz(A B C q:P2):bU B C q+bU C A q+bU A B q=bU A B C:=by
 unfold bU
 grind
theorem Ce{x S V:Rat}(A:0<S)(h:x*S≤V*S):x≤V:=by
 rcases (Rat.le_total:x≤V∨V≤x) with h1 | h1
 ·exact h1
 ·by_cases Z:x=V
  ·rw[Z];exact Rat.le_refl
  ·have:=Rat.mul_pos (show 0<x-V by grind) A
   grind
section
variable {P:List P2}{D:Nat}{A B C q:P2}{f g h:Rat}
theorem Xq(H:PtS P)(G:A∈P)(I:B∈P)(R:C∈P)(Y:0<bU A B C)(h1:Sm D 800 q.1)(h2:Sm D 800 q.2)(hD:D≤500)(hin:inQ (nV A B C q))(hf:Sm 2 500 f)(hg:Sm 2 500 g)(hh:Sm 2 500 h):
  Ye (nV A B C q) f g h∧aeZ (PI (nV A B C q) f g h):=by
 obtain⟨M,K,J⟩:=hin;have M:=rN.1 M;have K:=rN.1 K;have J:=rN.1 J;have X:=Gz A B C q;have w1:=(Rz H I R h1 h2 hD).2;have w2:=(Rz H R G h1 h2 hD).2;have w3:=(Rz H G I h1 h2 hD).2;have s1:=((H.d A G B I).1.mul (H.d A G C R).2).sub ((H.d A G B I).2.mul (H.d A G C R).1);have u:Sm 4 72 (bU A B C):=s1;unfold nV at*;unfold Ye PI;simp only at*;obtain⟨S,F⟩:=xE (bU A B C);obtain⟨x,hx⟩:=xE (bU B C q);obtain⟨y,hy⟩:=xE (bU C A q);obtain⟨z,hz⟩:=xE (bU A B q);rw[←F] at X Y u;rw[←hx] at M w1 X ⊢;rw[←hy] at K w2 X ⊢;rw[←hz] at J w3 X ⊢;clear hx hy hz F s1;have d0:=h1.1;have sU:S≤72:=u.2.2.2;have W:((72:Nat):Rat)=72:=rfl;have w1:Sm (4*D) 72 x:=w1.bd (by rw[W];grind) (by rw[W];grind);have w2:Sm (4*D) 72 y:=w2.bd (by rw[W];grind) (by rw[W];grind);have w3:Sm (4*D) 72 z:=w3.bd (by rw[W];grind) (by rw[W];grind);have m1:=w1.mul hf;have m2:=w2.mul hg;have m3:=w3.mul hh;have a1:=w1.add w2;have a2:=a1.add w3;have b1:=m1.add m2;have j:=b1.add m3;have nz:x+y+z≠0:=by rw[X];grind
 refine⟨⟨⟨w1.aeZ,w2.aeZ,w3.aeZ⟩,⟨hf.aeZ,hg.aeZ,hh.aeZ⟩,⟨a1.aeZ,a2.aeZ,nz⟩,⟨m1.aeZ,m2.aeZ,m3.aeZ⟩,b1.aeZ,j.aeZ⟩,?_⟩;rw[X];obtain⟨m,mp,hm,aeN⟩:=u.nat Y;obtain⟨Z,hZ⟩:=xE (x*f+y*g+z*h);rw[←hZ] at j ⊢;obtain⟨Q,hQ⟩:=xE (Z / S);rw[←hQ];have V:Q*S=Z:=by rw[hQ];exact Rat.div_mul_cancel (by grind)
 have O:((500:Nat):Rat)=500:=rfl;obtain⟨_,_,f1,f2⟩:=hf;obtain⟨_,_,g1,g2⟩:=hg;obtain⟨_,_,k1,k2⟩:=hh;rw[O] at f1 f2 g1 g2 k1 k2;have up:Q≤500:=Ce Y (by
  rw[V,hZ,←X];have:=Rat.mul_nonneg M (show 0≤500-f by grind);have:=Rat.mul_nonneg K (show 0≤500-g by grind);have:=Rat.mul_nonneg J (show 0≤500-h by grind)
  grind)
 have dn: -Q≤500:=Ce Y (by
  rw[Rat.neg_mul,V,hZ,←X];have:=Rat.mul_nonneg M (show 0≤500+f by grind);have:=Rat.mul_nonneg K (show 0≤500+g by grind);have:=Rat.mul_nonneg J (show 0≤500+h by grind)
  grind)
 obtain⟨c0,⟨n,hn⟩,_,_⟩:=j;have hE:Sm (4*D*2*m) 500 Q:=by
  refine⟨Nat.mul_pos c0 mp,⟨n*4,?_⟩,by rw[O];grind,by rw[O];exact up⟩;rw[iX (4*D*2),←hm,Rat.intCast_mul,←hn];have e4:((4:Nat):Rat)=4:=rfl;have e4' :((4:Int):Rat)=4:=rfl;rw[e4,e4',←V]
  grind
 have l1:4*D*2*m≤4000*288:=Nat.mul_le_mul (by omega) (by omega);exact hE.aeZ
end
theorem Yb{z:Int}(h:z.natAbs<1000):Sm 2 500 (hQ z):=CS (by decide) (by omega)
end Go.Proofs
namespace Go.Proofs
open Go.Eng
open Tryz
variable{o1 o2:Bool}
theorem sZ{f:FuncId}{a v:AV}{P:List P2}{T:List Tr}{n k pb tb:Nat}{M:Mem}(hc:a.closed=true)(G:v.closed=true)(h:kO prog f [.agg [.slice 0 0 n none,.slice 1 0 k none],a] [.cells false 2 (pC P),.cells false 3 (tC T)] v [.cells false 2 (pC P),.cells false 3 (tC T)])(m1:M[pb]? =some (.cells o1 2 (pC P)))(A:M[tb]? =some (.cells o2 3 (tC T))):
  kO prog f [.agg [.slice pb 0 n none,.slice tb 0 k none],a] M v M:=by
 have W:=gL m1;have V:=gL A;have X:AV.ae0 [a]=true:=by simp[AV.ae0,hc]
 have:=kO.frame (f:=f) (args:=[.agg [.slice 0 0 n none,.slice 1 0 k none],a]) (v:=v) (M:=M) (m:=[.cells false 2 (pC P),.cells false 3 (tC T)]) (new:=[]) [pb,tb] rfl (by simp[W,V]) (by have:=cI (n:=2) X;simpa [AV.afa,AV.under] using this) (fun i s Z=>by
  match i with
  |0=>simp at Z;subst Z;exact bu (dA P) m1 (List.take_of_length_le (Nat.le_refl _))
  |1=>simp at Z;subst Z;exact bu (dV T) A (List.take_of_length_le (Nat.le_refl _))
  |i+2=>simp at Z) rfl (by rw[List.append_nil];exact h)
 simpa [AV.ae3,AV.ren,dL,dG _ _ G,dG _ _ hc] using this
theorem Vn{Q R:List Rat}(h:stC (Q.map ak)=stC (R.map ak)):Q=R:=by unfold stC at h;rw[List.map_map,List.map_map] at h;exact List.map_inj_right (f:=AV.str∘ak) (fun x y e=>eO (by simpa using e)) |>.1 h
def Er(s:aeX)(j:Nat)(w:V3)(Q:List Rat):Rat:=PI w (Q.getD (s.T.getD j (0,0,0)).1 0) (Q.getD (s.T.getD j (0,0,0)).2.1 0) (Q.getD (s.T.getD j (0,0,0)).2.2 0)
noncomputable def OE(s:aeX)(Z:List Int)(A:List (List Int))(p:V3):Int:=
 match MO s.P (p.1,p.2.1) s.T 0 with
 |none=> -2
 |some (j,w)=>if p.2.2<Er s j w (qH Z) then -1 else (DD p.2.2 (A.map fun Y=>Er s j w (qH Y)):Int)
variable{bv sv uv:AV}{pb tb:Nat}
section
variable {s:aeX}{M:Mem}{p:V3}{D j:Nat}{w:V3}
def lV(s:aeX)(pb tb:Nat)(bv uv sv:AV)(p:V3)(M:Mem)(j:Nat)(w:V3)(c:Go.Eng.Callee)(a:List AV)(N:Mem)(r:aeQ):Prop:=
 (c=.fn 134∧a=[.agg [.slice pb 0 s.P.length none,.slice tb 0 s.T.length none],vA p]∧N=M++[.cells true 0 [.slice pb 0 s.P.length none,.slice tb 0 s.T.length none],.cells true 0 [bv,uv,sv],.cells true 0 (vL p)]∧r=⟨.tuple [.int .i64 (j:Int),vA w,.bool true],none,[]⟩)∨
 (∃x Q,c=.fn 135∧a=[x,.ptr M.length 0,.ptr (M.length+3) 0,.ptr (M.length+4) 0]∧N=M++[.cells true 0 [.slice pb 0 s.P.length none,.slice tb 0 s.T.length none],.cells true 0 [bv,uv,sv],.cells true 0 (vL p),.cells true 0 [.int .i64 (j:Int)],.cells true 0 (vL w)]∧afb M x 1 Q.length (stC (Q.map ak))∧Q.length=s.P.length∧(∀q∈Q,Sm 2 500 q)∧r=⟨.str (ak (Er s j w Q)),none,[]⟩)∨
 (∃x y,c=.fn 85∧a=[.str (ak x),.str (ak y)]∧aeZ x∧aeZ y∧r=⟨.int .i64 (jQ x y),none,[]⟩)
theorem jI{s:aeX}{p:V3}{M:Mem}{j:Nat}{w:V3}{c:Go.Eng.Callee}{a:List AV}{N:Mem}{r r' :aeQ}(h:lV s pb tb bv uv sv p M j w c a N r)(A :lV s pb tb bv uv sv p M j w c a N r'):r' =r:=by
 rcases h with⟨rfl,rfl,rfl,rfl⟩ | ⟨x,Q,rfl,rfl,rfl,X,W,h3,rfl⟩ | ⟨x,y,rfl,rfl,X,W,rfl⟩
 ·rcases A with⟨_,_,_,rfl⟩ | ⟨x,Q,e,_⟩ | ⟨x,y,e,_⟩
  ·rfl
  ·cases e
  ·cases e
 ·rcases A with⟨e,_⟩ | ⟨Z,V,_,e,_,S,K,J,rfl⟩ | ⟨x,y,e,_⟩
  ·cases e
  ·have O:x=Z :=by simpa using e
   subst O;have:=(X.inj S).2;rw[Vn this]
  ·cases e
 ·rcases A with⟨e,_⟩ | ⟨Z,V,e,_⟩ | ⟨Z,F,_,e,_,_,rfl⟩
  ·cases e
  ·cases e
  ·simp only[List.cons.injEq,AV.str.injEq,and_true] at e
   rw[eO e.1,eO e.2]
theorem Ny(m1:M[pb]? =some (.cells o1 2 (pC s.P)))(G:M[tb]? =some (.cells o2 3 (tC s.T)))(H:vSm D 800 p)(I:D≤500)(R:MO s.P (p.1,p.2.1) s.T 0=some (j,w)):HS prog (nb (lV s pb tb bv uv sv p M j w)):=Aq fun c a N r h=>by
 have l1:=gL m1;have l2:=gL G;rcases h with⟨rfl,rfl,rfl,rfl⟩ | ⟨x,Q,rfl,rfl,rfl,X,W,h3,rfl⟩ | ⟨x,y,rfl,rfl,X,W,rfl⟩
 ·exact aU (sZ (by rfl) (by rfl) (QD (GW s H I) R) (gU m1 _) (gU G _))
 ·obtain⟨i,t,hji,V,Z,rfl,_⟩:=nK R
  obtain rfl:i=j:=by omega
  obtain⟨A,B,C,S,O,K,hS⟩:=wB s V;have et:s.T.getD i (0,0,0)=t:=by simp[List.getD,V]
  have eA:uT s.P (p.1,p.2.1) t=nV A B C (p.1,p.2.1):=by unfold uT;simp[List.getD,S,O,K]
  have b1:=gL S;have b2:=gL O;have b3:=gL K;obtain⟨f1,J⟩:∃f,Q[t.1]? =some f:=⟨_,List.getElem?_eq_getElem (by omega)⟩
  obtain⟨f2,F⟩:∃f,Q[t.2.1]? =some f:=⟨_,List.getElem?_eq_getElem (by omega)⟩
  obtain⟨f3,z⟩:∃f,Q[t.2.2]? =some f:=⟨_,List.getElem?_eq_getElem (by omega)⟩
  have hq:Er s i (uT s.P (p.1,p.2.1) t) Q=PI (uT s.P (p.1,p.2.1) t) f1 f2 f3:=by unfold Er;rw[et];simp[List.getD,J,F,z]
  rw[hq];rw[eA] at Z ⊢;have u:=(Xq (q:=(p.1,p.2.1)) (yK s) (List.mem_of_getElem? S) (List.mem_of_getElem? O) (List.mem_of_getElem? K) hS H.1 H.2.1 I Z (h3 _ (List.mem_of_getElem? J)) (h3 _ (List.mem_of_getElem? F)) (h3 _ (List.mem_of_getElem? z))).1;obtain⟨m,o,rfl,Y⟩:=X.pos (by have:=(fR s).1;omega);have l3:=gL Y;exact aU (HV (N:=M++[.cells true 0 [.slice pb 0 s.P.length none,.slice tb 0 s.T.length none],.cells true 0 [bv,uv,sv],.cells true 0 (vL p),.cells true 0 [.int .i64 (i:Int)],.cells true 0 (vL (nV A B C (p.1,p.2.1)))]) (a3:=M.length) (a7:=M.length+3) (a8:=M.length+4) (tb:=tb) (fb:=m) (pv:=.slice pb 0 s.P.length none) (by rw[jU];rfl) (gU G _) rfl (by rw[fV];rfl) (by rw[fV];rfl) (gU Y _) rfl V J F z u)
 ·have:aj 85 [.str (ak x),.str (ak y)]=some (.int .i64 (jQ x y)):=by unfold aeZ at X W;simp[aj,az,ao,X,W]
  have:=bj.fn _ _ N ⟨.int .i64 (jQ x y),none,[]⟩ (by unfold af;simp only;rw[this]);exact aU (by simpa[aeQ.mem] using this)
end
end Go.Proofs
namespace Go.Proofs
open Go.Eng
open Tryz
theorem afb.val{N:Mem}{v:AV}{es n:Nat}{C:List AV}(h:afb N v es n C):v.aeS=true∧v.known=true∧v.cells=[v]:=by
 rcases h with⟨rfl,_⟩ | ⟨b,o,rfl,_⟩
 ·exact⟨rfl,rfl,rfl⟩
 ·exact⟨rfl,rfl,rfl⟩
variable{Z:List Int}
section
variable {s:aeX}{M:Mem}{p:V3}{D:Nat}
theorem Nz{O:aeT}{pv tv bv uv sv:AV}{S1 S2 S3:List UInt8}(ck:pv.aeS=true∧tv.aeS=true∧bv.aeS=true∧uv.aeS=true∧sv.aeS=true)(A:pv.known=true∧tv.known=true∧bv.known=true∧uv.known=true∧sv.known=true)(cs:pv.cells=[pv]∧tv.cells=[tv]∧bv.cells=[bv]∧uv.cells=[uv]∧sv.cells=[sv])(G:O (.fn 134) [.agg [pv,tv],vA p] (M++[.cells true 0 [pv,tv],.cells true 0 [bv,uv,sv],.cells true 0 (vL p)])=some ⟨.tuple [.int .i64 0,.agg [.str S1,.str S2,.str S3],.bool false],none,[]⟩):
  aa (aN prog) (fun _=>[11]) (aK prog) O 2 84 [.agg [pv,tv],.agg [bv,uv,sv],vA p] M=some ⟨.int .i64 (-2),none,[]⟩:=by
 have W:aK prog 84=some f84:=by kernel_rfl
 have w2:IntKind.i64.wrap (-2)= -2:=rfl;have X:∀j,(M.length+j<M.length)=False:=fun j=>oH _ _
 obtain⟨V,S,K,J,F⟩:=ck;obtain⟨C,B,z,u,m⟩:=A;obtain⟨Y,R,I,H,e5⟩:=cs;unfold vA at*;simp only[vL] at*;simp[-getElem?_pos,-AV.aeS,-AV.known,-AV.cells,-bL,-List.all_eq_true,vS,mS,aa,W,f84,X,G]
theorem Zk(h:∀z∈Z,z.natAbs<1000):∀q∈qH Z,Sm 2 500 q:=fun q hq=>by unfold qH at hq;rw[List.mem_map] at hq;obtain⟨z,X,rfl⟩:=hq;exact Yb (h z X)
theorem Qy{pb tb:Nat}{o1 o2:Bool}{bv uv sv:AV}{us:List (List UInt8)}{G:List (List Int)}(hw:EvD.Ok s (.dep Z us G))(k1:afb M bv 1 (hT Z).length (stC (hT Z)))(k2:afb M uv 1 us.length (stC us))(k3:age M sv (G.map hT))(H:vSm D 800 p)(hD:D≤500)(m1:M[pb]? =some (.cells o1 2 (pC s.P)))(m2:M[tb]? =some (.cells o2 3 (tC s.T))):
  kO prog 84 [.agg [.slice pb 0 s.P.length none,.slice tb 0 s.T.length none],.agg [bv,uv,sv],vA p] M (.int .i64 (OE s Z G p)) M:=by
 have l1:=gL m1;have l2:=gL m2;obtain⟨z,v1,v2,v3⟩:=k3;obtain⟨b1,b2,b3⟩:=k1.val;obtain⟨u1,u2,u3⟩:=k2.val;obtain⟨s1,s2,s3⟩:=v2.val;unfold OE;cases hl:MO s.P (p.1,p.2.1) s.T 0 with
 |none=>
  obtain⟨S1,S2,S3,hc⟩:=QC (GW s H hD) hl;have hO:HS prog (ei [(134,[.agg [.slice pb 0 s.P.length none,.slice tb 0 s.T.length none],vA p],(fun N=>N=M++[.cells true 0 [.slice pb 0 s.P.length none,.slice tb 0 s.T.length none],.cells true 0 [bv,uv,sv],.cells true 0 (vL p)]),⟨.tuple [.int .i64 0,.agg [.str S1,.str S2,.str S3],.bool false],none,[]⟩)]):=ja fun y hy N hN=>by rw[List.mem_singleton] at hy;subst hy;subst hN;exact aU (sZ (by rfl) (by rfl) hc (gU m1 _) (gU m2 _))
  exact cdQ hO (Nz (M:=M) (p:=p) ⟨rfl,rfl,b1,u1,s1⟩ ⟨rfl,rfl,b2,u2,s2⟩ ⟨rfl,rfl,b3,u3,s3⟩ (db rfl))
 |some jw=>
  obtain⟨j,w⟩:=jw;simp only;have hO:=Ny (bv:=bv) (uv:=uv) (sv:=sv) m1 m2 H hD hl;have u:(qH Z).length=s.P.length:=by rw[←hw.1];simp[qH]
  have m:=Zk hw.2.2.2.1;have fp:aeZ p.2.2:=H.2.2.aeZ;have R:∀Q:List Rat,Q.length=s.P.length→(∀q∈Q,Sm 2 500 q)→aeZ (Er s j w Q):=fun Q hQ X=>by
   obtain⟨i,t,hji,W,I,rfl,_⟩:=nK hl;obtain rfl:i=j:=by omega
   obtain⟨A,B,C,hA,hB,hC,hSp⟩:=wB s W;have et:s.T.getD i (0,0,0)=t:=by simp[List.getD,W]
   have eA:uT s.P (p.1,p.2.1) t=nV A B C (p.1,p.2.1):=by unfold uT;simp[List.getD,hA,hB,hC]
   have a1:=gL hA;have a2:=gL hB;have a3:=gL hC;obtain⟨f1,q1⟩:∃f,Q[t.1]? =some f:=⟨_,List.getElem?_eq_getElem (by omega)⟩
   obtain⟨f2,q2⟩:∃f,Q[t.2.1]? =some f:=⟨_,List.getElem?_eq_getElem (by omega)⟩
   obtain⟨f3,q3⟩:∃f,Q[t.2.2]? =some f:=⟨_,List.getElem?_eq_getElem (by omega)⟩
   have hq:Er s i (uT s.P (p.1,p.2.1) t) Q=PI (uT s.P (p.1,p.2.1) t) f1 f2 f3:=by unfold Er;rw[et];simp[List.getD,q1,q2,q3]
   rw[hq];rw[eA] at I ⊢;exact(Xq (q:=(p.1,p.2.1)) (yK s) (List.mem_of_getElem? hA) (List.mem_of_getElem? hB) (List.mem_of_getElem? hC) hSp H.1 H.2.1 hD I (X _ (List.mem_of_getElem? q1)) (X _ (List.mem_of_getElem? q2)) (X _ (List.mem_of_getElem? q3))).2
  have rb:=k1.refs;have ru:=k2.refs;have rs:=v2.refs;have hYl:(G.map hT).length=G.length:=List.length_map ..;have aal:afb M bv 1 (qH Z).length (stC ((qH Z).map ak)):=by have:hT Z=(qH Z).map ak:=rfl;rw[this,List.length_map] at k1;exact k1
  obtain⟨hs,S⟩:=xE (G.map fun Y=>Er s j w (qH Y));have hsl:hs.length=G.length:=by rw[S,List.length_map]
  rw[←S];have K:(sv=.y9∧hs=[])∨∃V o,sv=.slice V 0 hs.length none∧M[V]? =some (.cells o 1 z):=by
   rcases v2 with⟨h1,h2,_⟩ | ⟨b,o,h1,h2,h3⟩
   ·exact .inl ⟨h1,List.eq_nil_of_length_eq_zero (by omega)⟩
   ·exact .inr ⟨b,o,by rw[hsl,←hYl];exact h1,h3⟩
  obtain⟨V,K⟩:∃V,(sv=.y9∧hs=[])∨∃o,sv=.slice V 0 hs.length none∧M[V]? =some (.cells o 1 z):=by
   rcases K with h | ⟨V,o,h⟩
   ·exact⟨0,.inl h⟩
   ·exact⟨V,.inr ⟨o,h⟩⟩
  have PP:∀(i:Nat) x,z[i]? =some x→∃Y,G[i]? =some Y∧afb M x 1 (qH Y).length (stC ((qH Y).map ak))∧(qH Y).length=s.P.length∧(∀q∈qH Y,Sm 2 500 q):=fun i x J=>by
   obtain⟨Y,hY⟩:∃Y,G[i]? =some Y:=⟨_,List.getElem?_eq_getElem (by have:=gL J;omega)⟩
   have F:=v3 i x (hT Y) J (by simp[hY]);have e:hT Y=(qH Y).map ak:=rfl;rw[e,List.length_map] at F;obtain⟨y1,y2⟩:=hw.2.2.2.2 Y (List.mem_of_getElem? hY);exact⟨Y,hY,F,by rw[←y1];simp[qH],Zk y2⟩
  refine cdQ hO (NA (O:=nb (lV s pb tb bv uv sv p M j w)) (M:=M) (p:=p) (h0:=Er s j w (qH Z)) (j:=j) (w:=w) (vs:=z) ⟨rfl,rfl,b1,u1,s1⟩ ⟨rfl,rfl,b2,u2,s2⟩ ⟨rfl,rfl,b3,u3,s3⟩ (fun x=>⟨by simp only[AV.aeR,decide_eq_true_eq];omega,by simp only[AV.aeR,decide_eq_true_eq];omega,rb x,ru x,rs x⟩) K (by omega) (by have:=hw.2.2.1;omega) (fun x J=>?_) ?_ ?_ ?_ ?_)
  ·obtain⟨i,W⟩:=List.getElem?_of_mem J
   obtain⟨Y,_,F,_⟩:=PP i x W;exact F.refs 0
  ·exact fm (.inl ⟨rfl,rfl,rfl,rfl⟩) fun r' h=>jI (.inl ⟨rfl,rfl,rfl,rfl⟩) h
  ·have X:lV s pb tb bv uv sv p M j w (.fn 135) [bv,.ptr M.length 0,.ptr (M.length+3) 0,.ptr (M.length+4) 0] _ ⟨.str (ak (Er s j w (qH Z))),none,[]⟩:=.inr (.inl ⟨bv,qH Z,rfl,rfl,rfl,aal,u,m,rfl⟩)
   exact fm X fun r' h=>jI X h
  ·have X:∀N,lV s pb tb bv uv sv p M j w (.fn 85) [.str (ak p.2.2),.str (ak (Er s j w (qH Z)))] N ⟨.int .i64 (jQ p.2.2 (Er s j w (qH Z))),none,[]⟩:=fun N=>.inr (.inr ⟨_,_,rfl,rfl,fp,R _ u m,rfl⟩)
   exact fm (X _) fun r' h=>jI (X _) h
  ·intro i h W
   obtain⟨x,J⟩:∃x,z[i]? =some x:=⟨_,List.getElem?_eq_getElem (by have:=gL W;omega)⟩
   obtain⟨Y,hY,F,y1,y2⟩:=PP i x J;have e:h=Er s j w (qH Y):=by rw[S,List.getElem?_map,hY] at W;simpa using W.symm
   obtain⟨r1,r2,r3⟩:=F.val;subst e;have X:lV s pb tb bv uv sv p M j w (.fn 135) [x,.ptr M.length 0,.ptr (M.length+3) 0,.ptr (M.length+4) 0] _ ⟨.str (ak (Er s j w (qH Y))),none,[]⟩:=.inr (.inl ⟨x,qH Y,rfl,rfl,rfl,F,y1,y2,rfl⟩);have hS2:∀N,lV s pb tb bv uv sv p M j w (.fn 85) [.str (ak (Er s j w (qH Y))),.str (ak p.2.2)] N ⟨.int .i64 (jQ (Er s j w (qH Y)) p.2.2),none,[]⟩:=fun N=>.inr (.inr ⟨_,_,rfl,rfl,R _ y1 y2,fp,rfl⟩)
   exact⟨x,J,r1,r3,fun f=>.inr trivial,fm X fun r' h=>jI X h,fm (hS2 _) fun r' h=>jI (hS2 _) h⟩
end
end Go.Proofs
namespace Go.Proofs
open Go.Eng
open Tryz
noncomputable def nuE(s:aeX):EvD→V3→Int
 |.dep Z _ Ys,p=>OE s Z Ys p
 |.fault n o _,p=>if (o:Rat)≤da (zV n) p then 1 else 0
 |.fold n d c _,p=>(bc (bQ d c) (da (zV n) p):Int)
 |.afW n o w _,p=>if da (zV n) p-(o:Rat)<0 then 0 else if da (zV n) p-(o:Rat)<hQ w then 1 else 2
 |.afZ ..,_=>0
theorem P8{a:Rat}:jV a<0↔a<0:=by
 have h:=rN (a:=a);constructor
 ·intro X
  exact Rat.not_le.1 fun Z=>by have:=h.2 Z;omega
 ·intro X
  have:¬0≤jV a:=fun Z=>absurd (h.1 Z) (Rat.not_le.2 X)
  omega
theorem qM:(aC f50).map (fun o=>dB o.toList)=[[0,1,3,7,0,31,0,64,192,448,1023,2047],[0,1,3,0,8,24,0,120,255,511,1023,1023,2047,8191],[0,1,3,7,0,31,0,64,192,448,1023,2047]]:=by kernel_rfl
variable{o:Int}{v:Z3}
section
variable {a b:Nat}{nm:List UInt8}{p:V3}
theorem af6:aK prog 50=some f50:=by kernel_rfl
theorem agD:ba [0,1,3,7,0,31,0,64,192,448,1023,2047] 11=true:=by decide
theorem AS{n:Z3}(d:afg (zV n) p)(A:aeZ (da (zV n) p))(G:aeZ (o:Rat)):
  kO prog 50 [.agg [.slice 0 0 a none,.slice 1 0 b none],.agg (bo nm n o v),vA p] [.aeP,.aeP] (.int .i64 (if (o:Rat)≤da (zV n) p then 1 else 0)) [.aeP,.aeP]:=by
 obtain⟨X,W⟩:=A;obtain⟨O,M⟩:=G;obtain⟨F,K⟩:∃F,aC f50=F:=⟨_,rfl⟩
 have D:=be K qM;simp only[aC,bn,f50,lA] at K;subst K;simp only[lB] at D;obtain⟨C,B,z⟩:=D;have Z:0≤jQ (da (zV n) p) (o:Rat)↔(o:Rat)≤da (zV n) p:=xw;obtain⟨N,S⟩:=xE (zV n);rw[←S] at d X W Z ⊢;obtain⟨q,hq⟩:=xE (α:=Rat) (o:Rat);rw[←hq] at O M Z ⊢;obtain⟨J,V⟩:=xE (da N p);rw[←V] at X W Z ⊢;unfold zV at S;have h:aa (aN prog) (fun _=>[]) (aK prog) (af dz) 1 50 [.agg [.slice 0 0 a none,.slice 1 0 b none],.agg (bo nm n o v),vA p] [.aeP,.aeP]=some ⟨.int .i64 (if q≤J then 1 else 0),none,[]⟩:=by
  by_cases hc:q≤J
  ·have c:=Z.2 hc
   simp[aa,af6,f50,af,dz,dR,aH,aj,az,vA,bo,zS,jc,ao,←S,←hq,←V,d,X,W,O,M,c,hc,-aB,ag C,aS,aO,aP,agD,Nat.testBit]
  ·have c:¬0≤jQ J q:=fun h=>hc (Z.1 h)
   simp[aa,af6,f50,af,dz,dR,aH,aj,az,vA,bo,zS,jc,ao,←S,←hq,←V,d,X,W,O,M,c,hc,-aB,ag C,aS,aO,aP,agD,Nat.testBit]
 have:=(ah ae (ar _) jj (au _) h).1;simpa [aeQ.mem] using this
theorem Df{n:Z3}{w:Int}{u:List UInt8}(d:afg (zV n) p)(A:aeZ (da (zV n) p))(G:aeZ (o:Rat))(fw:aeZ (hQ w))(fs:aeZ (da (zV n) p-(o:Rat))):
  kO prog 50 [.agg [.slice 0 0 a none,.slice 1 0 b none],.agg (cX nm n o w u),vA p] [.aeP,.aeP] (.int .i64 (if da (zV n) p-(o:Rat)<0 then 0 else if da (zV n) p-(o:Rat)<hQ w then 1 else 2)) [.aeP,.aeP]:=by
 obtain⟨Z,X⟩:=A;obtain⟨F,D⟩:=G;obtain⟨w1,w2⟩:=fw;obtain⟨S,O⟩:=fs;obtain⟨Y,m⟩:∃Y,aC f50=Y:=⟨_,rfl⟩
 have R:=be m qM;simp only[aC,bn,f50,lA] at m;subst m;simp only[lB] at R;obtain⟨Z9,hb1,V⟩:=R;obtain⟨N,M⟩:=xE (zV n);rw[←M] at d Z X S O ⊢;obtain⟨q,hq⟩:=xE (α:=Rat) (o:Rat);rw[←hq] at F D S O ⊢;obtain⟨dt,W⟩:=xE (da N p);rw[←W] at Z X S O ⊢;obtain⟨y,C⟩:=xE (hQ w);rw[←C] at w1 w2 ⊢;obtain⟨x,B⟩:=xE (dt-q);rw[←B] at S O ⊢;have I:=P8 (a:=x);have H:=BQ (a:=x) (b:=y);unfold zV at M;have h:aa (aN prog) (fun _=>[]) (aK prog) (af dz) 1 50 [.agg [.slice 0 0 a none,.slice 1 0 b none],.agg (cX nm n o w u),vA p] [.aeP,.aeP]=some ⟨.int .i64 (if x<0 then 0 else if x<y then 1 else 2),none,[]⟩:=by
  by_cases K:x<0
  ·have:=I.2 K
   simp[aa,af6,f50,af,dz,dR,aH,aj,az,bB,aX,vA,cX,zS,jc,ao,←M,←hq,←W,←B,←C,d,Z,X,F,D,this,K,-aB,ag V,aS,aO,aP,agD,Nat.testBit]
  ·have J :¬jV x<0:=fun h=>K (I.1 h)
   by_cases z:x<y
   ·have:=H.2 z
    simp[aa,af6,f50,af,dz,dR,aH,aj,az,bB,aX,vA,cX,zS,jc,ao,←M,←hq,←W,←B,←C,d,Z,X,F,D,S,O,w1,w2,this,K,J,z,-aB,ag V,aS,aO,aP,agD,Nat.testBit]
   ·have j :¬jQ x y<0:=fun h=>z (H.1 h)
    simp[aa,af6,f50,af,dz,dR,aH,aj,az,bB,aX,vA,cX,zS,jc,ao,←M,←hq,←W,←B,←C,d,Z,X,F,D,S,O,w1,w2,K,J,z,j,-aB,ag V,aS,aO,aP,agD,Nat.testBit]
 have:=(ah ae (ar _) jj (au _) h).1;simpa [aeQ.mem] using this
theorem Dg{n:Z3}{L:List P2}(d:afg (zV n) p)(A:YJ L (da (zV n) p))(G:0<L.length)(H:L.length≤1000):
  kO prog 50 [.agg [.slice 0 0 a none,.slice 1 0 b none],.agg (bw nm n (.slice 2 0 L.length none) v),vA p] [.aeP,.aeP,.cells false 2 (kC (Go.Proofs.kT L))] (.int .i64 (bc L (da (zV n) p):Int)) [.aeP,.aeP,.cells false 2 (kC (Go.Proofs.kT L))]:=by
 have X:HS prog (aeT.or (bT 87 [.slice 2 0 L.length none,.str (ak (da (zV n) p))] (.tuple [.int .i64 (bc L (da (zV n) p):Int),.str (ak (ej L (da (zV n) p)))]) (fun N=>∃Z,N=aeY.aeP::.aeP::.cells false 2 (kC (Go.Proofs.kT L))::Z)) (af dz)):=
  HS.or (cf fun N ⟨Z,hZ⟩=>by subst hZ;exact vd G H (b:=2) (o:=false) rfl A) jj
 obtain⟨M,W⟩:∃M,aC f50=M:=⟨_,rfl⟩
 have K:=be W qM;simp only[aC,bn,f50,lA] at W;subst W;simp only[lB] at K;obtain⟨B,V,F⟩:=K;have D:ba [0,1,3,0,8,24,0,120,255,511,1023,1023,2047,8191] 13=true:=by decide
 obtain⟨N,S⟩:=xE (zV n);rw[←S] at d X ⊢;obtain⟨u,hu⟩:=xE (da N p);rw[←hu] at X ⊢;obtain⟨x,C⟩:=xE (ej L u);rw[←C] at X;obtain⟨J,O⟩:=xE (bc L u);rw[←O] at X ⊢;unfold zV at S;have h:aa (aN prog) (fun _=>[]) (aK prog) (aeT.or (bT 87 [.slice 2 0 L.length none,.str (ak u)] (.tuple [.int .i64 (J:Int),.str (ak x)]) (fun N=>∃Z,N=aeY.aeP::.aeP::.cells false 2 (kC (Go.Proofs.kT L))::Z)) (af dz)) 1 50 [.agg [.slice 0 0 a none,.slice 1 0 b none],.agg (bw nm n (.slice 2 0 L.length none) v),vA p] [.aeP,.aeP,.cells false 2 (kC (Go.Proofs.kT L))]=some ⟨.int .i64 (J:Int),none,[]⟩:=by clear X;simp[aa,af6,f50,aeT.or,bT,af,dz,dR,aH,vA,bw,zS,jc,←S,←hu,d,-aB,ag V,aS,aO,aP,D,Nat.testBit]
 have:=(ah ae (ar _) X (au _) h).1;simpa [aeQ.mem] using this
end
theorem Dh{pv tv:AV}(A:pv.aeS=true)(G:tv.aeS=true)(nm:List UInt8)(t:Int×Int×Int×Int)(c:Z3)(p:V3)(M:Mem):
  kO prog 50 [.agg [pv,tv],.agg (cL nm t c),vA p] M (.int .i64 0) M:=by
 refine cd (al _) ?_;have Z:∀s,(AV.str s).aeS=true:=fun _=>rfl
 have X:∀k n,(AV.int k n).aeS=true:=fun _ _=>rfl
 simp[-AV.aeS,aa,af6,f50,cL,vA]
variable{M:Mem}{x:Int}
theorem Fj{pv tv b u sv A:AV}{c:Evc}{p:V3}(G:c.k=1)(H:pv.aeS=true)(I:tv.aeS=true)(R:b.aeS=true)(hu:u.aeS=true)(hs:sv.aeS=true)(Y:A.aeS=true)(h:∀Z,kO prog 84 [.agg [pv,tv],.agg [b,u,sv],vA p] (M++Z) (.int .i64 x) (M++Z)):
  kO prog 50 [.agg [pv,tv],.agg (c.cells b u sv A),vA p] M (.int .i64 x) M:=by
 have X:HS prog (bT 84 [.agg [pv,tv],.agg [b,u,sv],vA p] (.int .i64 x) (fun N=>∃Z,N=M++Z)):=cf fun N ⟨Z,hZ⟩=>by subst hZ;exact h Z
 clear h;refine cd X ?_;clear X;have W:∀s,(AV.str s).aeS=true:=fun _=>rfl
 have V:∀k n,(AV.int k n).aeS=true:=fun _ _=>rfl
 simp[-AV.aeS,aa,af6,f50,bT,Evc.cells,vA,G]
theorem Br{A B:AV}{a b pb tb:Nat}(G:A.closed=true)(H:B.closed=true)(I:pb<M.length)(R:tb<M.length)(h:kO prog 50 [.agg [.slice 0 0 a none,.slice 1 0 b none],A,B] [.aeP,.aeP] (.int .i64 x) [.aeP,.aeP]):
  kO prog 50 [.agg [.slice pb 0 a none,.slice tb 0 b none],A,B] M (.int .i64 x) M:=by
 have X:AV.ae0 [A,B]=true:=by simp[AV.ae0,G,H]
 have:=kO.frame (f:=50) (args:=[.agg [.slice 0 0 a none,.slice 1 0 b none],A,B]) (v:=.int .i64 x) (M:=M) (m:=[.aeP,.aeP]) (new:=[]) [pb,tb] rfl (by simp[I,R]) (by have:=cI (n:=2) X;simpa [AV.afa,AV.under] using this) (fun i t Z=>by
  match i with
  |0=>simp at Z;subst Z;trivial
  |1=>simp at Z;subst Z;trivial
  |i+2=>simp at Z) rfl (by rw[List.append_nil];exact h)
 simpa [AV.ae3,AV.ren,dL,dG _ _ G,dG _ _ H] using this
section
variable {s:aeX}{w:EvD}{D:Nat}{p:V3}
theorem QG{pb tb:Nat}{o1 o2:Bool}{I:List AV}{nm:List UInt8}(h:afv M I (w.con nm))(A:w.Ok s)(G:vSm D 800 p)(H:D≤500)(m1:M[pb]? =some (.cells o1 2 (pC s.P)))(R:M[tb]? =some (.cells o2 3 (tC s.T))):
  kO prog 50 [.agg [.slice pb 0 s.P.length none,.slice tb 0 s.T.length none],.agg I,vA p] M (.int .i64 (nuE s w p)) M:=by
 have B:=gL m1;have m:=gL R;have d0:=G.1.1;obtain⟨b,u,sv,kn,rfl,S,O,J,F⟩:=h;have c3:sv.aeS=true:=by obtain⟨_,_,h3,_⟩:=J;exact h3.ck
 cases w with
 |dep Z us Ys=>
  refine Fj rfl rfl rfl S.ck O.ck c3 F.ck fun X=>?_
  exact Qy A (S.more X) (O.more X) (J.more X) G H (gU m1 _) (gU R _)
 |afW n o w u=>
  obtain rfl:=S.afm rfl;obtain rfl:=O.afm rfl;obtain rfl:=J.afm rfl;obtain rfl:=F.afm rfl;have C:Sm D 4 (o:Rat):=(Sm.int (V:=4) A.2.2.1).to (Nat.one_dvd _) d0 (Nat.le_refl _);exact Br (by rfl) (by rfl) B m (Df (mH A.1 G H) ((tq A.1 G).aeZ) (C.aeZ) ((Yb (z:=w) (by have:=A.2.2.2;omega)).aeZ) (((tq A.1 G).sub C).aeZ))
 |fault n o v=>
  obtain rfl:=S.afm rfl;obtain rfl:=O.afm rfl;obtain rfl:=J.afm rfl;obtain rfl:=F.afm rfl;have C:Sm D 4 (o:Rat):=(Sm.int (V:=4) A.2.2.1).to (Nat.one_dvd _) d0 (Nat.le_refl _);exact Br (by rfl) (by rfl) B m (AS (mH A.1 G H) ((tq A.1 G).aeZ) (C.aeZ))
 |afZ i c=>
  obtain rfl:=S.afm rfl;obtain rfl:=O.afm rfl;obtain rfl:=J.afm rfl;obtain rfl:=F.afm rfl;exact Dh rfl rfl nm (bC i) c p M
 |fold n d c v=>
  obtain rfl:=S.afm rfl;obtain rfl:=O.afm rfl;obtain rfl:=J.afm rfl;have e:(EvD.con nm (.fold n d c v)).K.length=(bQ d c).length:=cM _;have j:0<(bQ d c).length:=by rw[bP];exact A.2.2.1
  rw[e] at F;obtain⟨kb,q,rfl,Y⟩:=F.pos j;have lb:=gL Y;have h0:=Dg (a:=s.P.length) (b:=s.T.length) (nm:=nm) (v:=v) (mH A.1 G H) (OQ (re d c A.2.2.2.1) (tq A.1 G) H) j (by rw[bP];have:=A.2.2.2.1;omega);have:=kO.frame (M:=M) (new:=[]) [pb,tb,kb] rfl (by simp[B,m,lb]) (by rfl) (fun i t W=>by
   match i with
   |0=>simp at W;subst W;trivial
   |1=>simp at W;subst W;trivial
   |2=>simp at W;subst W;exact rK (o:=q) Y (List.take_of_length_le (by rw[fB,cM];omega))
   |i+3=>simp at W) rfl h0
  simpa [nuE,bw,vA,AV.ae3,AV.ren,dL,Evc.cells,EvD.con,zP] using this
end
end Go.Proofs
namespace Go.Proofs
open Go.Eng
open Tryz
noncomputable def GL:EvD→Int→Option (List UInt8)
 |.dep _ us _,n=>if n= -2 then some [] else if 0≤n then some (us.getD n.toNat []) else none
 |.afW _ _ _ u,n=>if n=1 then some u else none
 |_,_=>none
def PE:Option (List UInt8)→AV
 |none=>.tuple [.str [],.bool false]
 |some u=>.tuple [.str u,.bool true]
def ZV:EvD→Int→Prop
 |.dep _ us _,n=>n<us.length
 |_,_=>True
variable{s:aeX}{w:EvD}
theorem Cq(A:w.Ok s)(p:V3):ZV w (nuE s w p):=by
 cases w with
 |dep Z us Ys=>
  have X:=A.2.1;show OE s Z Ys p<(us.length:Int)
  unfold OE;split
  ·omega
  ·rename_i j w e
   have:=OC p.2.2 (Ys.map fun Y=>Er s j w (qH Y));rw[List.length_map] at this;split<;>omega
 |_=>trivial
variable{c:Evc}
section
variable {nm:List UInt8}
theorem agk:aK prog 51=some f51:=by kernel_rfl
theorem Da{b u sv G:AV}{x:Int}{M:Mem}{us:List (List UInt8)}{A:Nat}{o:Bool}(H:c.k=1)(R:b.aeS=true)(hu:u=.slice A 0 us.length none)(hs:sv.aeS=true)(Y:G.aeS=true)(I:M[A]? =some (.cells o 1 (stC us)))(hx:x<us.length)(hl:us.length≤1000):
  kO prog 51 [.agg (c.cells b u sv G),.int .i64 x] M (PE (if x= -2 then some [] else if 0≤x then some (us.getD x.toNat []) else none)) M:=by
 have w2:IntKind.i64.wrap (-2)= -2:=rfl;have K:∀s,(AV.str s).aeS=true:=fun _=>rfl
 have J:∀k n,(AV.int k n).aeS=true:=fun _ _=>rfl
 have F:∀b o n c,(AV.slice b o n c).aeS=true:=fun _ _ _ _=>rfl
 subst hu;have B:=gL I;have W :∀Z,(M++Z)[A]? =some (.cells o 1 (stC us)):=fun Z=>gU I _
 have h:aa (aN prog) (fun _=>[]) (aK prog) bM 1 51 [.agg (c.cells b (.slice A 0 us.length none) sv G),.int .i64 x] M=some ⟨PE (if x= -2 then some [] else if 0≤x then some (us.getD x.toNat []) else none),none,[]⟩:=by
  by_cases O:x= -2
  ·subst O
   simp[-AV.aeS,aa,agk,f51,Evc.cells,PE,H]
  ·by_cases D:0≤x
   ·obtain⟨k,rfl⟩:∃k:Nat,x=k:=⟨x.toNat,by omega⟩
    have X:k<us.length:=by omega
    obtain⟨y,V⟩:∃y,us[k]? =some y:=⟨_,List.getElem?_eq_getElem X⟩
    have z:us.getD k []=y:=by simp[List.getD,V]
    have S:(stC us)[k]? =some (.str y):=rP V;have C:k+1≤(stC us).length:=by rw[fe];omega
    have h3:¬((k:Int)= -2):=by omega
    simp[-AV.aeS,aa,agk,f51,Evc.cells,PE,H,W,X,S,h3];exact((List.getElem?_eq_some_iff.1 V).2).symm
   ·simp[-AV.aeS,aa,agk,f51,Evc.cells,PE,H,O,D]
 have:=(ah ae (ar _) (al _) (au _) h).1;simpa [aeQ.mem] using this
theorem nW{b u sv A:AV}{x:Int}{M:Mem}(G:c.k≠1∧c.k≠4)(H:b.aeS=true)(hu:u.aeS=true)(hs:sv.aeS=true)(I:A.aeS=true):
  kO prog 51 [.agg (c.cells b u sv A),.int .i64 x] M (PE none) M:=by
 have Z:∀s,(AV.str s).aeS=true:=fun _=>rfl
 have X:∀k n,(AV.int k n).aeS=true:=fun _ _=>rfl
 obtain⟨W,V⟩:=G;refine cd (al _) ?_;simp[-AV.aeS,aa,agk,f51,Evc.cells,PE,W,V]
theorem AM{b u sv A:AV}{x:Int}{M:Mem}(G:c.k=4)(H:b.aeS=true)(hu:u.aeS=true)(hs:sv.aeS=true)(I:A.aeS=true):
  kO prog 51 [.agg (c.cells b u sv A),.int .i64 x] M (PE (if x=1 then some c.x24 else none)) M:=by
 have X:∀s,(AV.str s).aeS=true:=fun _=>rfl
 have W:∀k n,(AV.int k n).aeS=true:=fun _ _=>rfl
 refine cd (al _) ?_;by_cases Z:x=1
 ·subst Z
  simp[-AV.aeS,aa,agk,f51,Evc.cells,PE,G]
 ·simp[-AV.aeS,aa,agk,f51,Evc.cells,PE,G,Z]
end
theorem M5{M:Mem}{A:List AV}{nm:List UInt8}{n:Int}(h:afv M A (w.con nm))(G:w.Ok s)(H:ZV w n):
  kO prog 51 [.agg A,.int .i64 n] M (PE (GL w n)) M:=by
 obtain⟨b,u,O,F,rfl,X,W,K,V⟩:=h;have S:O.aeS=true:=by obtain⟨_,_,h3,_⟩:=K;exact h3.ck
 cases w with
 |dep Z us Ys=>
  have D:us.length=Ys.length+1:=G.2.1;obtain⟨C,o,hu,J⟩:=W.pos (show 0<us.length by omega);exact Da rfl X.ck hu S V.ck J H (by have:=G.2.2.1;omega)
 |afW n o w u=>exact AM rfl X.ck W.ck S V.ck
 |fault n o v=>exact nW ⟨show(2:Int)≠1 by decide,show(2:Int)≠4 by decide⟩ X.ck W.ck S V.ck
 |fold n d c v=>exact nW ⟨show(3:Int)≠1 by decide,show(3:Int)≠4 by decide⟩ X.ck W.ck S V.ck
 |afZ i c=>exact nW ⟨show(5:Int)≠1 by decide,show(5:Int)≠4 by decide⟩ X.ck W.ck S V.ck
end Go.Proofs
