/- See R54. -/
import Derived.Test.YtgafjliihahjgaaGreatDoorR48
set_option linter.all false
set_option maxRecDepth 100000
set_option maxHeartbeats 40000000
namespace Go.Proofs
open Go.Eng
theorem Ta:∀k<8,∀p∈dx k,0≤p.1∧p.1≤6∧0≤p.2∧p.2≤6:=by decide
theorem Bv{a:Rat}:0≤mP a↔0≤a:=by
 have h:0≤mP a↔0≤a.num:=by
  unfold mP mw;split
  ·omega
  ·split<;>omega
 rw[h,Rat.num_nonneg]
theorem U6{a:Rat}(h:0<mP a):0<a:=by
 have h1:=Bv.1 (show 0≤mP a by omega);have h2:a≠0:=by rintro rfl;exact absurd h (by decide)
 grind
structure PtS (P:List P2):Prop where
 p:∀a∈P,Sm 2 13 a.1∧Sm 2 13 a.2
 d:∀a∈P,∀b∈P,Sm 2 6 (b.1-a.1)∧Sm 2 6 (b.2-a.2)
variable{n:Int}
theorem Ff{V:Nat}{c:Nat}(hc:c=1∨c=2)(hn:n.natAbs≤V):Sm 2 V (mkRat n c):=by
 rcases hc with rfl | rfl
 ·exact(DR (V:=V) (by decide) (by omega)).to (by decide) (by decide) (Nat.le_refl V)
 ·exact DR (by decide) (by omega)
theorem Vk{m:Int}{c:Nat}(hc:0<c):mkRat n c-mkRat m c=mkRat (n-m) c:=by
 rw[Bg,Bg,Bg,Rat.intCast_sub]
 grind
theorem SU(s:aeE):PtS s.P:=by
 have key:∀a∈s.P,∃x y:Int,(0≤x∧x≤6∧0≤y∧y≤6)∧a=s.pt 1 x y:=fun a ha=>by unfold aeE.P at ha;rw[List.mem_map] at ha;obtain⟨q,h1,h2⟩:=ha;exact⟨q.1,q.2,Ta _ (Nat.mod_lt _ (by decide)) q h1,h2.symm⟩
 have q1:=CA s.sx;have q2:=CA s.sy;have hc:((if s.half then 2 else 1)*1:Nat)=1∨((if s.half then 2 else 1)*1:Nat)=2:=by cases s.half<;>simp
 have h0:0<((if s.half then 2 else 1)*1:Nat):=by cases s.half<;>simp
 constructor
 ·intro a ha
  obtain⟨x,y,⟨h1,h2,h3,h4⟩,rfl⟩:=key a ha;exact⟨Ff hc (by omega),Ff hc (by omega)⟩
 ·intro a ha b hb
  obtain⟨x,y,⟨h1,h2,h3,h4⟩,rfl⟩:=key a ha;obtain⟨x',y',⟨k1,k2,k3,k4⟩,rfl⟩:=key b hb;unfold aeE.pt;simp only;rw[Vk h0,Vk h0];exact⟨Ff hc (by omega),Ff hc (by omega)⟩
section
variable {P:List P2}{D:Nat}{a b c q:P2}
theorem Vu{D:Nat}{x y:Rat}(hx:Sm 2 13 x)(hy:Sm D 800 y):Sm (2*D) 813 (y-x):=by
 have d0:=hy.1;have h1:Sm (2*D) 800 y:=by have:=hy.up 2 (by decide);rwa [Nat.mul_comm] at this
 have h2:Sm (2*D) 13 x:=hx.to ⟨D,rfl⟩ (by omega) (Nat.le_refl _);have:=h1.sub h2;exact this
theorem Pm(H:PtS P)(ha:a∈P)(hb:b∈P)(h1:Sm D 800 q.1)(h2:Sm D 800 q.2)(hD:D≤500):WA a b q∧Sm (4*D) 9756 (cT a b q):=by obtain⟨a1,a2⟩:=H.p a ha;obtain⟨b1,b2⟩:=H.p b hb;obtain⟨d1,d2⟩:=H.d a ha b hb;have e1:=Vu a1 h1;have e2:=Vu a2 h2;have f1:=d1.mul e2;have f2:=d2.mul e1;rw[show 2*(2*D)=4*D by omega] at f1 f2;have f3:=f1.sub f2;refine⟨⟨⟨⟨a1.aeF (by decide) (by decide),a2.aeF (by decide) (by decide)⟩,⟨b1.aeF (by decide) (by decide),b2.aeF (by decide) (by decide)⟩,h1.aeF (by omega) (by omega),h2.aeF (by omega) (by omega)⟩,⟨d1.aeF (by decide) (by decide),e2.aeF (by omega) (by omega),d2.aeF (by decide) (by decide),e1.aeF (by omega) (by omega)⟩,f1.aeF (by omega) (by omega),f2.aeF (by omega) (by omega)⟩,f3⟩
end
theorem Bw(s:aeE){i:Nat}{t:Tr}(h:s.T[i]? =some t):∃A B C,s.P[t.1]? =some A∧s.P[t.2.1]? =some B∧s.P[t.2.2]? =some C∧0<cT A B C:=by
 have hs:=NN s;unfold ij at hs;simp only[Bool.and_eq_true] at hs;have:=List.all_eq_true.1 hs.1.1.2 t (List.mem_of_getElem? h);split at this
 ·rename_i A B C h1 h2 h3
  exact⟨A,B,C,h1,h2,h3,U6 (by simpa using this)⟩
 ·cases this
theorem Tb(s:aeE):s.T.length≤1000:=by
 have:∀k<8,(bD k).length≤1000:=by decide
 exact this _ (Nat.mod_lt _ (by decide))
theorem Nx(s:aeE){D:Nat}{v:V3}(hv:vSm D 800 v)(hD:D≤500):ahi s.P s.T (v.1,v.2.1) where
 tri:=fun i t h=>by obtain⟨A,B,C,h1,h2,h3,_⟩:=Bw s h;have m1:=List.mem_of_getElem? h1;have m2:=List.mem_of_getElem? h2;have m3:=List.mem_of_getElem? h3;have H:=SU s;exact⟨A,B,C,h1,h2,h3,(Pm (q:=(v.1,v.2.1)) H m2 m3 hv.1 hv.2.1 hD).1,(Pm (q:=(v.1,v.2.1)) H m3 m1 hv.1 hv.2.1 hD).1,(Pm (q:=(v.1,v.2.1)) H m1 m2 hv.1 hv.2.1 hD).1⟩
 hl:=⟨(fI s).2,Tb s⟩
end Go.Proofs
namespace Go.Eng
variable{D V:Nat}{q:Rat}
theorem Sm.bd{W:Nat}(h:Sm D V q)(h1: -(W:Rat)≤q)(h2:q≤(W:Rat)):Sm D W q:=⟨h.1,h.2.1,h1,h2⟩
theorem Sm.nat(h:Sm D V q)(h0:0<q):∃m:Nat,0<m∧q*(D:Rat)=(m:Rat)∧m≤V*D:=by
 obtain⟨d0,⟨n,hn⟩,_,h3⟩:=h;have hp:(0:Rat)<(D:Rat):=by exact_mod_cast d0
 have YF:(0:Rat)<(n:Rat):=by rw[←hn];exact Rat.mul_pos h0 hp
 have Za:0<n:=by exact_mod_cast YF
 have X7:(n:Rat)≤(((V*D:Nat):Int):Rat):=by
  rw[Rat.intCast_natCast,mH,←hn];have:=Rat.mul_nonneg (show 0≤(V:Rat)-q by grind) (RJ D)
  grind
 have X7:=Rat.intCast_le_intCast.1 X7;refine⟨n.toNat,by omega,?_,by omega⟩;rw[hn,←Rat.intCast_natCast,Int.toNat_of_nonneg (by omega)]
end Go.Eng
namespace Go.Proofs
open Go.Eng
theorem Ui(A B C q:P2):cT B C q+cT C A q+cT A B q=cT A B C:=by
 unfold cT
 grind
theorem Kb{x S V:Rat}(hS:0<S)(h:x*S≤V*S):x≤V:=by
 rcases (Rat.le_total:x≤V∨V≤x) with h1 | h1
 ·exact h1
 ·by_cases h2:x=V
  ·rw[h2];exact Rat.le_refl
  ·have:=Rat.mul_pos (show 0<x-V by grind) hS
   grind
section
variable {P:List P2}{D:Nat}{A B C q:P2}{f g h:Rat}
theorem Vi(H:PtS P)(hA:A∈P)(hB:B∈P)(hC:C∈P)(hS:0<cT A B C)(h1:Sm D 800 q.1)(h2:Sm D 800 q.2)(hD:D≤500)(Zj:inQ (BG A B C q))(hf:Sm 2 500 f)(hg:Sm 2 500 g)(hh:Sm 2 500 h):
  V4 (BG A B C q) f g h∧aeF (V5 (BG A B C q) f g h):=by
 obtain⟨i1,i2,i3⟩:=Zj;have i1:=Bv.1 i1;have i2:=Bv.1 i2;have i3:=Bv.1 i3;have sum:=Ui A B C q;have w1:=(Pm H hB hC h1 h2 hD).2;have w2:=(Pm H hC hA h1 h2 hD).2;have w3:=(Pm H hA hB h1 h2 hD).2;have s1:=((H.d A hA B hB).1.mul (H.d A hA C hC).2).sub ((H.d A hA B hB).2.mul (H.d A hA C hC).1);have sS:Sm 4 72 (cT A B C):=s1;unfold BG at*;unfold V4 V5;simp only at*;obtain⟨S,hSe⟩:∃S,S=cT A B C:=⟨_,rfl⟩
 obtain⟨x,hx⟩:∃x,x=cT B C q:=⟨_,rfl⟩
 obtain⟨y,hy⟩:∃x,x=cT C A q:=⟨_,rfl⟩
 obtain⟨z,hz⟩:∃x,x=cT A B q:=⟨_,rfl⟩
 rw[←hSe] at sum hS sS;rw[←hx] at i1 w1 sum ⊢;rw[←hy] at i2 w2 sum ⊢;rw[←hz] at i3 w3 sum ⊢;clear hx hy hz hSe s1;have d0:=h1.1;have sU:S≤72:=sS.2.2.2;have e72:((72:Nat):Rat)=72:=rfl;have w1:Sm (4*D) 72 x:=w1.bd (by rw[e72];grind) (by rw[e72];grind);have w2:Sm (4*D) 72 y:=w2.bd (by rw[e72];grind) (by rw[e72];grind);have w3:Sm (4*D) 72 z:=w3.bd (by rw[e72];grind) (by rw[e72];grind);have m1:=w1.mul hf;have m2:=w2.mul hg;have m3:=w3.mul hh;have a1:=w1.add w2;have a2:=a1.add w3;have b1:=m1.add m2;have b2:=b1.add m3;have nz:x+y+z≠0:=by rw[sum];grind
 refine⟨⟨⟨w1.aeF (by omega) (by omega),w2.aeF (by omega) (by omega),w3.aeF (by omega) (by omega)⟩,⟨hf.aeF (by decide) (by decide),hg.aeF (by decide) (by decide),hh.aeF (by decide) (by decide)⟩,⟨a1.aeF (by omega) (by omega),a2.aeF (by omega) (by omega),nz⟩,⟨m1.aeF (by omega) (by omega),m2.aeF (by omega) (by omega),m3.aeF (by omega) (by omega)⟩,b1.aeF (by omega) (by omega),b2.aeF (by omega) (by omega)⟩,?_⟩;rw[sum];obtain⟨m,mp,hm,aew⟩:=sS.nat hS;obtain⟨Z,hZ⟩:∃Z,Z=x*f+y*g+z*h:=⟨_,rfl⟩
 rw[←hZ] at b2 ⊢;obtain⟨Q,hQ⟩:∃Q,Q=Z / S:=⟨_,rfl⟩
 rw[←hQ];have hQS:Q*S=Z:=by rw[hQ];exact Rat.div_mul_cancel (by grind)
 have ab9:((500:Nat):Rat)=500:=rfl;obtain⟨_,_,f1,f2⟩:=hf;obtain⟨_,_,g1,g2⟩:=hg;obtain⟨_,_,k1,k2⟩:=hh;rw[ab9] at f1 f2 g1 g2 k1 k2;have up:Q≤500:=Kb hS (by
  rw[hQS,hZ,←sum];have:=Rat.mul_nonneg i1 (show 0≤500-f by grind);have:=Rat.mul_nonneg i2 (show 0≤500-g by grind);have:=Rat.mul_nonneg i3 (show 0≤500-h by grind)
  grind)
 have dn: -Q≤500:=Kb hS (by
  rw[Rat.neg_mul,hQS,hZ,←sum];have:=Rat.mul_nonneg i1 (show 0≤500+f by grind);have:=Rat.mul_nonneg i2 (show 0≤500+g by grind);have:=Rat.mul_nonneg i3 (show 0≤500+h by grind)
  grind)
 obtain⟨c0,⟨n,hn⟩,_,_⟩:=b2;have hE:Sm (4*D*2*m) 500 Q:=by
  refine⟨Nat.mul_pos c0 mp,⟨n*4,?_⟩,by rw[ab9];grind,by rw[ab9];exact up⟩;rw[mH (4*D*2),←hm,Rat.intCast_mul,←hn];have e4:((4:Nat):Rat)=4:=rfl;have e4' :((4:Int):Rat)=4:=rfl;rw[e4,e4',←hQS]
  grind
 have l1:4*D*2*m≤4000*288:=Nat.mul_le_mul (by omega) (by omega);exact hE.aeF (by omega) (by omega)
end
theorem WN{z:Int}(h:z.natAbs<1000):Sm 2 500 (hQ z):=DR (by decide) (by omega)
end Go.Proofs
namespace Go.Proofs
open Go.Eng
open Tryz
variable{o1 o2:Bool}
theorem rV{f:FuncId}{a v:AV}{P:List P2}{T:List Tr}{n k pb tb:Nat}{M:Mem}(hc:a.closed=true)(hv:v.closed=true)(h:kF prog f [.agg [.slice 0 0 n none,.slice 1 0 k none],a] [.cells false 2 (pC P),.cells false 3 (tC T)] v [.cells false 2 (pC P),.cells false 3 (tC T)])(m1:M[pb]? =some (.cells o1 2 (pC P)))(m2:M[tb]? =some (.cells o2 3 (tC T))):
  kF prog f [.agg [.slice pb 0 n none,.slice tb 0 k none],a] M v M:=by
 have l1:=(gL m1);have l2:=(gL m2);have hrc:AV.aeG [a]=true:=by simp[AV.aeG,hc]
 have:=kF.frame (f:=f) (args:=[.agg [.slice 0 0 n none,.slice 1 0 k none],a]) (v:=v) (M:=M) (m:=[.cells false 2 (pC P),.cells false 3 (tC T)]) (new:=[]) [pb,tb] rfl (by simp[l1,l2]) (by have:=cH (n:=2) hrc;simpa [AV.aeQ,AV.under] using this) (fun i s hs=>by
  match i with
  |0=>simp at hs;subst hs;exact bL (dQ P) m1 (List.take_of_length_le (Nat.le_refl _))
  |1=>simp at hs;subst hs;exact bL (fJ T) m2 (List.take_of_length_le (Nat.le_refl _))
  |i+2=>simp at hs) rfl (by rw[List.append_nil];exact h)
 simpa [AV.aeM,AV.ren,aF,gB _ _ hv,gB _ _ hc] using this
theorem Wp{Q R:List Rat}(h:stC (Q.map aw)=stC (R.map aw)):Q=R:=by unfold stC at h;rw[List.map_map,List.map_map] at h;exact List.map_inj_right (f:=AV.str∘aw) (fun x y e=>gO (by simpa using e)) |>.1 h
def FL(s:aeE) (j:Nat) (w:V3) (Q:List Rat):Rat:=V5 w (Q.getD (s.T.getD j (0,0,0)).1 0) (Q.getD (s.T.getD j (0,0,0)).2.1 0) (Q.getD (s.T.getD j (0,0,0)).2.2 0)
noncomputable def WD(s:aeE) (Z:List Int) (Ys:List (List Int)) (p:V3):Int:=
 match Su s.P (p.1,p.2.1) s.T 0 with
 |none=> -2
 |some (j,w)=>if p.2.2<FL s j w (qH Z) then -1 else (KU p.2.2 (Ys.map fun Y=>FL s j w (qH Y)):Int)
variable{bv sv uv:AV}{pb tb:Nat}
section
variable {s:aeE}{M:Mem}{p:V3}{D j:Nat}{w:V3}
def lR(s:aeE) (pb tb:Nat) (bv uv sv:AV) (p:V3) (M:Mem) (j:Nat) (w:V3) (c:Go.Eng.Callee) (a:List AV) (N:Mem) (r:HS):Prop:=
 (c=.fn 134∧a=[.agg [.slice pb 0 s.P.length none,.slice tb 0 s.T.length none],vA p]∧N=M++[.cells true 0 [.slice pb 0 s.P.length none,.slice tb 0 s.T.length none],.cells true 0 [bv,uv,sv],.cells true 0 (vL p)]∧r=⟨.tuple [.int .i64 (j:Int),vA w,.bool true],none,[]⟩)∨
 (∃x Q,c=.fn 135∧a=[x,.ptr M.length 0,.ptr (M.length+3) 0,.ptr (M.length+4) 0]∧N=M++[.cells true 0 [.slice pb 0 s.P.length none,.slice tb 0 s.T.length none],.cells true 0 [bv,uv,sv],.cells true 0 (vL p),.cells true 0 [.int .i64 (j:Int)],.cells true 0 (vL w)]∧aeJ M x 1 Q.length (stC (Q.map aw))∧Q.length=s.P.length∧(∀q∈Q,Sm 2 500 q)∧r=⟨.str (aw (FL s j w Q)),none,[]⟩)∨
 (∃x y,c=.fn 85∧a=[.str (aw x),.str (aw y)]∧aeF x∧aeF y∧r=⟨.int .i64 (mo x y),none,[]⟩)
theorem jC{s:aeE}{p:V3}{M:Mem}{j:Nat}{w:V3}{c:Go.Eng.Callee}{a:List AV}{N:Mem}{r r' :HS}(h:lR s pb tb bv uv sv p M j w c a N r)(h' :lR s pb tb bv uv sv p M j w c a N r'):r' =r:=by
 rcases h with⟨rfl,rfl,rfl,rfl⟩ | ⟨x,Q,rfl,rfl,rfl,h1,h2,h3,rfl⟩ | ⟨x,y,rfl,rfl,h1,h2,rfl⟩
 ·rcases h' with⟨_,_,_,rfl⟩ | ⟨x,Q,e,_⟩ | ⟨x,y,e,_⟩
  ·rfl
  ·cases e
  ·cases e
 ·rcases h' with⟨e,_⟩ | ⟨x',Q',_,e,_,k1,k2,k3,rfl⟩ | ⟨x,y,e,_⟩
  ·cases e
  ·have ex:x=x' :=by simpa using e
   subst ex;have:=(h1.inj k1).2;rw[Wp this]
  ·cases e
 ·rcases h' with⟨e,_⟩ | ⟨x',Q',e,_⟩ | ⟨x',y',_,e,_,_,rfl⟩
  ·cases e
  ·cases e
  ·simp only[List.cons.injEq,AV.str.injEq,and_true] at e
   rw[gO e.1,gO e.2]
theorem Lr(m1:M[pb]? =some (.cells o1 2 (pC s.P)))(m2:M[tb]? =some (.cells o2 3 (tC s.T)))(hp:vSm D 800 p)(hD:D≤500)(hl:Su s.P (p.1,p.2.1) s.T 0=some (j,w)):kP prog (gC (lR s pb tb bv uv sv p M j w)):=FD fun c a N r h=>by
 have l1:=(gL m1);have l2:=(gL m2);rcases h with⟨rfl,rfl,rfl,rfl⟩ | ⟨x,Q,rfl,rfl,rfl,h1,h2,h3,rfl⟩ | ⟨x,y,rfl,rfl,h1,h2,rfl⟩
 ·exact af (by simpa using rV (by rfl) (by rfl) (On (Nx s hp hD) hl) (by rw[List.getElem?_append_left l1];exact m1) (by rw[List.getElem?_append_left l2];exact m2))
 ·obtain⟨i,t,hji,hi,Zj,rfl,_⟩:=vd hl
  obtain rfl:i=j:=by omega
  obtain⟨A,B,C,hA,hB,hC,hS⟩:=Bw s hi;have et:s.T.getD i (0,0,0)=t:=by simp[List.getD,hi]
  have eA:BD s.P (p.1,p.2.1) t=BG A B C (p.1,p.2.1):=by unfold BD;simp[List.getD,hA,hB,hC]
  have b1:=(gL hA);have b2:=(gL hB);have b3:=(gL hC);obtain⟨f1,q1⟩:∃f,Q[t.1]? =some f:=⟨_,List.getElem?_eq_getElem (by omega)⟩
  obtain⟨f2,q2⟩:∃f,Q[t.2.1]? =some f:=⟨_,List.getElem?_eq_getElem (by omega)⟩
  obtain⟨f3,q3⟩:∃f,Q[t.2.2]? =some f:=⟨_,List.getElem?_eq_getElem (by omega)⟩
  have hq:FL s i (BD s.P (p.1,p.2.1) t) Q=V5 (BD s.P (p.1,p.2.1) t) f1 f2 f3:=by unfold FL;rw[et];simp[List.getD,q1,q2,q3]
  rw[hq];rw[eA] at Zj ⊢;have XW:=(Vi (q:=(p.1,p.2.1)) (SU s) (List.mem_of_getElem? hA) (List.mem_of_getElem? hB) (List.mem_of_getElem? hC) hS hp.1 hp.2.1 hD Zj (h3 _ (List.mem_of_getElem? q1)) (h3 _ (List.mem_of_getElem? q2)) (h3 _ (List.mem_of_getElem? q3))).1;obtain⟨fb,o,rfl,hb⟩:=h1.pos (by have:=(fI s).1;omega);have l3:=(gL hb);exact af (by simpa using F5 (N:=M++[.cells true 0 [.slice pb 0 s.P.length none,.slice tb 0 s.T.length none],.cells true 0 [bv,uv,sv],.cells true 0 (vL p),.cells true 0 [.int .i64 (i:Int)],.cells true 0 (vL (BG A B C (p.1,p.2.1)))]) (a3:=M.length) (a7:=M.length+3) (a8:=M.length+4) (tb:=tb) (fb:=fb) (pv:=.slice pb 0 s.P.length none) (by rw[tO];rfl) (by rw[List.getElem?_append_left l2];exact m2) rfl (by rw[dC];rfl) (by rw[dC];rfl) (by rw[List.getElem?_append_left l3];exact hb) rfl hi q1 q2 q3 XW)
 ·have:ao 85 [.str (aw x),.str (aw y)]=some (.int .i64 (mo x y)):=by unfold aeF at h1 h2;simp[ao,aH,aB,h1,h2]
  have:=bP.fn _ _ N ⟨.int .i64 (mo x y),none,[]⟩ (by unfold ag;simp only;rw[this]);exact af (by simpa [HS.mem] using this)
end
end Go.Proofs
namespace Go.Proofs
open Go.Eng
open Tryz
theorem aeJ.val{N:Mem}{v:AV}{es n:Nat}{C:List AV}(h:aeJ N v es n C):v.kS=true∧v.known=true∧v.cells=[v]:=by
 rcases h with⟨rfl,_⟩ | ⟨b,o,rfl,_⟩
 ·exact⟨rfl,rfl,rfl⟩
 ·exact⟨rfl,rfl,rfl⟩
variable{Z:List Int}
section
variable {s:aeE}{M:Mem}{p:V3}{D:Nat}
theorem Ls{O:adM}{pv tv bv uv sv:AV}{S1 S2 S3:List UInt8}(ck:pv.kS=true∧tv.kS=true∧bv.kS=true∧uv.kS=true∧sv.kS=true)(kn:pv.known=true∧tv.known=true∧bv.known=true∧uv.known=true∧sv.known=true)(cs:pv.cells=[pv]∧tv.cells=[tv]∧bv.cells=[bv]∧uv.cells=[uv]∧sv.cells=[sv])(eL:O (.fn 134) [.agg [pv,tv],vA p] (M++[.cells true 0 [pv,tv],.cells true 0 [bv,uv,sv],.cells true 0 (vL p)])=some ⟨.tuple [.int .i64 0,.agg [.str S1,.str S2,.str S3],.bool false],none,[]⟩):
  ad (aM prog) (fun _=>[11]) (aT prog) O 2 84 [.agg [pv,tv],.agg [bv,uv,sv],vA p] M=some ⟨.int .i64 (-2),none,[]⟩:=by
 have hG:aT prog 84=some f84:=by kernel_rfl
 have w2:IntKind.i64.wrap (-2)= -2:=rfl;have Yj:∀j,(M.length+j<M.length)=False:=fun j=>dz _ _
 obtain⟨c1,c2,c3,c4,c5⟩:=ck;obtain⟨k1,k2,k3,k4,k5⟩:=kn;obtain⟨e1,e2,e3,e4,e5⟩:=cs;unfold vA at*;simp only[vL] at*;simp[-getElem?_pos,-AV.kS,-AV.known,-AV.cells,-bk,-List.all_eq_true,vS,mS,ad,hG,f84,Yj,eL]
theorem Xc(h:∀z∈Z,z.natAbs<1000):∀q∈qH Z,Sm 2 500 q:=fun q hq=>by unfold qH at hq;rw[List.mem_map] at hq;obtain⟨z,h1,rfl⟩:=hq;exact WN (h z h1)
theorem Oh{pb tb:Nat}{o1 o2:Bool}{bv uv sv:AV}{us:List (List UInt8)}{Ys:List (List Int)}(hw:EvD.Ok s (.dep Z us Ys))(k1:aeJ M bv 1 (hT Z).length (stC (hT Z)))(k2:aeJ M uv 1 us.length (stC us))(k3:afN M sv (Ys.map hT))(hp:vSm D 800 p)(hD:D≤500)(m1:M[pb]? =some (.cells o1 2 (pC s.P)))(m2:M[tb]? =some (.cells o2 3 (tC s.T))):
  kF prog 84 [.agg [.slice pb 0 s.P.length none,.slice tb 0 s.T.length none],.agg [bv,uv,sv],vA p] M (.int .i64 (WD s Z Ys p)) M:=by
 have l1:=(gL m1);have l2:=(gL m2);obtain⟨vs,v1,v2,v3⟩:=k3;obtain⟨b1,b2,b3⟩:=k1.val;obtain⟨u1,u2,u3⟩:=k2.val;obtain⟨s1,s2,s3⟩:=v2.val;unfold WD;cases hl:Su s.P (p.1,p.2.1) s.T 0 with
 |none=>
  obtain⟨S1,S2,S3,hc⟩:=Om (Nx s hp hD) hl;have hO:kP prog (cw [(134,[.agg [.slice pb 0 s.P.length none,.slice tb 0 s.T.length none],vA p],(fun N=>N=M++[.cells true 0 [.slice pb 0 s.P.length none,.slice tb 0 s.T.length none],.cells true 0 [bv,uv,sv],.cells true 0 (vL p)]),⟨.tuple [.int .i64 0,.agg [.str S1,.str S2,.str S3],.bool false],none,[]⟩)]):=gH fun y hy N hN=>by rw[List.mem_singleton] at hy;subst hy;subst hN;exact af (by simpa using rV (by rfl) (by rfl) hc (by rw[List.getElem?_append_left l1];exact m1) (by rw[List.getElem?_append_left l2];exact m2))
  exact Ap hO (Ls (M:=M) (p:=p) ⟨rfl,rfl,b1,u1,s1⟩ ⟨rfl,rfl,b2,u2,s2⟩ ⟨rfl,rfl,b3,u3,s3⟩ (bl rfl))
 |some jw=>
  obtain⟨j,w⟩:=jw;simp only;have hO:=Lr (bv:=bv) (uv:=uv) (sv:=sv) m1 m2 hp hD hl;have hZl:(qH Z).length=s.P.length:=by rw[←hw.1];simp[qH]
  have hsm:=Xc hw.2.2.2.1;have fp:aeF p.2.2:=hp.2.2.aeF (by omega) (by omega);have key:∀Q:List Rat,Q.length=s.P.length→(∀q∈Q,Sm 2 500 q)→aeF (FL s j w Q):=fun Q hQ hS=>by
   obtain⟨i,t,hji,hi,Zj,rfl,_⟩:=vd hl;obtain rfl:i=j:=by omega
   obtain⟨A,B,C,hA,hB,hC,hSp⟩:=Bw s hi;have et:s.T.getD i (0,0,0)=t:=by simp[List.getD,hi]
   have eA:BD s.P (p.1,p.2.1) t=BG A B C (p.1,p.2.1):=by unfold BD;simp[List.getD,hA,hB,hC]
   have a1:=(gL hA);have a2:=(gL hB);have a3:=(gL hC);obtain⟨f1,q1⟩:∃f,Q[t.1]? =some f:=⟨_,List.getElem?_eq_getElem (by omega)⟩
   obtain⟨f2,q2⟩:∃f,Q[t.2.1]? =some f:=⟨_,List.getElem?_eq_getElem (by omega)⟩
   obtain⟨f3,q3⟩:∃f,Q[t.2.2]? =some f:=⟨_,List.getElem?_eq_getElem (by omega)⟩
   have hq:FL s i (BD s.P (p.1,p.2.1) t) Q=V5 (BD s.P (p.1,p.2.1) t) f1 f2 f3:=by unfold FL;rw[et];simp[List.getD,q1,q2,q3]
   rw[hq];rw[eA] at Zj ⊢;exact(Vi (q:=(p.1,p.2.1)) (SU s) (List.mem_of_getElem? hA) (List.mem_of_getElem? hB) (List.mem_of_getElem? hC) hSp hp.1 hp.2.1 hD Zj (hS _ (List.mem_of_getElem? q1)) (hS _ (List.mem_of_getElem? q2)) (hS _ (List.mem_of_getElem? q3))).2
  have rb:=k1.refs;have ru:=k2.refs;have rs:=v2.refs;have hYl:(Ys.map hT).length=Ys.length:=List.length_map ..;have YE:aeJ M bv 1 (qH Z).length (stC ((qH Z).map aw)):=by have:hT Z=(qH Z).map aw:=rfl;rw[this,List.length_map] at k1;exact k1
  obtain⟨hs,hhs⟩:∃hs,hs=Ys.map fun Y=>FL s j w (qH Y):=⟨_,rfl⟩
  have YT:hs.length=Ys.length:=by rw[hhs,List.length_map]
  rw[←hhs];have hsv:(sv=.kK∧hs=[])∨∃sb o,sv=.slice sb 0 hs.length none∧M[sb]? =some (.cells o 1 vs):=by
   rcases v2 with⟨h1,h2,_⟩ | ⟨b,o,h1,h2,h3⟩
   ·exact .inl ⟨h1,List.eq_nil_of_length_eq_zero (by omega)⟩
   ·exact .inr ⟨b,o,by rw[YT,←hYl];exact h1,h3⟩
  obtain⟨sb,hsv⟩:∃sb,(sv=.kK∧hs=[])∨∃o,sv=.slice sb 0 hs.length none∧M[sb]? =some (.cells o 1 vs):=by
   rcases hsv with h | ⟨sb,o,h⟩
   ·exact⟨0,.inl h⟩
   ·exact⟨sb,.inr ⟨o,h⟩⟩
  have H':∀(i:Nat) x,vs[i]? =some x→∃Y,Ys[i]? =some Y∧aeJ M x 1 (qH Y).length (stC ((qH Y).map aw))∧(qH Y).length=s.P.length∧(∀q∈qH Y,Sm 2 500 q):=fun i x hx=>by
   obtain⟨Y,hY⟩:∃Y,Ys[i]? =some Y:=⟨_,List.getElem?_eq_getElem (by have:=(gL hx);omega)⟩
   have hr:=v3 i x (hT Y) hx (by simp[hY]);have e:hT Y=(qH Y).map aw:=rfl;rw[e,List.length_map] at hr;obtain⟨y1,y2⟩:=hw.2.2.2.2 Y (List.mem_of_getElem? hY);exact⟨Y,hY,hr,by rw[←y1];simp[qH],Xc y2⟩
  refine Ap hO (Lt (O:=gC (lR s pb tb bv uv sv p M j w)) (M:=M) (p:=p) (h0:=FL s j w (qH Z)) (j:=j) (w:=w) (vs:=vs) ⟨rfl,rfl,b1,u1,s1⟩ ⟨rfl,rfl,b2,u2,s2⟩ ⟨rfl,rfl,b3,u3,s3⟩ (fun x=>⟨by simp only[AV.y9,decide_eq_true_eq];omega,by simp only[AV.y9,decide_eq_true_eq];omega,rb x,ru x,rs x⟩) hsv (by omega) (by have:=hw.2.2.1;omega) (fun x hx=>?_) ?_ ?_ ?_ ?_)
  ·obtain⟨i,hi⟩:=List.getElem?_of_mem hx
   obtain⟨Y,_,hr,_⟩:=H' i x hi;exact hr.refs 0
  ·exact fh (.inl ⟨rfl,rfl,rfl,rfl⟩) fun r' h=>jC (.inl ⟨rfl,rfl,rfl,rfl⟩) h
  ·have hS:lR s pb tb bv uv sv p M j w (.fn 135) [bv,.ptr M.length 0,.ptr (M.length+3) 0,.ptr (M.length+4) 0] _ ⟨.str (aw (FL s j w (qH Z))),none,[]⟩:=.inr (.inl ⟨bv,qH Z,rfl,rfl,rfl,YE,hZl,hsm,rfl⟩)
   exact fh hS fun r' h=>jC hS h
  ·have hS:∀N,lR s pb tb bv uv sv p M j w (.fn 85) [.str (aw p.2.2),.str (aw (FL s j w (qH Z)))] N ⟨.int .i64 (mo p.2.2 (FL s j w (qH Z))),none,[]⟩:=fun N=>.inr (.inr ⟨_,_,rfl,rfl,fp,key _ hZl hsm,rfl⟩)
   exact fh (hS _) fun r' h=>jC (hS _) h
  ·intro i h hi
   obtain⟨x,hx⟩:∃x,vs[i]? =some x:=⟨_,List.getElem?_eq_getElem (by have:=(gL hi);omega)⟩
   obtain⟨Y,hY,hr,y1,y2⟩:=H' i x hx;have e:h=FL s j w (qH Y):=by rw[hhs,List.getElem?_map,hY] at hi;simpa using hi.symm
   obtain⟨r1,r2,r3⟩:=hr.val;subst e;have hS:lR s pb tb bv uv sv p M j w (.fn 135) [x,.ptr M.length 0,.ptr (M.length+3) 0,.ptr (M.length+4) 0] _ ⟨.str (aw (FL s j w (qH Y))),none,[]⟩:=.inr (.inl ⟨x,qH Y,rfl,rfl,rfl,hr,y1,y2,rfl⟩);have hS2:∀N,lR s pb tb bv uv sv p M j w (.fn 85) [.str (aw (FL s j w (qH Y))),.str (aw p.2.2)] N ⟨.int .i64 (mo (FL s j w (qH Y)) p.2.2),none,[]⟩:=fun N=>.inr (.inr ⟨_,_,rfl,rfl,key _ y1 y2,fp,rfl⟩)
   exact⟨x,hx,r1,r3,fun f=>.inr trivial,fh hS fun r' h=>jC hS h,fh (hS2 _) fun r' h=>jC (hS2 _) h⟩
end
end Go.Proofs
namespace Go.Proofs
open Go.Eng
open Tryz
noncomputable def nuE(s:aeE):EvD→V3→Int
 |.dep Z _ Ys,p=>WD s Z Ys p
 |.fault n o _,p=>if (o:Rat)≤eX (zV n) p then 1 else 0
 |.fold n d c _,p=>(bS (bV d c) (eX (zV n) p):Int)
 |.afT n o w _,p=>if eX (zV n) p-(o:Rat)<0 then 0 else if eX (zV n) p-(o:Rat)<hQ w then 1 else 2
 |.age ..,_=>0
theorem U5{a:Rat}:mP a<0↔a<0:=by
 have h:=Bv (a:=a);constructor
 ·intro h1
  exact Rat.not_le.1 fun h2=>by have:=h.2 h2;omega
 ·intro h1
  have:¬0≤mP a:=fun h2=>absurd (h.1 h2) (Rat.not_le.2 h1)
  omega
theorem pV:(aG f50).map (fun o=>eY o.toList)=[[0,1,3,7,0,31,0,64,192,448,1023,2047],[0,1,3,0,8,24,0,120,255,511,1023,1023,2047,8191],[0,1,3,7,0,31,0,64,192,448,1023,2047]]:=by kernel_rfl
variable{o:Int}{v:Z3}
section
variable {a b:Nat}{nm:List UInt8}{p:V3}
theorem afG:aT prog 50=some f50:=by kernel_rfl
theorem agd:aX [0,1,3,7,0,31,0,64,192,448,1023,2047] 11=true:=by decide
theorem zD{n:Z3}(d:ae3 (zV n) p)(fd:aeF (eX (zV n) p))(fo:aeF (o:Rat)):
  kF prog 50 [.agg [.slice 0 0 a none,.slice 1 0 b none],.agg (cb nm n o v),vA p] [.kO,.kO] (.int .i64 (if (o:Rat)≤eX (zV n) p then 1 else 0)) [.kO,.kO]:=by
 obtain⟨fd1,fd2⟩:=fd;obtain⟨o1,o2⟩:=fo;obtain⟨os,FS⟩:∃os,aG f50=os:=⟨_,rfl⟩
 have IR:=bj FS (ls:=[[0,1,3,7,0,31,0,64,192,448,1023,2047],[0,1,3,0,8,24,0,120,255,511,1023,1023,2047,8191],[0,1,3,7,0,31,0,64,192,448,1023,2047]]) pV;simp only[aG,bF,f50,List.nil_append,List.append_nil,List.cons_append] at FS;subst FS;simp only[List.map_cons,List.map_nil,List.cons.injEq,and_true] at IR;obtain⟨XY,hb1,Yl⟩:=IR;have X7:0≤mo (eX (zV n) p) (o:Rat)↔(o:Rat)≤eX (zV n) p:=Mi;obtain⟨N,hN⟩:∃N,N=zV n:=⟨_,rfl⟩
 rw[←hN] at d fd1 fd2 X7 ⊢;obtain⟨q,hq⟩:∃q:Rat,q=(o:Rat):=⟨_,rfl⟩
 rw[←hq] at o1 o2 X7 ⊢;obtain⟨dt,hdt⟩:∃k,k=eX N p:=⟨_,rfl⟩
 rw[←hdt] at fd1 fd2 X7 ⊢;unfold zV at hN;have h:ad (aM prog) (fun _=>[]) (aT prog) (ag de) 1 50 [.agg [.slice 0 0 a none,.slice 1 0 b none],.agg (cb nm n o v),vA p] [.kO,.kO]=some ⟨.int .i64 (if q≤dt then 1 else 0),none,[]⟩:=by
  by_cases hc:q≤dt
  ·have c:=X7.2 hc
   simp[ad,afG,f50,ag,de,dF,cR,ao,aH,vA,cb,zS,vq,aB,←hN,←hq,←hdt,d,fd1,fd2,o1,o2,c,hc,-aE,aj XY,bn,bf,bm,agd,Nat.testBit]
  ·have c:¬0≤mo dt q:=fun h=>hc (X7.1 h)
   simp[ad,afG,f50,ag,de,dF,cR,ao,aH,vA,cb,zS,vq,aB,←hN,←hq,←hdt,d,fd1,fd2,o1,o2,c,hc,-aE,aj XY,bn,bf,bm,agd,Nat.testBit]
 have:=(ak ae (aq _) jf (au _) h).1;simpa [HS.mem] using this
theorem BZ{n:Z3}{w:Int}{u:List UInt8}(d:ae3 (zV n) p)(fd:aeF (eX (zV n) p))(fo:aeF (o:Rat))(fw:aeF (hQ w))(fs:aeF (eX (zV n) p-(o:Rat))):
  kF prog 50 [.agg [.slice 0 0 a none,.slice 1 0 b none],.agg (di nm n o w u),vA p] [.kO,.kO] (.int .i64 (if eX (zV n) p-(o:Rat)<0 then 0 else if eX (zV n) p-(o:Rat)<hQ w then 1 else 2)) [.kO,.kO]:=by
 obtain⟨fd1,fd2⟩:=fd;obtain⟨o1,o2⟩:=fo;obtain⟨w1,w2⟩:=fw;obtain⟨s1,s2⟩:=fs;obtain⟨os,FS⟩:∃os,aG f50=os:=⟨_,rfl⟩
 have IR:=bj FS (ls:=[[0,1,3,7,0,31,0,64,192,448,1023,2047],[0,1,3,0,8,24,0,120,255,511,1023,1023,2047,8191],[0,1,3,7,0,31,0,64,192,448,1023,2047]]) pV;simp only[aG,bF,f50,List.nil_append,List.append_nil,List.cons_append] at FS;subst FS;simp only[List.map_cons,List.map_nil,List.cons.injEq,and_true] at IR;obtain⟨XY,hb1,Yl⟩:=IR;obtain⟨N,hN⟩:∃N,N=zV n:=⟨_,rfl⟩
 rw[←hN] at d fd1 fd2 s1 s2 ⊢;obtain⟨q,hq⟩:∃q:Rat,q=(o:Rat):=⟨_,rfl⟩
 rw[←hq] at o1 o2 s1 s2 ⊢;obtain⟨dt,hdt⟩:∃k,k=eX N p:=⟨_,rfl⟩
 rw[←hdt] at fd1 fd2 s1 s2 ⊢;obtain⟨y,hy⟩:∃k,k=hQ w:=⟨_,rfl⟩
 rw[←hy] at w1 w2 ⊢;obtain⟨x,hx⟩:∃k,k=dt-q:=⟨_,rfl⟩
 rw[←hx] at s1 s2 ⊢;have c1:=U5 (a:=x);have c2:=E7 (a:=x) (b:=y);unfold zV at hN;have h:ad (aM prog) (fun _=>[]) (aT prog) (ag de) 1 50 [.agg [.slice 0 0 a none,.slice 1 0 b none],.agg (di nm n o w u),vA p] [.kO,.kO]=some ⟨.int .i64 (if x<0 then 0 else if x<y then 1 else 2),none,[]⟩:=by
  by_cases h1:x<0
  ·have:=c1.2 h1
   simp[ad,afG,f50,ag,de,dF,cR,ao,aH,bM,be,vA,di,zS,vq,aB,←hN,←hq,←hdt,←hx,←hy,d,fd1,fd2,o1,o2,this,h1,-aE,aj Yl,bn,bf,bm,agd,Nat.testBit]
  ·have YS :¬mP x<0:=fun h=>h1 (c1.1 h)
   by_cases h2:x<y
   ·have:=c2.2 h2
    simp[ad,afG,f50,ag,de,dF,cR,ao,aH,bM,be,vA,di,zS,vq,aB,←hN,←hq,←hdt,←hx,←hy,d,fd1,fd2,o1,o2,s1,s2,w1,w2,this,h1,YS,h2,-aE,aj Yl,bn,bf,bm,agd,Nat.testBit]
   ·have ZZ :¬mo x y<0:=fun h=>h2 (c2.1 h)
    simp[ad,afG,f50,ag,de,dF,cR,ao,aH,bM,be,vA,di,zS,vq,aB,←hN,←hq,←hdt,←hx,←hy,d,fd1,fd2,o1,o2,s1,s2,w1,w2,h1,YS,h2,ZZ,-aE,aj Yl,bn,bf,bm,agd,Nat.testBit]
 have:=(ak ae (aq _) jf (au _) h).1;simpa [HS.mem] using this
theorem B0{n:Z3}{L:List P2}(d:ae3 (zV n) p)(kn:Wx L (eX (zV n) p))(hp:0<L.length)(hl:L.length≤1000):
  kF prog 50 [.agg [.slice 0 0 a none,.slice 1 0 b none],.agg (bO nm n (.slice 2 0 L.length none) v),vA p] [.kO,.kO,.cells false 2 (kC (Go.Proofs.kT L))] (.int .i64 (bS L (eX (zV n) p):Int)) [.kO,.kO,.cells false 2 (kC (Go.Proofs.kT L))]:=by
 have hO:kP prog (adM.or (gq 87 [.slice 2 0 L.length none,.str (aw (eX (zV n) p))] (.tuple [.int .i64 (bS L (eX (zV n) p):Int),.str (aw (fL L (eX (zV n) p)))]) (fun N=>∃Z,N=aeD.kO::.kO::.cells false 2 (kC (Go.Proofs.kT L))::Z)) (ag de)):=
  kP.or (ic fun N ⟨Z,hZ⟩=>by subst hZ;exact ug hp hl (b:=2) (o:=false) rfl kn) jf
 obtain⟨os,FS⟩:∃os,aG f50=os:=⟨_,rfl⟩
 have IR:=bj FS (ls:=[[0,1,3,7,0,31,0,64,192,448,1023,2047],[0,1,3,0,8,24,0,120,255,511,1023,1023,2047,8191],[0,1,3,7,0,31,0,64,192,448,1023,2047]]) pV;simp only[aG,bF,f50,List.nil_append,List.append_nil,List.cons_append] at FS;subst FS;simp only[List.map_cons,List.map_nil,List.cons.injEq,and_true] at IR;obtain⟨XY,hb1,Yl⟩:=IR;have j1:aX [0,1,3,0,8,24,0,120,255,511,1023,1023,2047,8191] 13=true:=by decide
 obtain⟨N,hN⟩:∃N,N=zV n:=⟨_,rfl⟩
 rw[←hN] at d hO ⊢;obtain⟨u,hu⟩:∃u,u=eX N p:=⟨_,rfl⟩
 rw[←hu] at hO ⊢;obtain⟨x,hx⟩:∃x,x=fL L u:=⟨_,rfl⟩
 rw[←hx] at hO;obtain⟨pn,hpn⟩:∃x,x=bS L u:=⟨_,rfl⟩
 rw[←hpn] at hO ⊢;unfold zV at hN;have h:ad (aM prog) (fun _=>[]) (aT prog) (adM.or (gq 87 [.slice 2 0 L.length none,.str (aw u)] (.tuple [.int .i64 (pn:Int),.str (aw x)]) (fun N=>∃Z,N=aeD.kO::.kO::.cells false 2 (kC (Go.Proofs.kT L))::Z)) (ag de)) 1 50 [.agg [.slice 0 0 a none,.slice 1 0 b none],.agg (bO nm n (.slice 2 0 L.length none) v),vA p] [.kO,.kO,.cells false 2 (kC (Go.Proofs.kT L))]=some ⟨.int .i64 (pn:Int),none,[]⟩:=by clear hO;simp[ad,afG,f50,adM.or,gq,ag,de,dF,cR,vA,bO,zS,vq,←hN,←hu,d,-aE,aj hb1,bn,bf,bm,j1,Nat.testBit]
 have:=(ak ae (aq _) hO (au _) h).1;simpa [HS.mem] using this
end
theorem B4{pv tv:AV}(hp:pv.kS=true)(ht:tv.kS=true)(nm:List UInt8)(t:Int×Int×Int×Int)(c:Z3)(p:V3)(M:Mem):
  kF prog 50 [.agg [pv,tv],.agg (dB nm t c),vA p] M (.int .i64 0) M:=by
 refine bB (K:=1) (lv:=fun _=>[]) (ah _) ?_;have YO:∀s,(AV.str s).kS=true:=fun _=>rfl
 have hci:∀k n,(AV.int k n).kS=true:=fun _ _=>rfl
 simp[-AV.kS,ad,afG,f50,dB,vA]
variable{M:Mem}{x:Int}
theorem D4{pv tv b u sv kn:AV}{c:Evc}{p:V3}(hk:c.k=1)(hp:pv.kS=true)(ht:tv.kS=true)(hb:b.kS=true)(hu:u.kS=true)(hs:sv.kS=true)(hn:kn.kS=true)(h:∀Z,kF prog 84 [.agg [pv,tv],.agg [b,u,sv],vA p] (M++Z) (.int .i64 x) (M++Z)):
  kF prog 50 [.agg [pv,tv],.agg (c.cells b u sv kn),vA p] M (.int .i64 x) M:=by
 have hO:kP prog (gq 84 [.agg [pv,tv],.agg [b,u,sv],vA p] (.int .i64 x) (fun N=>∃Z,N=M++Z)):=ic fun N ⟨Z,hZ⟩=>by subst hZ;exact h Z
 clear h;refine bB (K:=1) (lv:=fun _=>[]) hO ?_;clear hO;have YO:∀s,(AV.str s).kS=true:=fun _=>rfl
 have hci:∀k n,(AV.int k n).kS=true:=fun _ _=>rfl
 simp[-AV.kS,ad,afG,f50,gq,Evc.cells,vA,hk]
theorem Ag{A B:AV}{a b pb tb:Nat}(hA:A.closed=true)(hB:B.closed=true)(l1:pb<M.length)(l2:tb<M.length)(h:kF prog 50 [.agg [.slice 0 0 a none,.slice 1 0 b none],A,B] [.kO,.kO] (.int .i64 x) [.kO,.kO]):
  kF prog 50 [.agg [.slice pb 0 a none,.slice tb 0 b none],A,B] M (.int .i64 x) M:=by
 have hrc:AV.aeG [A,B]=true:=by simp[AV.aeG,hA,hB]
 have:=kF.frame (f:=50) (args:=[.agg [.slice 0 0 a none,.slice 1 0 b none],A,B]) (v:=.int .i64 x) (M:=M) (m:=[.kO,.kO]) (new:=[]) [pb,tb] rfl (by simp[l1,l2]) (by have:=cH (n:=2) hrc;simpa [AV.aeQ,AV.under] using this) (fun i t hs=>by
  match i with
  |0=>simp at hs;subst hs;trivial
  |1=>simp at hs;subst hs;trivial
  |i+2=>simp at hs) rfl (by rw[List.append_nil];exact h)
 simpa [AV.aeM,AV.ren,aF,gB _ _ hA,gB _ _ hB] using this
section
variable {s:aeE}{w:EvD}{D:Nat}{p:V3}
theorem Ot{pb tb:Nat}{o1 o2:Bool}{ev:List AV}{nm:List UInt8}(h:afi M ev (w.con nm))(hw:w.Ok s)(hp:vSm D 800 p)(hD:D≤500)(m1:M[pb]? =some (.cells o1 2 (pC s.P)))(m2:M[tb]? =some (.cells o2 3 (tC s.T))):
  kF prog 50 [.agg [.slice pb 0 s.P.length none,.slice tb 0 s.T.length none],.agg ev,vA p] M (.int .i64 (nuE s w p)) M:=by
 have l1:=(gL m1);have l2:=(gL m2);have d0:=hp.1.1;obtain⟨b,u,sv,kn,rfl,k1,k2,k3,k4⟩:=h;have c3:sv.kS=true:=by obtain⟨_,_,h3,_⟩:=k3;exact h3.ck
 cases w with
 |dep Z us Ys=>
  refine D4 rfl rfl rfl k1.ck k2.ck c3 k4.ck fun X=>?_
  exact Oh hw (k1.more X) (k2.more X) (k3.more X) hp hD (by rw[List.getElem?_append_left l1];exact m1) (by rw[List.getElem?_append_left l2];exact m2)
 |afT n o w u=>
  obtain rfl:=k1.ae1 rfl;obtain rfl:=k2.ae1 rfl;obtain rfl:=k3.ae1 rfl;obtain rfl:=k4.ae1 rfl;have ho:Sm D 4 (o:Rat):=(Sm.int (V:=4) hw.2.2.1).to (Nat.one_dvd _) d0 (Nat.le_refl _);exact Ag (by rfl) (by rfl) l1 l2 (BZ (uS hw.1 hp hD) ((De hw.1 hp).aeF (by omega) (by omega)) (ho.aeF (by omega) (by omega)) ((WN (z:=w) (by have:=hw.2.2.2;omega)).aeF (by decide) (by decide)) (((De hw.1 hp).sub ho).aeF (by omega) (by omega)))
 |fault n o v=>
  obtain rfl:=k1.ae1 rfl;obtain rfl:=k2.ae1 rfl;obtain rfl:=k3.ae1 rfl;obtain rfl:=k4.ae1 rfl;have ho:Sm D 4 (o:Rat):=(Sm.int (V:=4) hw.2.2.1).to (Nat.one_dvd _) d0 (Nat.le_refl _);exact Ag (by rfl) (by rfl) l1 l2 (zD (uS hw.1 hp hD) ((De hw.1 hp).aeF (by omega) (by omega)) (ho.aeF (by omega) (by omega)))
 |age i c=>
  obtain rfl:=k1.ae1 rfl;obtain rfl:=k2.ae1 rfl;obtain rfl:=k3.ae1 rfl;obtain rfl:=k4.ae1 rfl;exact B4 rfl rfl nm (bR i) c p M
 |fold n d c v=>
  obtain rfl:=k1.ae1 rfl;obtain rfl:=k2.ae1 rfl;obtain rfl:=k3.ae1 rfl;have e:(EvD.con nm (.fold n d c v)).K.length=(bV d c).length:=fG _;have hl:0<(bV d c).length:=by rw[cW];exact hw.2.2.1
  rw[e] at k4;obtain⟨kb,q,rfl,hb⟩:=k4.pos hl;have lb:=(gL hb);have h0:=B0 (a:=s.P.length) (b:=s.T.length) (nm:=nm) (v:=v) (uS hw.1 hp hD) (Sn (A4 d c hw.2.2.2.1) (De hw.1 hp) hD) hl (by rw[cW];have:=hw.2.2.2.1;omega);have:=kF.frame (M:=M) (new:=[]) [pb,tb,kb] rfl (by simp[l1,l2,lb]) (by rfl) (fun i t hs=>by
   match i with
   |0=>simp at hs;subst hs;trivial
   |1=>simp at hs;subst hs;trivial
   |2=>simp at hs;subst hs;exact Bt (o:=q) hb (List.take_of_length_le (by rw[fF,fG];omega))
   |i+3=>simp at hs) rfl h0
  simpa [nuE,bO,vA,AV.aeM,AV.ren,aF,Evc.cells,EvD.con,JD] using this
end
end Go.Proofs
namespace Go.Proofs
open Go.Eng
open Tryz
noncomputable def KV:EvD→Int→Option (List UInt8)
 |.dep _ us _,n=>if n= -2 then some [] else if 0≤n then some (us.getD n.toNat []) else none
 |.afT _ _ _ u,n=>if n=1 then some u else none
 |_,_=>none
def Nj:Option (List UInt8)→AV
 |none=>.tuple [.str [],.bool false]
 |some u=>.tuple [.str u,.bool true]
def Xz:EvD→Int→Prop
 |.dep _ us _,n=>n<us.length
 |_,_=>True
variable{s:aeE}{w:EvD}
theorem Kq(hw:w.Ok s)(p:V3):Xz w (nuE s w p):=by
 cases w with
 |dep Z us Ys=>
  have hl:=hw.2.1;show WD s Z Ys p<(us.length:Int)
  unfold WD;split
  ·omega
  ·rename_i j w e
   have:=Mj p.2.2 (Ys.map fun Y=>FL s j w (qH Y));rw[List.length_map] at this;split<;>omega
 |_=>trivial
variable{c:Evc}
section
variable {nm:List UInt8}
theorem afS:aT prog 51=some f51:=by kernel_rfl
theorem BT{b u sv kn:AV}{x:Int}{M:Mem}{us:List (List UInt8)}{ub:Nat}{o:Bool}(hk:c.k=1)(hb:b.kS=true)(hu:u=.slice ub 0 us.length none)(hs:sv.kS=true)(hn:kn.kS=true)(hr:M[ub]? =some (.cells o 1 (stC us)))(hx:x<us.length)(hl:us.length≤1000):
  kF prog 51 [.agg (c.cells b u sv kn),.int .i64 x] M (Nj (if x= -2 then some [] else if 0≤x then some (us.getD x.toNat []) else none)) M:=by
 have w2:IntKind.i64.wrap (-2)= -2:=rfl;have YO:∀s,(AV.str s).kS=true:=fun _=>rfl
 have hci:∀k n,(AV.int k n).kS=true:=fun _ _=>rfl
 have Y3:∀b o n c,(AV.slice b o n c).kS=true:=fun _ _ _ _=>rfl
 subst hu;have lr:=(gL hr);have hr' :∀Z,(M++Z)[ub]? =some (.cells o 1 (stC us)):=fun Z=>by rw[List.getElem?_append_left lr];exact hr
 have h:ad (aM prog) (fun _=>[]) (aT prog) bq 1 51 [.agg (c.cells b (.slice ub 0 us.length none) sv kn),.int .i64 x] M=some ⟨Nj (if x= -2 then some [] else if 0≤x then some (us.getD x.toNat []) else none),none,[]⟩:=by
  by_cases h1:x= -2
  ·subst h1
   simp[-AV.kS,ad,afS,f51,Evc.cells,Nj,hk]
  ·by_cases h2:0≤x
   ·obtain⟨k,rfl⟩:∃k:Nat,x=k:=⟨x.toNat,by omega⟩
    have hkl:k<us.length:=by omega
    obtain⟨y,hy⟩:∃y,us[k]? =some y:=⟨_,List.getElem?_eq_getElem hkl⟩
    have hg:us.getD k []=y:=by simp[List.getD,hy]
    have XZ:(stC us)[k]? =some (.str y):=sj hy;have YT:k+1≤(stC us).length:=by rw[bU];omega
    have h3:¬((k:Int)= -2):=by omega
    simp[-AV.kS,ad,afS,f51,Evc.cells,Nj,hk,hr',hkl,XZ,h3];exact((List.getElem?_eq_some_iff.1 hy).2).symm
   ·simp[-AV.kS,ad,afS,f51,Evc.cells,Nj,hk,h1,h2]
 have:=(ak ae (aq _) (ah _) (au _) h).1;simpa [HS.mem] using this
theorem nB{b u sv kn:AV}{x:Int}{M:Mem}(hk:c.k≠1∧c.k≠4)(hb:b.kS=true)(hu:u.kS=true)(hs:sv.kS=true)(hn:kn.kS=true):
  kF prog 51 [.agg (c.cells b u sv kn),.int .i64 x] M (Nj none) M:=by
 have YO:∀s,(AV.str s).kS=true:=fun _=>rfl
 have hci:∀k n,(AV.int k n).kS=true:=fun _ _=>rfl
 obtain⟨h1,h4⟩:=hk;refine bB (K:=1) (lv:=fun _=>[]) (ah _) ?_;simp[-AV.kS,ad,afS,f51,Evc.cells,Nj,h1,h4]
theorem zx{b u sv kn:AV}{x:Int}{M:Mem}(hk:c.k=4)(hb:b.kS=true)(hu:u.kS=true)(hs:sv.kS=true)(hn:kn.kS=true):
  kF prog 51 [.agg (c.cells b u sv kn),.int .i64 x] M (Nj (if x=1 then some c.x24 else none)) M:=by
 have YO:∀s,(AV.str s).kS=true:=fun _=>rfl
 have hci:∀k n,(AV.int k n).kS=true:=fun _ _=>rfl
 refine bB (K:=1) (lv:=fun _=>[]) (ah _) ?_;by_cases h1:x=1
 ·subst h1
  simp[-AV.kS,ad,afS,f51,Evc.cells,Nj,hk]
 ·simp[-AV.kS,ad,afS,f51,Evc.cells,Nj,hk,h1]
end
theorem KZ{M:Mem}{ev:List AV}{nm:List UInt8}{n:Int}(h:afi M ev (w.con nm))(hw:w.Ok s)(hn:Xz w n):
  kF prog 51 [.agg ev,.int .i64 n] M (Nj (KV w n)) M:=by
 obtain⟨b,u,sv,kn,rfl,k1,k2,k3,k4⟩:=h;have c3:sv.kS=true:=by obtain⟨_,_,h3,_⟩:=k3;exact h3.ck
 cases w with
 |dep Z us Ys=>
  have hl:us.length=Ys.length+1:=hw.2.1;obtain⟨ub,o,hu,hb⟩:=k2.pos (show 0<us.length by omega);exact BT rfl k1.ck hu c3 k4.ck hb hn (by have:=hw.2.2.1;omega)
 |afT n o w u=>exact zx rfl k1.ck k2.ck c3 k4.ck
 |fault n o v=>exact nB ⟨show(2:Int)≠1 by decide,show(2:Int)≠4 by decide⟩ k1.ck k2.ck c3 k4.ck
 |fold n d c v=>exact nB ⟨show(3:Int)≠1 by decide,show(3:Int)≠4 by decide⟩ k1.ck k2.ck c3 k4.ck
 |age i c=>exact nB ⟨show(5:Int)≠1 by decide,show(5:Int)≠4 by decide⟩ k1.ck k2.ck c3 k4.ck
end Go.Proofs
