/- See R54. -/
import Derived.Test.YtgafjliihahjgaaGreatDoorR45
import Derived.Test.YtgafjliihahjgaaGreatDoorR40
set_option linter.all false
set_option maxRecDepth 100000
set_option maxHeartbeats 40000000
namespace Go.Proofs
open Go.Eng
end Go.Proofs
namespace Go.Proofs
open Go.Eng
end Go.Proofs
namespace Go.Proofs
open Go.Eng
open Tryz
def afC(r:M3) (s:V3):Prop:=vC r.1∧vC r.2.1∧vC r.2.2∧vC s
structure agJ (r:M3) (s p:V3):Prop where
 ck:afC r s
 pk:vC p
 mm:mOk r p
 fk:vF (KW r p)∧vF s
 rk:vC (oY (KW r p) s)
structure agc (n:Z3) (L:List P2) (v:Z3) (aF:Bool) (p:V3):Prop where
 d:ae3 (zV n) p
 fd:aeF (eX (zV n) p)
 kn:Wx L (eX (zV n) p)
 w:aeF (fL L (eX (zV n) p))
 k:aeF (sgB aF)
 s:FB (zV v) (sgB aF*fL L (eX (zV n) p))
 a:vF p∧vF (jR (zV v) (sgB aF*fL L (eX (zV n) p)))
theorem ug{M:Mem}{b:Nat}{o:Bool}{L:List P2}{u:Rat}(hp:0<L.length)(hl:L.length≤1000)(hb:M[b]? =some (.cells o 2 (kC (kT L))))(h:Wx L u):
  kF prog 87 [.slice b 0 L.length none,.str (aw u)] M (.tuple [.int .i64 (bS L u),.str (aw (fL L u))]) M:=by
 have kl:=fG L;have e:∀b,AV.slice b 0 L.length none=.slice b 0 (kT L).length none:=fun b=>by rw[kl]
 have h0:=F0 L u h hp (by omega);rw[e 0] at h0;rw[e b];exact W8 rfl rfl h0 ⟨b,o,_,rfl,hb,List.take_of_length_le (by rw[fF];omega)⟩
theorem vM(nm:List UInt8)(n:Z3)(L:List P2)(v:Z3)(aF:Bool)(p:V3)(h:agc n L v aF p)(hp:0<L.length)(hl:L.length≤1000):
  kF prog 52 [.agg (bO nm n (.slice 0 0 L.length none) v),vA p,.bool aF] [.cells false 2 (kC (kT L))] (vA (Fk n L v aF p)) [.cells false 2 (kC (kT L))]:=by
 have hG:aT prog 52=some f52:=by kernel_rfl
 obtain⟨d,⟨fd1,fd2⟩,kn,⟨w1,w2⟩,⟨k1,k2⟩,s,a1,a2⟩:=h;have hO:kP prog (adM.or (gq 87 [.slice 0 0 L.length none,.str (aw (eX (zV n) p))] (.tuple [.int .i64 (bS L (eX (zV n) p)),.str (aw (fL L (eX (zV n) p)))]) (fun N=>∃Z,N=aeD.cells false 2 (kC (kT L))::Z)) (ag de)):=
  kP.or (ic fun N ⟨Z,hZ⟩=>by subst hZ;exact ug hp hl (b:=0) (o:=false) rfl kn) jf
 obtain⟨os,FS⟩:∃os,aG f52=os:=⟨_,rfl⟩
 have IR:=bj FS (ls:=[[0,1,3,7,0,31,0,64,192,448,1023,2047],[0,0,2,6,0,30,63,127],[0,1,3,0,8,24,0,120,255,511,1023,1023,2047,8191],[0,0,2,6,0,0,48,126,255,511],[0,1,3,0,0,16,56,0,255,0,1023,2047]]) pO;simp only[aG,bF,f52,List.nil_append,List.append_nil,List.cons_append] at FS;subst FS;simp only[List.map_cons,List.map_nil,List.cons.injEq,and_true] at IR;obtain⟨XY,hb1,Yl,ZP,hb4⟩:=IR;have j2:aX [0,1,3,0,8,24,0,120,255,511,1023,1023,2047,8191] 13=true:=by decide
 have j3:aX [0,0,2,6,0,0,48,126,255,511] 9=true:=by decide
 have aal:dJ [49]=some 1:=rfl;have aaw:dJ [45,49]=some (-1):=rfl;unfold Fk;obtain⟨N,hN⟩:∃N,N=zV n:=⟨_,rfl⟩
 obtain⟨S,hS⟩:∃N,N=zV v:=⟨_,rfl⟩
 rw[←hN] at d fd1 fd2 kn w1 w2 s a2 hO ⊢;rw[←hS] at s a2 ⊢;obtain⟨u,hu⟩:∃u,u=eX N p:=⟨_,rfl⟩
 rw[←hu] at fd1 fd2 kn w1 w2 s a2 hO ⊢;obtain⟨x,hx⟩:∃x,x=fL L u:=⟨_,rfl⟩
 rw[←hx] at w1 w2 s a2 hO ⊢;obtain⟨pn,hpn⟩:∃x,x=bS L u:=⟨_,rfl⟩
 rw[←hpn] at hO;obtain⟨k,hk⟩:∃k,k=sgB aF:=⟨_,rfl⟩
 rw[←hk] at k1 k2 s a2 ⊢;obtain⟨y,hy⟩:∃y,y=k*x:=⟨_,rfl⟩
 rw[←hy] at s a2 ⊢;obtain⟨z,hz⟩:∃z,z=jR S y:=⟨_,rfl⟩
 rw[←hz] at a2 ⊢;unfold zV at hN hS;unfold sgB at hk;have h:ad (aM prog) (fun _=>[]) (aT prog) (adM.or (gq 87 [.slice 0 0 L.length none,.str (aw u)] (.tuple [.int .i64 pn,.str (aw x)]) (fun N=>∃Z,N=aeD.cells false 2 (kC (kT L))::Z)) (ag de)) 1 52 [.agg (bO nm n (.slice 0 0 L.length none) v),vA p,.bool aF] [.cells false 2 (kC (kT L))]=some ⟨vA (oY p z),none,[]⟩:=by
  clear hO;cases aF with
  |false=>
   rw[if_neg (by decide)] at hk;rw[←hk] at aal;simp[ad,hG,f52,adM.or,gq,ag,de,dF,cR,ao,aH,vA,bO,zS,vq,aB,←hN,←hS,←hu,←hy,←hz,aal,d,w1,w2,k1,k2,s,a1,a2,-aE,aj Yl,aj ZP,bn,bf,bm,j2,j3,Nat.testBit]
  |true=>
   rw[if_pos rfl] at hk;rw[←hk] at aaw;simp[ad,hG,f52,adM.or,gq,ag,de,dF,cR,ao,aH,vA,bO,zS,vq,aB,←hN,←hS,←hu,←hy,←hz,aaw,d,w1,w2,k1,k2,s,a1,a2,-aE,aj Yl,aj ZP,bn,bf,bm,j2,j3,Nat.testBit]
 have:=(ak ae (aq _) hO (au _) h).1;simpa [HS.mem] using this
theorem xY(nm:List UInt8)(n:Z3)(L:List P2)(v:Z3)(zzb:Bool)(p:V3)(h:agc n L v zzb p)(hp:0<L.length)(hl:L.length≤1000)(M:Mem)(b:Nat)(o:Bool)(hb:M[b]? =some (.cells o 2 (kC (kT L)))):
  kF prog 52 [.agg (bO nm n (.slice b 0 L.length none) v),vA p,.bool zzb] M (vA (Fk n L v zzb p)) M:=by
 have lb:=(gL hb);have:=kF.frame (M:=M) (new:=[]) [b] rfl (by simpa using lb) (by rfl) (fun i t hs=>by
  match i with
  |0=>simp at hs;subst hs;exact Bt (o:=o) hb (List.take_of_length_le (by rw[fF];rw[fG];omega))
  |i+1=>simp at hs) rfl (vM nm n L v zzb p h hp hl)
 simpa [bO,vA,AV.aeM,AV.ren,aF] using this
def WV(a b:Rat×Rat):Prop:=(b.1-a.1≠0∧aeF (b.2-a.2)∧aeF (b.1-a.1))∧aeF ((b.2-a.2) / (b.1-a.1))∧aeF ((b.2-a.2) / (b.1-a.1)*a.1)
def XI(Q:List (Rat×Rat)):Prop:=VX Q∧∀(i:Nat) a b,Q[i]? =some a→Q[i+1]? =some b→WV a b
def Vz(Q:List (Rat×Rat)) (u:Rat):Prop:=(XI Q∧aeF u)∧(aeF (tL Q (bS Q u)).1∧aeF (tL Q (bS Q u)).2)∧aeF ((tL Q (bS Q u)).2*u)
theorem Vb(i:Nat):(bR i).1.natAbs≤3∧(bR i).2.1.natAbs≤3∧(bR i).2.2.1.natAbs≤3∧(bR i).2.2.2.natAbs≤3:=by
 match i with
 |0 | 1 | 2 | 3 | 4 | n+5=>simp[bR]
structure agK (n:Z3) (o:Int) (v:Z3) (aF:Bool) (p:V3):Prop where
 pk:vC p
 dk:ae3 (zV n) p
 fd:aeF (eX (zV n) p)
 fo:aeF (o:Rat)
 pl:NI p (zV v) (sgB aF)
 rk:vC (oY p (jR (zV v) (sgB aF)))
structure agL (n:Z3) (L:List P2) (v:Z3) (aF:Bool) (p:V3):Prop where
 pk:vC p
 dk:ae3 (zV n) p
 vk:Vz L (eX (zV n) p)
 fw:aeF (fL L (eX (zV n) p))
 fk:aeF (sgB aF)
 pl:NI p (zV v) (sgB aF*fL L (eX (zV n) p))
 rk:vC (oY p (jR (zV v) (sgB aF*fL L (eX (zV n) p))))
theorem SE{d:Nat}(h:0<d):(d:Rat)≠0:=fun e=>by rw[Rat.natCast_eq_zero_iff] at e;omega
theorem Sz{n:Int}{d:Nat}(h:0<d):mkRat n d*(d:Rat)=(n:Rat):=by rw[Rat.mkRat_eq_div];exact Rat.div_mul_cancel (SE h)
theorem DR{n:Int}{d V:Nat}(h:0<d)(hn:n.natAbs≤V*d):Sm d V (mkRat n d):=by
 have e:=Sz (n:=n) h;have dp:(0:Rat)<(d:Rat):=by exact_mod_cast h
 have b1:(n:Rat)≤(V:Rat)*(d:Rat):=by
  have:n≤((V*d:Nat):Int):=by omega
  have:=Rat.intCast_le_intCast.2 this
  rwa [Rat.intCast_natCast,mH] at this
 have b2: -((V:Rat)*(d:Rat))≤(n:Rat):=by
  have: -((V*d:Nat):Int)≤n:=by omega
  have:=Rat.intCast_le_intCast.2 this
  rwa [Rat.intCast_neg,Rat.intCast_natCast,mH] at this
 rw[←e] at b1 b2;refine⟨h,⟨n,e⟩,?_,?_⟩
 ·exact Rat.not_lt.1 fun A'=>by
   have:=Rat.mul_lt_mul_of_pos_right A' dp
   grind
 ·exact Rat.not_lt.1 fun A'=>by
   have:=Rat.mul_lt_mul_of_pos_right A' dp
   grind
theorem M2{n:Z3}{k:Nat}(h:eS k n):vSm 1 k (zV n):=⟨.int h.1,.int h.2.1,.int h.2.2⟩
theorem Vx(aF:Bool):Sm 1 1 (sgB aF):=by
 unfold sgB;cases aF
 ·exact Sm.int (n:=1) (by decide)
 ·exact Sm.int (n:= -1) (by decide)
def knS(L:List P2):Prop:=(∀q∈L,Sm 1 8 q.1∧Sm 2 2 q.2)∧∀(i:Nat) a b,L[i]? =some a→L[i+1]? =some b→b.1=a.1+2
theorem Mw{d:aeN}{c i:Nat}{q:P2}(h:(bV d c)[i]? =some q):q=tK d i∧i<c:=by unfold bV at h;rw[List.getElem?_map,Option.map_eq_some_iff] at h;obtain⟨j,h1,h2⟩:=h;obtain⟨h3,h4⟩:=List.getElem?_eq_some_iff.1 h1;simp at h4 h3;exact⟨by rw[←h2,h4],h3⟩
theorem A4(d:aeN)(c:Nat)(hc:c≤3):knS (bV d c):=by
 refine⟨fun q hq=>?_,fun i a b ha hb=>?_⟩
 ·obtain⟨i,hi⟩:=List.getElem?_of_mem hq
  obtain⟨rfl,A'⟩:=Mw hi;have t: -3<d.N.tmod 3∧d.N.tmod 3<3:=nv d.N 3 (by decide);have k4:Kp d.K i%4<4:=Nat.mod_lt _ (by decide);have k2:d.K.2.2.2%2=0∨d.K.2.2.2%2=1:=by omega
  refine⟨.int (by omega),?_⟩;unfold tK;simp only;rcases k2 with h | h<;>rw[h]
  ·exact(DR (V:=2) (by decide) (by omega)).to (by decide) (by decide) (Nat.le_refl 2)
  ·exact DR (by decide) (by omega)
 ·obtain⟨rfl,h1⟩:=Mw ha
  obtain⟨rfl,h2⟩:=Mw hb;unfold tK;simp only;have:(d.N.tmod 3+2*((i+1:Nat):Int):Int)=(d.N.tmod 3+2*(i:Int))+2:=by omega
  rw[this,Rat.intCast_add];rfl
theorem Mv:∀{L:List P2},knS L→asc L
 | [],_=>trivial
 | [_],_=>trivial
 |a::b::l,h=>⟨by have:=h.2 0 a b rfl rfl;grind,Mv ⟨fun q hq=>h.1 q (List.mem_cons_of_mem _ hq),fun i x y hx hy=>h.2 (i+1) x y (by simpa using hx) (by simpa using hy)⟩⟩
section
variable {L:List P2}{D:Nat}{u:Rat}
theorem WJ:aeF (2:Rat):=⟨by decide,by decide⟩
theorem V2(x:Rat):x / 2=x*(1 / ((2:Nat):Rat)):=by rw[show((2:Nat):Rat)=2 from rfl,Rat.div_def,Rat.div_def,Rat.one_mul]
theorem DJ{D V:Nat}{x:Rat}(h:Sm D V x):Sm (D*2) V (x / 2):=by
 rw[V2];have:=h.mul (Sm.inv (N:=2) (by decide))
 rwa [Nat.mul_one] at this
theorem Nw(h:knS L):VX L:=fun q hq=>⟨(h.1 q hq).1.aeF (by decide) (by decide),(h.1 q hq).2.aeF (by decide) (by decide)⟩
theorem Sn(h:knS L)(hu:Sm D 4800 u)(hD:D≤500):Wx L u:=by
 have d0:=hu.1;refine⟨Nw h,hu.aeF (by omega) (by omega),Mv h,fun i a b ha hb _ _=>?_⟩;obtain⟨a1,a2⟩:=h.1 a (List.mem_of_getElem? ha);obtain⟨b1,b2⟩:=h.1 b (List.mem_of_getElem? hb);have e:b.1-a.1=2:=by have:=h.2 i a b ha hb;grind
 have x1:Sm D 4808 (u-a.1):=hu.sub (a1.to (Nat.one_dvd _) d0 (Nat.le_refl 8));have x2:=(DJ x1);have x3:Sm 2 4 (b.2-a.2):=b2.sub a2;have x4:=x2.mul x3;unfold W9;rw[e];exact⟨⟨x1.aeF (by omega) (by omega),WJ,by decide⟩,x2.aeF (by omega) (by omega),x3.aeF (by decide) (by decide),x4.aeF (by omega) (by omega)⟩
theorem Pr{a b k V:Rat}(k0:0≤k)(k1:k≤1)(ha: -V≤a∧a≤V)(hb: -V≤b∧b≤V): -V≤a+k*(b-a)∧a+k*(b-a)≤V:=by have h1:=Rat.mul_nonneg k0 (show 0≤V-b by grind);have h2:=Rat.mul_nonneg k0 (show 0≤V+b by grind);have h3:=Rat.mul_nonneg (show 0≤1-k by grind) (show 0≤V-a by grind);have h4:=Rat.mul_nonneg (show 0≤1-k by grind) (show 0≤V+a by grind);constructor<;>grind
theorem So(h:knS L)(hp:0<L.length)(hu:Sm D 4800 u):Sm (4*D) 2 (fL L u):=by
 have d0:=hu.1;have aaT:=Mv h;have X7:=ns L u;have up:∀q∈L,Sm (4*D) 2 q.2:=fun q hq=>(h.1 q hq).2.to ⟨2*D,by omega⟩ (by omega) (Nat.le_refl 2)
 by_cases h0:bS L u=0
 ·cases L with
  |nil=>simp at hp
  |cons a l=>
   rw[xL aaT (Rat.not_le.1 fun hq=>by have:=(fU aaT 0 a rfl).1 hq;omega)];exact up a (by simp)
 obtain⟨m,hm⟩:∃m,bS L u=m+1:=⟨bS L u-1,by omega⟩
 obtain⟨a,ha⟩:∃q,L[m]? =some q:=⟨L[m],List.getElem?_eq_getElem (by omega)⟩
 have le1:=(fU (u:=u) aaT m a ha).2 (by omega);by_cases hE:L.length=m+1
 ·rw[DO aaT hE ha le1]
  exact up a (List.mem_of_getElem? ha)
 obtain⟨b,hb⟩:∃q,L[m+1]? =some q:=⟨L[m+1],List.getElem?_eq_getElem (by omega)⟩
 have le2:u<b.1:=Rat.not_le.1 fun hq=>by have:=(fU (u:=u) aaT (m+1) b hb).1 hq;omega
 rw[w6 aaT m a b ha hb le1 le2];obtain⟨a1,a2⟩:=h.1 a (List.mem_of_getElem? ha);obtain⟨b1,b2⟩:=h.1 b (List.mem_of_getElem? hb);have e0:=h.2 m a b ha hb;have e:b.1-a.1=2:=by grind
 rw[e];have x1:Sm D 4808 (u-a.1):=hu.sub (a1.to (Nat.one_dvd _) d0 (Nat.le_refl 8));have x3:Sm 2 4 (b.2-a.2):=b2.sub a2;have x4:=(DJ x1).mul x3;have x5:=(a2.to (E:=D*2*2) ⟨D*2,by omega⟩ (by omega) (Nat.le_refl 2)).add x4;have hk0:0≤(u-a.1) / 2:=by
  have h2:(u-a.1) / 2*2=u-a.1:=Rat.div_mul_cancel (by decide)
  grind
 have Zn:(u-a.1) / 2≤1:=by
  have h2:(u-a.1) / 2*2=u-a.1:=Rat.div_mul_cancel (by decide)
  grind
 have hb:=Pr hk0 Zn ⟨a2.2.2.1,a2.2.2.2⟩ ⟨b2.2.2.1,b2.2.2.2⟩;rw[show 4*D=D*2*2 by omega];exact⟨x5.1,x5.2.1,hb⟩
theorem UI(h:knS L):XI L∧∀n,n≤L.length→Sm 4 40 (tL L n).1∧Sm 4 4 (tL L n).2:=by
 have z4:Sm 4 4 0:=(Sm.int (V:=4) (n:=0) (by decide)).to (by decide) (by decide) (Nat.le_refl 4);have up:∀q∈L,Sm 4 40 q.2:=fun q hq=>(h.1 q hq).2.to (by decide) (by decide) (by decide)
 refine⟨⟨Nw h,fun i a b ha hb=>?_⟩,fun n hn=>?_⟩
 ·obtain⟨a1,a2⟩:=h.1 a (List.mem_of_getElem? ha)
  obtain⟨b1,b2⟩:=h.1 b (List.mem_of_getElem? hb);have e:b.1-a.1=2:=by have:=h.2 i a b ha hb;grind
  have x3:Sm 2 4 (b.2-a.2):=b2.sub a2;unfold WV;rw[e];exact⟨⟨by decide,x3.aeF (by decide) (by decide),WJ⟩,(DJ x3).aeF (by decide) (by decide),((DJ x3).mul a1).aeF (by decide) (by decide)⟩
 ·unfold tL
  split
  ·exact⟨(Sm.int (V:=40) (n:=0) (by decide)).to (by decide) (by decide) (Nat.le_refl 40),z4⟩
  rename_i PP;have F':0<L.length:=List.length_pos_iff.2 PP;split
  ·exact⟨by rw[show L.getD 0 (0,0)=L[0] by simp[List.getD,F']];exact up _ (List.getElem_mem _),z4⟩
  rename_i h0;have hm:n-1<L.length:=by omega
  have g1:L.getD (n-1) (0,0)=L[n-1]:=by simp[List.getD,hm]
  split
  ·exact⟨by rw[g1];exact up _ (List.getElem_mem _),z4⟩
  rename_i hE;have hn2:n<L.length:=by omega
  have g2:L.getD n (0,0)=L[n]:=by simp[List.getD,hn2]
  rw[g1,g2];obtain⟨a1,a2⟩:=h.1 L[n-1] (List.getElem_mem _);obtain⟨b1,b2⟩:=h.1 L[n] (List.getElem_mem _);have e0:=h.2 (n-1) L[n-1] L[n] (List.getElem?_eq_getElem hm) (by rw[show n-1+1=n by omega];exact List.getElem?_eq_getElem hn2);have e:L[n].1-L[n-1].1=2:=by grind
  have x3:Sm 2 4 (L[n].2-L[n-1].2):=b2.sub a2;unfold DI;rw[e];exact⟨((a2.to (E:=4) (by decide) (by decide) (Nat.le_refl 2)).sub ((DJ x3).mul a1)).mono (by decide),(DJ x3)⟩
theorem V7(h:knS L)(hu:Sm D 4800 u)(hD:D≤500):Vz L u:=by obtain⟨h1,h2⟩:=UI h;obtain⟨h3,h4⟩:=h2 (bS L u) (ns L u);exact⟨⟨h1,hu.aeF (by omega) (by omega)⟩,⟨h3.aeF (by decide) (by decide),h4.aeF (by decide) (by decide)⟩,(h4.mul hu).aeF (by omega) (by omega)⟩
end
section
variable {D V:Nat}{p:V3}{n v:Z3}{o:Int}{L:List P2}
theorem De(hn:eS 2 n)(hp:vSm D 800 p):Sm D 4800 (eX (zV n) p):=by
 have:=(M2 hn).dot hp
 rwa [Nat.one_mul] at this
theorem uS(hn:eS 2 n)(hp:vSm D 800 p)(hD:D≤500):ae3 (zV n) p:=
 (M2 hn).ae3 hp (by decide) (by decide) (by omega) (by omega) (by omega) (by omega)
theorem NO{k:Rat}{E:Nat}(hv:eS 8 v)(hk:Sm E 2 k):vSm E 16 (jR (zV v) k):=by
 have:=(M2 hv).scl hk
 rwa [Nat.one_mul] at this
theorem No(aF:Bool)(hn:eS 2 n)(ho:o.natAbs≤4)(hv:eS 8 v)(hp:vSm D V p)(hD:D≤500)(hV:V≤800):
  aga n o v aF p∧agK n o v aF p∧vSm D (2*V+20) (xv n o v aF p):=by
 have d0:=hp.1.1;have p4:=hp.mono hV;have fp:vF p:=p4.vF (by omega) (by omega);have fv:vF (zV v):=(M2 hv).vF (by decide) (by decide);have k1:=(Vx aF).mono (W:=2) (by decide);have fk:aeF (sgB aF):=k1.aeF (by decide) (by decide);have sh:=NO hv k1;have shD:vSm D 16 (jR (zV v) (sgB aF)):=sh.to (Nat.one_dvd _) d0 (Nat.le_refl _);have sum:=hp.add shD;have fo:aeF (o:Rat):=(Sm.int (V:=4) ho).aeF (by decide) (by decide);have fd:aeF (eX (zV n) p):=(De hn p4).aeF (by omega) (by omega);have hd:=uS hn p4 hD;have abf:=sum.mono (W:=816) (by omega);have sc:=sh.vF (by decide) (by decide);refine⟨⟨hd,fd,fo,⟨fv,fk⟩,fp,sc⟩,⟨p4.vC (by omega) (by omega),hd,fd,fo,⟨⟨fp,fv,fk⟩,?_⟩,abf.vC (by omega) (by omega)⟩,?_⟩
 ·obtain⟨c1,c2,c3⟩:=sc
  simp only[jR] at c1 c2 c3;rw[Rat.mul_comm] at c1 c2 c3;exact⟨c1,c2,c3⟩
 ·unfold xv
  split
  ·exact sum.mono (by omega)
  ·exact hp.mono (by omega)
theorem R5(aF:Bool)(hn:eS 2 n)(hL:knS L)(hl:0<L.length)(hv:eS 8 v)(hp:vSm D V p)(hD:D≤500)(hV:V≤800):
  agc n L v aF p∧agL n L v aF p∧vSm (4*D) (2*V+20) (Fk n L v aF p):=by
 have d0:=hp.1.1;have p4:=hp.mono hV;have fp:vF p:=p4.vF (by omega) (by omega);have fv:vF (zV v):=(M2 hv).vF (by decide) (by decide);have k1:=Vx aF;have fk:aeF (sgB aF):=k1.aeF (by decide) (by decide);have hu:=De hn p4;have w:=So hL hl hu;have kw:=k1.mul w;rw[Nat.one_mul,Nat.one_mul] at kw;have sh:=NO hv kw;have sum:=(hp.to (E:=4*D) ⟨4,by omega⟩ (by omega) (Nat.le_refl _)).add sh;have fd:aeF (eX (zV n) p):=hu.aeF (by omega) (by omega);have hd:=uS hn p4 hD;have abf:=sum.mono (W:=816) (by omega);have sc:=sh.vF (by omega) (by omega);have fkw:=kw.aeF (by omega) (by omega);have fw:=w.aeF (by omega) (by omega);refine⟨⟨hd,fd,Sn hL hu hD,fw,fk,⟨fv,fkw⟩,fp,sc⟩,⟨p4.vC (by omega) (by omega),hd,V7 hL hu hD,fw,fk,⟨⟨fp,fv,fkw⟩,?_⟩,abf.vC (by omega) (by omega)⟩,?_⟩
 ·obtain⟨c1,c2,c3⟩:=sc
  simp only[jR] at c1 c2 c3;rw[Rat.mul_comm] at c1 c2 c3;exact⟨c1,c2,c3⟩
 ·unfold Fk
  exact sum.mono (by omega)
end
end Go.Proofs
namespace Go.Proofs
open Go.Eng
open Tryz
theorem S4(t:I4):((xI t:Nat):Rat)=(t.1:Rat)*t.1+(t.2.1:Rat)*t.2.1+(t.2.2.1:Rat)*t.2.2.1+(t.2.2.2:Rat)*t.2.2.2:=by
 have sq:∀x:Int,0≤x*x:=fun x=>by
  rcases Int.le_total 0 x with h | h
  ·exact Int.mul_nonneg h h
  ·exact Int.mul_nonneg_of_nonpos_of_nonpos h h
 have h0:0≤t.1*t.1+t.2.1*t.2.1+t.2.2.1*t.2.2.1+t.2.2.2*t.2.2.2:=by have a:=sq t.1;have b:=sq t.2.1;have c:=sq t.2.2.1;have d:=sq t.2.2.2;omega
 unfold xI;rw[←Rat.intCast_natCast,Int.toNat_of_nonneg h0];simp only[Rat.intCast_add,Rat.intCast_mul]
variable{n:Int}
theorem Bg{d:Nat}:mkRat n d=(n:Rat)*(1 / (d:Rat)):=by rw[Rat.mkRat_eq_div,Rat.div_def,Rat.div_def,Rat.one_mul]
theorem S0(t:I4)(aF:Bool):xI (lx t aF)=xI t:=by
 cases aF
 ·rfl
 ·unfold xI lx
  simp only[if_true,Int.neg_mul_neg]
theorem Vc(t:I4)(aF:Bool)(v:V3):CB (lG t.1 aF) (nA t.2.1 t.2.2.1 t.2.2.2) v=KW (KD (lx t aF)) v:=by
 have hW:lG t.1 aF*lG t.1 aF+eX (nA t.2.1 t.2.2.1 t.2.2.2) (nA t.2.1 t.2.2.1 t.2.2.2)=((xI t:Nat):Rat):=by rw[S4];unfold lG nA eX;cases aF<;>simp only[if_true,Bool.false_eq_true,if_false]<;>grind
 unfold CB;rw[hW];unfold KW KD;rw[S0];simp only[Bg];obtain⟨k,hk⟩:∃k:Rat,k=1 / ((xI t:Nat):Rat):=⟨_,rfl⟩
 rw[←hk];clear hW hk;obtain⟨w,x,y,z⟩:=t;obtain⟨v1,v2,v3⟩:=v;unfold lG nA eX jR oY To lx;cases aF
 ·simp only[Bool.false_eq_true,if_false,Rat.intCast_add,Rat.intCast_sub,Rat.intCast_mul,Prod.mk.injEq]
  have two:((2:Int):Rat)=2:=rfl;rw[two];refine⟨?_,?_,?_⟩<;>grind
 ·simp only[if_true,Rat.intCast_add,Rat.intCast_sub,Rat.intCast_mul,Rat.intCast_neg,Prod.mk.injEq]
  have two:((2:Int):Rat)=2:=rfl;rw[two];refine⟨?_,?_,?_⟩<;>grind
theorem Fm(t:I4)(c:Z3)(aF:Bool)(p:V3):Kg t c aF p=oY (KW (KD (lx t aF)) p) (Wy (zV c) (KW (KD (lx t aF)) (zV c))):=by
 unfold Kg;rw[Vc];obtain⟨r,hr⟩:∃r,r=KD (lx t aF):=⟨_,rfl⟩
 obtain⟨s,hs⟩:∃s,s=zV c:=⟨_,rfl⟩
 rw[←hr,←hs];unfold KW eX oY jR Wy;simp only[Prod.mk.injEq];refine⟨?_,?_,?_⟩<;>grind
def e01(n:Int):Nat:=if n=0 then 0 else 1
def W6(t:I4):Bool:=decide (0<xI t)&&(W7 t).all (fun n=>decide ((xI t:Int)∣5*n))&&(W7 t).all (fun n=>decide (n.natAbs≤e01 n*xI t))&&match (W7 t).map e01 with
 | [a,b,c,d,e,f,g,h,i]=>decide (a+b+c≤2)&&decide (d+e+f≤2)&&decide (g+h+i≤2)
 |_=>false
theorem UY:(List.range 6).all (fun i=>W6 (lx (bR i) false)&&W6 (lx (bR i) true))=true:=by decide
variable{i:Nat}
theorem SZ(hi:i≤5)(aF:Bool):W6 (lx (bR i) aF)=true:=by
 have h:=List.all_eq_true.1 UY i (List.mem_range.2 (by omega));rw[Bool.and_eq_true] at h;cases aF
 ·exact h.1
 ·exact h.2
def afF(N:Nat) (r:V3):Prop:=∃a b c,Sm N a r.1∧Sm N b r.2.1∧Sm N c r.2.2∧a+b+c≤2
variable{N:Nat}{r:V3}
theorem afF.sm(h:afF N r):vSm N 2 r:=by obtain⟨a,b,c,h1,h2,h3,h4⟩:=h;exact⟨h1.mono (by omega),h2.mono (by omega),h3.mono (by omega)⟩
theorem afF.dot{D V:Nat}{p:V3}(h:afF N r)(hp:vSm D V p):Sm (N*D) (2*V) (eX r p):=by obtain⟨a,b,c,h1,h2,h3,h4⟩:=h;have:=((h1.mul hp.1).add (h2.mul hp.2.1)).add (h3.mul hp.2.2);rw[←Nat.add_mul,←Nat.add_mul] at this;exact this.mono (Nat.mul_le_mul_right V h4)
theorem mk5{d:Nat}(h0:0<d)(h:(d:Int)∣5*n){V:Nat}(hn:n.natAbs≤V*d):Sm 5 V (mkRat n d):=by
 obtain⟨k,hk⟩:=h;have e:mkRat n d=mkRat k 5:=(Rat.mkRat_eq_iff (by omega) (by decide)).2 (by rw[Int.mul_comm n,Int.mul_comm k];exact hk);rw[e];refine DR (by decide) ?_;have h5:(5*n).natAbs=d*k.natAbs:=by rw[hk,Int.natAbs_mul,Int.natAbs_natCast]
 rw[Int.natAbs_mul] at h5;have e5:(5:Int).natAbs=5:=rfl;rw[e5] at h5;have:d*k.natAbs≤d*(V*5):=by rw[←h5,Nat.mul_comm 5,←Nat.mul_assoc,Nat.mul_comm d V];exact Nat.mul_le_mul_right 5 hn
 exact Nat.le_of_mul_le_mul_left this h0
theorem W4(hi:i≤5)(aF:Bool):∃N,0<N∧N∣5∧afF N (KD (lx (bR i) aF)).1∧afF N (KD (lx (bR i) aF)).2.1∧afF N (KD (lx (bR i) aF)).2.2:=by
 have h:=SZ hi aF;obtain⟨t,ht⟩:∃t,t=lx (bR i) aF:=⟨_,rfl⟩
 rw[←ht] at h ⊢;unfold W6 at h;simp only[W7,List.map_cons,List.map_nil,List.all_cons,List.all_nil,Bool.and_true,Bool.and_eq_true,decide_eq_true_eq] at h;obtain⟨⟨⟨h0,d1,d2,d3,d4,d5,d6,d7,d8,d9⟩,h1,h2,h3,h4,h5,h6,h7,h8,h9⟩,⟨s1,s2⟩,s3⟩:=h;exact⟨5,by decide,Nat.dvd_refl 5,⟨_,_,_,mk5 h0 d1 h1,mk5 h0 d2 h2,mk5 h0 d3 h3,s1⟩,⟨_,_,_,mk5 h0 d4 h4,mk5 h0 d5 h5,mk5 h0 d6 h6,s2⟩,⟨_,_,_,mk5 h0 d7 h7,mk5 h0 d8 h8,mk5 h0 d9 h9,s3⟩⟩
variable{W:Nat}
theorem Wu{D V:Nat}{a b:V3}(h:vSm D V a)(k:vSm D W b):vSm D (V+W) (Wy a b):=⟨h.1.sub k.1,h.2.1.sub k.2.1,h.2.2.sub k.2.2⟩
theorem Xv(h:N∣5):N≤5:=Nat.le_of_dvd (by decide) h
theorem PR{E:Nat}{a q:V3}(ha:afF N a)(hq:vSm E W q)(n20:N≤5)(e1:E*W<10 ^ 9)(e2:E<10 ^ 9)(e3:N*E*(2*W+2*W)<10 ^ 9)(e4:N*E<10 ^ 9):ae3 a q:=
 ha.sm.ae3 hq (by omega) (by omega) e1 e2 e3 e4
variable{c:Z3}
theorem Qa{D V:Nat}{p:V3}(hi:i≤5)(aF:Bool)(hc:eS 2 c)(hp:vSm D V p)(hD:D≤500)(hV:V≤800):
  agI (KD (lx (bR i) aF)) (zV c)∧agJ (KD (lx (bR i) aF)) (Wy (zV c) (KW (KD (lx (bR i) aF)) (zV c))) p∧vSm (5*D) (2*V+20) (Kg (bR i) c aF p):=by
 obtain⟨N,hN,Yv,r1,r2,r3⟩:=W4 hi aF;have n20:=Xv Yv;rw[Fm];obtain⟨r,hr⟩:∃r,r=KD (lx (bR i) aF):=⟨_,rfl⟩
 rw[←hr] at r1 r2 r3 ⊢;have d0:=hp.1.1;have p4:=hp.mono hV;have cs:=M2 hc;have n1:N*1*(2*2+2*2)<10 ^ 9:=by omega
 have nD:N*D≤2500:=by have:=Nat.mul_le_mul n20 hD;omega
 have nD2:N*D*(2*800+2*800)<10 ^ 9:=by omega
 have rc:vSm N 4 (KW r (zV c)):=⟨by have:=r1.dot cs;rwa [Nat.mul_one] at this,by have:=r2.dot cs;rwa [Nat.mul_one] at this,by have:=r3.dot cs;rwa [Nat.mul_one] at this⟩;have cN:vSm N 2 (zV c):=cs.to (Nat.one_dvd _) hN (Nat.le_refl 2);have sh:=Wu cN rc;have rp:vSm (N*D) (2*V) (KW r p):=⟨r1.dot hp,r2.dot hp,r3.dot hp⟩;have shD:=sh.to (E:=N*D) ⟨D,rfl⟩ (Nat.mul_pos hN d0) (Nat.le_refl _);have sum:=rp.add shD;have abf:=sum.mono (W:=1606) (by omega);have rp4:=rp.mono (W:=1600) (by omega);have c20:∀{v:V3},vSm N 2 v→vC v:=fun h=>h.vC (by omega) (by omega)
 refine⟨⟨cs.vC (by decide) (by decide),⟨PR r1 cs n20 (by decide) (by decide) n1 (by omega),PR r2 cs n20 (by decide) (by decide) n1 (by omega),PR r3 cs n20 (by decide) (by decide) n1 (by omega)⟩,⟨cs.vF (by decide) (by decide),rc.vF (by omega) (by omega)⟩,sh.vC (by omega) (by omega)⟩,
  ⟨⟨c20 r1.sm,c20 r2.sm,c20 r3.sm,sh.vC (by omega) (by omega)⟩,p4.vC (by omega) (by omega),⟨PR r1 p4 n20 (by omega) (by omega) nD2 (by omega),PR r2 p4 n20 (by omega) (by omega) nD2 (by omega),PR r3 p4 n20 (by omega) (by omega) nD2 (by omega)⟩,⟨rp4.vF (by omega) (by omega),sh.vF (by omega) (by omega)⟩,abf.vC (by omega) (by omega)⟩,?_⟩
 obtain⟨k,hk⟩:=Yv;refine sum.to ⟨k,?_⟩ (by omega) (by omega);rw[hk,Nat.mul_assoc,Nat.mul_assoc,Nat.mul_comm k D]
theorem yW(h:n.natAbs≤3):dH n=true:=by unfold dH;simp;omega
theorem Tf{D V:Nat}{p:V3}(hi:i≤5)(aF:Bool)(hc:eS 2 c)(hp:vSm D V p)(hD:D≤500)(hV:V≤800):agm (bR i) c aF p:=by
 obtain⟨b1,b2,b3,b4⟩:=Vb i;have d0:=hp.1.1;have p4:=hp.mono hV;have cs:=M2 hc;have cm:vSm 1 2 (jR (zV c) (-1)):=by have:=cs.scl (Sm.int (V:=1) (n:= -1) (by decide));simpa using this
 have q4:vSm D 802 (oY p (jR (zV c) (-1))):=p4.add (cm.to (Nat.one_dvd _) d0 (Nat.le_refl 2));have w:Sm 1 3 (lG (bR i).1 aF):=by
  unfold lG;cases aF
  ·exact Sm.int b1
  ·have:=(Sm.int b1).neg
   simpa using this
 have u:vSm 1 3 (nA (bR i).2.1 (bR i).2.2.1 (bR i).2.2.2):=⟨.int b2,.int b3,.int b4⟩;have hN:lG (bR i).1 aF*lG (bR i).1 aF+eX (nA (bR i).2.1 (bR i).2.2.1 (bR i).2.2.2) (nA (bR i).2.1 (bR i).2.2.1 (bR i).2.2.2)=((xI (bR i):Nat):Rat):=by rw[S4];unfold lG nA eX;cases aF<;>simp only[if_true,Bool.false_eq_true,if_false]<;>grind
 have hB:=SZ hi false;unfold W6 at hB;simp only[Bool.and_eq_true,decide_eq_true_eq] at hB;have n0:0<xI (bR i):=hB.1.1.1;have n10:xI (bR i)≤10:=by
  have:∀i<6,xI (bR i)≤10:=by decide
  exact this i (by omega)
 obtain⟨t,ht⟩:∃t,t=bR i:=⟨_,rfl⟩
 rw[←ht] at b1 b2 b3 b4 w u hN n0 n10 ⊢;obtain⟨W,hW⟩:∃W,W=lG t.1 aF:=⟨_,rfl⟩
 obtain⟨U,hU⟩:∃U,U=nA t.2.1 t.2.2.1 t.2.2.2:=⟨_,rfl⟩
 obtain⟨q,hq⟩:∃q,q=oY p (jR (zV c) (-1)):=⟨_,rfl⟩
 rw[←hq] at q4;rw[←hW] at w hN;rw[←hU] at u hN;have ww:=w.mul w;have uu:=u.dot u;have s1:=ww.sub uu;have uq:=u.dot q4;have two:Sm 1 2 2:=Sm.int (V:=2) (n:=2) (by decide);have s2:=two.mul uq;have v1:=q4.scl s1;have v2:=u.scl s2;have cr:=u.crs q4;have s3:=two.mul w;have v3:=cr.scl s3;simp only[Nat.one_mul,Nat.mul_one] at ww uu s1 uq s2 v1 v2 cr s3 v3;have v4:=v1.add v2;have v5:=v4.add v3;have iv:Sm (xI t) 1 (1 / (W*W+eX U U)):=by rw[hN];exact Sm.inv n0
 have v6:=v5.scl iv;have nz:W*W+eX U U≠0:=by rw[hN];exact SE n0
 have nf:=ww.add uu;have Dn:D*xI t≤5000:=by have:=Nat.mul_le_mul hD n10;omega
 have tk:afO W U q:=
  ⟨w.aeF (by decide) (by decide),u.ae3 u (by decide) (by decide) (by decide) (by decide) (by decide) (by decide),ww.aeF (by decide) (by decide),uu.aeF (by decide) (by decide),⟨q4.vF (by omega) (by omega),s1.aeF (by decide) (by decide)⟩,
   u.ae3 q4 (by decide) (by decide) (by omega) (by omega) (by omega) (by omega),uq.aeF (by omega) (by omega),⟨u.vF (by decide) (by decide),s2.aeF (by omega) (by omega)⟩,u.afR q4 (by decide) (by decide) (by omega) (by omega) (by omega) (by omega),⟨cr.vF (by omega) (by omega),s3.aeF (by decide) (by decide)⟩,nz,nf.aeF (by decide) (by decide),
   ⟨v1.vF (by omega) (by omega),v2.vF (by omega) (by omega)⟩,⟨v4.vF (by omega) (by omega),v3.vF (by omega) (by omega)⟩,⟨v5.vF (by omega) (by omega),iv.aeF (by omega) (by omega)⟩⟩
 have f6:vF (CB W U q):=by unfold CB;exact v6.vF (by omega) (by omega)
 rw[hW,hU,hq] at tk f6;exact⟨yW b1,yW b2,yW b3,yW b4,⟨cs.vF (by decide) (by decide),(Sm.int (V:=1) (n:= -1) (by decide)).aeF (by decide) (by decide)⟩,⟨p4.vF (by omega) (by omega),cm.vF (by decide) (by decide)⟩,tk,⟨f6,cs.vF (by decide) (by decide)⟩⟩
noncomputable def EvD.mv:EvD→Bool→V3→V3
 |.fault n o v,b,p=>xv n o v b p
 |.fold n d c v,b,p=>Fk n (bV d c) v b p
 |.age i c,b,p=>Kg (bR i) c b p
 |.dep ..,_,p=>p
 |.afT ..,_,p=>p
section
variable {s:aeE}{w:EvD}{D V:Nat}{p:V3}
theorem Xy(hw:w.Ok s)(aF:Bool)(hp:vSm D V p)(hD:D≤500)(hV:V≤800):∃E,E≤5*D∧vSm E (2*V+20) (w.mv aF p):=by
 have d0:=hp.1.1;cases w with
 |dep Z us Ys=>exact⟨D,by omega,hp.mono (by omega)⟩
 |afT n o w u=>exact⟨D,by omega,hp.mono (by omega)⟩
 |fault n o v=>exact⟨D,by omega,(No aF hw.1 hw.2.2.1 hw.2.2.2.1 hp hD hV).2.2⟩
 |fold n d c v=>exact⟨4*D,by omega,(R5 aF hw.1 (A4 d c hw.2.2.2.1) (by rw[cW];exact hw.2.2.1) hw.2.2.2.2.1 hp hD hV).2.2⟩
 |age i c=>exact⟨5*D,Nat.le_refl _,(Qa hw.1 aF hw.2 hp hD hV).2.2⟩
theorem F3{M:Mem}{ev:List AV}{nm:List UInt8}(h:afi M ev (w.con nm))(hw:w.Ok s)(aF:Bool)(hp:vSm D V p)(hD:D≤500)(hV:V≤800):
  kF prog 52 [.agg ev,vA p,.bool aF] M (vA (w.mv aF p)) M:=by
 obtain⟨b,u,sv,kn,rfl,k1,k2,k3,k4⟩:=h;have c3:sv.kS=true:=by obtain⟨_,_,h3,_⟩:=k3;exact h3.ck
 cases w with
 |dep Z us Ys=>exact mR _ (.inl rfl) _ _ _ _ k1.ck k2.ck c3 k4.ck aF p M
 |afT n o w u=>exact mR _ (.inr rfl) _ _ _ _ k1.ck k2.ck c3 k4.ck aF p M
 |fault n o v=>
  obtain rfl:=k1.ae1 rfl;obtain rfl:=k2.ae1 rfl;obtain rfl:=k3.ae1 rfl;obtain rfl:=k4.ae1 rfl;exact vK nm n o v aF p (No aF hw.1 hw.2.2.1 hw.2.2.2.1 hp hD hV).1 M
 |age i c=>
  obtain rfl:=k1.ae1 rfl;obtain rfl:=k2.ae1 rfl;obtain rfl:=k3.ae1 rfl;obtain rfl:=k4.ae1 rfl;exact xZ nm (bR i) c aF p (Tf hw.1 aF hw.2 hp hD hV) M
 |fold n d c v=>
  obtain rfl:=k1.ae1 rfl;obtain rfl:=k2.ae1 rfl;obtain rfl:=k3.ae1 rfl;have e:(EvD.con nm (.fold n d c v)).K.length=(bV d c).length:=fG _;have hl:0<(bV d c).length:=by rw[cW];exact hw.2.2.1
  rw[e] at k4;obtain⟨b,q,rfl,hb⟩:=k4.pos hl;exact xY nm n (bV d c) v aF p (R5 aF hw.1 (A4 d c hw.2.2.2.1) hl hw.2.2.2.2.1 hp hD hV).1 hl (by rw[cW];have:=hw.2.2.2.1;omega) M b q hb
end
end Go.Proofs
