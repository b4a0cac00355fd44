/- See Q54. -/
import Derived.Test.YtgafjliihahjgaaGreatDoorQ47
import Derived.Test.YtgafjliihahjgaaGreatDoorQ40
set_option linter.all false
namespace Go.Proofs
open Go.Eng
theorem Py{d:Nat}(h:0<d):(d:Rat)≠0:=fun e=>by rw[Rat.natCast_eq_zero_iff] at e;omega
theorem Pt{n:Int}{d:Nat}(h:0<d):mkRat n d*(d:Rat)=(n:Rat):=by rw[Rat.mkRat_eq_div];exact Rat.div_mul_cancel (Py h)
theorem rJ{n:Int}{d V:Nat}(h:0<d) (hn:n.natAbs≤V*d):Sm d V (mkRat n d):=by
 have e:=Pt (n:=n) h;have dp:(0:Rat)<(d:Rat):=by exact_mod_cast h
 have b1:(n:Rat)≤(V:Rat)*(d:Rat):=by
  have:n≤((V*d:Nat):Int):=by omega
  have:=Rat.intCast_le_intCast.2 this
  rwa [Rat.intCast_natCast,oo] at this
 have b2: -((V:Rat)*(d:Rat))≤(n:Rat):=by
  have: -((V*d:Nat):Int)≤n:=by omega
  have:=Rat.intCast_le_intCast.2 this
  rwa [Rat.intCast_neg,Rat.intCast_natCast,oo] at this
 rw[←e] at b1 b2;refine⟨h,⟨n,e⟩,?_,?_⟩
 ·exact Rat.not_lt.1 fun hlt=>by
   have:=Rat.mul_lt_mul_of_pos_right hlt dp
   grind
 ·exact Rat.not_lt.1 fun hlt=>by
   have:=Rat.mul_lt_mul_of_pos_right hlt dp
   grind
theorem Kx{n:Z3}{k:Nat}(h:dO k n):vSm 1 k (zV n):=⟨.int h.1,.int h.2.1,.int h.2.2⟩
theorem RV(ar:Bool):Sm 1 1 (sgB ar):=by
 unfold sgB;cases ar
 ·exact Sm.int (n:=1) (by decide)
 ·exact Sm.int (n:= -1) (by decide)
def knS(L:List P2):Prop:=(∀q∈L,Sm 1 8 q.1∧Sm 2 2 q.2)∧∀(i:Nat) a b,L[i]? =some a→L[i+1]? =some b→b.1=a.1+2
theorem J1{d:Deed}{c i:Nat}{q:P2}(h:(bM d c)[i]? =some q):q=rh d i∧i<c:=by unfold bM at h;rw[List.getElem?_map,Option.map_eq_some_iff] at h;obtain⟨j,h1,h2⟩:=h;obtain⟨h3,h4⟩:=List.getElem?_eq_some_iff.1 h1;simp at h4 h3;exact⟨by rw[←h2,h4],h3⟩
theorem za(d:Deed) (c:Nat) (hc:c≤3):knS (bM d c):=by
 refine⟨fun q hq=>?_,fun i a b ha hb=>?_⟩
 ·obtain⟨i,hi⟩:=List.getElem?_of_mem hq
  obtain⟨rfl,hlt⟩:=J1 hi;have t: -3<d.N.tmod 3∧d.N.tmod 3<3:=lQ d.N 3 (by decide);have k4:HT d.K i%4<4:=Nat.mod_lt _ (by decide);have k2:d.K.2.2.2%2=0∨d.K.2.2.2%2=1:=by omega
  refine⟨.int (by omega),?_⟩;unfold rh;simp only;rcases k2 with h | h<;>rw[h]
  ·exact(rJ (V:=2) (by decide) (by omega)).to (by decide) (by decide) (Nat.le_refl 2)
  ·exact rJ (by decide) (by omega)
 ·obtain⟨rfl,h1⟩:=J1 ha
  obtain⟨rfl,h2⟩:=J1 hb;unfold rh;simp only;have:(d.N.tmod 3+2*((i+1:Nat):Int):Int)=(d.N.tmod 3+2*(i:Int))+2:=by omega
  rw[this,Rat.intCast_add];rfl
theorem J0:∀{L:List P2},knS L→asc L
 | [],_=>trivial
 | [_],_=>trivial
 |a::b::l,h=>⟨by have:=h.2 0 a b rfl rfl;grind,J0 ⟨fun q hq=>h.1 q (List.mem_cons_of_mem _ hq),fun i x y hx hy=>h.2 (i+1) x y (by simpa using hx) (by simpa using hy)⟩⟩
section
variable {L:List P2}{D:Nat}{u:Rat}
theorem SS:fine (2:Rat):=⟨by decide,by decide⟩
theorem Sh(x:Rat):x / 2=x*(1 / ((2:Nat):Rat)):=by rw[show((2:Nat):Rat)=2 from rfl,Rat.div_def,Rat.div_def,Rat.one_mul]
theorem BG{D V:Nat}{x:Rat}(h:Sm D V x):Sm (D*2) V (x / 2):=by
 rw[Sh];have:=h.mul (Sm.inv (N:=2) (by decide))
 rwa [Nat.mul_one] at this
theorem KS(h:knS L):O5 L:=fun q hq=>⟨(h.1 q hq).1.fine (by decide) (by decide),(h.1 q hq).2.fine (by decide) (by decide)⟩
theorem Si(h:knS L) (hu:Sm D 2400 u) (hD:D≤1600):S3 L u:=by
 have d0:=hu.1;refine⟨KS h,hu.fine (by omega) (by omega),J0 h,fun i a b ha hb _ _=>?_⟩;obtain⟨a1,a2⟩:=h.1 a (List.mem_of_getElem? ha);obtain⟨b1,b2⟩:=h.1 b (List.mem_of_getElem? hb);have e:b.1-a.1=2:=by have:=h.2 i a b ha hb;grind
 have x1:Sm D 2408 (u-a.1):=hu.sub (a1.to (Nat.one_dvd _) d0 (Nat.le_refl 8));have x2:=(BG x1);have x3:Sm 2 4 (b.2-a.2):=b2.sub a2;have x4:=x2.mul x3;unfold Tf;rw[e];exact⟨⟨x1.fine (by omega) (by omega),SS,by decide⟩,x2.fine (by omega) (by omega),x3.fine (by decide) (by decide),x4.fine (by omega) (by omega)⟩
theorem MM{a b k V:Rat}(k0:0≤k) (k1:k≤1) (ha: -V≤a∧a≤V) (hb: -V≤b∧b≤V): -V≤a+k*(b-a)∧a+k*(b-a)≤V:=by have h1:=Rat.mul_nonneg k0 (show 0≤V-b by grind);have h2:=Rat.mul_nonneg k0 (show 0≤V+b by grind);have h3:=Rat.mul_nonneg (show 0≤1-k by grind) (show 0≤V-a by grind);have h4:=Rat.mul_nonneg (show 0≤1-k by grind) (show 0≤V+a by grind);constructor<;>grind
theorem Po(h:knS L) (hp:0<L.length) (hu:Sm D 2400 u):Sm (4*D) 2 (dM L u):=by
 have d0:=hu.1;have hasc:=J0 h;have hle:=iq L u;have up:∀q∈L,Sm (4*D) 2 q.2:=fun q hq=>(h.1 q hq).2.to ⟨2*D,by omega⟩ (by omega) (Nat.le_refl 2)
 by_cases h0:bh L u=0
 ·cases L with
  |nil=>simp at hp
  |cons a l=>
   rw[vy hasc (Rat.not_le.1 fun hq=>by have:=(fa hasc 0 a rfl).1 hq;omega)];exact up a (by simp)
 obtain⟨m,hm⟩:∃m,bh L u=m+1:=⟨bh L u-1,by omega⟩
 obtain⟨a,ha⟩:∃q,L[m]? =some q:=⟨L[m],List.getElem?_eq_getElem (by omega)⟩
 have le1:=(fa (u:=u) hasc m a ha).2 (by omega);by_cases hE:L.length=m+1
 ·rw[BN hasc hE ha le1]
  exact up a (List.mem_of_getElem? ha)
 obtain⟨b,hb⟩:∃q,L[m+1]? =some q:=⟨L[m+1],List.getElem?_eq_getElem (by omega)⟩
 have le2:u<b.1:=Rat.not_le.1 fun hq=>by have:=(fa (u:=u) hasc (m+1) b hb).1 hq;omega
 rw[uO hasc m a b ha hb le1 le2];obtain⟨a1,a2⟩:=h.1 a (List.mem_of_getElem? ha);obtain⟨b1,b2⟩:=h.1 b (List.mem_of_getElem? hb);have e0:=h.2 m a b ha hb;have e:b.1-a.1=2:=by grind
 rw[e];have x1:Sm D 2408 (u-a.1):=hu.sub (a1.to (Nat.one_dvd _) d0 (Nat.le_refl 8));have x3:Sm 2 4 (b.2-a.2):=b2.sub a2;have x4:=(BG x1).mul x3;have x5:=(a2.to (E:=D*2*2) ⟨D*2,by omega⟩ (by omega) (Nat.le_refl 2)).add x4;have hk0:0≤(u-a.1) / 2:=by
  have h2:(u-a.1) / 2*2=u-a.1:=Rat.div_mul_cancel (by decide)
  grind
 have hk1:(u-a.1) / 2≤1:=by
  have h2:(u-a.1) / 2*2=u-a.1:=Rat.div_mul_cancel (by decide)
  grind
 have hb:=MM hk0 hk1 ⟨a2.2.2.1,a2.2.2.2⟩ ⟨b2.2.2.1,b2.2.2.2⟩;rw[show 4*D=D*2*2 by omega];exact⟨x5.1,x5.2.1,hb⟩
theorem Rl(h:knS L):TG L∧∀n,n≤L.length→Sm 4 40 (jO L n).1∧Sm 4 4 (jO L n).2:=by
 have z4:Sm 4 4 0:=(Sm.int (V:=4) (n:=0) (by decide)).to (by decide) (by decide) (Nat.le_refl 4);have up:∀q∈L,Sm 4 40 q.2:=fun q hq=>(h.1 q hq).2.to (by decide) (by decide) (by decide)
 refine⟨⟨KS h,fun i a b ha hb=>?_⟩,fun n hn=>?_⟩
 ·obtain⟨a1,a2⟩:=h.1 a (List.mem_of_getElem? ha)
  obtain⟨b1,b2⟩:=h.1 b (List.mem_of_getElem? hb);have e:b.1-a.1=2:=by have:=h.2 i a b ha hb;grind
  have x3:Sm 2 4 (b.2-a.2):=b2.sub a2;unfold S4;rw[e];exact⟨⟨by decide,x3.fine (by decide) (by decide),SS⟩,(BG x3).fine (by decide) (by decide),((BG x3).mul a1).fine (by decide) (by decide)⟩
 ·unfold jO
  split
  ·exact⟨(Sm.int (V:=40) (n:=0) (by decide)).to (by decide) (by decide) (Nat.le_refl 40),z4⟩
  rename_i hne;have hlen:0<L.length:=List.length_pos_iff.2 hne;split
  ·exact⟨by rw[show L.getD 0 (0,0)=L[0] by simp[List.getD,hlen]];exact up _ (List.getElem_mem _),z4⟩
  rename_i h0;have hm:n-1<L.length:=by omega
  have g1:L.getD (n-1) (0,0)=L[n-1]:=by simp[List.getD,hm]
  split
  ·exact⟨by rw[g1];exact up _ (List.getElem_mem _),z4⟩
  rename_i hE;have hn2:n<L.length:=by omega
  have g2:L.getD n (0,0)=L[n]:=by simp[List.getD,hn2]
  rw[g1,g2];obtain⟨a1,a2⟩:=h.1 L[n-1] (List.getElem_mem _);obtain⟨b1,b2⟩:=h.1 L[n] (List.getElem_mem _);have e0:=h.2 (n-1) L[n-1] L[n] (List.getElem?_eq_getElem hm) (by rw[show n-1+1=n by omega];exact List.getElem?_eq_getElem hn2);have e:L[n].1-L[n-1].1=2:=by grind
  have x3:Sm 2 4 (L[n].2-L[n-1].2):=b2.sub a2;unfold zH;rw[e];exact⟨((a2.to (E:=4) (by decide) (by decide) (Nat.le_refl 2)).sub ((BG x3).mul a1)).mono (by decide),(BG x3)⟩
theorem Sj(h:knS L) (hu:Sm D 2400 u) (hD:D≤1600):Qa L u:=by obtain⟨h1,h2⟩:=Rl h;obtain⟨h3,h4⟩:=h2 (bh L u) (iq L u);exact⟨⟨h1,hu.fine (by omega) (by omega)⟩,⟨h3.fine (by decide) (by decide),h4.fine (by decide) (by decide)⟩,(h4.mul hu).fine (by omega) (by omega)⟩
end
section
variable {D V:Nat}{p:V3}{n v:Z3}{o:Int}{L:List P2}
theorem RM(hn:dO 2 n) (hp:vSm D 400 p):Sm D 2400 (ei (zV n) p):=by
 have:=(Kx hn).dot hp
 rwa [Nat.one_mul] at this
theorem KL(hn:dO 2 n) (hp:vSm D 400 p) (hD:D≤1600):dotOk (zV n) p:=
 (Kx hn).dotOk hp (by decide) (by decide) (by omega) (by omega) (by omega) (by omega)
theorem K8{k:Rat}{E:Nat}(hv:dO 8 v) (hk:Sm E 2 k):vSm E 16 (iM (zV v) k):=by
 have:=(Kx hv).scl hk
 rwa [Nat.one_mul] at this
theorem Db(ar:Bool) (hn:dO 2 n) (ho:o.natAbs≤4) (hv:dO 8 v) (hp:vSm D V p) (hD:D≤1600) (hV:V≤400):
  FaultOk n o v ar p∧FMoveOk n o v ar p∧vSm (20*D) (2*V+20) (vf n o v ar p):=by
 have d0:=hp.1.1;have p4:=hp.mono hV;have fp:vF p:=p4.vF (by omega) (by omega);have fv:vF (zV v):=(Kx hv).vF (by decide) (by decide);have k1:=(RV ar).mono (W:=2) (by decide);have fk:fine (sgB ar):=k1.fine (by decide) (by decide);have sh:=K8 hv k1;have shD:vSm D 16 (iM (zV v) (sgB ar)):=sh.to (Nat.one_dvd _) d0 (Nat.le_refl _);have sum:=hp.add shD;have fo:fine (o:Rat):=(Sm.int (V:=4) ho).fine (by decide) (by decide);have fd:fine (ei (zV n) p):=(RM hn p4).fine (by omega) (by omega);have hd:=KL hn p4 hD;have sum4:=sum.mono (W:=416) (by omega);have sc:=sh.vF (by decide) (by decide);refine⟨⟨hd,fd,fo,⟨fv,fk⟩,fp,sc⟩,⟨p4.vC (by omega) (by omega),hd,fd,fo,⟨⟨fp,fv,fk⟩,?_⟩,sum4.vC (by omega) (by omega)⟩,?_⟩
 ·obtain⟨c1,c2,c3⟩:=sc
  simp only[iM] at c1 c2 c3;rw[Rat.mul_comm] at c1 c2 c3;exact⟨c1,c2,c3⟩
 ·unfold vf
  split
  ·exact sum.to ⟨20,by omega⟩ (by omega) (by omega)
  ·exact hp.to ⟨20,by omega⟩ (by omega) (by omega)
theorem JU(ar:Bool) (hn:dO 2 n) (hL:knS L) (hl:0<L.length) (hv:dO 8 v) (hp:vSm D V p) (hD:D≤1600) (hV:V≤400):
  FoldOk n L v ar p∧GMoveOk n L v ar p∧vSm (20*D) (2*V+20) (Dh n L v ar p):=by
 have d0:=hp.1.1;have p4:=hp.mono hV;have fp:vF p:=p4.vF (by omega) (by omega);have fv:vF (zV v):=(Kx hv).vF (by decide) (by decide);have k1:=RV ar;have fk:fine (sgB ar):=k1.fine (by decide) (by decide);have hu:=RM hn p4;have w:=Po hL hl hu;have kw:=k1.mul w;rw[Nat.one_mul,Nat.one_mul] at kw;have sh:=K8 hv kw;have sum:=(hp.to (E:=4*D) ⟨4,by omega⟩ (by omega) (Nat.le_refl _)).add sh;have fd:fine (ei (zV n) p):=hu.fine (by omega) (by omega);have hd:=KL hn p4 hD;have sum4:=sum.mono (W:=416) (by omega);have sc:=sh.vF (by omega) (by omega);have fkw:=kw.fine (by omega) (by omega);have fw:=w.fine (by omega) (by omega);refine⟨⟨hd,fd,Si hL hu hD,fw,fk,⟨fv,fkw⟩,fp,sc⟩,⟨p4.vC (by omega) (by omega),hd,Sj hL hu hD,fw,fk,⟨⟨fp,fv,fkw⟩,?_⟩,sum4.vC (by omega) (by omega)⟩,?_⟩
 ·obtain⟨c1,c2,c3⟩:=sc
  simp only[iM] at c1 c2 c3;rw[Rat.mul_comm] at c1 c2 c3;exact⟨c1,c2,c3⟩
 ·unfold Dh
  exact sum.to ⟨5,by omega⟩ (by omega) (by omega)
end
end Go.Proofs
namespace Go.Proofs
open Go.Eng
theorem PW(t:I4):((uJ t:Nat):Rat)=(t.1:Rat)*t.1+(t.2.1:Rat)*t.2.1+(t.2.2.1:Rat)*t.2.2.1+(t.2.2.2:Rat)*t.2.2.2:=by
 have sq:∀x:Int,0≤x*x:=fun x=>by
  rcases Int.le_total 0 x with h | h
  ·exact Int.mul_nonneg h h
  ·exact Int.mul_nonneg_of_nonpos_of_nonpos h h
 have h0:0≤t.1*t.1+t.2.1*t.2.1+t.2.2.1*t.2.2.1+t.2.2.2*t.2.2.2:=by have a:=sq t.1;have b:=sq t.2.1;have c:=sq t.2.2.1;have d:=sq t.2.2.2;omega
 unfold uJ;rw[←Rat.intCast_natCast,Int.toNat_of_nonneg h0];simp only[Rat.intCast_add,Rat.intCast_mul]
theorem Sn{n:Int}{d:Nat}:mkRat n d=(n:Rat)*(1 / (d:Rat)):=by rw[Rat.mkRat_eq_div,Rat.div_def,Rat.div_def,Rat.one_mul]
theorem PV(t:I4) (ar:Bool):uJ (ej t ar)=uJ t:=by
 cases ar
 ·rfl
 ·unfold uJ ej
  simp only[if_true,Int.neg_mul_neg]
theorem RG(t:I4) (ar:Bool) (v:V3):AG (jP t.1 ar) (lR t.2.1 t.2.2.1 t.2.2.2) v=nb (zy (ej t ar)) v:=by
 have hW:jP t.1 ar*jP t.1 ar+ei (lR t.2.1 t.2.2.1 t.2.2.2) (lR t.2.1 t.2.2.1 t.2.2.2)=((uJ t:Nat):Rat):=by rw[PW];unfold jP lR ei;cases ar<;>simp only[if_true,Bool.false_eq_true,if_false]<;>grind
 unfold AG;rw[hW];unfold nb zy;rw[PV];simp only[Sn];obtain⟨k,hk⟩:∃k:Rat,k=1 / ((uJ t:Nat):Rat):=⟨_,rfl⟩
 rw[←hk];clear hW hk;obtain⟨w,x,y,z⟩:=t;obtain⟨v1,v2,v3⟩:=v;unfold jP lR ei iM iT Qf ej;cases ar
 ·simp only[Bool.false_eq_true,if_false,Rat.intCast_add,Rat.intCast_sub,Rat.intCast_mul,Prod.mk.injEq]
  have two:((2:Int):Rat)=2:=rfl;rw[two];refine⟨?_,?_,?_⟩<;>grind
 ·simp only[if_true,Rat.intCast_add,Rat.intCast_sub,Rat.intCast_mul,Rat.intCast_neg,Prod.mk.injEq]
  have two:((2:Int):Rat)=2:=rfl;rw[two];refine⟨?_,?_,?_⟩<;>grind
theorem KT(t:I4) (c:Z3) (ar:Bool) (p:V3):M7 t c ar p=iT (nb (zy (ej t ar)) p) (Ku (zV c) (nb (zy (ej t ar)) (zV c))):=by
 unfold M7;rw[RG];obtain⟨r,hr⟩:∃r,r=zy (ej t ar):=⟨_,rfl⟩
 obtain⟨s,hs⟩:∃s,s=zV c:=⟨_,rfl⟩
 rw[←hr,←hs];unfold nb ei iT iM Ku;simp only[Prod.mk.injEq];refine⟨?_,?_,?_⟩<;>grind
def e01(n:Int):Nat:=if n=0 then 0 else 1
def Td(t:I4):Bool:=decide (0<uJ t)&&decide (uJ t∣20)&&(Te t).all (fun n=>decide (n.natAbs≤e01 n*uJ t))&&match (Te t).map e01 with
 | [a,b,c,d,e,f,g,h,i]=>decide (a+b+c≤2)&&decide (d+e+f≤2)&&decide (g+h+i≤2)
 |_=>false
theorem Rx:(List.range 6).all (fun i=>Td (ej (bn i) false)&&Td (ej (bn i) true))=true:=by decide
theorem PU{i:Nat}(hi:i≤5) (ar:Bool):Td (ej (bn i) ar)=true:=by
 have h:=List.all_eq_true.1 Rx i (List.mem_range.2 (by omega));rw[Bool.and_eq_true] at h;cases ar
 ·exact h.1
 ·exact h.2
def rowSm(N:Nat) (r:V3):Prop:=∃a b c,Sm N a r.1∧Sm N b r.2.1∧Sm N c r.2.2∧a+b+c≤2
theorem rowSm.sm{N:Nat}{r:V3}(h:rowSm N r):vSm N 2 r:=by obtain⟨a,b,c,h1,h2,h3,h4⟩:=h;exact⟨h1.mono (by omega),h2.mono (by omega),h3.mono (by omega)⟩
theorem rowSm.dot{N D V:Nat}{r p:V3}(h:rowSm N r) (hp:vSm D V p):Sm (N*D) (2*V) (ei r p):=by obtain⟨a,b,c,h1,h2,h3,h4⟩:=h;have:=((h1.mul hp.1).add (h2.mul hp.2.1)).add (h3.mul hp.2.2);rw[←Nat.add_mul,←Nat.add_mul] at this;exact this.mono (Nat.mul_le_mul_right V h4)
theorem Tc{i:Nat}(hi:i≤5) (ar:Bool):∃N,0<N∧N∣20∧rowSm N (zy (ej (bn i) ar)).1∧rowSm N (zy (ej (bn i) ar)).2.1∧rowSm N (zy (ej (bn i) ar)).2.2:=by
 have h:=PU hi ar;obtain⟨t,ht⟩:∃t,t=ej (bn i) ar:=⟨_,rfl⟩
 rw[←ht] at h ⊢;unfold Td at h;simp only[Te,List.map_cons,List.map_nil,List.all_cons,List.all_nil,Bool.and_true,Bool.and_eq_true,decide_eq_true_eq] at h;obtain⟨⟨⟨h0,hd⟩,h1,h2,h3,h4,h5,h6,h7,h8,h9⟩,⟨s1,s2⟩,s3⟩:=h;exact⟨uJ t,h0,hd,⟨_,_,_,rJ h0 h1,rJ h0 h2,rJ h0 h3,s1⟩,⟨_,_,_,rJ h0 h4,rJ h0 h5,rJ h0 h6,s2⟩,⟨_,_,_,rJ h0 h7,rJ h0 h8,rJ h0 h9,s3⟩⟩
theorem SH{D V W:Nat}{a b:V3}(h:vSm D V a) (k:vSm D W b):vSm D (V+W) (Ku a b):=⟨h.1.sub k.1,h.2.1.sub k.2.1,h.2.2.sub k.2.2⟩
theorem TD{N:Nat}(h:N∣20):N≤20:=Nat.le_of_dvd (by decide) h
theorem Na{N E W:Nat}{a q:V3}(ha:rowSm N a) (hq:vSm E W q) (n20:N≤20) (e1:E*W<10 ^ 9) (e2:E<10 ^ 9) (e3:N*E*(2*W+2*W)<10 ^ 9) (e4:N*E<10 ^ 9):dotOk a q:=
 ha.sm.dotOk hq (by omega) (by omega) e1 e2 e3 e4
set_option maxRecDepth 4096 in
theorem BL{D V i:Nat}{p:V3}{c:Z3}(hi:i≤5) (ar:Bool) (hc:dO 2 c) (hp:vSm D V p) (hD:D≤1600) (hV:V≤400):
  AboutOk (zy (ej (bn i) ar)) (zV c)∧ApplyOk (zy (ej (bn i) ar)) (Ku (zV c) (nb (zy (ej (bn i) ar)) (zV c))) p∧vSm (20*D) (2*V+20) (M7 (bn i) c ar p):=by
 obtain⟨N,hN,hN2,r1,r2,r3⟩:=Tc hi ar;have n20:=TD hN2;rw[KT];obtain⟨r,hr⟩:∃r,r=zy (ej (bn i) ar):=⟨_,rfl⟩
 rw[←hr] at r1 r2 r3 ⊢;have d0:=hp.1.1;have p4:=hp.mono hV;have cs:=Kx hc;have n1:N*1*(2*2+2*2)<10 ^ 9:=by omega
 have nD:N*D≤32000:=by have:=Nat.mul_le_mul n20 hD;omega
 have nD2:N*D*(2*400+2*400)<10 ^ 9:=by omega
 have rc:vSm N 4 (nb r (zV c)):=⟨by have:=r1.dot cs;rwa [Nat.mul_one] at this,by have:=r2.dot cs;rwa [Nat.mul_one] at this,by have:=r3.dot cs;rwa [Nat.mul_one] at this⟩;have cN:vSm N 2 (zV c):=cs.to (Nat.one_dvd _) hN (Nat.le_refl 2);have sh:=SH cN rc;have rp:vSm (N*D) (2*V) (nb r p):=⟨r1.dot hp,r2.dot hp,r3.dot hp⟩;have shD:=sh.to (E:=N*D) ⟨D,rfl⟩ (Nat.mul_pos hN d0) (Nat.le_refl _);have sum:=rp.add shD;have sum4:=sum.mono (W:=806) (by omega);have rp4:=rp.mono (W:=800) (by omega);have c20:∀{v:V3},vSm N 2 v→vC v:=fun h=>h.vC (by omega) (by omega)
 refine⟨⟨cs.vC (by decide) (by decide),⟨Na r1 cs n20 (by decide) (by decide) n1 (by omega),Na r2 cs n20 (by decide) (by decide) n1 (by omega),Na r3 cs n20 (by decide) (by decide) n1 (by omega)⟩,⟨cs.vF (by decide) (by decide),rc.vF (by omega) (by omega)⟩,sh.vC (by omega) (by omega)⟩,
  ⟨⟨c20 r1.sm,c20 r2.sm,c20 r3.sm,sh.vC (by omega) (by omega)⟩,p4.vC (by omega) (by omega),⟨Na r1 p4 n20 (by omega) (by omega) nD2 (by omega),Na r2 p4 n20 (by omega) (by omega) nD2 (by omega),Na r3 p4 n20 (by omega) (by omega) nD2 (by omega)⟩,⟨rp4.vF (by omega) (by omega),sh.vF (by omega) (by omega)⟩,sum4.vC (by omega) (by omega)⟩,?_⟩
 obtain⟨k,hk⟩:=hN2;refine sum.to ⟨k,?_⟩ (by omega) (by omega);rw[hk,Nat.mul_assoc,Nat.mul_assoc,Nat.mul_comm k D]
theorem xf{n:Int}(h:n.natAbs≤3):de n=true:=by unfold de;simp;omega
set_option maxHeartbeats 1600000 in
theorem P8{D V i:Nat}{p:V3}{c:Z3}(hi:i≤5) (ar:Bool) (hc:dO 2 c) (hp:vSm D V p) (hD:D≤1600) (hV:V≤400):TiltOk (bn i) c ar p:=by
 obtain⟨b1,b2,b3,b4⟩:=Lc i;have d0:=hp.1.1;have p4:=hp.mono hV;have cs:=Kx hc;have cm:vSm 1 2 (iM (zV c) (-1)):=by have:=cs.scl (Sm.int (V:=1) (n:= -1) (by decide));simpa using this
 have q4:vSm D 402 (iT p (iM (zV c) (-1))):=p4.add (cm.to (Nat.one_dvd _) d0 (Nat.le_refl 2));have w:Sm 1 3 (jP (bn i).1 ar):=by
  unfold jP;cases ar
  ·exact Sm.int b1
  ·have:=(Sm.int b1).neg
   simpa using this
 have u:vSm 1 3 (lR (bn i).2.1 (bn i).2.2.1 (bn i).2.2.2):=⟨.int b2,.int b3,.int b4⟩;have hN:jP (bn i).1 ar*jP (bn i).1 ar+ei (lR (bn i).2.1 (bn i).2.2.1 (bn i).2.2.2) (lR (bn i).2.1 (bn i).2.2.1 (bn i).2.2.2)=((uJ (bn i):Nat):Rat):=by rw[PW];unfold jP lR ei;cases ar<;>simp only[if_true,Bool.false_eq_true,if_false]<;>grind
 have hB:=PU hi false;unfold Td at hB;simp only[Bool.and_eq_true,decide_eq_true_eq] at hB;have n0:0<uJ (bn i):=hB.1.1.1;have n10:uJ (bn i)≤10:=by
  have:∀i<6,uJ (bn i)≤10:=by decide
  exact this i (by omega)
 obtain⟨t,ht⟩:∃t,t=bn i:=⟨_,rfl⟩
 rw[←ht] at b1 b2 b3 b4 w u hN n0 n10 ⊢;obtain⟨W,hW⟩:∃W,W=jP t.1 ar:=⟨_,rfl⟩
 obtain⟨U,hU⟩:∃U,U=lR t.2.1 t.2.2.1 t.2.2.2:=⟨_,rfl⟩
 obtain⟨q,hq⟩:∃q,q=iT p (iM (zV c) (-1)):=⟨_,rfl⟩
 rw[←hq] at q4;rw[←hW] at w hN;rw[←hU] at u hN;have ww:=w.mul w;have uu:=u.dot u;have s1:=ww.sub uu;have uq:=u.dot q4;have two:Sm 1 2 2:=Sm.int (V:=2) (n:=2) (by decide);have s2:=two.mul uq;have v1:=q4.scl s1;have v2:=u.scl s2;have cr:=u.crs q4;have s3:=two.mul w;have v3:=cr.scl s3;simp only[Nat.one_mul,Nat.mul_one] at ww uu s1 uq s2 v1 v2 cr s3 v3;have v4:=v1.add v2;have v5:=v4.add v3;have iv:Sm (uJ t) 1 (1 / (W*W+ei U U)):=by rw[hN];exact Sm.inv n0
 have v6:=v5.scl iv;have nz:W*W+ei U U≠0:=by rw[hN];exact Py n0
 have nf:=ww.add uu;have Dn:D*uJ t≤16000:=by have:=Nat.mul_le_mul hD n10;omega
 have tk:TurnOk W U q:=
  ⟨w.fine (by decide) (by decide),u.dotOk u (by decide) (by decide) (by decide) (by decide) (by decide) (by decide),ww.fine (by decide) (by decide),uu.fine (by decide) (by decide),⟨q4.vF (by omega) (by omega),s1.fine (by decide) (by decide)⟩,
   u.dotOk q4 (by decide) (by decide) (by omega) (by omega) (by omega) (by omega),uq.fine (by omega) (by omega),⟨u.vF (by decide) (by decide),s2.fine (by omega) (by omega)⟩,u.crsOk q4 (by decide) (by decide) (by omega) (by omega) (by omega) (by omega),⟨cr.vF (by omega) (by omega),s3.fine (by decide) (by decide)⟩,nz,nf.fine (by decide) (by decide),
   ⟨v1.vF (by omega) (by omega),v2.vF (by omega) (by omega)⟩,⟨v4.vF (by omega) (by omega),v3.vF (by omega) (by omega)⟩,⟨v5.vF (by omega) (by omega),iv.fine (by omega) (by omega)⟩⟩
 have f6:vF (AG W U q):=by unfold AG;exact v6.vF (by omega) (by omega)
 rw[hW,hU,hq] at tk f6;exact⟨xf b1,xf b2,xf b3,xf b4,⟨cs.vF (by decide) (by decide),(Sm.int (V:=1) (n:= -1) (by decide)).fine (by decide) (by decide)⟩,⟨p4.vF (by omega) (by omega),cm.vF (by decide) (by decide)⟩,tk,⟨f6,cs.vF (by decide) (by decide)⟩⟩
noncomputable def EvD.mv:EvD→Bool→V3→V3
 |.fault n o v,b,p=>vf n o v b p
 |.fold n d c v,b,p=>Dh n (bM d c) v b p
 |.tilt i c,b,p=>M7 (bn i) c b p
 |.dep ..,_,p=>p
 |.dike ..,_,p=>p
section
variable {s:Sheet}{w:EvD}{D V:Nat}{p:V3}
theorem TH(hw:w.Ok s) (ar:Bool) (hp:vSm D V p) (hD:D≤1600) (hV:V≤400):vSm (20*D) (2*V+20) (w.mv ar p):=by
 have d0:=hp.1.1;cases w with
 |dep Z us Ys=>exact hp.to ⟨20,by omega⟩ (by omega) (by omega)
 |dike n o w u=>exact hp.to ⟨20,by omega⟩ (by omega) (by omega)
 |fault n o v=>exact(Db ar hw.1 hw.2.2.1 hw.2.2.2.1 hp hD hV).2.2
 |fold n d c v=>exact(JU ar hw.1 (za d c hw.2.2.2.1) (by rw[cH];exact hw.2.2.1) hw.2.2.2.2.1 hp hD hV).2.2
 |tilt i c=>exact(BL hw.1 ar hw.2 hp hD hV).2.2
theorem D4{M:Mem}{ev:List AV}{nm:List UInt8}(h:EvAt M ev (w.con nm)) (hw:w.Ok s) (ar:Bool) (hp:vSm D V p) (hD:D≤1600) (hV:V≤400):
  ACallsTo Tryz.prog 52 [.agg ev,vA p,.bool ar] M (vA (w.mv ar p)) M:=by
 obtain⟨b,u,sv,kn,rfl,k1,k2,k3,k4⟩:=h;have c3:sv.cellOk=true:=by obtain⟨_,_,h3,_⟩:=k3;exact h3.ck
 cases w with
 |dep Z us Ys=>exact lf _ (.inl rfl) _ _ _ _ k1.ck k2.ck c3 k4.ck ar p M
 |dike n o w u=>exact lf _ (.inr rfl) _ _ _ _ k1.ck k2.ck c3 k4.ck ar p M
 |fault n o v=>
  obtain rfl:=k1.nil0 rfl;obtain rfl:=k2.nil0 rfl;obtain rfl:=k3.nil0 rfl;obtain rfl:=k4.nil0 rfl;exact tL nm n o v ar p (Db ar hw.1 hw.2.2.1 hw.2.2.2.1 hp hD hV).1 M
 |tilt i c=>
  obtain rfl:=k1.nil0 rfl;obtain rfl:=k2.nil0 rfl;obtain rfl:=k3.nil0 rfl;obtain rfl:=k4.nil0 rfl;exact vT nm (bn i) c ar p (P8 hw.1 ar hw.2 hp hD hV) M
 |fold n d c v=>
  obtain rfl:=k1.nil0 rfl;obtain rfl:=k2.nil0 rfl;obtain rfl:=k3.nil0 rfl;have e:(EvD.con nm (.fold n d c v)).K.length=(bM d c).length:=di _;have hl:0<(bM d c).length:=by rw[cH];exact hw.2.2.1
  rw[e] at k4;obtain⟨b,q,rfl,hb⟩:=k4.pos hl;exact vR nm n (bM d c) v ar p (JU ar hw.1 (za d c hw.2.2.2.1) hl hw.2.2.2.2.1 hp hD hV).1 hl (by rw[cH];have:=hw.2.2.2.1;omega) M b q hb
theorem DU{M:Mem}{pb tb:Nat}{o1 o2:Bool}{ev:List AV}{nm:List UInt8}(h:EvAt M ev (w.con nm)) (hc:rK s (w.con nm)) (hw:w.Ok s) (ar:Bool) (hp:vSm D V p) (hD:D≤1600) (hV:V≤400)
  (m1:M[pb]? =some (.cells o1 2 (pC s.P))) (m2:M[tb]? =some (.cells o2 3 (tC s.T))):
  ACallsTo Tryz.prog 39 [.agg [.slice pb 0 s.P.length none,.slice tb 0 s.T.length none],.agg ev,vA p,.str (sgT ar)] M (.tuple [vA (w.mv ar p),.int .i64 0]) M:=by
 have l1:=(List.getElem?_eq_some_iff.1 m1).1;have l2:=(List.getElem?_eq_some_iff.1 m2).1;have hC:∀Z,ACallsTo Tryz.prog 61 [.agg [.slice pb 0 s.P.length none,.slice tb 0 s.T.length none],.agg ev] (M++Z) (.int .i64 0) (M++Z):=fun Z=>
  hc (M++Z) pb tb o1 o2 ev (by rw[List.getElem?_append_left l1];exact m1) (by rw[List.getElem?_append_left l2];exact m2) (h.more Z)
 have d0:=hp.1.1;have pk:vC p:=(hp.mono hV).vC (by omega) (by omega);obtain⟨b,u,sv,kn,rfl,k1,k2,k3,k4⟩:=h;have c3:sv.cellOk=true:=by obtain⟨_,_,h3,_⟩:=k3;exact h3.ck
 cases w with
 |dep Z us Ys=>exact kY _ (.inl rfl) _ _ _ _ k1.ck k2.ck c3 k4.ck ⟨_,_,rfl,rfl,rfl⟩ ar p pk hC
 |dike n o w u=>exact kY _ (.inr rfl) _ _ _ _ k1.ck k2.ck c3 k4.ck ⟨_,_,rfl,rfl,rfl⟩ ar p pk hC
 |fault n o v=>
  obtain rfl:=k1.nil0 rfl;obtain rfl:=k2.nil0 rfl;obtain rfl:=k3.nil0 rfl;obtain rfl:=k4.nil0 rfl;exact tJ l1 l2 nm n o v ar p (Db ar hw.1 hw.2.2.1 hw.2.2.2.1 hp hD hV).2.1 hC
 |tilt i c=>
  obtain rfl:=k1.nil0 rfl;obtain rfl:=k2.nil0 rfl;obtain rfl:=k3.nil0 rfl;obtain rfl:=k4.nil0 rfl;obtain⟨t1,t2,_⟩:=BL hw.1 ar hw.2 hp hD hV;have:=vP nm i hw.1 c ar p pk t1 t2 hC;rw[←KT] at this;exact this
 |fold n d c v=>
  obtain rfl:=k1.nil0 rfl;obtain rfl:=k2.nil0 rfl;obtain rfl:=k3.nil0 rfl;have e:(EvD.con nm (.fold n d c v)).K.length=(bM d c).length:=di _;have hl:0<(bM d c).length:=by rw[cH];exact hw.2.2.1
  rw[e] at k4;obtain⟨b,q,rfl,hb⟩:=k4.pos hl;exact vO s nm n (bM d c) v ar p (JU ar hw.1 (za d c hw.2.2.2.1) hl hw.2.2.2.2.1 hp hD hV).2.1 hl (by rw[cH];have:=hw.2.2.2.1;omega) hc m1 m2 hb
theorem DV{M:Mem}{pb tb:Nat}{o1 o2:Bool}{ev:List AV}{nm:List UInt8}(h:EvAt M ev (w.con nm)) (hc:rK s (w.con nm)) (hw:w.Ok s) (ar:Bool) (hp:vSm D V p) (hD:D≤1600) (hV:V≤400)
  (m1:M[pb]? =some (.cells o1 2 (pC s.P))) (m2:M[tb]? =some (.cells o2 3 (tC s.T))):
  ACallsTo Tryz.prog (if ar then 20 else 21) [.agg [.slice pb 0 s.P.length none,.slice tb 0 s.T.length none],.agg ev,vA p] M (.tuple [vA (w.mv ar p),.int .i64 0]) M:=by
 have l1:=(List.getElem?_eq_some_iff.1 m1).1;have l2:=(List.getElem?_eq_some_iff.1 m2).1;exact IA ⟨_,_,rfl,rfl,rfl⟩ h.l32 h.cok ar fun Z=>DU (h.more Z) hc hw ar hp hD hV (by rw[List.getElem?_append_left l1];exact m1) (by rw[List.getElem?_append_left l2];exact m2)
end
end Go.Proofs
