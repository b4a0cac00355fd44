/- See Q54. -/
import Derived.Test.YtgafjliihahjgaaGreatDoorQ12
set_option linter.all false
namespace Go.Proofs
open Go.Eng
theorem ee{α:Type}{p q:α→Prop}{r:Prop}(hr:r) (h:∃s,p s∧q s):∃s,p s∧q s∧r:=let ⟨s,a,b⟩:=h;⟨s,a,b,hr⟩
theorem vm(n:Int):(aJ n.natAbs).length≤(bT n).length:=by
 cases n with
 |ofNat u=>exact Nat.le_refl _
 |negSucc u=>simp[bT]
theorem ux{n:Int}{k:Nat}(h:(bT n).length≤k):n.natAbs<10 ^ k:=by have h1:=dJ n.natAbs;have h2:=vm n;have h3:10 ^ (aJ n.natAbs).length≤10 ^ k:=Nat.pow_le_pow_right (by omega) (by omega);omega
noncomputable def cq(f:FuncId) (args:List AV):Option AV:=
 match f,args with
 |146,[.str s,.int .i64 m]=>match nn s with
  |some n=>if m≤18∧s.length≤1000000000 then some (if (s.length:Int)≤m then .tuple [.int .i64 n,.bool true] else .tuple [.int .i64 0,.bool false]) else none
  |none=>none
 |98,[.int .i64 n]=>if de n then some (.str (bT n)) else none
 |170,[.str s]=>match nn s with
  |some n=>if s.length≤1000000000 then some (.str (bT (-n))) else none
  |none=>none
 |95,[.str s,.str t]=>match nn s,nn t with
  |some m,some n=>some (.int .i64 (Ho m n))
  |_,_=>none
 |f,args=>bP f args
theorem uX:OracleOk Tryz.prog (af cq):=bq fun f args v h mem=>by
 unfold cq at h;split at h
 ·split at h
  ·rename_i n hn
   split at h
   ·rename_i hc
    cases h;rw[dI hn] at hc ⊢;exact IU n _ hc.1 hc.2 mem
   ·cases h
  ·cases h
 ·split at h
  ·rename_i hc;cases h;exact Kz _ hc mem
  ·cases h
 ·split at h
  ·rename_i n hn
   split at h
   ·rename_i hc
    cases h;rw[dI hn] at hc ⊢;exact ND n hc mem
   ·cases h
  ·cases h
 ·split at h
  ·rename_i m n hm hn
   cases h;rw[dI hm,dI hn];exact zO m n mem
  ·cases h
 ·have:=n8.fn _ _ mem ⟨v,none,[]⟩ (by unfold af;simp only;rw[h])
  simpa [CallRes.mem] using this
end Go.Proofs
namespace Go.Eng
open Classical in
theorem kX{β:Type}[Inhabited β] {p:Env→Bool→Prop}{q:Env→Bool→β→Prop}(h:∀e d,p e d→∃x,q e d x):∃F:Env→Bool→β,∀e d,p e d→q e d (F e d):=
 ⟨fun e d=>if hp:p e d then Classical.choose (h e d hp) else default,fun e d hp=>by simp only[dif_pos hp];exact Classical.choose_spec (h e d hp)⟩
theorem pq{α:Type}{f:XS→Option (Exit×XS)}{lv wr:List Nat}{env0:Env}{m1:Nat}(S:α→XS) (m:α→Nat) (Inv:α→Prop) (e0:Exit) (d' :Bool) (Q:Env→Mem→Prop) (he:e0≠ .normal)
  (h:∀a,Inv a→(∃a' s',f (S a)=some (.normal,s')∧pO lv wr env0 m1 s' =S a' ∧Inv a' ∧m a' <m a)∨(∃env' mem',f (S a)=some (e0,⟨env',mem',d'⟩)∧Q env' mem')):
  ∀k a,Inv a→m a<k→∃env' mem',dV lv wr env0 m1 f k (S a)=some (e0,⟨env',mem',d'⟩)∧Q env' mem'
 |0,a,_,hk=>by omega
 |k+1,a,ha,hk=>by
  unfold dV;rcases h a ha with⟨a',s',h1,h2,h3,h4⟩ | ⟨env',mem',h1,h3⟩
  ·rw[h1]
   simp only[h2];exact pq S m Inv e0 d' Q he h k a' h3 (by omega)
  ·rw[h1]
   refine⟨env',mem',?_,h3⟩;cases e0<;>first | rfl | exact absurd rfl he
theorem rn{β:Type}[Inhabited β] {T:TypeId→Option TyI}{lv:Code→List Nat}{O:Oracle}{K N m0:Nat}{tp:Bool}{b:Code}{L:List Nat}(hlv:lv b=L) {mem:Mem}{e:Exit}(pre:Env→Prop) (post:Env→Env→Mem→β→Prop)
  (h:∀env0 d,pre env0→∃env' mem',dV L (ad b) env0 mem.length (aT T lv O K N m0 tp b) K ⟨aI L (ad b) env0 env0,mem,d⟩=some (e,⟨env',mem',d⟩)∧∃x,post env0 env' mem' x):
  ∃F:Env→Bool→Env×Mem×β,∀env0 d,pre env0→aT T lv O K N m0 tp (.loop b) ⟨env0,mem,d⟩=some (e,⟨(F env0 d).1,(F env0 d).2.1,d⟩)∧post env0 (F env0 d).1 (F env0 d).2.1 (F env0 d).2.2:=by
 refine kX (β:=Env×Mem×β) (p:=fun env0 _=>pre env0) (q:=fun env0 d x=>aT T lv O K N m0 tp (.loop b) ⟨env0,mem,d⟩=some (e,⟨x.1,x.2.1,d⟩)∧post env0 x.1 x.2.1 x.2.2) ?_;intro env0 d hp;obtain⟨env',mem',h1,x,h2⟩:=h env0 d hp;exact⟨(env',mem',x),by rw[aB,hlv];exact h1,h2⟩
end Go.Eng
namespace Go.Proofs
open Go.Eng
def tU(c:Code):List Nat:=if (ad c).contains 9 then [9,10] else [5,7]
theorem Af{O:Oracle}{K:Nat}(n m:Int) (hK:m.natAbs<K) {b0 b:Code}(hb:ax Tryz.f96=[b0,b]):
  ∃F:Env→Bool→Env,∀env0 d,(ab env0 5=.int .i64 n∧ab env0 7=.int .i64 m)→
   aT (aM Tryz.prog) tU O K 56 0 true (.loop b0) ⟨env0,[],d⟩=some (.exit 0,⟨F env0 d,[],d⟩)∧(∃g:Int,ab (F env0 d) 5=.int .i64 g∧g.natAbs=n.natAbs.gcd m.natAbs):=by
 have hlv:tU b0=[5,7]:=by simp[ax,aV,Tryz.f96] at hb;obtain⟨rfl,rfl⟩:=hb;decide
 refine cg hlv (fun env0=>ab env0 5=.int .i64 n∧ab env0 7=.int .i64 m) (fun _ env' =>∃g:Int,ab env' 5=.int .i64 g∧g.natAbs=n.natAbs.gcd m.natAbs) ?_;rintro env0 d ⟨h5,h7⟩;have hn:aI [5,7] (ad b0) env0 ((5,.int .i64 n)::(7,.int .i64 m)::env0)=aI [5,7] (ad b0) env0 env0:=by simp[aI,h5,h7]
 rw[←hn];refine cG (α:=Int×Int) (fun s=>⟨aI [5,7] (ad b0) env0 ((5,.int .i64 s.1)::(7,.int .i64 s.2)::env0),[],d⟩) (fun s=>s.2.natAbs) (fun s=>s.1.natAbs.gcd s.2.natAbs=n.natAbs.gcd m.natAbs) (.exit 0) _ d _ (by simp) ?_ K (n,m) rfl hK;rintro ⟨x,y⟩ hg;simp only at hg ⊢;simp[ax,aV,Tryz.f96] at hb;obtain⟨rfl,rfl⟩:=hb;by_cases hy:y=0
 ·right
  subst hy;simp only[Int.natAbs_zero,Nat.gcd_zero_right] at hg;simp[hg]
 ·left
  have hlt:(x.tmod y).natAbs<y.natAbs:=by rw[Int.natAbs_tmod];exact Nat.mod_lt _ (by omega)
  refine⟨(y,x.tmod y),?_⟩;refine ee (show y.natAbs.gcd (x.tmod y).natAbs=n.natAbs.gcd m.natAbs∧_ from⟨by rw[Int.natAbs_tmod,←hg,Nat.gcd_comm x.natAbs,Nat.gcd_rec y.natAbs x.natAbs,Nat.gcd_comm],hlt⟩) ?_;simp[hy]
set_option maxHeartbeats 1600000 in
theorem Lw(a b:Int) (ha:(bT a).length≤18) (hb:(bT b).length≤18) (mem:Mem):
  ACallsTo Tryz.prog 96 [.str (bT a),.str (bT b)] mem (.str (aJ (a.natAbs.gcd b.natAbs))) mem:=by
 have hG:aL Tryz.prog 96=some Tryz.f96:=by kernel_rfl
 refine aq uX (lv:=tU) (K:=2*b.natAbs+2) rfl rfl ?_ mem;obtain⟨b0,b1,hb1⟩:∃b0 b1,ax Tryz.f96=[b0,b1]:=⟨_,_,rfl⟩
 have la1:(bT a).length≤1000000000:=by omega
 have lb1:(bT b).length≤1000000000:=by omega
 have q1:((bT a).length:Int)≤18:=by omega
 have q2:((bT b).length:Int)≤18:=by omega
 have s1:=ux ha;have s2:=ux hb;obtain⟨F,hF⟩:=Af (O:=af cq) (K:=2*b.natAbs+2) a b (by omega) hb1;obtain⟨G,hG2⟩:=kX (β:=Int) (p:=fun env0 _=>ab env0 5=.int .i64 a∧ab env0 7=.int .i64 b) (q:=fun env0 d g=>ab (F env0 d) 5=.int .i64 g∧g.natAbs=a.natAbs.gcd b.natAbs) (fun env0 d h=>(hF env0 d h).2);have hgl:a.natAbs.gcd b.natAbs<10 ^ 18:=by
  by_cases h0:a.natAbs=0
  ·rw[h0,Nat.gcd_zero_left];exact s2
  ·exact Nat.lt_of_le_of_lt (Nat.gcd_le_left _ (by omega)) s1
 obtain⟨g,hg⟩:∃g,g=a.natAbs.gcd b.natAbs:=⟨_,rfl⟩
 rw[←hg] at hgl hG2 ⊢;have w1:∀z:Int,z.natAbs=g→IntKind.i64.wrap (-z)= -z:=fun z hz=>aj (by omega) (by omega)
 have w2:∀z:Int,z.natAbs=g→(if z< -z then -z else z)=(g:Int):=fun z hz=>by split<;>omega
 have hf:de (g:Int)=true:=by unfold de;simp;omega
 have hgs:bT (g:Int)=aJ g:=rfl;simp[ax,aV,Tryz.f96] at hb1;obtain⟨rfl,rfl⟩:=hb1;simp[aa,hG,Tryz.f96,af,cq,cz,la1,lb1,q1,q2,hF,hG2,w1,w2,hf,hgs]
noncomputable def cI(f:FuncId) (args:List AV):Option AV:=
 match f,args with
 |96,[.str s,.str t]=>match nn s,nn t with
  |some m,some n=>if s.length≤18∧t.length≤18 then some (.str (aJ (m.natAbs.gcd n.natAbs))) else none
  |_,_=>none
 |94,[.str s]=>if s.length≤1000000000 then some (.int .i64 (if okT (Lib.hasPrefix s [45]) (Lib.trimPrefix s [45]) then 0 else 2)) else none
 |f,args=>cq f args
theorem Gj:OracleOk Tryz.prog (af cI):=bq fun f args v h mem=>by
 unfold cI at h;split at h
 ·split at h
  ·rename_i m n hm hn
   split at h
   ·rename_i hc
    cases h;rw[dI hm,dI hn] at hc ⊢;exact Lw m n hc.1 hc.2 mem
   ·cases h
  ·cases h
 ·split at h
  ·rename_i hl
   cases h;exact DK _ hl mem
  ·cases h
 ·have:=uX.fn _ _ mem ⟨v,none,[]⟩ (by unfold af;simp only;rw[h])
  simpa [CallRes.mem] using this
noncomputable def be(f:FuncId) (args:List AV):Option AV:=
 match f,args with
 |115,[.str s]=>match cV s with
  |some q=>if s.length≤1000000000 then some (if (aJ q.num.natAbs).length≤9∧(q.den=1∨(aJ q.den).length≤9) then .tuple [.int .i64 q.num,.int .i64 q.den,.bool true] else .tuple [.int .i64 0,.int .i64 0,.bool false]) else none
  |none=>none
 |116,[.int .i64 n,.int .i64 d]=>if d.toNat≠0∧n.natAbs≤4611686018427387904∧0≤d∧d.toNat≤4611686018427387904 then some (.str (ah (mkRat n d.toNat))) else none
 |117,[.str s]=>match cV s with
  |some q=>if s.length≤1000000000 then some (.tuple [.str (bT q.num),.str (aJ q.den)]) else none
  |none=>none
 |172,[.str s,.str t]=>match nn s,xk t with
  |some n,some d=>if s.length≤1000000000∧t.length≤1000000000 then some (.str (if d=1 then bT n else bT n++47::aJ d)) else none
  |_,_=>none
 |137,[.str s]=>match cV s with
  |some q=>if s.length≤1000000000 then some (.str (ah (-q))) else none
  |none=>none
 |89,[.str s]=>match cV s with
  |some q=>some (.int .i64 (Ko q))
  |none=>none
 |f,args=>cI f args
theorem kA:OracleOk Tryz.prog (af be):=bq fun f args v h mem=>by
 unfold be at h;split at h
 ·split at h
  ·rename_i q hq
   split at h
   ·rename_i hl
    cases h;rw[au hq] at hl ⊢;exact Ek q hl mem
   ·cases h
  ·cases h
 ·split at h
  ·rename_i hc
   obtain⟨hd,c1,c2,c3⟩:=hc;cases h;have:=Er _ _ c1 hd c3 mem;rw[Int.toNat_of_nonneg c2] at this;rw[Rat.mkRat_def,dif_neg hd];exact this
  ·cases h
 ·split at h
  ·rename_i q hq
   split at h
   ·rename_i hl
    cases h;rw[au hq] at hl ⊢;exact IT q hl mem
   ·cases h
  ·cases h
 ·split at h
  ·rename_i m n hm hn
   split at h
   ·rename_i hc
    cases h;rw[dI hm,iH hn] at hc ⊢;exact Lz m n hc.1 hc.2 mem
   ·cases h
  ·cases h
 ·split at h
  ·rename_i q hq
   split at h
   ·rename_i hl
    cases h;rw[au hq] at hl ⊢;exact LC q hl mem
   ·cases h
  ·cases h
 ·split at h
  ·rename_i q hq
   cases h;rw[au hq];exact xN q mem
  ·cases h
 ·have:=Gj.fn _ _ mem ⟨v,none,[]⟩ (by unfold af;simp only;rw[h])
  simpa [CallRes.mem] using this
theorem gE(u:Nat):nn (aJ u)=some (u:Int):=cz (u:Int)
def fine(q:Rat):Prop:=(aJ q.num.natAbs).length≤9∧(aJ q.den).length≤9
theorem iy{q:Rat}(h:fine q):(ah q).length≤1000000000:=by
 have:=ef q.num;have h1:=h.1;have h2:=h.2;unfold ah;split
 ·omega
 ·simp only[List.length_append,List.length_cons];omega
theorem uF(n:Int) {d:Nat}(hd:d≠0):ah (mkRat n d)=if d / n.natAbs.gcd d=1 then bT (n / (n.natAbs.gcd d:Nat)) else bT (n / (n.natAbs.gcd d:Nat))++47::aJ (d / n.natAbs.gcd d):=by unfold ah;rw[Rat.num_mkRat,Rat.den_mkRat,if_neg hd,if_neg hd,Nat.gcd_comm d]
theorem oD(n:Nat):(aJ n==[49])=decide (n=1):=by
 rw[Bool.eq_iff_iff,beq_iff_eq,decide_eq_true_eq];constructor
 ·intro e;exact KW (e.trans (show [49]=aJ 1 from rfl))
 ·rintro rfl;rfl
noncomputable def bQ(f:FuncId) (args:List AV):Option AV:=be f args
theorem kB:OracleOk Tryz.prog (af bQ):=kA
def qY(a b:Rat):Int:=Ho (a.num*b.den) (b.num*a.den)
theorem R5{a b:Rat}:qY a b<0↔a<b:=by
 rw[Rat.lt_iff];unfold qY Ho;split
 ·simp[*]
 ·split<;>simp[*]
theorem qZ{a b:Rat}:qY a b≤0↔a≤b:=by
 rw[Rat.le_iff];unfold qY Ho;split
 ·constructor<;>intro h<;>omega
 ·split<;>constructor<;>intro h<;>omega
theorem Dl(a b:Rat):(ah a==ah b)=decide (a=b):=by rw[Bool.eq_iff_iff,beq_iff_eq,decide_eq_true_eq];exact⟨xm,fun h=>by rw[h]⟩
def qk(q:Rat):Prop:=(aJ q.num.natAbs).length≤9∧(q.den=1∨(aJ q.den).length≤9)
theorem Nf{q:Rat}(h:qk q):q.num.natAbs<10 ^ 9∧q.den<10 ^ 9:=by
 have h1:=dJ q.num.natAbs;have h2:=dJ q.den;have h3:10 ^ (aJ q.num.natAbs).length≤10 ^ 9:=Nat.pow_le_pow_right (by omega) h.1;refine⟨by omega,?_⟩;rcases h.2 with h4 | h4
 ·omega
 ·have h5:10 ^ (aJ q.den).length≤10 ^ 9:=Nat.pow_le_pow_right (by omega) h4
  omega
theorem Ng{q:Rat}(h:fine q):qk q:=⟨h.1,.inr h.2⟩
theorem eg{α:Type}{q:Rat}(h:qk q) (x y:α):(if (aJ q.num.natAbs).length≤9∧(q.den=1∨(aJ q.den).length≤9) then x else y)=x:=if_pos h
set_option maxHeartbeats 1600000 in
theorem pP(a b:Rat) (ha:fine a) (hb:fine b) (mem:Mem):
  ACallsTo Tryz.prog 85 [.str (ah a),.str (ah b)] mem (.int .i64 (qY a b)) mem:=by
 have hG:aL Tryz.prog 85=some Tryz.f85:=by kernel_rfl
 refine aq kB (lv:=fun _=>[]) (K:=1) rfl rfl ?_ mem;have la:=iy ha;have lb:=iy hb;by_cases hab:a=b
 ·subst hab
  have:qY a a=0:=by unfold qY Ho;simp
  simp[aa,hG,Tryz.f85,this]
 ·have hbe:=Dl a b
  rw[decide_eq_false hab] at hbe;obtain⟨X,hX⟩:∃X,X=a.num*(b.den:Int):=⟨_,rfl⟩
  obtain⟨Y,hY⟩:∃Y,Y=b.num*(a.den:Int):=⟨_,rfl⟩
  have hc:qY a b=Ho X Y:=by unfold qY;rw[←hX,←hY]
  have qa:=Ng ha;have qb:=Ng hb
  ·skip
   obtain⟨a1,a2⟩:=Nf qa;obtain⟨b1,b2⟩:=Nf qb;have x1:X.natAbs<10 ^ 9*10 ^ 9:=by rw[hX];exact dX a1 (by simpa using b2)
   have y1:Y.natAbs<10 ^ 9*10 ^ 9:=by rw[hY];exact dX b1 (by simpa using a2)
   have w1:IntKind.i64.wrap (a.num*(b.den:Int))=X:=by rw[←hX];exact aj (by omega) (by omega)
   have w2:IntKind.i64.wrap (b.num*(a.den:Int))=Y:=by rw[←hY];exact aj (by omega) (by omega)
   rw[hc];unfold Ho;by_cases hxy:X<Y
   ·simp[aa,hG,Tryz.f85,hbe,af,bQ,be,ay,la,lb,eg qa,eg qb,w1,w2,hxy]
   ·by_cases hyx:Y<X
    ·simp[aa,hG,Tryz.f85,hbe,af,bQ,be,ay,la,lb,eg qa,eg qb,w1,w2,hxy,hyx]
    ·simp[aa,hG,Tryz.f85,hbe,af,bQ,be,ay,la,lb,eg qa,eg qb,w1,w2,hxy,hyx]
theorem vq(q:Rat):(ah q==[49])=decide (q=1):=by
 have:=Dl q 1
 rwa [show ah 1=[49] from rfl] at this
set_option maxHeartbeats 1600000 in
theorem Li(a b:Rat) (ha:fine a) (hb:fine b) (mem:Mem):
  ACallsTo Tryz.prog 111 [.str (ah a),.str (ah b)] mem (.str (ah (a+b))) mem:=by
 have hG:aL Tryz.prog 111=some Tryz.f111:=by kernel_rfl
 refine aq kB (lv:=fun _=>[]) (K:=1) rfl rfl ?_ mem;have la:=iy ha;have lb:=iy hb;by_cases ha0:a=0
 ·subst ha0
  have:ah 0=[48]:=rfl;simp[aa,hG,Tryz.f111,this,Rat.zero_add]
 by_cases hb0:b=0
 ·subst hb0
  have:ah 0=[48]:=rfl;simp[aa,hG,Tryz.f111,this,bL,ha0,Rat.add_zero]
 have pa:=a.den_pos;have pb:=b.den_pos;have hdp:a.den*b.den≠0:=Nat.mul_ne_zero a.den_nz b.den_nz;have hsum:=Rat.add_def' a b;obtain⟨X,hX⟩:∃X,X=a.num*(b.den:Int):=⟨_,rfl⟩
 obtain⟨Y,hY⟩:∃Y,Y=b.num*(a.den:Int):=⟨_,rfl⟩
 obtain⟨D,hD⟩:∃D,D=a.den*b.den:=⟨_,rfl⟩
 rw[←hX,←hY,←hD] at hsum;rw[←hD] at hdp;rw[hsum];have qa:=Ng ha;have qb:=Ng hb
 ·skip
  obtain⟨a1,a2⟩:=Nf qa;obtain⟨b1,b2⟩:=Nf qb;have x1:X.natAbs<10 ^ 9*10 ^ 9:=by rw[hX];exact dX a1 (by simpa using b2)
  have y1:Y.natAbs<10 ^ 9*10 ^ 9:=by rw[hY];exact dX b1 (by simpa using a2)
  have d1:D<10 ^ 9*10 ^ 9:=by rw[hD];exact Nat.mul_lt_mul'' a2 b2
  have w1:IntKind.i64.wrap (a.num*(b.den:Int))=X:=by rw[←hX];exact aj (by omega) (by omega)
  have w2:IntKind.i64.wrap (b.num*(a.den:Int))=Y:=by rw[←hY];exact aj (by omega) (by omega)
  have w3:IntKind.i64.wrap (X+Y)=X+Y:=aj (by omega) (by omega);have w4:IntKind.i64.wrap ((a.den:Int)*(b.den:Int))=(D:Int):=by rw[←Int.natCast_mul,←hD];exact aj (by omega) (by omega)
  have c1:(X+Y).natAbs≤4611686018427387904:=by omega
  have c2:D≤4611686018427387904:=by omega
  simp[aa,hG,Tryz.f111,bL,ha0,hb0,af,bQ,be,ay,la,lb,eg qa,eg qb,w1,w2,w3,w4,hdp,c1,c2]
set_option maxHeartbeats 1600000 in
theorem LB(a b:Rat) (ha:fine a) (hb:fine b) (mem:Mem):
  ACallsTo Tryz.prog 74 [.str (ah a),.str (ah b)] mem (.str (ah (a*b))) mem:=by
 have hG:aL Tryz.prog 74=some Tryz.f74:=by kernel_rfl
 refine aq kB (lv:=fun _=>[]) (K:=1) rfl rfl ?_ mem;have la:=iy ha;have lb:=iy hb;have z0:ah 0=[48]:=rfl;have z1:ah 1=[49]:=rfl;by_cases ha0:a=0
 ·subst ha0
  simp[aa,hG,Tryz.f74,z0,Rat.zero_mul]
 by_cases hb0:b=0
 ·subst hb0
  simp[aa,hG,Tryz.f74,z0,bL,ha0,Rat.mul_zero]
 by_cases ha1:a=1
 ·subst ha1
  simp[aa,hG,Tryz.f74,z1,bL,hb0,Rat.one_mul]
 by_cases hb1:b=1
 ·subst hb1
  simp[aa,hG,Tryz.f74,z1,bL,vq,ha0,ha1,Rat.mul_one]
 have pa:=a.den_pos;have pb:=b.den_pos;have hdp:a.den*b.den≠0:=Nat.mul_ne_zero a.den_nz b.den_nz;have hsum:=Rat.mul_def' a b;obtain⟨X,hX⟩:∃X,X=a.num*b.num:=⟨_,rfl⟩
 obtain⟨D,hD⟩:∃D,D=a.den*b.den:=⟨_,rfl⟩
 rw[←hX,←hD] at hsum;rw[←hD] at hdp;rw[hsum];have qa:=Ng ha;have qb:=Ng hb
 ·skip
  obtain⟨a1,a2⟩:=Nf qa;obtain⟨b1,b2⟩:=Nf qb;have x1:X.natAbs<10 ^ 9*10 ^ 9:=by rw[hX];exact dX a1 b1
  have d1:D<10 ^ 9*10 ^ 9:=by rw[hD];exact Nat.mul_lt_mul'' a2 b2
  have w1:IntKind.i64.wrap (a.num*b.num)=X:=by rw[←hX];exact aj (by omega) (by omega)
  have w4:IntKind.i64.wrap ((a.den:Int)*(b.den:Int))=(D:Int):=by rw[←Int.natCast_mul,←hD];exact aj (by omega) (by omega)
  have c1:X.natAbs≤4611686018427387904:=by omega
  have c2:D≤4611686018427387904:=by omega
  simp[aa,hG,Tryz.f74,bL,vq,ha0,hb0,ha1,hb1,af,bQ,be,ay,la,lb,eg qa,eg qb,w1,w4,hdp,c1,c2]
end Go.Proofs
