/- See P53. -/
import Derived.Test.YtmhkeaphiadacaaGreatDoorP12
set_option linter.all false
set_option maxRecDepth 100000
set_option maxHeartbeats 40000000
namespace Go.Proofs
open Go.Eng
open Tryz
theorem cC{α:Type}{p q:α→Prop}{r:Prop}(hr:r)(h:∃s,p s∧q s):∃s,p s∧q s∧r:=let ⟨s,a,b⟩:=h;⟨s,a,b,hr⟩
theorem xL(n:Int):(aS n.natAbs).length≤(cN n).length:=by
 cases n with
 |ofNat u=>exact Nat.le_refl _
 |negSucc u=>simp[cN]
theorem wJ{n:Int}{k:Nat}(h:(cN n).length≤k):n.natAbs<10 ^ k:=by have h1:=eF n.natAbs;have h2:=xL n;have h3:10 ^ (aS n.natAbs).length≤10 ^ k:=Nat.pow_le_pow_right (by omega) (by omega);omega
noncomputable def dy(f:FuncId) (args:List AV):Option AV:=
 match f,args with
 |216,[.str s,.int .i64 m]=>match pq s with
  |some n=>if m≤18∧s.length≤1000000000 then some (if (s.length:Int)≤m then .tuple [.int .i64 n,.bool true] else .tuple [.int .i64 0,.bool false]) else none
  |none=>none
 |127,[.int .i64 n]=>if jC n then some (.str (cN n)) else none
 |201,[.str s]=>match pq s with
  |some n=>if s.length≤1000000000 then some (.str (cN (-n))) else none
  |none=>none
 |179,[.str s,.str t]=>match pq s,pq t with
  |some m,some n=>some (.int .i64 (Lc m n))
  |_,_=>none
 |f,args=>cF f args
theorem xn:qS prog (ar dy):=bZ fun f args v h mem=>by
 unfold dy at h;split at h
 ·split at h
  ·rename_i n hn
   split at h
   ·rename_i hc
    cases h;rw[eR hn] at hc ⊢;exact Lz n _ hc.1 hc.2 mem
   ·cases h
  ·cases h
 ·split at h
  ·rename_i hc;cases h;exact Sz _ hc mem
  ·cases h
 ·split at h
  ·rename_i n hn
   split at h
   ·rename_i hc
    cases h;rw[eR hn] at hc ⊢;exact Qw n hc mem
   ·cases h
  ·cases h
 ·split at h
  ·rename_i m n hm hn
   cases h;rw[eR hm,eR hn];exact BF m n mem
  ·cases h
 ·have:=qt.fn _ _ mem ⟨v,none,[]⟩ (by unfold ar;simp only;rw[h])
  simpa [HS.mem] using this
end Go.Proofs
namespace Go.Eng
open Classical in
theorem rr{β:Type}[Inhabited β]{p:Env→Bool→Prop}{q:Env→Bool→β→Prop}(h:∀e d,p e d→∃x,q e d x):∃F:Env→Bool→β,∀e d,p e d→q e d (F e d):=
 ⟨fun e d=>if hp:p e d then Classical.choose (h e d hp) else default,fun e d hp=>by simp only[dif_pos hp];exact Classical.choose_spec (h e d hp)⟩
theorem jS{α:Type}{f:XS→Option (Exit×XS)}{lv wr:List Nat}{y':Env}{m1:Nat}(S:α→XS) (m:α→Nat) (Inv:α→Prop) (e0:Exit) (d' :Bool) (Q:Env→Mem→Prop) (he:e0≠ .normal)
  (h:∀a,Inv a→(∃a' s',f (S a)=some (.normal,s')∧qV lv wr y' m1 s' =S a' ∧Inv a' ∧m a' <m a)∨(∃z' mem',f (S a)=some (e0,⟨z',mem',d'⟩)∧Q z' mem')):
  ∀k a,Inv a→m a<k→∃z' mem',gl lv wr y' m1 f k (S a)=some (e0,⟨z',mem',d'⟩)∧Q z' mem'
 |0,a,_,hk=>by omega
 |k+1,a,ha,hk=>by
  unfold gl;rcases h a ha with⟨a',s',h1,h2,h3,h4⟩ | ⟨z',mem',h1,h3⟩
  ·rw[h1]
   simp only[h2];exact jS S m Inv e0 d' Q he h k a' h3 (by omega)
  ·rw[h1]
   refine⟨z',mem',?_,h3⟩;cases e0<;>first | rfl | exact absurd rfl he
theorem kF{β:Type}[Inhabited β]{T:TypeId→Option TyI}{lv:Code→List Nat}{O:aac}{K N m0:Nat}{tp:Bool}{b:Code}{L:List Nat}(XZ:lv b=L){mem:Mem}{e:Exit}(pre:Env→Prop)(post:Env→Env→Mem→β→Prop)(h:∀y' d,pre y'→∃z' mem',gl L (ab b) y' mem.length (aQ T lv O K N m0 tp b) K ⟨az L (ab b) y' y',mem,d⟩=some (e,⟨z',mem',d⟩)∧∃x,post y' z' mem' x):
  ∃F:Env→Bool→Env×Mem×β,∀y' d,pre y'→aQ T lv O K N m0 tp (.loop b) ⟨y',mem,d⟩=some (e,⟨(F y' d).1,(F y' d).2.1,d⟩)∧post y' (F y' d).1 (F y' d).2.1 (F y' d).2.2:=by
 refine rr (β:=Env×Mem×β) (p:=fun y' _=>pre y') (q:=fun y' d x=>aQ T lv O K N m0 tp (.loop b) ⟨y',mem,d⟩=some (e,⟨x.1,x.2.1,d⟩)∧post y' x.1 x.2.1 x.2.2) ?_;intro y' d hp;obtain⟨z',mem',h1,x,h2⟩:=h y' d hp;exact⟨(z',mem',x),by rw[aR,XZ];exact h1,h2⟩
end Go.Eng
namespace Go.Proofs
open Go.Eng
open Tryz
def vY(c:Code):List Nat:=if (ab c).contains 9 then [9,10] else [5,7]
theorem Cc{O:aac}{K:Nat}(n m:Int)(hK:m.natAbs<K){b0 b:Code}(hb:aj f190=[b0,b]):
  ∃F:Env→Bool→Env,∀y' d,(aa y' 5=.int .i64 n∧aa y' 7=.int .i64 m)→
   aQ (aC prog) vY O K 56 0 true (.loop b0) ⟨y',[],d⟩=some (.exit 0,⟨F y' d,[],d⟩)∧(∃g:Int,aa (F y' d) 5=.int .i64 g∧g.natAbs=n.natAbs.gcd m.natAbs):=by
 have XZ:vY b0=[5,7]:=by simp[aj,aD,f190] at hb;obtain⟨rfl,rfl⟩:=hb;decide
 refine bf XZ (fun y'=>aa y' 5=.int .i64 n∧aa y' 7=.int .i64 m) (fun _ z' =>∃g:Int,aa z' 5=.int .i64 g∧g.natAbs=n.natAbs.gcd m.natAbs) ?_;rintro y' d ⟨h5,h7⟩;have hn:az [5,7] (ab b0) y' ((5,.int .i64 n)::(7,.int .i64 m)::y')=az [5,7] (ab b0) y' y':=by simp[az,h5,h7]
 rw[←hn];refine bA (α:=Int×Int) (fun s=>⟨az [5,7] (ab b0) y' ((5,.int .i64 s.1)::(7,.int .i64 s.2)::y'),[],d⟩) (fun s=>s.2.natAbs) (fun s=>s.1.natAbs.gcd s.2.natAbs=n.natAbs.gcd m.natAbs) (.exit 0) _ d _ (by simp) ?_ K (n,m) rfl hK;rintro ⟨x,y⟩ hg;simp only at hg ⊢;simp[aj,aD,f190] at hb;obtain⟨rfl,rfl⟩:=hb;by_cases hy:y=0
 ·right
  subst hy;simp only[Int.natAbs_zero,Nat.gcd_zero_right] at hg;simp[hg]
 ·left
  have AC:(x.tmod y).natAbs<y.natAbs:=by rw[Int.natAbs_tmod];exact Nat.mod_lt _ (by omega)
  refine⟨(y,x.tmod y),?_⟩;refine cC (show y.natAbs.gcd (x.tmod y).natAbs=n.natAbs.gcd m.natAbs∧_ from⟨by rw[Int.natAbs_tmod,←hg,Nat.gcd_comm x.natAbs,Nat.gcd_rec y.natAbs x.natAbs,Nat.gcd_comm],AC⟩) ?_;simp[hy]
theorem Ot(a b:Int)(ha:(cN a).length≤18)(hb:(cN b).length≤18)(mem:Mem):
  mB prog 190 [.str (cN a),.str (cN b)] mem (.str (aS (a.natAbs.gcd b.natAbs))) mem:=by
 have hG:aO prog 190=some f190:=by kernel_rfl
 refine aB xn (lv:=vY) (K:=2*b.natAbs+2) rfl rfl ?_ mem;obtain⟨b0,b1,hb1⟩:∃b0 b1,aj f190=[b0,b1]:=⟨_,_,rfl⟩
 have la1:(cN a).length≤1000000000:=by omega
 have lb1:(cN b).length≤1000000000:=by omega
 have q1:((cN a).length:Int)≤18:=by omega
 have q2:((cN b).length:Int)≤18:=by omega
 have s1:=wJ ha;have s2:=wJ hb;obtain⟨F,hF⟩:=Cc (O:=ar dy) (K:=2*b.natAbs+2) a b (by omega) hb1;obtain⟨G,hG2⟩:=rr (β:=Int) (p:=fun y' _=>aa y' 5=.int .i64 a∧aa y' 7=.int .i64 b) (q:=fun y' d g=>aa (F y' d) 5=.int .i64 g∧g.natAbs=a.natAbs.gcd b.natAbs) (fun y' d h=>(hF y' d h).2);have hgl:a.natAbs.gcd b.natAbs<10 ^ 18:=by
  by_cases h0:a.natAbs=0
  ·rw[h0,Nat.gcd_zero_left];exact s2
  ·exact Nat.lt_of_le_of_lt (Nat.gcd_le_left _ (by omega)) s1
 obtain⟨g,hg⟩:∃g,g=a.natAbs.gcd b.natAbs:=⟨_,rfl⟩
 rw[←hg] at hgl hG2 ⊢;have w1:∀z:Int,z.natAbs=g→IntKind.i64.wrap (-z)= -z:=fun z hz=>ai (by omega) (by omega)
 have w2:∀z:Int,z.natAbs=g→(if z< -z then -z else z)=(g:Int):=fun z hz=>by split<;>omega
 have hf:jC (g:Int)=true:=by unfold jC;simp;omega
 have hgs:cN (g:Int)=aS g:=rfl;simp[aj,aD,f190] at hb1;obtain⟨rfl,rfl⟩:=hb1;simp[ad,hG,f190,ar,dy,di,la1,lb1,q1,q2,hF,hG2,w1,w2,hf,hgs]
noncomputable def ee(f:FuncId) (args:List AV):Option AV:=
 match f,args with
 |190,[.str s,.str t]=>match pq s,pq t with
  |some m,some n=>if s.length≤18∧t.length≤18 then some (.str (aS (m.natAbs.gcd n.natAbs))) else none
  |_,_=>none
 |189,[.str s]=>if s.length≤1000000000 then some (.int .i64 (if okT (Lib.hasPrefix s [45]) (Lib.trimPrefix s [45]) then 0 else 2)) else none
 |f,args=>dy f args
theorem I4:qS prog (ar ee):=bZ fun f args v h mem=>by
 unfold ee at h;split at h
 ·split at h
  ·rename_i m n hm hn
   split at h
   ·rename_i hc
    cases h;rw[eR hm,eR hn] at hc ⊢;exact Ot m n hc.1 hc.2 mem
   ·cases h
  ·cases h
 ·split at h
  ·rename_i hl
   cases h;exact F0 _ hl mem
  ·cases h
 ·have:=xn.fn _ _ mem ⟨v,none,[]⟩ (by unfold ar;simp only;rw[h])
  simpa [HS.mem] using this
noncomputable def bq(f:FuncId) (args:List AV):Option AV:=
 match f,args with
 |177,[.str s]=>match ef s with
  |some q=>if s.length≤1000000000 then some (if (aS q.num.natAbs).length≤9∧(q.den=1∨(aS q.den).length≤9) then .tuple [.int .i64 q.num,.int .i64 q.den,.bool true] else .tuple [.int .i64 0,.int .i64 0,.bool false]) else none
  |none=>none
 |183,[.int .i64 n,.int .i64 d]=>if d.toNat≠0∧n.natAbs≤4611686018427387904∧0≤d∧d.toNat≤4611686018427387904 then some (.str (aN (mkRat n d.toNat))) else none
 |178,[.str s]=>match ef s with
  |some q=>if s.length≤1000000000 then some (.tuple [.str (cN q.num),.str (aS q.den)]) else none
  |none=>none
 |202,[.str s,.str t]=>match pq s,Bn t with
  |some n,some d=>if s.length≤1000000000∧t.length≤1000000000 then some (.str (if d=1 then cN n else cN n++47::aS d)) else none
  |_,_=>none
 |182,[.str s]=>match ef s with
  |some q=>if s.length≤1000000000 then some (.str (aN (-q))) else none
  |none=>none
 |104,[.str s]=>match ef s with
  |some q=>some (.int .i64 (nq q))
  |none=>none
 |f,args=>ee f args
theorem JD:qS prog (ar bq):=bZ fun f args v h mem=>by
 unfold bq at h;split at h
 ·split at h
  ·rename_i q hq
   split at h
   ·rename_i hl
    cases h;rw[aA hq] at hl ⊢;exact Gv q hl mem
   ·cases h
  ·cases h
 ·split at h
  ·rename_i hc
   obtain⟨hd,c1,c2,c3⟩:=hc;cases h;have:=Gy _ _ c1 hd c3 mem;rw[Int.toNat_of_nonneg c2] at this;rw[Rat.mkRat_def,dif_neg hd];exact this
  ·cases h
 ·split at h
  ·rename_i q hq
   split at h
   ·rename_i hl
    cases h;rw[aA hq] at hl ⊢;exact Ly q hl mem
   ·cases h
  ·cases h
 ·split at h
  ·rename_i m n hm hn
   split at h
   ·rename_i hc
    cases h;rw[eR hm,kG hn] at hc ⊢;exact Ov m n hc.1 hc.2 mem
   ·cases h
  ·cases h
 ·split at h
  ·rename_i q hq
   split at h
   ·rename_i hl
    cases h;rw[aA hq] at hl ⊢;exact Oy q hl mem
   ·cases h
  ·cases h
 ·split at h
  ·rename_i q hq
   cases h;rw[aA hq];exact zV q mem
  ·cases h
 ·have:=I4.fn _ _ mem ⟨v,none,[]⟩ (by unfold ar;simp only;rw[h])
  simpa [HS.mem] using this
theorem nl(u:Nat):pq (aS u)=some (u:Int):=di (u:Int)
def Le(q:Rat):Prop:=(aS q.num.natAbs).length≤9∧(aS q.den).length≤9
variable{q:Rat}
theorem mc(h:Le q):(aN q).length≤1000000000:=by
 have:=fK q.num;have h1:=h.1;have h2:=h.2;unfold aN;split
 ·omega
 ·simp only[List.length_append,List.length_cons];omega
theorem DB(n:Int){d:Nat}(hd:d≠0):aN (mkRat n d)=if d / n.natAbs.gcd d=1 then cN (n / (n.natAbs.gcd d:Nat)) else cN (n / (n.natAbs.gcd d:Nat))++47::aS (d / n.natAbs.gcd d):=by unfold aN;rw[Rat.num_mkRat,Rat.den_mkRat,if_neg hd,if_neg hd,Nat.gcd_comm d]
theorem xK(n:Nat):(aS n==[49])=decide (n=1):=by
 rw[Bool.eq_iff_iff,beq_iff_eq,decide_eq_true_eq];constructor
 ·intro e;exact NX (e.trans (show [49]=aS 1 from rfl))
 ·rintro rfl;rfl
noncomputable def bu(f:FuncId) (args:List AV):Option AV:=bq f args
theorem lV:qS prog (ar bu):=JD
def AT(a b:Rat):Int:=Lc (a.num*b.den) (b.num*a.den)
theorem MU{a b:Rat}:AT a b≤0↔a≤b:=by
 rw[Rat.le_iff];unfold AT Lc;split
 ·constructor<;>intro h<;>omega
 ·split<;>constructor<;>intro h<;>omega
theorem FG(a b:Rat):(aN a==aN b)=decide (a=b):=by rw[Bool.eq_iff_iff,beq_iff_eq,decide_eq_true_eq];exact⟨mf,fun h=>by rw[h]⟩
def qk(q:Rat):Prop:=(aS q.num.natAbs).length≤9∧(q.den=1∨(aS q.den).length≤9)
theorem P9(h:qk q):q.num.natAbs<10 ^ 9∧q.den<10 ^ 9:=by
 have h1:=eF q.num.natAbs;have h2:=eF q.den;have h3:10 ^ (aS q.num.natAbs).length≤10 ^ 9:=Nat.pow_le_pow_right (by omega) h.1;refine⟨by omega,?_⟩;rcases h.2 with h4 | h4
 ·omega
 ·have h5:10 ^ (aS q.den).length≤10 ^ 9:=Nat.pow_le_pow_right (by omega) h4
  omega
theorem Qa(h:Le q):qk q:=⟨h.1,.inr h.2⟩
theorem fb{α:Type}(h:qk q)(x y:α):(if (aS q.num.natAbs).length≤9∧(q.den=1∨(aS q.den).length≤9) then x else y)=x:=if_pos h
theorem sq(a b:Rat)(ha:Le a)(hb:Le b)(mem:Mem):
  mB prog 117 [.str (aN a),.str (aN b)] mem (.int .i64 (AT a b)) mem:=by
 have hG:aO prog 117=some f117:=by kernel_rfl
 refine aB lV (lv:=fun _=>[]) (K:=1) rfl rfl ?_ mem;have la:=mc ha;have lb:=mc hb;by_cases Y9:a=b
 ·subst Y9
  have:AT a a=0:=by unfold AT Lc;simp
  simp[ad,hG,f117,this]
 ·have hbe:=FG a b
  rw[decide_eq_false Y9] at hbe;obtain⟨X,hX⟩:∃X,X=a.num*(b.den:Int):=⟨_,rfl⟩
  obtain⟨Y,hY⟩:∃Y,Y=b.num*(a.den:Int):=⟨_,rfl⟩
  have hc:AT a b=Lc X Y:=by unfold AT;rw[←hX,←hY]
  have qa:=Qa ha;have qb:=Qa hb
  ·skip
   obtain⟨a1,a2⟩:=P9 qa;obtain⟨b1,b2⟩:=P9 qb;have x1:X.natAbs<10 ^ 9*10 ^ 9:=by rw[hX];exact eW a1 (by simpa using b2)
   have y1:Y.natAbs<10 ^ 9*10 ^ 9:=by rw[hY];exact eW b1 (by simpa using a2)
   have w1:IntKind.i64.wrap (a.num*(b.den:Int))=X:=by rw[←hX];exact ai (by omega) (by omega)
   have w2:IntKind.i64.wrap (b.num*(a.den:Int))=Y:=by rw[←hY];exact ai (by omega) (by omega)
   rw[hc];unfold Lc;by_cases hxy:X<Y
   ·simp[ad,hG,f117,hbe,ar,bu,bq,aM,la,lb,fb qa,fb qb,w1,w2,hxy]
   ·by_cases hyx:Y<X
    ·simp[ad,hG,f117,hbe,ar,bu,bq,aM,la,lb,fb qa,fb qb,w1,w2,hxy,hyx]
    ·simp[ad,hG,f117,hbe,ar,bu,bq,aM,la,lb,fb qa,fb qb,w1,w2,hxy,hyx]
theorem xQ(q:Rat):(aN q==[49])=decide (q=1):=by
 have:=FG q 1
 rwa [show aN 1=[49] from rfl] at this
theorem Of(a b:Rat)(ha:Le a)(hb:Le b)(mem:Mem):
  mB prog 176 [.str (aN a),.str (aN b)] mem (.str (aN (a+b))) mem:=by
 have hG:aO prog 176=some f176:=by kernel_rfl
 refine aB lV (lv:=fun _=>[]) (K:=1) rfl rfl ?_ mem;have la:=mc ha;have lb:=mc hb;by_cases ha0:a=0
 ·subst ha0
  have:aN 0=[48]:=rfl;simp[ad,hG,f176,this,Rat.zero_add]
 by_cases WS:b=0
 ·subst WS
  have:aN 0=[48]:=rfl;simp[ad,hG,f176,this,bT,ha0,Rat.add_zero]
 have pa:=a.den_pos;have pb:=b.den_pos;have hdp:a.den*b.den≠0:=Nat.mul_ne_zero a.den_nz b.den_nz;have XN:=Rat.add_def' a b;obtain⟨X,hX⟩:∃X,X=a.num*(b.den:Int):=⟨_,rfl⟩
 obtain⟨Y,hY⟩:∃Y,Y=b.num*(a.den:Int):=⟨_,rfl⟩
 obtain⟨D,hD⟩:∃D,D=a.den*b.den:=⟨_,rfl⟩
 rw[←hX,←hY,←hD] at XN;rw[←hD] at hdp;rw[XN];have qa:=Qa ha;have qb:=Qa hb
 ·skip
  obtain⟨a1,a2⟩:=P9 qa;obtain⟨b1,b2⟩:=P9 qb;have x1:X.natAbs<10 ^ 9*10 ^ 9:=by rw[hX];exact eW a1 (by simpa using b2)
  have y1:Y.natAbs<10 ^ 9*10 ^ 9:=by rw[hY];exact eW b1 (by simpa using a2)
  have d1:D<10 ^ 9*10 ^ 9:=by rw[hD];exact Nat.mul_lt_mul'' a2 b2
  have w1:IntKind.i64.wrap (a.num*(b.den:Int))=X:=by rw[←hX];exact ai (by omega) (by omega)
  have w2:IntKind.i64.wrap (b.num*(a.den:Int))=Y:=by rw[←hY];exact ai (by omega) (by omega)
  have w3:IntKind.i64.wrap (X+Y)=X+Y:=ai (by omega) (by omega);have w4:IntKind.i64.wrap ((a.den:Int)*(b.den:Int))=(D:Int):=by rw[←Int.natCast_mul,←hD];exact ai (by omega) (by omega)
  have c1:(X+Y).natAbs≤4611686018427387904:=by omega
  have c2:D≤4611686018427387904:=by omega
  simp[ad,hG,f176,bT,ha0,WS,ar,bu,bq,aM,la,lb,fb qa,fb qb,w1,w2,w3,w4,hdp,c1,c2]
theorem Ox(a b:Rat)(ha:Le a)(hb:Le b)(mem:Mem):
  mB prog 123 [.str (aN a),.str (aN b)] mem (.str (aN (a*b))) mem:=by
 have hG:aO prog 123=some f123:=by kernel_rfl
 refine aB lV (lv:=fun _=>[]) (K:=1) rfl rfl ?_ mem;have la:=mc ha;have lb:=mc hb;have z0:aN 0=[48]:=rfl;have z1:aN 1=[49]:=rfl;by_cases ha0:a=0
 ·subst ha0
  simp[ad,hG,f123,z0,Rat.zero_mul]
 by_cases WS:b=0
 ·subst WS
  simp[ad,hG,f123,z0,bT,ha0,Rat.mul_zero]
 by_cases ha1:a=1
 ·subst ha1
  simp[ad,hG,f123,z1,bT,WS,Rat.one_mul]
 by_cases hb1:b=1
 ·subst hb1
  simp[ad,hG,f123,z1,bT,xQ,ha0,ha1,Rat.mul_one]
 have pa:=a.den_pos;have pb:=b.den_pos;have hdp:a.den*b.den≠0:=Nat.mul_ne_zero a.den_nz b.den_nz;have XN:=Rat.mul_def' a b;obtain⟨X,hX⟩:∃X,X=a.num*b.num:=⟨_,rfl⟩
 obtain⟨D,hD⟩:∃D,D=a.den*b.den:=⟨_,rfl⟩
 rw[←hX,←hD] at XN;rw[←hD] at hdp;rw[XN];have qa:=Qa ha;have qb:=Qa hb
 ·skip
  obtain⟨a1,a2⟩:=P9 qa;obtain⟨b1,b2⟩:=P9 qb;have x1:X.natAbs<10 ^ 9*10 ^ 9:=by rw[hX];exact eW a1 b1
  have d1:D<10 ^ 9*10 ^ 9:=by rw[hD];exact Nat.mul_lt_mul'' a2 b2
  have w1:IntKind.i64.wrap (a.num*b.num)=X:=by rw[←hX];exact ai (by omega) (by omega)
  have w4:IntKind.i64.wrap ((a.den:Int)*(b.den:Int))=(D:Int):=by rw[←Int.natCast_mul,←hD];exact ai (by omega) (by omega)
  have c1:X.natAbs≤4611686018427387904:=by omega
  have c2:D≤4611686018427387904:=by omega
  simp[ad,hG,f123,bT,xQ,ha0,WS,ha1,hb1,ar,bu,bq,aM,la,lb,fb qa,fb qb,w1,w4,hdp,c1,c2]
end Go.Proofs
