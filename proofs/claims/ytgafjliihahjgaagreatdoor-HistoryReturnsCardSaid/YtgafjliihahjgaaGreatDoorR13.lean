/- See R54. -/
import Derived.Test.YtgafjliihahjgaaGreatDoorR12
set_option linter.all false
set_option maxRecDepth 100000
set_option maxHeartbeats 40000000
namespace Go.Proofs
open Go.Eng
open Tryz
theorem dZ{α:Type}{p q:α→Prop}{r:Prop}(hr:r)(h:∃s,p s∧q s):∃s,p s∧q s∧r:=let ⟨s,a,b⟩:=h;⟨s,a,b,hr⟩
theorem xA(n:Int):(aQ n.natAbs).length≤(cf n).length:=by
 cases n with
 |ofNat u=>exact Nat.le_refl _
 |negSucc u=>simp[cf]
theorem wG{n:Int}{k:Nat}(h:(cf n).length≤k):n.natAbs<10 ^ k:=by have h1:=eI n.natAbs;have h2:=xA n;have h3:10 ^ (aQ n.natAbs).length≤10 ^ k:=Nat.pow_le_pow_right (by omega) (by omega);omega
noncomputable def cI(f:FuncId) (args:List AV):Option AV:=
 match f,args with
 |146,[.str s,.int .i64 m]=>match oT s with
  |some n=>if m≤18∧s.length≤1000000000 then some (if (s.length:Int)≤m then .tuple [.int .i64 n,.bool true] else .tuple [.int .i64 0,.bool false]) else none
  |none=>none
 |98,[.int .i64 n]=>if dH n then some (.str (cf n)) else none
 |170,[.str s]=>match oT s with
  |some n=>if s.length≤1000000000 then some (.str (cf (-n))) else none
  |none=>none
 |95,[.str s,.str t]=>match oT s,oT t with
  |some m,some n=>some (.int .i64 (JM m n))
  |_,_=>none
 |f,args=>bY f args
theorem xe:kP prog (ag cI):=bK fun f args v h mem=>by
 unfold cI at h;split at h
 ·split at h
  ·rename_i n hn
   split at h
   ·rename_i hc
    cases h;rw[eG hn] at hc ⊢;exact Lh n _ hc.1 hc.2 mem
   ·cases h
  ·cases h
 ·split at h
  ·rename_i hc;cases h;exact M5 _ hc mem
  ·cases h
 ·split at h
  ·rename_i n hn
   split at h
   ·rename_i hc
    cases h;rw[eG hn] at hc ⊢;exact Qn n hc mem
   ·cases h
  ·cases h
 ·split at h
  ·rename_i m n hm hn
   cases h;rw[eG hm,eG hn];exact BJ m n mem
  ·cases h
 ·have:=pP.fn _ _ mem ⟨v,none,[]⟩ (by unfold ag;simp only;rw[h])
  simpa [HS.mem] using this
end Go.Proofs
namespace Go.Eng
open Classical in
theorem jq{β:Type}[Inhabited β]{p:Env→Bool→Prop}{q:Env→Bool→β→Prop}(h:∀e d,p e d→∃x,q e d x):∃F:Env→Bool→β,∀e d,p e d→q e d (F e d):=
 ⟨fun e d=>if hp:p e d then Classical.choose (h e d hp) else default,fun e d hp=>by simp only[dif_pos hp];exact Classical.choose_spec (h e d hp)⟩
theorem iE{α:Type}{f:XS→Option (Exit×XS)}{lv wr:List Nat}{z':Env}{m1:Nat}(S:α→XS) (m:α→Nat) (Inv:α→Prop) (e0:Exit) (d' :Bool) (Q:Env→Mem→Prop) (he:e0≠ .normal)
  (h:∀a,Inv a→(∃a' s',f (S a)=some (.normal,s')∧iV lv wr z' m1 s' =S a' ∧Inv a' ∧m a' <m a)∨(∃AC mem',f (S a)=some (e0,⟨AC,mem',d'⟩)∧Q AC mem')):
  ∀k a,Inv a→m a<k→∃AC mem',ej lv wr z' m1 f k (S a)=some (e0,⟨AC,mem',d'⟩)∧Q AC mem'
 |0,a,_,hk=>by omega
 |k+1,a,ha,hk=>by
  unfold ej;rcases h a ha with⟨a',s',h1,h2,h3,h4⟩ | ⟨AC,mem',h1,h3⟩
  ·rw[h1]
   simp only[h2];exact iE S m Inv e0 d' Q he h k a' h3 (by omega)
  ·rw[h1]
   refine⟨AC,mem',?_,h3⟩;cases e0<;>first | rfl | exact absurd rfl he
theorem iz{β:Type}[Inhabited β]{T:TypeId→Option TyI}{lv:Code→List Nat}{O:adM}{K N m0:Nat}{tp:Bool}{b:Code}{L:List Nat}(YQ:lv b=L){mem:Mem}{e:Exit}(pre:Env→Prop)(post:Env→Env→Mem→β→Prop)(h:∀z' d,pre z'→∃AC mem',ej L (aa b) z' mem.length (aN T lv O K N m0 tp b) K ⟨aD L (aa b) z' z',mem,d⟩=some (e,⟨AC,mem',d⟩)∧∃x,post z' AC mem' x):
  ∃F:Env→Bool→Env×Mem×β,∀z' d,pre z'→aN T lv O K N m0 tp (.loop b) ⟨z',mem,d⟩=some (e,⟨(F z' d).1,(F z' d).2.1,d⟩)∧post z' (F z' d).1 (F z' d).2.1 (F z' d).2.2:=by
 refine jq (β:=Env×Mem×β) (p:=fun z' _=>pre z') (q:=fun z' d x=>aN T lv O K N m0 tp (.loop b) ⟨z',mem,d⟩=some (e,⟨x.1,x.2.1,d⟩)∧post z' x.1 x.2.1 x.2.2) ?_;intro z' d hp;obtain⟨AC,mem',h1,x,h2⟩:=h z' d hp;exact⟨(AC,mem',x),by rw[aI,YQ];exact h1,h2⟩
end Go.Eng
namespace Go.Proofs
open Go.Eng
open Tryz
def vU(c:Code):List Nat:=if (aa c).contains 9 then [9,10] else [5,7]
theorem B8{O:adM}{K:Nat}(n m:Int)(hK:m.natAbs<K){b0 b:Code}(hb:ai f96=[b0,b]):
  ∃F:Env→Bool→Env,∀z' d,(ab z' 5=.int .i64 n∧ab z' 7=.int .i64 m)→
   aN (aM prog) vU O K 56 0 true (.loop b0) ⟨z',[],d⟩=some (.exit 0,⟨F z' d,[],d⟩)∧(∃g:Int,ab (F z' d) 5=.int .i64 g∧g.natAbs=n.natAbs.gcd m.natAbs):=by
 have YQ:vU b0=[5,7]:=by simp[ai,aK,f96] at hb;obtain⟨rfl,rfl⟩:=hb;decide
 refine cv YQ (fun z'=>ab z' 5=.int .i64 n∧ab z' 7=.int .i64 m) (fun _ AC =>∃g:Int,ab AC 5=.int .i64 g∧g.natAbs=n.natAbs.gcd m.natAbs) ?_;rintro z' d ⟨h5,h7⟩;have hn:aD [5,7] (aa b0) z' ((5,.int .i64 n)::(7,.int .i64 m)::z')=aD [5,7] (aa b0) z' z':=by simp[aD,h5,h7]
 rw[←hn];refine cV (α:=Int×Int) (fun s=>⟨aD [5,7] (aa b0) z' ((5,.int .i64 s.1)::(7,.int .i64 s.2)::z'),[],d⟩) (fun s=>s.2.natAbs) (fun s=>s.1.natAbs.gcd s.2.natAbs=n.natAbs.gcd m.natAbs) (.exit 0) _ d _ (by simp) ?_ K (n,m) rfl hK;rintro ⟨x,y⟩ hg;simp only at hg ⊢;simp[ai,aK,f96] at hb;obtain⟨rfl,rfl⟩:=hb;by_cases hy:y=0
 ·right
  subst hy;simp only[Int.natAbs_zero,Nat.gcd_zero_right] at hg;simp[hg]
 ·left
  have A':(x.tmod y).natAbs<y.natAbs:=by rw[Int.natAbs_tmod];exact Nat.mod_lt _ (by omega)
  refine⟨(y,x.tmod y),?_⟩;refine dZ (show y.natAbs.gcd (x.tmod y).natAbs=n.natAbs.gcd m.natAbs∧_ from⟨by rw[Int.natAbs_tmod,←hg,Nat.gcd_comm x.natAbs,Nat.gcd_rec y.natAbs x.natAbs,Nat.gcd_comm],A'⟩) ?_;simp[hy]
theorem Of(a b:Int)(ha:(cf a).length≤18)(hb:(cf b).length≤18)(mem:Mem):
  kF prog 96 [.str (cf a),.str (cf b)] mem (.str (aQ (a.natAbs.gcd b.natAbs))) mem:=by
 have hG:aT prog 96=some f96:=by kernel_rfl
 refine az xe (lv:=vU) (K:=2*b.natAbs+2) rfl rfl ?_ mem;obtain⟨b0,b1,hb1⟩:∃b0 b1,ai f96=[b0,b1]:=⟨_,_,rfl⟩
 have la1:(cf a).length≤1000000000:=by omega
 have lb1:(cf b).length≤1000000000:=by omega
 have q1:((cf a).length:Int)≤18:=by omega
 have q2:((cf b).length:Int)≤18:=by omega
 have s1:=wG ha;have s2:=wG hb;obtain⟨F,hF⟩:=B8 (O:=ag cI) (K:=2*b.natAbs+2) a b (by omega) hb1;obtain⟨G,hG2⟩:=jq (β:=Int) (p:=fun z' _=>ab z' 5=.int .i64 a∧ab z' 7=.int .i64 b) (q:=fun z' d g=>ab (F z' d) 5=.int .i64 g∧g.natAbs=a.natAbs.gcd b.natAbs) (fun z' d h=>(hF z' d h).2);have hgl:a.natAbs.gcd b.natAbs<10 ^ 18:=by
  by_cases h0:a.natAbs=0
  ·rw[h0,Nat.gcd_zero_left];exact s2
  ·exact Nat.lt_of_le_of_lt (Nat.gcd_le_left _ (by omega)) s1
 obtain⟨g,hg⟩:∃g,g=a.natAbs.gcd b.natAbs:=⟨_,rfl⟩
 rw[←hg] at hgl hG2 ⊢;have w1:∀z:Int,z.natAbs=g→IntKind.i64.wrap (-z)= -z:=fun z hz=>al (by omega) (by omega)
 have w2:∀z:Int,z.natAbs=g→(if z< -z then -z else z)=(g:Int):=fun z hz=>by split<;>omega
 have hf:dH (g:Int)=true:=by unfold dH;simp;omega
 have hgs:cf (g:Int)=aQ g:=rfl;simp[ai,aK,f96] at hb1;obtain⟨rfl,rfl⟩:=hb1;simp[ad,hG,f96,ag,cI,cL,la1,lb1,q1,q2,hF,hG2,w1,w2,hf,hgs]
noncomputable def da(f:FuncId) (args:List AV):Option AV:=
 match f,args with
 |96,[.str s,.str t]=>match oT s,oT t with
  |some m,some n=>if s.length≤18∧t.length≤18 then some (.str (aQ (m.natAbs.gcd n.natAbs))) else none
  |_,_=>none
 |94,[.str s]=>if s.length≤1000000000 then some (.int .i64 (if okT (Lib.hasPrefix s [45]) (Lib.trimPrefix s [45]) then 0 else 2)) else none
 |f,args=>cI f args
theorem IC:kP prog (ag da):=bK fun f args v h mem=>by
 unfold da at h;split at h
 ·split at h
  ·rename_i m n hm hn
   split at h
   ·rename_i hc
    cases h;rw[eG hm,eG hn] at hc ⊢;exact Of m n hc.1 hc.2 mem
   ·cases h
  ·cases h
 ·split at h
  ·rename_i hl
   cases h;exact FM _ hl mem
  ·cases h
 ·have:=xe.fn _ _ mem ⟨v,none,[]⟩ (by unfold ag;simp only;rw[h])
  simpa [HS.mem] using this
noncomputable def be(f:FuncId) (args:List AV):Option AV:=
 match f,args with
 |115,[.str s]=>match dJ s with
  |some q=>if s.length≤1000000000 then some (if (aQ q.num.natAbs).length≤9∧(q.den=1∨(aQ q.den).length≤9) then .tuple [.int .i64 q.num,.int .i64 q.den,.bool true] else .tuple [.int .i64 0,.int .i64 0,.bool false]) else none
  |none=>none
 |116,[.int .i64 n,.int .i64 d]=>if d.toNat≠0∧n.natAbs≤4611686018427387904∧0≤d∧d.toNat≤4611686018427387904 then some (.str (aw (mkRat n d.toNat))) else none
 |117,[.str s]=>match dJ s with
  |some q=>if s.length≤1000000000 then some (.tuple [.str (cf q.num),.str (aQ q.den)]) else none
  |none=>none
 |172,[.str s,.str t]=>match oT s,y8 t with
  |some n,some d=>if s.length≤1000000000∧t.length≤1000000000 then some (.str (if d=1 then cf n else cf n++47::aQ d)) else none
  |_,_=>none
 |137,[.str s]=>match dJ s with
  |some q=>if s.length≤1000000000 then some (.str (aw (-q))) else none
  |none=>none
 |89,[.str s]=>match dJ s with
  |some q=>some (.int .i64 (mP q))
  |none=>none
 |f,args=>da f args
theorem mi:kP prog (ag be):=bK fun f args v h mem=>by
 unfold be at h;split at h
 ·split at h
  ·rename_i q hq
   split at h
   ·rename_i hl
    cases h;rw[aA hq] at hl ⊢;exact Gj q hl mem
   ·cases h
  ·cases h
 ·split at h
  ·rename_i hc
   obtain⟨hd,c1,c2,c3⟩:=hc;cases h;have:=Gn _ _ c1 hd c3 mem;rw[Int.toNat_of_nonneg c2] at this;rw[Rat.mkRat_def,dif_neg hd];exact this
  ·cases h
 ·split at h
  ·rename_i q hq
   split at h
   ·rename_i hl
    cases h;rw[aA hq] at hl ⊢;exact Lg q hl mem
   ·cases h
  ·cases h
 ·split at h
  ·rename_i m n hm hn
   split at h
   ·rename_i hc
    cases h;rw[eG hm,jH hn] at hc ⊢;exact Oj m n hc.1 hc.2 mem
   ·cases h
  ·cases h
 ·split at h
  ·rename_i q hq
   split at h
   ·rename_i hl
    cases h;rw[aA hq] at hl ⊢;exact Oq q hl mem
   ·cases h
  ·cases h
 ·split at h
  ·rename_i q hq
   cases h;rw[aA hq];exact zG q mem
  ·cases h
 ·have:=IC.fn _ _ mem ⟨v,none,[]⟩ (by unfold ag;simp only;rw[h])
  simpa [HS.mem] using this
theorem iG(u:Nat):oT (aQ u)=some (u:Int):=cL (u:Int)
def aeF(q:Rat):Prop:=(aQ q.num.natAbs).length≤9∧(aQ q.den).length≤9
variable{q:Rat}
theorem jv(h:aeF q):(aw q).length≤1000000000:=by
 have:=fm q.num;have h1:=h.1;have h2:=h.2;unfold aw;split
 ·omega
 ·simp only[List.length_append,List.length_cons];omega
theorem wO(n:Int){d:Nat}(hd:d≠0):aw (mkRat n d)=if d / n.natAbs.gcd d=1 then cf (n / (n.natAbs.gcd d:Nat)) else cf (n / (n.natAbs.gcd d:Nat))++47::aQ (d / n.natAbs.gcd d):=by unfold aw;rw[Rat.num_mkRat,Rat.den_mkRat,if_neg hd,if_neg hd,Nat.gcd_comm d]
theorem qw(n:Nat):(aQ n==[49])=decide (n=1):=by
 rw[Bool.eq_iff_iff,beq_iff_eq,decide_eq_true_eq];constructor
 ·intro e;exact NB (e.trans (show [49]=aQ 1 from rfl))
 ·rintro rfl;rfl
noncomputable def bM(f:FuncId) (args:List AV):Option AV:=be f args
theorem mj:kP prog (ag bM):=mi
def mo(a b:Rat):Int:=JM (a.num*b.den) (b.num*a.den)
variable{a b:Rat}
theorem E7:mo a b<0↔a<b:=by
 rw[Rat.lt_iff];unfold mo JM;split
 ·simp[*]
 ·split<;>simp[*]
theorem tH:mo a b≤0↔a≤b:=by
 rw[Rat.le_iff];unfold mo JM;split
 ·constructor<;>intro h<;>omega
 ·split<;>constructor<;>intro h<;>omega
theorem Fs(a b:Rat):(aw a==aw b)=decide (a=b):=by rw[Bool.eq_iff_iff,beq_iff_eq,decide_eq_true_eq];exact⟨gO,fun h=>by rw[h]⟩
def qk(q:Rat):Prop:=(aQ q.num.natAbs).length≤9∧(q.den=1∨(aQ q.den).length≤9)
theorem PV(h:qk q):q.num.natAbs<10 ^ 9∧q.den<10 ^ 9:=by
 have h1:=eI q.num.natAbs;have h2:=eI q.den;have h3:10 ^ (aQ q.num.natAbs).length≤10 ^ 9:=Nat.pow_le_pow_right (by omega) h.1;refine⟨by omega,?_⟩;rcases h.2 with h4 | h4
 ·omega
 ·have h5:10 ^ (aQ q.den).length≤10 ^ 9:=Nat.pow_le_pow_right (by omega) h4
  omega
theorem PW(h:aeF q):qk q:=⟨h.1,.inr h.2⟩
theorem ft{α:Type}(h:qk q)(x y:α):(if (aQ q.num.natAbs).length≤9∧(q.den=1∨(aQ q.den).length≤9) then x else y)=x:=if_pos h
theorem rN(a b:Rat)(ha:aeF a)(hb:aeF b)(mem:Mem):
  kF prog 85 [.str (aw a),.str (aw b)] mem (.int .i64 (mo a b)) mem:=by
 have hG:aT prog 85=some f85:=by kernel_rfl
 refine az mj (lv:=fun _=>[]) (K:=1) rfl rfl ?_ mem;have la:=jv ha;have lb:=jv hb;by_cases hab:a=b
 ·subst hab
  have:mo a a=0:=by unfold mo JM;simp
  simp[ad,hG,f85,this]
 ·have hbe:=Fs a b
  rw[decide_eq_false hab] at hbe;obtain⟨X,hX⟩:∃X,X=a.num*(b.den:Int):=⟨_,rfl⟩
  obtain⟨Y,hY⟩:∃Y,Y=b.num*(a.den:Int):=⟨_,rfl⟩
  have hc:mo a b=JM X Y:=by unfold mo;rw[←hX,←hY]
  have qa:=PW ha;have qb:=PW hb
  ·skip
   obtain⟨a1,a2⟩:=PV qa;obtain⟨b1,b2⟩:=PV qb;have x1:X.natAbs<10 ^ 9*10 ^ 9:=by rw[hX];exact fc a1 (by simpa using b2)
   have y1:Y.natAbs<10 ^ 9*10 ^ 9:=by rw[hY];exact fc b1 (by simpa using a2)
   have w1:IntKind.i64.wrap (a.num*(b.den:Int))=X:=by rw[←hX];exact al (by omega) (by omega)
   have w2:IntKind.i64.wrap (b.num*(a.den:Int))=Y:=by rw[←hY];exact al (by omega) (by omega)
   rw[hc];unfold JM;by_cases hxy:X<Y
   ·simp[ad,hG,f85,hbe,ag,bM,be,aB,la,lb,ft qa,ft qb,w1,w2,hxy]
   ·by_cases hyx:Y<X
    ·simp[ad,hG,f85,hbe,ag,bM,be,aB,la,lb,ft qa,ft qb,w1,w2,hxy,hyx]
    ·simp[ad,hG,f85,hbe,ag,bM,be,aB,la,lb,ft qa,ft qb,w1,w2,hxy,hyx]
theorem xE(q:Rat):(aw q==[49])=decide (q=1):=by
 have:=Fs q 1
 rwa [show aw 1=[49] from rfl] at this
theorem NW(a b:Rat)(ha:aeF a)(hb:aeF b)(mem:Mem):
  kF prog 111 [.str (aw a),.str (aw b)] mem (.str (aw (a+b))) mem:=by
 have hG:aT prog 111=some f111:=by kernel_rfl
 refine az mj (lv:=fun _=>[]) (K:=1) rfl rfl ?_ mem;have la:=jv ha;have lb:=jv hb;by_cases ha0:a=0
 ·subst ha0
  have:aw 0=[48]:=rfl;simp[ad,hG,f111,this,Rat.zero_add]
 by_cases XY:b=0
 ·subst XY
  have:aw 0=[48]:=rfl;simp[ad,hG,f111,this,bT,ha0,Rat.add_zero]
 have pa:=a.den_pos;have pb:=b.den_pos;have hdp:a.den*b.den≠0:=Nat.mul_ne_zero a.den_nz b.den_nz;have Ye:=Rat.add_def' a b;obtain⟨X,hX⟩:∃X,X=a.num*(b.den:Int):=⟨_,rfl⟩
 obtain⟨Y,hY⟩:∃Y,Y=b.num*(a.den:Int):=⟨_,rfl⟩
 obtain⟨D,hD⟩:∃D,D=a.den*b.den:=⟨_,rfl⟩
 rw[←hX,←hY,←hD] at Ye;rw[←hD] at hdp;rw[Ye];have qa:=PW ha;have qb:=PW hb
 ·skip
  obtain⟨a1,a2⟩:=PV qa;obtain⟨b1,b2⟩:=PV qb;have x1:X.natAbs<10 ^ 9*10 ^ 9:=by rw[hX];exact fc a1 (by simpa using b2)
  have y1:Y.natAbs<10 ^ 9*10 ^ 9:=by rw[hY];exact fc b1 (by simpa using a2)
  have d1:D<10 ^ 9*10 ^ 9:=by rw[hD];exact Nat.mul_lt_mul'' a2 b2
  have w1:IntKind.i64.wrap (a.num*(b.den:Int))=X:=by rw[←hX];exact al (by omega) (by omega)
  have w2:IntKind.i64.wrap (b.num*(a.den:Int))=Y:=by rw[←hY];exact al (by omega) (by omega)
  have w3:IntKind.i64.wrap (X+Y)=X+Y:=al (by omega) (by omega);have w4:IntKind.i64.wrap ((a.den:Int)*(b.den:Int))=(D:Int):=by rw[←Int.natCast_mul,←hD];exact al (by omega) (by omega)
  have c1:(X+Y).natAbs≤4611686018427387904:=by omega
  have c2:D≤4611686018427387904:=by omega
  simp[ad,hG,f111,bT,ha0,XY,ag,bM,be,aB,la,lb,ft qa,ft qb,w1,w2,w3,w4,hdp,c1,c2]
theorem Oo(a b:Rat)(ha:aeF a)(hb:aeF b)(mem:Mem):
  kF prog 74 [.str (aw a),.str (aw b)] mem (.str (aw (a*b))) mem:=by
 have hG:aT prog 74=some f74:=by kernel_rfl
 refine az mj (lv:=fun _=>[]) (K:=1) rfl rfl ?_ mem;have la:=jv ha;have lb:=jv hb;have z0:aw 0=[48]:=rfl;have z1:aw 1=[49]:=rfl;by_cases ha0:a=0
 ·subst ha0
  simp[ad,hG,f74,z0,Rat.zero_mul]
 by_cases XY:b=0
 ·subst XY
  simp[ad,hG,f74,z0,bT,ha0,Rat.mul_zero]
 by_cases ha1:a=1
 ·subst ha1
  simp[ad,hG,f74,z1,bT,XY,Rat.one_mul]
 by_cases hb1:b=1
 ·subst hb1
  simp[ad,hG,f74,z1,bT,xE,ha0,ha1,Rat.mul_one]
 have pa:=a.den_pos;have pb:=b.den_pos;have hdp:a.den*b.den≠0:=Nat.mul_ne_zero a.den_nz b.den_nz;have Ye:=Rat.mul_def' a b;obtain⟨X,hX⟩:∃X,X=a.num*b.num:=⟨_,rfl⟩
 obtain⟨D,hD⟩:∃D,D=a.den*b.den:=⟨_,rfl⟩
 rw[←hX,←hD] at Ye;rw[←hD] at hdp;rw[Ye];have qa:=PW ha;have qb:=PW hb
 ·skip
  obtain⟨a1,a2⟩:=PV qa;obtain⟨b1,b2⟩:=PV qb;have x1:X.natAbs<10 ^ 9*10 ^ 9:=by rw[hX];exact fc a1 b1
  have d1:D<10 ^ 9*10 ^ 9:=by rw[hD];exact Nat.mul_lt_mul'' a2 b2
  have w1:IntKind.i64.wrap (a.num*b.num)=X:=by rw[←hX];exact al (by omega) (by omega)
  have w4:IntKind.i64.wrap ((a.den:Int)*(b.den:Int))=(D:Int):=by rw[←Int.natCast_mul,←hD];exact al (by omega) (by omega)
  have c1:X.natAbs≤4611686018427387904:=by omega
  have c2:D≤4611686018427387904:=by omega
  simp[ad,hG,f74,bT,xE,ha0,XY,ha1,hb1,ag,bM,be,aB,la,lb,ft qa,ft qb,w1,w4,hdp,c1,c2]
end Go.Proofs
