/- See M58. -/
import Derived.Test.YtmhkeaphiadacaaGreatDoorM18
import Derived.Test.YtmhkeaphiadacaaGreatDoorM17
import Derived.Test.YtmhkeaphiadacaaGreatDoorM16
import Derived.Test.YtmhkeaphiadacaaGreatDoorM10
set_option linter.all false
namespace Go.Proofs
open Go.Eng
noncomputable def dn(f:FuncId) (args:List AV):Option AV:=
 match f,args with
 |190,[.str s,.str t]=>match nE s,nE t with
  |some m,some n=>if s.length≤18∧t.length≤18 then some (.str (aI (m.natAbs.gcd n.natAbs))) else none
  |_,_=>none
 |189,[.str s]=>if s.length≤1000000000 then some (.int .i64 (if okT (Lib.hasPrefix s [45]) (Lib.trimPrefix s [45]) then 0 else 2)) else none
 |f,args=>cI f args
theorem GK:OracleOk Tryz.prog (ao dn):=bI fun f args v h mem=>by
 unfold dn at h
 split at h
 ·split at h
  ·rename_i m n hm hn
   split at h
   ·rename_i hc
    cases h
    rw[dG hm,dG hn] at hc ⊢
    exact JQ m n hc.1 hc.2 mem
   ·cases h
  ·cases h
 ·split at h
  ·rename_i hl
   cases h
   exact CZ _ hl mem
  ·cases h
 ·have:=uA.fn _ _ mem ⟨v,none,[]⟩ (by unfold ao;simp only;rw[h])
  simpa [CallRes.mem] using this
noncomputable def bB(f:FuncId) (args:List AV):Option AV:=
 match f,args with
 |177,[.str s]=>match dz s with
  |some q=>if s.length≤1000000000 then some (if (aI q.num.natAbs).length≤9∧(q.den=1∨(aI q.den).length≤9) then .tuple [.int .i64 q.num,.int .i64 q.den,.bool true] else .tuple [.int .i64 0,.int .i64 0,.bool false]) else none
  |none=>none
 |183,[.int .i64 n,.int .i64 d]=>if d.toNat≠0∧n.natAbs≤4611686018427387904∧0≤d∧d.toNat≤4611686018427387904 then some (.str (aK (mkRat n d.toNat))) else none
 |178,[.str s]=>match dz s with
  |some q=>if s.length≤1000000000 then some (.tuple [.str (bW q.num),.str (aI q.den)]) else none
  |none=>none
 |202,[.str s,.str t]=>match nE s,wL t with
  |some n,some d=>if s.length≤1000000000∧t.length≤1000000000 then some (.str (if d=1 then bW n else bW n++47::aI d)) else none
  |_,_=>none
 |182,[.str s]=>match dz s with
  |some q=>if s.length≤1000000000 then some (.str (aK (-q))) else none
  |none=>none
 |104,[.str s]=>match dz s with
  |some q=>some (.int .i64 (Hm q))
  |none=>none
 |f,args=>dn f args
theorem DJ:OracleOk Tryz.prog (ao bB):=bI fun f args v h mem=>by
 unfold bB at h
 split at h
 ·split at h
  ·rename_i q hq
   split at h
   ·rename_i hl
    cases h
    rw[ap hq] at hl ⊢
    exact E4 q hl mem
   ·cases h
  ·cases h
 ·split at h
  ·rename_i hc
   obtain⟨hd,c1,c2,c3⟩:=hc
   cases h
   have:=FL _ _ c1 hd c3 mem
   rw[Int.toNat_of_nonneg c2] at this
   rw[Rat.mkRat_def,dif_neg hd]
   exact this
  ·cases h
 ·split at h
  ·rename_i q hq
   split at h
   ·rename_i hl
    cases h
    rw[ap hq] at hl ⊢
    exact Ih q hl mem
   ·cases h
  ·cases h
 ·split at h
  ·rename_i m n hm hn
   split at h
   ·rename_i hc
    cases h
    rw[dG hm,iW hn] at hc ⊢
    exact KF m n hc.1 hc.2 mem
   ·cases h
  ·cases h
 ·split at h
  ·rename_i q hq
   split at h
   ·rename_i hl
    cases h
    rw[ap hq] at hl ⊢
    exact J8 q hl mem
   ·cases h
  ·cases h
 ·split at h
  ·rename_i q hq
   cases h
   rw[ap hq]
   exact xm q mem
  ·cases h
 ·have:=GK.fn _ _ mem ⟨v,none,[]⟩ (by unfold ao;simp only;rw[h])
  simpa [CallRes.mem] using this
theorem gC(u:Nat):nE (aI u)=some (u:Int):=bT (u:Int)
def Hb(q:Rat):Prop:=(aI q.num.natAbs).length≤9∧(aI q.den).length≤9
theorem jE{q:Rat}(h:Hb q):(aK q).length≤1000000000:=by
 have:=ei q.num
 have h1:=h.1
 have h2:=h.2
 unfold aK
 split
 ·omega
 ·simp only[List.length_append,List.length_cons];omega
theorem Ah(n:Int) {d:Nat}(hd:d≠0):aK (mkRat n d)=if d / n.natAbs.gcd d=1 then bW (n / (n.natAbs.gcd d:Nat)) else bW (n / (n.natAbs.gcd d:Nat))++47::aI (d / n.natAbs.gcd d):=by
 unfold aK
 rw[Rat.num_mkRat,Rat.den_mkRat,if_neg hd,if_neg hd,Nat.gcd_comm d]
theorem ut(n:Nat):(aI n==[49])=decide (n=1):=by
 rw[Bool.eq_iff_iff,beq_iff_eq,decide_eq_true_eq]
 constructor
 ·intro e;exact Jf (e.trans (show [49]=aI 1 from rfl))
 ·rintro rfl;rfl
noncomputable def bK(f:FuncId) (args:List AV):Option AV:=bB f args
theorem jB:OracleOk Tryz.prog (ao bK):=DJ
def xV(a b:Rat):Int:=G9 (a.num*b.den) (b.num*a.den)
theorem HK{a b:Rat}:xV a b≤0↔a≤b:=by
 rw[Rat.le_iff];unfold xV G9
 split
 ·constructor<;>intro h<;>omega
 ·split<;>constructor<;>intro h<;>omega
theorem B4(a b:Rat):(aK a==aK b)=decide (a=b):=by
 rw[Bool.eq_iff_iff,beq_iff_eq,decide_eq_true_eq]
 exact⟨vJ,fun h=>by rw[h]⟩
def qk(q:Rat):Prop:=(aI q.num.natAbs).length≤9∧(q.den=1∨(aI q.den).length≤9)
theorem Ky{q:Rat}(h:qk q):q.num.natAbs<10 ^ 9∧q.den<10 ^ 9:=by
 have h1:=dr q.num.natAbs
 have h2:=dr q.den
 have h3:10 ^ (aI q.num.natAbs).length≤10 ^ 9:=Nat.pow_le_pow_right (by omega) h.1
 refine⟨by omega,?_⟩
 rcases h.2 with h4 | h4
 ·omega
 ·have h5:10 ^ (aI q.den).length≤10 ^ 9:=Nat.pow_le_pow_right (by omega) h4
  omega
theorem Lk{q:Rat}(h:Hb q):qk q:=⟨h.1,.inr h.2⟩
theorem dJ{α:Type}{q:Rat}(h:qk q) (x y:α):(if (aI q.num.natAbs).length≤9∧(q.den=1∨(aI q.den).length≤9) then x else y)=x:=if_pos h
set_option maxHeartbeats 1600000 in
theorem pM(a b:Rat) (ha:Hb a) (hb:Hb b) (mem:Mem):
  ACallsTo Tryz.prog 117 [.str (aK a),.str (aK b)] mem (.int .i64 (xV a b)) mem:=by
 have hG:aF Tryz.prog 117=some Tryz.f117:=by kernel_rfl
 refine aq jB (lv:=fun _=>[]) (K:=1) rfl rfl ?_ mem
 have la:=jE ha
 have lb:=jE hb
 by_cases hab:a=b
 ·subst hab
  have:xV a a=0:=by unfold xV G9;simp
  simp[ad,hG,Tryz.f117,this]
 ·have hbe:=B4 a b
  rw[decide_eq_false hab] at hbe
  obtain⟨X,hX⟩:∃X,X=a.num*(b.den:Int):=⟨_,rfl⟩
  obtain⟨Y,hY⟩:∃Y,Y=b.num*(a.den:Int):=⟨_,rfl⟩
  have hc:xV a b=G9 X Y:=by unfold xV;rw[←hX,←hY]
  have qa:=Lk ha
  have qb:=Lk hb
  ·skip
   obtain⟨a1,a2⟩:=Ky qa
   obtain⟨b1,b2⟩:=Ky qb
   have x1:X.natAbs<10 ^ 9*10 ^ 9:=by rw[hX];exact dH a1 (by simpa using b2)
   have y1:Y.natAbs<10 ^ 9*10 ^ 9:=by rw[hY];exact dH b1 (by simpa using a2)
   have w1:IntKind.i64.wrap (a.num*(b.den:Int))=X:=by rw[←hX];exact ai (by omega) (by omega)
   have w2:IntKind.i64.wrap (b.num*(a.den:Int))=Y:=by rw[←hY];exact ai (by omega) (by omega)
   rw[hc]
   unfold G9
   by_cases hxy:X<Y
   ·simp[ad,hG,Tryz.f117,hbe,ao,bK,bB,aM,la,lb,dJ qa,dJ qb,w1,w2,hxy]
   ·by_cases hyx:Y<X
    ·simp[ad,hG,Tryz.f117,hbe,ao,bK,bB,aM,la,lb,dJ qa,dJ qb,w1,w2,hxy,hyx]
    ·simp[ad,hG,Tryz.f117,hbe,ao,bK,bB,aM,la,lb,dJ qa,dJ qb,w1,w2,hxy,hyx]
theorem tX(q:Rat):(aK q==[49])=decide (q=1):=by
 have:=B4 q 1
 rwa [show aK 1=[49] from rfl] at this
set_option maxHeartbeats 1600000 in
theorem K0(a b:Rat) (ha:Hb a) (hb:Hb b) (mem:Mem):
  ACallsTo Tryz.prog 176 [.str (aK a),.str (aK b)] mem (.str (aK (a+b))) mem:=by
 have hG:aF Tryz.prog 176=some Tryz.f176:=by kernel_rfl
 refine aq jB (lv:=fun _=>[]) (K:=1) rfl rfl ?_ mem
 have la:=jE ha
 have lb:=jE hb
 by_cases ha0:a=0
 ·subst ha0
  have:aK 0=[48]:=rfl
  simp[ad,hG,Tryz.f176,this,Rat.zero_add]
 by_cases hb0:b=0
 ·subst hb0
  have:aK 0=[48]:=rfl
  simp[ad,hG,Tryz.f176,this,bq,ha0,Rat.add_zero]
 have pa:=a.den_pos
 have pb:=b.den_pos
 have hdp:a.den*b.den≠0:=Nat.mul_ne_zero a.den_nz b.den_nz
 have hsum:=Rat.add_def' a b
 obtain⟨X,hX⟩:∃X,X=a.num*(b.den:Int):=⟨_,rfl⟩
 obtain⟨Y,hY⟩:∃Y,Y=b.num*(a.den:Int):=⟨_,rfl⟩
 obtain⟨D,hD⟩:∃D,D=a.den*b.den:=⟨_,rfl⟩
 rw[←hX,←hY,←hD] at hsum
 rw[←hD] at hdp
 rw[hsum]
 have qa:=Lk ha
 have qb:=Lk hb
 ·skip
  obtain⟨a1,a2⟩:=Ky qa
  obtain⟨b1,b2⟩:=Ky qb
  have x1:X.natAbs<10 ^ 9*10 ^ 9:=by rw[hX];exact dH a1 (by simpa using b2)
  have y1:Y.natAbs<10 ^ 9*10 ^ 9:=by rw[hY];exact dH b1 (by simpa using a2)
  have d1:D<10 ^ 9*10 ^ 9:=by rw[hD];exact Nat.mul_lt_mul'' a2 b2
  have w1:IntKind.i64.wrap (a.num*(b.den:Int))=X:=by rw[←hX];exact ai (by omega) (by omega)
  have w2:IntKind.i64.wrap (b.num*(a.den:Int))=Y:=by rw[←hY];exact ai (by omega) (by omega)
  have w3:IntKind.i64.wrap (X+Y)=X+Y:=ai (by omega) (by omega)
  have w4:IntKind.i64.wrap ((a.den:Int)*(b.den:Int))=(D:Int):=by
   rw[←Int.natCast_mul,←hD];exact ai (by omega) (by omega)
  have c1:(X+Y).natAbs≤4611686018427387904:=by omega
  have c2:D≤4611686018427387904:=by omega
  simp[ad,hG,Tryz.f176,bq,ha0,hb0,ao,bK,bB,aM,la,lb,dJ qa,dJ qb,w1,w2,w3,w4,hdp,c1,c2]
set_option maxHeartbeats 1600000 in
theorem Kj(a b:Rat) (ha:Hb a) (hb:Hb b) (mem:Mem):
  ACallsTo Tryz.prog 123 [.str (aK a),.str (aK b)] mem (.str (aK (a*b))) mem:=by
 have hG:aF Tryz.prog 123=some Tryz.f123:=by kernel_rfl
 refine aq jB (lv:=fun _=>[]) (K:=1) rfl rfl ?_ mem
 have la:=jE ha
 have lb:=jE hb
 have z0:aK 0=[48]:=rfl
 have z1:aK 1=[49]:=rfl
 by_cases ha0:a=0
 ·subst ha0
  simp[ad,hG,Tryz.f123,z0,Rat.zero_mul]
 by_cases hb0:b=0
 ·subst hb0
  simp[ad,hG,Tryz.f123,z0,bq,ha0,Rat.mul_zero]
 by_cases ha1:a=1
 ·subst ha1
  simp[ad,hG,Tryz.f123,z1,bq,hb0,Rat.one_mul]
 by_cases hb1:b=1
 ·subst hb1
  simp[ad,hG,Tryz.f123,z1,bq,tX,ha0,ha1,Rat.mul_one]
 have pa:=a.den_pos
 have pb:=b.den_pos
 have hdp:a.den*b.den≠0:=Nat.mul_ne_zero a.den_nz b.den_nz
 have hsum:=Rat.mul_def' a b
 obtain⟨X,hX⟩:∃X,X=a.num*b.num:=⟨_,rfl⟩
 obtain⟨D,hD⟩:∃D,D=a.den*b.den:=⟨_,rfl⟩
 rw[←hX,←hD] at hsum
 rw[←hD] at hdp
 rw[hsum]
 have qa:=Lk ha
 have qb:=Lk hb
 ·skip
  obtain⟨a1,a2⟩:=Ky qa
  obtain⟨b1,b2⟩:=Ky qb
  have x1:X.natAbs<10 ^ 9*10 ^ 9:=by rw[hX];exact dH a1 b1
  have d1:D<10 ^ 9*10 ^ 9:=by rw[hD];exact Nat.mul_lt_mul'' a2 b2
  have w1:IntKind.i64.wrap (a.num*b.num)=X:=by rw[←hX];exact ai (by omega) (by omega)
  have w4:IntKind.i64.wrap ((a.den:Int)*(b.den:Int))=(D:Int):=by
   rw[←Int.natCast_mul,←hD];exact ai (by omega) (by omega)
  have c1:X.natAbs≤4611686018427387904:=by omega
  have c2:D≤4611686018427387904:=by omega
  simp[ad,hG,Tryz.f123,bq,tX,ha0,hb0,ha1,hb1,ao,bK,bB,aM,la,lb,dJ qa,dJ qb,w1,w4,hdp,c1,c2]
end Go.Proofs
