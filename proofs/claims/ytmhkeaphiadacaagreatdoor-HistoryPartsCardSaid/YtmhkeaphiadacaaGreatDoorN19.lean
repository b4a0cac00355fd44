/- See N58. -/
import Derived.Test.YtmhkeaphiadacaaGreatDoorN18
import Derived.Test.YtmhkeaphiadacaaGreatDoorN17
import Derived.Test.YtmhkeaphiadacaaGreatDoorN16
import Derived.Test.YtmhkeaphiadacaaGreatDoorN10
set_option linter.all false
namespace Go.Proofs
open Go.Eng
noncomputable def dx(f:FuncId) (args:List AV):Option AV:=
 match f,args with
 |190,[.str s,.str t]=>match nQ s,nQ t with
  |some m,some n=>if s.length≤18∧t.length≤18 then some (.str (aK (m.natAbs.gcd n.natAbs))) else none
  |_,_=>none
 |189,[.str s]=>if s.length≤1000000000 then some (.int .i64 (if okT (Lib.hasPrefix s [45]) (Lib.trimPrefix s [45]) then 0 else 2)) else none
 |f,args=>cJ f args
theorem FH:OracleOk Tryz.prog (ao dx):=bN fun f args v h mem=>by
 unfold dx at h
 split at h
 ·split at h
  ·rename_i m n hm hn
   split at h
   ·rename_i hc
    cases h
    rw[dH hm,dH hn] at hc ⊢
    exact Kz m n hc.1 hc.2 mem
   ·cases h
  ·cases h
 ·split at h
  ·rename_i hl
   cases h
   exact CM _ hl mem
  ·cases h
 ·have:=uD.fn _ _ mem ⟨v,none,[]⟩ (by unfold ao;simp only;rw[h])
  simpa [CallRes.mem] using this
noncomputable def bI(f:FuncId) (args:List AV):Option AV:=
 match f,args with
 |177,[.str s]=>match dE s with
  |some q=>if s.length≤1000000000 then some (if (aK q.num.natAbs).length≤9∧(q.den=1∨(aK q.den).length≤9) then .tuple [.int .i64 q.num,.int .i64 q.den,.bool true] else .tuple [.int .i64 0,.int .i64 0,.bool false]) else none
  |none=>none
 |183,[.int .i64 n,.int .i64 d]=>if d.toNat≠0∧n.natAbs≤4611686018427387904∧0≤d∧d.toNat≤4611686018427387904 then some (.str (aN (mkRat n d.toNat))) else none
 |178,[.str s]=>match dE s with
  |some q=>if s.length≤1000000000 then some (.tuple [.str (cd q.num),.str (aK q.den)]) else none
  |none=>none
 |202,[.str s,.str t]=>match nQ s,yQ t with
  |some n,some d=>if s.length≤1000000000∧t.length≤1000000000 then some (.str (if d=1 then cd n else cd n++47::aK d)) else none
  |_,_=>none
 |182,[.str s]=>match dE s with
  |some q=>if s.length≤1000000000 then some (.str (aN (-q))) else none
  |none=>none
 |104,[.str s]=>match dE s with
  |some q=>some (.int .i64 (JD q))
  |none=>none
 |f,args=>dx f args
theorem Gg:OracleOk Tryz.prog (ao bI):=bN fun f args v h mem=>by
 unfold bI at h
 split at h
 ·split at h
  ·rename_i q hq
   split at h
   ·rename_i hl
    cases h
    rw[au hq] at hl ⊢
    exact Dd q hl mem
   ·cases h
  ·cases h
 ·split at h
  ·rename_i hc
   obtain⟨hd,c1,c2,c3⟩:=hc
   cases h
   have:=Dg _ _ c1 hd c3 mem
   rw[Int.toNat_of_nonneg c2] at this
   rw[Rat.mkRat_def,dif_neg hd]
   exact this
  ·cases h
 ·split at h
  ·rename_i q hq
   split at h
   ·rename_i hl
    cases h
    rw[au hq] at hl ⊢
    exact H8 q hl mem
   ·cases h
  ·cases h
 ·split at h
  ·rename_i m n hm hn
   split at h
   ·rename_i hc
    cases h
    rw[dH hm,jp hn] at hc ⊢
    exact KB m n hc.1 hc.2 mem
   ·cases h
  ·cases h
 ·split at h
  ·rename_i q hq
   split at h
   ·rename_i hl
    cases h
    rw[au hq] at hl ⊢
    exact KE q hl mem
   ·cases h
  ·cases h
 ·split at h
  ·rename_i q hq
   cases h
   rw[au hq]
   exact xi q mem
  ·cases h
 ·have:=FH.fn _ _ mem ⟨v,none,[]⟩ (by unfold ao;simp only;rw[h])
  simpa [CallRes.mem] using this
theorem gO(u:Nat):nQ (aK u)=some (u:Int):=bZ (u:Int)
def HH(q:Rat):Prop:=(aK q.num.natAbs).length≤9∧(aK q.den).length≤9
theorem kx{q:Rat}(h:HH q):(aN q).length≤1000000000:=by
 have:=ez q.num
 have h1:=h.1
 have h2:=h.2
 unfold aN
 split
 ·omega
 ·simp only[List.length_append,List.length_cons];omega
theorem AY(n:Int) {d:Nat}(hd:d≠0):aN (mkRat n d)=if d / n.natAbs.gcd d=1 then cd (n / (n.natAbs.gcd d:Nat)) else cd (n / (n.natAbs.gcd d:Nat))++47::aK (d / n.natAbs.gcd d):=by
 unfold aN
 rw[Rat.num_mkRat,Rat.den_mkRat,if_neg hd,if_neg hd,Nat.gcd_comm d]
theorem uX(n:Nat):(aK n==[49])=decide (n=1):=by
 rw[Bool.eq_iff_iff,beq_iff_eq,decide_eq_true_eq]
 constructor
 ·intro e;exact J8 (e.trans (show [49]=aK 1 from rfl))
 ·rintro rfl;rfl
noncomputable def bO(f:FuncId) (args:List AV):Option AV:=bI f args
theorem kg:OracleOk Tryz.prog (ao bO):=Gg
def yk(a b:Rat):Int:=HG (a.num*b.den) (b.num*a.den)
theorem Ja{a b:Rat}:yk a b≤0↔a≤b:=by
 rw[Rat.le_iff];unfold yk HG
 split
 ·constructor<;>intro h<;>omega
 ·split<;>constructor<;>intro h<;>omega
theorem Cy(a b:Rat):(aN a==aN b)=decide (a=b):=by
 rw[Bool.eq_iff_iff,beq_iff_eq,decide_eq_true_eq]
 exact⟨wI,fun h=>by rw[h]⟩
def qk(q:Rat):Prop:=(aK q.num.natAbs).length≤9∧(q.den=1∨(aK q.den).length≤9)
theorem L3{q:Rat}(h:qk q):q.num.natAbs<10 ^ 9∧q.den<10 ^ 9:=by
 have h1:=dA q.num.natAbs
 have h2:=dA q.den
 have h3:10 ^ (aK q.num.natAbs).length≤10 ^ 9:=Nat.pow_le_pow_right (by omega) h.1
 refine⟨by omega,?_⟩
 rcases h.2 with h4 | h4
 ·omega
 ·have h5:10 ^ (aK q.den).length≤10 ^ 9:=Nat.pow_le_pow_right (by omega) h4
  omega
theorem L4{q:Rat}(h:HH q):qk q:=⟨h.1,.inr h.2⟩
theorem dP{α:Type}{q:Rat}(h:qk q) (x y:α):(if (aK q.num.natAbs).length≤9∧(q.den=1∨(aK q.den).length≤9) then x else y)=x:=if_pos h
set_option maxHeartbeats 1600000 in
theorem pX(a b:Rat) (ha:HH a) (hb:HH b) (mem:Mem):
  ACallsTo Tryz.prog 117 [.str (aN a),.str (aN b)] mem (.int .i64 (yk a b)) mem:=by
 have hG:aI Tryz.prog 117=some Tryz.f117:=by kernel_rfl
 refine aw kg (lv:=fun _=>[]) (K:=1) rfl rfl ?_ mem
 have la:=kx ha
 have lb:=kx hb
 by_cases hab:a=b
 ·subst hab
  have:yk a a=0:=by unfold yk HG;simp
  simp[ab,hG,Tryz.f117,this]
 ·have hbe:=Cy a b
  rw[decide_eq_false hab] at hbe
  obtain⟨X,hX⟩:∃X,X=a.num*(b.den:Int):=⟨_,rfl⟩
  obtain⟨Y,hY⟩:∃Y,Y=b.num*(a.den:Int):=⟨_,rfl⟩
  have hc:yk a b=HG X Y:=by unfold yk;rw[←hX,←hY]
  have qa:=L4 ha
  have qb:=L4 hb
  ·skip
   obtain⟨a1,a2⟩:=L3 qa
   obtain⟨b1,b2⟩:=L3 qb
   have x1:X.natAbs<10 ^ 9*10 ^ 9:=by rw[hX];exact dI a1 (by simpa using b2)
   have y1:Y.natAbs<10 ^ 9*10 ^ 9:=by rw[hY];exact dI b1 (by simpa using a2)
   have w1:IntKind.i64.wrap (a.num*(b.den:Int))=X:=by rw[←hX];exact al (by omega) (by omega)
   have w2:IntKind.i64.wrap (b.num*(a.den:Int))=Y:=by rw[←hY];exact al (by omega) (by omega)
   rw[hc]
   unfold HG
   by_cases hxy:X<Y
   ·simp[ab,hG,Tryz.f117,hbe,ao,bO,bI,aR,la,lb,dP qa,dP qb,w1,w2,hxy]
   ·by_cases hyx:Y<X
    ·simp[ab,hG,Tryz.f117,hbe,ao,bO,bI,aR,la,lb,dP qa,dP qb,w1,w2,hxy,hyx]
    ·simp[ab,hG,Tryz.f117,hbe,ao,bO,bI,aR,la,lb,dP qa,dP qb,w1,w2,hxy,hyx]
theorem u9(q:Rat):(aN q==[49])=decide (q=1):=by
 have:=Cy q 1
 rwa [show aN 1=[49] from rfl] at this
set_option maxHeartbeats 1600000 in
theorem Ko(a b:Rat) (ha:HH a) (hb:HH b) (mem:Mem):
  ACallsTo Tryz.prog 176 [.str (aN a),.str (aN b)] mem (.str (aN (a+b))) mem:=by
 have hG:aI Tryz.prog 176=some Tryz.f176:=by kernel_rfl
 refine aw kg (lv:=fun _=>[]) (K:=1) rfl rfl ?_ mem
 have la:=kx ha
 have lb:=kx hb
 by_cases ha0:a=0
 ·subst ha0
  have:aN 0=[48]:=rfl
  simp[ab,hG,Tryz.f176,this,Rat.zero_add]
 by_cases hb0:b=0
 ·subst hb0
  have:aN 0=[48]:=rfl
  simp[ab,hG,Tryz.f176,this,bA,ha0,Rat.add_zero]
 have pa:=a.den_pos
 have pb:=b.den_pos
 have hdp:a.den*b.den≠0:=Nat.mul_ne_zero a.den_nz b.den_nz
 have hsum:=Rat.add_def' a b
 obtain⟨X,hX⟩:∃X,X=a.num*(b.den:Int):=⟨_,rfl⟩
 obtain⟨Y,hY⟩:∃Y,Y=b.num*(a.den:Int):=⟨_,rfl⟩
 obtain⟨D,hD⟩:∃D,D=a.den*b.den:=⟨_,rfl⟩
 rw[←hX,←hY,←hD] at hsum
 rw[←hD] at hdp
 rw[hsum]
 have qa:=L4 ha
 have qb:=L4 hb
 ·skip
  obtain⟨a1,a2⟩:=L3 qa
  obtain⟨b1,b2⟩:=L3 qb
  have x1:X.natAbs<10 ^ 9*10 ^ 9:=by rw[hX];exact dI a1 (by simpa using b2)
  have y1:Y.natAbs<10 ^ 9*10 ^ 9:=by rw[hY];exact dI b1 (by simpa using a2)
  have d1:D<10 ^ 9*10 ^ 9:=by rw[hD];exact Nat.mul_lt_mul'' a2 b2
  have w1:IntKind.i64.wrap (a.num*(b.den:Int))=X:=by rw[←hX];exact al (by omega) (by omega)
  have w2:IntKind.i64.wrap (b.num*(a.den:Int))=Y:=by rw[←hY];exact al (by omega) (by omega)
  have w3:IntKind.i64.wrap (X+Y)=X+Y:=al (by omega) (by omega)
  have w4:IntKind.i64.wrap ((a.den:Int)*(b.den:Int))=(D:Int):=by
   rw[←Int.natCast_mul,←hD];exact al (by omega) (by omega)
  have c1:(X+Y).natAbs≤4611686018427387904:=by omega
  have c2:D≤4611686018427387904:=by omega
  simp[ab,hG,Tryz.f176,bA,ha0,hb0,ao,bO,bI,aR,la,lb,dP qa,dP qb,w1,w2,w3,w4,hdp,c1,c2]
set_option maxHeartbeats 1600000 in
theorem KD(a b:Rat) (ha:HH a) (hb:HH b) (mem:Mem):
  ACallsTo Tryz.prog 123 [.str (aN a),.str (aN b)] mem (.str (aN (a*b))) mem:=by
 have hG:aI Tryz.prog 123=some Tryz.f123:=by kernel_rfl
 refine aw kg (lv:=fun _=>[]) (K:=1) rfl rfl ?_ mem
 have la:=kx ha
 have lb:=kx hb
 have z0:aN 0=[48]:=rfl
 have z1:aN 1=[49]:=rfl
 by_cases ha0:a=0
 ·subst ha0
  simp[ab,hG,Tryz.f123,z0,Rat.zero_mul]
 by_cases hb0:b=0
 ·subst hb0
  simp[ab,hG,Tryz.f123,z0,bA,ha0,Rat.mul_zero]
 by_cases ha1:a=1
 ·subst ha1
  simp[ab,hG,Tryz.f123,z1,bA,hb0,Rat.one_mul]
 by_cases hb1:b=1
 ·subst hb1
  simp[ab,hG,Tryz.f123,z1,bA,u9,ha0,ha1,Rat.mul_one]
 have pa:=a.den_pos
 have pb:=b.den_pos
 have hdp:a.den*b.den≠0:=Nat.mul_ne_zero a.den_nz b.den_nz
 have hsum:=Rat.mul_def' a b
 obtain⟨X,hX⟩:∃X,X=a.num*b.num:=⟨_,rfl⟩
 obtain⟨D,hD⟩:∃D,D=a.den*b.den:=⟨_,rfl⟩
 rw[←hX,←hD] at hsum
 rw[←hD] at hdp
 rw[hsum]
 have qa:=L4 ha
 have qb:=L4 hb
 ·skip
  obtain⟨a1,a2⟩:=L3 qa
  obtain⟨b1,b2⟩:=L3 qb
  have x1:X.natAbs<10 ^ 9*10 ^ 9:=by rw[hX];exact dI a1 b1
  have d1:D<10 ^ 9*10 ^ 9:=by rw[hD];exact Nat.mul_lt_mul'' a2 b2
  have w1:IntKind.i64.wrap (a.num*b.num)=X:=by rw[←hX];exact al (by omega) (by omega)
  have w4:IntKind.i64.wrap ((a.den:Int)*(b.den:Int))=(D:Int):=by
   rw[←Int.natCast_mul,←hD];exact al (by omega) (by omega)
  have c1:X.natAbs≤4611686018427387904:=by omega
  have c2:D≤4611686018427387904:=by omega
  simp[ab,hG,Tryz.f123,bA,u9,ha0,hb0,ha1,hb1,ao,bO,bI,aR,la,lb,dP qa,dP qb,w1,w4,hdp,c1,c2]
end Go.Proofs
