/- See K51. -/
import Derived.Test.YtffdedmakncfmaaGreatDoorK17
set_option linter.all false
namespace Go.Proofs
open Go.Eng
noncomputable def bO(f:FuncId) (args:List AV):Option AV:=
 match f,args with
 |134,[.str s,.str t]=>match jF s,jF t with
  |some m,some n=>if (au m.natAbs).length≤100000∧(au n.natAbs).length≤100000 then some (.str (bE (m+n))) else none
  |_,_=>none
 |93,[.str s,.str t]=>match jF s,jF t with
  |some m,some n=>if (au m.natAbs).length≤100000∧(au n.natAbs).length≤100000 then some (.str (bE (m*n))) else none
  |_,_=>none
 |138,[.str s,.str t]=>match jF s,vN t with
  |some m,some n=>if (au m.natAbs).length≤100000∧(au n).length≤100000∧0<n∧(0≤m∨m.natAbs%n=0) then some (.tuple [.str (bE (m / n)),.str (au (m.natAbs%n)),.int .i64 0]) else none
  |_,_=>none
 |109,[.str s,.str t]=>match jF s,jF t with
  |some m,some n=>if (au m.natAbs).length≤100000∧(au n.natAbs).length≤100000 then some (.str (au (m.natAbs.gcd n.natAbs))) else none
  |_,_=>none
 |107,[.str s]=>if s.length≤1000000000 then some (.int .i64 (if okT (Lib.hasPrefix s [45]) (Lib.trimPrefix s [45]) then 0 else 2)) else none
 |f,args=>aF f args
theorem F5:OracleOk Tryz.prog (ai bO):=bM fun f args v h mem=>by
 unfold bO at h
 split at h
 ·split at h
  ·rename_i m n hm hn
   split at h
   ·rename_i hc
    cases h
    rw[cg hm,cg hn]
    exact Kw m n hc.1 hc.2 mem
   ·cases h
  ·cases h
 ·split at h
  ·rename_i m n hm hn
   split at h
   ·rename_i hc
    cases h
    rw[cg hm,cg hn]
    exact KL m n hc.1 hc.2 mem
   ·cases h
  ·cases h
 ·split at h
  ·rename_i m n hm hn
   split at h
   ·rename_i hc
    cases h
    obtain⟨c1,c2,c3,c4⟩:=hc
    rw[cg hm,fK hn]
    exact BD m n c3 c4 c1 c2 mem
   ·cases h
  ·cases h
 ·split at h
  ·rename_i m n hm hn
   split at h
   ·rename_i hc
    cases h
    rw[cg hm,cg hn]
    exact KI m n hc.1 hc.2 mem
   ·cases h
  ·cases h
 ·split at h
  ·rename_i hl
   cases h
   exact Df _ hl mem
  ·cases h
 ·have:=vt.fn _ _ mem ⟨v,none,[]⟩ (by unfold ai;simp only;rw[h])
  simpa [CallRes.mem] using this
noncomputable def aX(f:FuncId) (args:List AV):Option AV:=
 match f,args with
 |89,[.str s]=>match dU s with
  |some q=>if s.length≤1000000000 then some (if (au q.num.natAbs).length≤9∧(q.den=1∨(au q.den).length≤9) then .tuple [.int .i64 q.num,.int .i64 q.den,.bool true] else .tuple [.int .i64 0,.int .i64 0,.bool false]) else none
  |none=>none
 |90,[.int .i64 n,.int .i64 d]=>if d.toNat≠0∧n.natAbs≤4611686018427387904∧0≤d∧d.toNat≤4611686018427387904 then some (.str (aB (mkRat n d.toNat))) else none
 |91,[.str s]=>match dU s with
  |some q=>if s.length≤1000000000 then some (.tuple [.str (bE q.num),.str (au q.den)]) else none
  |none=>none
 |136,[.str s,.str t]=>match jF s,vN t with
  |some n,some d=>if s.length≤1000000000∧t.length≤1000000000 then some (.str (if d=1 then bE n else bE n++47::au d)) else none
  |_,_=>none
 |46,[.str s]=>match dU s with
  |some q=>if s.length≤1000000000 then some (.str (aB (-q))) else none
  |none=>none
 |228,[.str s]=>match dU s with
  |some q=>some (.int .i64 (xI q))
  |none=>none
 |f,args=>bO f args
theorem vu:OracleOk Tryz.prog (ai aX):=bM fun f args v h mem=>by
 unfold aX at h
 split at h
 ·split at h
  ·rename_i q hq
   split at h
   ·rename_i hl
    cases h
    rw[aD hq] at hl ⊢
    exact DB q hl mem
   ·cases h
  ·cases h
 ·split at h
  ·rename_i hc
   obtain⟨hd,c1,c2,c3⟩:=hc
   cases h
   have:=DF _ _ c1 hd c3 mem
   rw[Int.toNat_of_nonneg c2] at this
   rw[Rat.mkRat_def,dif_neg hd]
   exact this
  ·cases h
 ·split at h
  ·rename_i q hq
   split at h
   ·rename_i hl
    cases h
    rw[aD hq] at hl ⊢
    exact HV q hl mem
   ·cases h
  ·cases h
 ·split at h
  ·rename_i m n hm hn
   split at h
   ·rename_i hc
    cases h
    rw[cg hm,fK hn] at hc ⊢
    exact KK m n hc.1 hc.2 mem
   ·cases h
  ·cases h
 ·split at h
  ·rename_i q hq
   split at h
   ·rename_i hl
    cases h
    rw[aD hq] at hl ⊢
    exact KN q hl mem
   ·cases h
  ·cases h
 ·split at h
  ·rename_i q hq
   cases h
   rw[aD hq]
   exact xT q mem
  ·cases h
 ·have:=F5.fn _ _ mem ⟨v,none,[]⟩ (by unfold ai;simp only;rw[h])
  simpa [CallRes.mem] using this
theorem cX(u:Nat):jF (au u)=some (u:Int):=aL (u:Int)
def ky(q:Rat):Prop:=(au q.num.natAbs).length≤40000∧(au q.den).length≤40000
theorem ft{q:Rat}(h:ky q):(aB q).length≤1000000000:=by
 have:=cm q.num
 have h1:=h.1
 have h2:=h.2
 unfold aB
 split
 ·omega
 ·simp only[List.length_append,List.length_cons];omega
theorem fe{k:Nat}{q:Rat}(hk:0<k) (hk2:k≤40000) (h:big k q):ky q:=by
 have h1:=aK hk h.1
 have h2:=aK hk h.2
 exact⟨by omega,by omega⟩
theorem uV(n:Int) {d:Nat}(hd:d≠0):aB (mkRat n d)=if d / n.natAbs.gcd d=1 then bE (n / (n.natAbs.gcd d:Nat)) else bE (n / (n.natAbs.gcd d:Nat))++47::au (d / n.natAbs.gcd d):=by
 unfold aB
 rw[Rat.num_mkRat,Rat.den_mkRat,if_neg hd,if_neg hd,Nat.gcd_comm d]
theorem jX(n:Nat):(au n==[49])=decide (n=1):=by
 rw[Bool.eq_iff_iff,beq_iff_eq,decide_eq_true_eq]
 constructor
 ·intro e;exact CM (e.trans (show [49]=au 1 from rfl))
 ·rintro rfl;rfl
theorem Kg{d:Nat}(h:d≠0):jH (d:Int)=1:=by
 unfold jH
 rw[if_neg (by omega),if_neg (by omega)]
set_option maxHeartbeats 1600000 in
theorem Dt(n:Int) (d:Nat) (hd:d≠0) (hn:(au n.natAbs).length≤100000) (hdl:(au d).length≤100000) (mem:Mem):
  ACallsTo Tryz.prog 92 [.str (bE n),.str (au d)] mem (.str (aB (mkRat n d))) mem:=by
 have hG:aN Tryz.prog 92=some Tryz.f92:=by kernel_rfl
 refine aq vu (lv:=fun _=>[]) (K:=1) rfl rfl ?_ mem
 rw[uV n hd]
 have hs:=Kg hd
 have hgp:0<n.natAbs.gcd d:=Nat.gcd_pos_of_pos_right _ (by omega)
 have hg1:n.natAbs.gcd d∣n.natAbs:=Nat.gcd_dvd_left _ _
 have hg2:n.natAbs.gcd d∣d:=Nat.gcd_dvd_right _ _
 have hle:n.natAbs.gcd d≤d:=Nat.le_of_dvd (by omega) hg2
 obtain⟨g,hg⟩:∃g,g=n.natAbs.gcd d:=⟨_,rfl⟩
 rw[←hg] at hgp hg1 hg2 hle ⊢
 have hl1:=cm n
 have hl2:(bE n).length≤1000000000:=by omega
 have hl3:(au d).length≤1000000000:=by omega
 by_cases h1:g=1
 ·have e1:n / (g:Int)=n:=by rw[h1];exact Int.ediv_one n
  have e2:d / g=d:=by rw[h1];exact Nat.div_one d
  rw[e1,e2]
  simp[aa,hG,Tryz.f92,ai,aX,bO,aF,aH,cX,cL,aL,hs,hn,hdl,←hg,jX,h1,hl2,hl3]
 ·have hgl:(au g).length≤100000:=by have:=cv hle;omega
  have hm1:n.natAbs%g=0:=Nat.mod_eq_zero_of_dvd hg1
  have hdg:bE ((d:Int) / (g:Int))=au (d / g):=by rw[←Int.natCast_ediv];rfl
  have hq1:(au (n / (g:Int)).natAbs).length≤100000:=by
   have:=cv (Int.natAbs_ediv_le_natAbs n g)
   omega
  have hl4:=cm (n / (g:Int))
  have hl5:(bE (n / (g:Int))).length≤1000000000:=by omega
  have hl6:(au (d / g)).length≤1000000000:=by
   have:=cv (Nat.div_le_self d g)
   omega
  simp[aa,hG,Tryz.f92,ai,aX,bO,aF,aH,cX,cL,aL,hs,hn,hdl,←hg,jX,h1,hgl,hgp,hm1,hdg,hl5,hl6]
noncomputable def bj(f:FuncId) (args:List AV):Option AV:=
 match f,args with
 |92,[.str s,.str t]=>match jF s,vN t with
  |some n,some d=>if d≠0∧(au n.natAbs).length≤100000∧(au d).length≤100000 then some (.str (aB (mkRat n d))) else none
  |_,_=>none
 |f,args=>aX f args
theorem iw:OracleOk Tryz.prog (ai bj):=bM fun f args v h mem=>by
 unfold bj at h
 split at h
 ·split at h
  ·rename_i m n hm hn
   split at h
   ·rename_i hc
    cases h
    rw[cg hm,fK hn]
    exact Dt m n hc.1 hc.2.1 hc.2.2 mem
   ·cases h
  ·cases h
 ·have:=vu.fn _ _ mem ⟨v,none,[]⟩ (by unfold ai;simp only;rw[h])
  simpa [CallRes.mem] using this
def yS(a b:Rat):Int:=HG (a.num*b.den) (b.num*a.den)
theorem I5{a b:Rat}:yS a b≤0↔a≤b:=by
 rw[Rat.le_iff];unfold yS HG
 split
 ·constructor<;>intro h<;>omega
 ·split<;>constructor<;>intro h<;>omega
theorem CQ(a b:Rat):(aB a==aB b)=decide (a=b):=by
 rw[Bool.eq_iff_iff,beq_iff_eq,decide_eq_true_eq]
 exact⟨CR,fun h=>by rw[h]⟩
def qk(q:Rat):Prop:=(au q.num.natAbs).length≤9∧(q.den=1∨(au q.den).length≤9)
theorem Mm{q:Rat}(h:qk q):q.num.natAbs<10 ^ 9∧q.den<10 ^ 9:=by
 have h1:=cn q.num.natAbs
 have h2:=cn q.den
 have h3:10 ^ (au q.num.natAbs).length≤10 ^ 9:=Nat.pow_le_pow_right (by omega) h.1
 refine⟨by omega,?_⟩
 rcases h.2 with h4 | h4
 ·omega
 ·have h5:10 ^ (au q.den).length≤10 ^ 9:=Nat.pow_le_pow_right (by omega) h4
  omega
theorem JW{a b:Rat}(ha:ky a) (hb:ky b):(au (a.num*(b.den:Int)).natAbs).length≤80000:=by
 rw[Int.natAbs_mul,Int.natAbs_natCast]
 exact gv ha.1 hb.2
theorem GQ{a b:Rat}(ha:ky a) (hb:ky b):(au (a.den*b.den)).length≤80000:=gv ha.2 hb.2
theorem NH{a b:Rat}(ha:ky a) (hb:ky b):(au (a.num*b.num).natAbs).length≤80000:=by
 rw[Int.natAbs_mul]
 exact gv ha.1 hb.1
theorem ja{α:Type}{q:Rat}(h:¬qk q) (x y:α):(if (au q.num.natAbs).length≤9∧(q.den=1∨(au q.den).length≤9) then x else y)=y:=if_neg h
theorem cN{α:Type}{q:Rat}(h:qk q) (x y:α):(if (au q.num.natAbs).length≤9∧(q.den=1∨(au q.den).length≤9) then x else y)=x:=if_pos h
set_option maxHeartbeats 1600000 in
theorem qi(a b:Rat) (ha:ky a) (hb:ky b) (mem:Mem):
  ACallsTo Tryz.prog 111 [.str (aB a),.str (aB b)] mem (.int .i64 (yS a b)) mem:=by
 have hG:aN Tryz.prog 111=some Tryz.f111:=by kernel_rfl
 refine aq iw (lv:=fun _=>[]) (K:=1) rfl rfl ?_ mem
 have la:=ft ha
 have lb:=ft hb
 by_cases hab:a=b
 ·subst hab
  have:yS a a=0:=by unfold yS HG;simp
  simp[aa,hG,Tryz.f111,this]
 ·have hbe:=CQ a b
  rw[decide_eq_false hab] at hbe
  obtain⟨X,hX⟩:∃X,X=a.num*(b.den:Int):=⟨_,rfl⟩
  obtain⟨Y,hY⟩:∃Y,Y=b.num*(a.den:Int):=⟨_,rfl⟩
  have hc:yS a b=HG X Y:=by unfold yS;rw[←hX,←hY]
  by_cases hq:qk a∧qk b
  ·obtain⟨qa,qb⟩:=hq
   obtain⟨a1,a2⟩:=Mm qa
   obtain⟨b1,b2⟩:=Mm qb
   have x1:X.natAbs<10 ^ 9*10 ^ 9:=by rw[hX];exact dM a1 (by simpa using b2)
   have y1:Y.natAbs<10 ^ 9*10 ^ 9:=by rw[hY];exact dM b1 (by simpa using a2)
   have w1:IntKind.i64.wrap (a.num*(b.den:Int))=X:=by rw[←hX];exact ag (by omega) (by omega)
   have w2:IntKind.i64.wrap (b.num*(a.den:Int))=Y:=by rw[←hY];exact ag (by omega) (by omega)
   rw[hc]
   unfold HG
   by_cases hxy:X<Y
   ·simp[aa,hG,Tryz.f111,hbe,ai,bj,aX,aC,la,lb,cN qa,cN qb,w1,w2,hxy]
   ·by_cases hyx:Y<X
    ·simp[aa,hG,Tryz.f111,hbe,ai,bj,aX,aC,la,lb,cN qa,cN qb,w1,w2,hxy,hyx]
    ·simp[aa,hG,Tryz.f111,hbe,ai,bj,aX,aC,la,lb,cN qa,cN qb,w1,w2,hxy,hyx]
  ·rw[hc]
   have s1:(au a.num.natAbs).length≤100000:=by have:=ha.1;omega
   have s2:(au a.den).length≤100000:=by have:=ha.2;omega
   have s3:(au b.num.natAbs).length≤100000:=by have:=hb.1;omega
   have s4:(au b.den).length≤100000:=by have:=hb.2;omega
   by_cases qa:qk a
   ·have qb:¬qk b:=fun h=>hq ⟨qa,h⟩
    simp[aa,hG,Tryz.f111,hbe,ai,bj,aX,bO,aF,aC,aL,cX,la,lb,cN qa,ja qb,s1,s2,s3,s4,←hX,←hY]
   ·simp[aa,hG,Tryz.f111,hbe,ai,bj,aX,bO,aF,aC,aL,cX,la,lb,ja qa,s1,s2,s3,s4,←hX,←hY]
theorem jZ(q:Rat):(aB q==[49])=decide (q=1):=by
 have:=CQ q 1
 rwa [show aB 1=[49] from rfl] at this
set_option maxHeartbeats 1600000 in
theorem Kx(a b:Rat) (ha:ky a) (hb:ky b) (mem:Mem):
  ACallsTo Tryz.prog 86 [.str (aB a),.str (aB b)] mem (.str (aB (a+b))) mem:=by
 have hG:aN Tryz.prog 86=some Tryz.f86:=by kernel_rfl
 refine aq iw (lv:=fun _=>[]) (K:=1) rfl rfl ?_ mem
 have la:=ft ha
 have lb:=ft hb
 by_cases ha0:a=0
 ·subst ha0
  have:aB 0=[48]:=rfl
  simp[aa,hG,Tryz.f86,this,Rat.zero_add]
 by_cases hb0:b=0
 ·subst hb0
  have:aB 0=[48]:=rfl
  simp[aa,hG,Tryz.f86,this,aW,ha0,Rat.add_zero]
 have pa:=a.den_pos
 have pb:=b.den_pos
 have hdp:a.den*b.den≠0:=Nat.mul_ne_zero a.den_nz b.den_nz
 have hsum:=Rat.add_def' a b
 obtain⟨X,hX⟩:∃X,X=a.num*(b.den:Int):=⟨_,rfl⟩
 obtain⟨Y,hY⟩:∃Y,Y=b.num*(a.den:Int):=⟨_,rfl⟩
 obtain⟨D,hD⟩:∃D,D=a.den*b.den:=⟨_,rfl⟩
 rw[←hX,←hY,←hD] at hsum
 rw[←hD] at hdp
 rw[hsum]
 by_cases hq:qk a∧qk b
 ·obtain⟨qa,qb⟩:=hq
  obtain⟨a1,a2⟩:=Mm qa
  obtain⟨b1,b2⟩:=Mm qb
  have x1:X.natAbs<10 ^ 9*10 ^ 9:=by rw[hX];exact dM a1 (by simpa using b2)
  have y1:Y.natAbs<10 ^ 9*10 ^ 9:=by rw[hY];exact dM b1 (by simpa using a2)
  have d1:D<10 ^ 9*10 ^ 9:=by rw[hD];exact Nat.mul_lt_mul'' a2 b2
  have w1:IntKind.i64.wrap (a.num*(b.den:Int))=X:=by rw[←hX];exact ag (by omega) (by omega)
  have w2:IntKind.i64.wrap (b.num*(a.den:Int))=Y:=by rw[←hY];exact ag (by omega) (by omega)
  have w3:IntKind.i64.wrap (X+Y)=X+Y:=ag (by omega) (by omega)
  have w4:IntKind.i64.wrap ((a.den:Int)*(b.den:Int))=(D:Int):=by
   rw[←Int.natCast_mul,←hD];exact ag (by omega) (by omega)
  have c1:(X+Y).natAbs≤4611686018427387904:=by omega
  have c2:D≤4611686018427387904:=by omega
  simp[aa,hG,Tryz.f86,aW,ha0,hb0,ai,bj,aX,aC,la,lb,cN qa,cN qb,w1,w2,w3,w4,hdp,c1,c2]
 ·have s1:(au a.num.natAbs).length≤100000:=by have:=ha.1;omega
  have s2:(au a.den).length≤100000:=by have:=ha.2;omega
  have s3:(au b.num.natAbs).length≤100000:=by have:=hb.1;omega
  have s4:(au b.den).length≤100000:=by have:=hb.2;omega
  have x1:(au X.natAbs).length≤80000:=by rw[hX];exact JW ha hb
  have y1:(au Y.natAbs).length≤80000:=by rw[hY];exact JW hb ha
  have s5:(au X.natAbs).length≤100000:=by omega
  have s6:(au Y.natAbs).length≤100000:=by omega
  have s7:(au (X+Y).natAbs).length≤100000:=by
   have h1:=oK x1 y1
   have h2:=cv (Int.natAbs_add_le X Y)
   omega
  have s8:(au D).length≤100000:=by
   have:(au D).length≤80000:=by rw[hD];exact GQ ha hb
   omega
  have hdI:bE ((a.den:Int)*(b.den:Int))=au D:=by rw[←Int.natCast_mul,←hD];rfl
  by_cases qa:qk a
  ·have qb:¬qk b:=fun h=>hq ⟨qa,h⟩
   simp[aa,hG,Tryz.f86,aW,ha0,hb0,ai,bj,aX,bO,aC,aL,cX,cL,la,lb,cN qa,ja qb,s1,s2,s3,s4,←hX,←hY,s5,s6,s7,s8,hdI,hdp]
  ·simp[aa,hG,Tryz.f86,aW,ha0,hb0,ai,bj,aX,bO,aC,aL,cX,cL,la,lb,ja qa,s1,s2,s3,s4,←hX,←hY,s5,s6,s7,s8,hdI,hdp]
set_option maxHeartbeats 1600000 in
theorem KM(a b:Rat) (ha:ky a) (hb:ky b) (mem:Mem):
  ACallsTo Tryz.prog 47 [.str (aB a),.str (aB b)] mem (.str (aB (a*b))) mem:=by
 have hG:aN Tryz.prog 47=some Tryz.f47:=by kernel_rfl
 refine aq iw (lv:=fun _=>[]) (K:=1) rfl rfl ?_ mem
 have la:=ft ha
 have lb:=ft hb
 have z0:aB 0=[48]:=rfl
 have z1:aB 1=[49]:=rfl
 by_cases ha0:a=0
 ·subst ha0
  simp[aa,hG,Tryz.f47,z0,Rat.zero_mul]
 by_cases hb0:b=0
 ·subst hb0
  simp[aa,hG,Tryz.f47,z0,aW,ha0,Rat.mul_zero]
 by_cases ha1:a=1
 ·subst ha1
  simp[aa,hG,Tryz.f47,z1,aW,hb0,Rat.one_mul]
 by_cases hb1:b=1
 ·subst hb1
  simp[aa,hG,Tryz.f47,z1,aW,jZ,ha0,ha1,Rat.mul_one]
 have pa:=a.den_pos
 have pb:=b.den_pos
 have hdp:a.den*b.den≠0:=Nat.mul_ne_zero a.den_nz b.den_nz
 have hsum:=Rat.mul_def' a b
 obtain⟨X,hX⟩:∃X,X=a.num*b.num:=⟨_,rfl⟩
 obtain⟨D,hD⟩:∃D,D=a.den*b.den:=⟨_,rfl⟩
 rw[←hX,←hD] at hsum
 rw[←hD] at hdp
 rw[hsum]
 by_cases hq:qk a∧qk b
 ·obtain⟨qa,qb⟩:=hq
  obtain⟨a1,a2⟩:=Mm qa
  obtain⟨b1,b2⟩:=Mm qb
  have x1:X.natAbs<10 ^ 9*10 ^ 9:=by rw[hX];exact dM a1 b1
  have d1:D<10 ^ 9*10 ^ 9:=by rw[hD];exact Nat.mul_lt_mul'' a2 b2
  have w1:IntKind.i64.wrap (a.num*b.num)=X:=by rw[←hX];exact ag (by omega) (by omega)
  have w4:IntKind.i64.wrap ((a.den:Int)*(b.den:Int))=(D:Int):=by
   rw[←Int.natCast_mul,←hD];exact ag (by omega) (by omega)
  have c1:X.natAbs≤4611686018427387904:=by omega
  have c2:D≤4611686018427387904:=by omega
  simp[aa,hG,Tryz.f47,aW,jZ,ha0,hb0,ha1,hb1,ai,bj,aX,aC,la,lb,cN qa,cN qb,w1,w4,hdp,c1,c2]
 ·have s1:(au a.num.natAbs).length≤100000:=by have:=ha.1;omega
  have s2:(au a.den).length≤100000:=by have:=ha.2;omega
  have s3:(au b.num.natAbs).length≤100000:=by have:=hb.1;omega
  have s4:(au b.den).length≤100000:=by have:=hb.2;omega
  have x1:(au X.natAbs).length≤80000:=by rw[hX];exact NH ha hb
  have s5:(au X.natAbs).length≤100000:=by omega
  have s8:(au D).length≤100000:=by
   have:(au D).length≤80000:=by rw[hD];exact GQ ha hb
   omega
  have hdI:bE ((a.den:Int)*(b.den:Int))=au D:=by rw[←Int.natCast_mul,←hD];rfl
  by_cases qa:qk a
  ·have qb:¬qk b:=fun h=>hq ⟨qa,h⟩
   simp[aa,hG,Tryz.f47,aW,jZ,ha0,hb0,ha1,hb1,ai,bj,aX,bO,aC,aL,cX,cL,la,lb,cN qa,ja qb,s1,s2,s3,s4,←hX,s5,s8,hdI,hdp]
  ·simp[aa,hG,Tryz.f47,aW,jZ,ha0,hb0,ha1,hb1,ai,bj,aX,bO,aC,aL,cX,cL,la,lb,ja qa,s1,s2,s3,s4,←hX,s5,s8,hdI,hdp]
end Go.Proofs
