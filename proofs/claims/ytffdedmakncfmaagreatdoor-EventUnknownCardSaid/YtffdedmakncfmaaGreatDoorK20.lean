/- See K51. -/
import Derived.Test.YtffdedmakncfmaaGreatDoorK19
set_option linter.all false
namespace Go.Proofs
open Go.Eng
set_option maxHeartbeats 1600000 in
theorem KO(n:Int) (d:Nat) (hd:d≠0) (hn:(au n.natAbs).length≤10000) (hdl:(au d).length≤10000) (mem:Mem):
  ACallsTo Tryz.prog 113 [.str (bE n),.str (au d)] mem (.tuple [.str (aB (mkRat n d)),.int .i64 0]) mem:=by
 have hG:aN Tryz.prog 113=some Tryz.f113:=by kernel_rfl
 refine aq iw (lv:=fun _=>[]) (K:=1) rfl rfl ?_ mem
 have h1:jH (d:Int)=1:=Kg hd
 have h2:(au n.natAbs).length≤100000:=by omega
 have h3:(au d).length≤100000:=by omega
 simp[aa,hG,Tryz.f113,ai,bj,aX,bO,aF,aH,cX,cL,aL,h1,hd,h2,h3]
noncomputable def yv(f:FuncId) (args:List AV):Option AV:=
 match f,args with
 |113,[.str s,.str t]=>match jF s,vN t with
  |some n,some d=>if d≠0∧(au n.natAbs).length≤10000∧(au d).length≤10000 then some (.tuple [.str (aB (mkRat n d)),.int .i64 0]) else none
  |_,_=>none
 |f,args=>aP f args
theorem IH:OracleOk Tryz.prog (ai yv):=bM fun f args v h mem=>by
 unfold yv at h
 split at h
 ·split at h
  ·rename_i m n hm hn
   split at h
   ·rename_i hc;cases h;rw[cg hm,fK hn];exact KO m n hc.1 hc.2.1 hc.2.2 mem
   ·cases h
  ·cases h
 ·have:=cA.fn _ _ mem ⟨v,none,[]⟩ (by unfold ai;simp only;rw[h])
  simpa [CallRes.mem] using this
theorem eO{n:Nat}(h:n<10 ^ 19):(au n).length≤20:=by
 exact aK (by omega) (by omega)
theorem Dw(n:Int) (d:Nat) (hd:d≠0) (hn:dD n=true) (hdf:dD (d:Int)=true) (mem:Mem):
  ACallsTo Tryz.prog 66 [.int .i64 n,.int .i64 d] mem (.tuple [.str (aB (mkRat n d)),.int .i64 0]) mem:=by
 have hG:aN Tryz.prog 66=some Tryz.f66:=by kernel_rfl
 refine aq IH (lv:=fun _=>[]) (K:=1) rfl rfl ?_ mem
 have hb:n.natAbs<10 ^ 19:=by unfold dD at hn;simp at hn;omega
 have hb2:d<10 ^ 19:=by unfold dD at hdf;simp at hdf;omega
 have h2:(au n.natAbs).length≤10000:=by have:=eO hb;omega
 have h3:(au d).length≤10000:=by have:=eO hb2;omega
 have hi:bE (d:Int)=au d:=rfl
 simp[aa,hG,Tryz.f66,ai,yv,aP,aY,bj,aX,bO,aF,cL,aL,hn,hdf,hi,hd,h2,h3]
end Go.Proofs
namespace Go.Eng
theorem Bx{a:Int}{b:Nat}(hb:0<b) (h:0≤a∨a.natAbs%b=0):a.tdiv b=a / b∧a.tmod b=((a.natAbs%b:Nat):Int):=by
 by_cases h0:0≤a
 ·obtain⟨n,rfl⟩:∃n:Nat,a=n:=⟨a.toNat,by omega⟩
  rw[tI,tJ,Int.natAbs_natCast,Int.natCast_ediv]
  exact⟨rfl,rfl⟩
 ·have h1:a.natAbs%b=0:=by rcases h with h | h<;>omega
  have h2:a= -((a.natAbs / b*b:Nat):Int):=by
   have:=Nat.div_add_mod a.natAbs b
   rw[h1,Nat.add_zero,Nat.mul_comm] at this
   omega
  obtain⟨q,hq⟩:∃q,q=a.natAbs / b:=⟨_,rfl⟩
  rw[←hq] at h2
  rw[h1,h2,Int.natCast_mul,←Int.neg_mul]
  have hb' :(b:Int)≠0:=by omega
  exact⟨by rw[Int.mul_tdiv_cancel _ hb',Int.mul_ediv_cancel _ hb'],by rw[Int.mul_tmod_left];rfl⟩
end Go.Eng
namespace Go.Proofs
open Go.Eng
theorem Aw{O:Oracle}{K:Nat}(n m:Int) (hK:m.natAbs<K) {b:Code}(hb:aj Tryz.f77=[b]):
  ∃F:Env→Bool→Env,∀env0 d,(ab env0 5=.int .i64 n∧ab env0 6=.int .i64 m)→
   aU (aO Tryz.prog) (fun _=>[5,6]) O K 36 0 true (.loop b) ⟨env0,[],d⟩=some (.exit 0,⟨F env0 d,[],d⟩)∧(ab (F env0 d) 5=.int .i64 (euc K n m)∧ab (F env0 d) 0=ab env0 0∧ab (F env0 d) 1=ab env0 1∧ab (F env0 d) 4=ab env0 4):=by
 refine bp rfl (fun env0=>ab env0 5=.int .i64 n∧ab env0 6=.int .i64 m) (fun env0 env' =>ab env' 5=.int .i64 (euc K n m)∧ab env' 0=ab env0 0∧ab env' 1=ab env0 1∧ab env' 4=ab env0 4) ?_
 rintro env0 d ⟨h5,h6⟩
 have hn:az [5,6] (ad b) env0 ((5,.int .i64 n)::(6,.int .i64 m)::env0)=az [5,6] (ad b) env0 env0:=by simp[az,h5,h6]
 rw[←hn]
 have key:∀(k:Nat) (x y:Int),y.natAbs<k→∃env',fA [5,6] (ad b) env0 0 (aU (aO Tryz.prog) (fun _=>[5,6]) O K 36 0 true b) k ⟨az [5,6] (ad b) env0 ((5,.int .i64 x)::(6,.int .i64 y)::env0),[],d⟩=
   some (.exit 0,⟨env',[],d⟩)∧ab env' 5=.int .i64 (euc k x y)∧ab env' 0=ab env0 0∧ab env' 1=ab env0 1∧ab env' 4=ab env0 4:=by
  clear hn
  simp[aj,aM,Tryz.f77] at hb
  intro k
  induction k with
  |zero=>intro x y h;omega
  |succ k ih=>
   intro x y hk
   by_cases hy:y=0
   ·subst hb
    subst hy
    simp[fA,euc]
   ·have hlt:(x.tmod y).natAbs<k:=by
     rw[Int.natAbs_tmod]
     have:=Nat.mod_lt x.natAbs (show 0<y.natAbs by omega)
     omega
    obtain⟨env',e1,e2,e4⟩:=ih y (x.tmod y) hlt
    subst hb
    refine⟨env',?_,by rw[e2,euc,if_neg hy],e4⟩
    rw[fA]
    simp[hy]
    simp at e1
    exact e1
 exact key K n m hK
theorem BI(n:Int) (m:Nat) (hn:n.natAbs≤4611686018427387904) (hm0:m≠0) (hm:m≤4611686018427387904) (mem:Mem):ACallsTo Tryz.prog 77 [.int .i64 n,.int .i64 m] mem (.str (aB (mkRat n m))) mem:=by
 have hG:aN Tryz.prog 77=some Tryz.f77:=by kernel_rfl
 refine aq dc (lv:=fun _=>[5,6]) (K:=m+1) rfl rfl ?_ mem
 obtain⟨b,hb⟩:∃b,aj Tryz.f77=[b]:=⟨_,rfl⟩
 obtain⟨N,hN⟩:∃N:Nat,N=n.natAbs:=⟨_,rfl⟩
 obtain⟨F,hF⟩:=Aw (O:=ai ao) (K:=m+1) (N:Int) (m:Int) (by simp) hb
 simp[aj,aM,Tryz.f77] at hb
 subst hb
 rw[uV n hm0,←hN]
 have hgE:∀k (x y:Nat),0≤euc k (x:Int) (y:Int):=by
  intro k
  induction k with
  |zero=>intro x y;unfold euc;omega
  |succ k ih=>
   intro x y
   unfold euc
   split
   ·omega
   ·rw[tJ];exact ih y (x%y)
 have hg:=pL (m+1) (N:Int) (m:Int) (by simp)
 have hg0:=hgE (m+1) N m
 generalize euc (m+1) (N:Int) (m:Int)=gz at hF hg hg0
 rw[Int.natAbs_natCast,Int.natAbs_natCast] at hg
 obtain⟨g,rfl⟩:∃g:Nat,gz=g:=⟨gz.toNat,by omega⟩
 rw[Int.natAbs_natCast] at hg
 rw[←hg]
 have hgp:0<g:=by rw[hg];exact Nat.gcd_pos_of_pos_right _ (by omega)
 have hgn:g∣N:=by rw[hg];exact Nat.gcd_dvd_left _ _
 have hgd:g∣m:=by rw[hg];exact Nat.gcd_dvd_right _ _
 have hgm:g≤m:=Nat.le_of_dvd (by omega) hgd
 have te:=Bx (a:=n) hgp (.inr (by rw[←hN];exact Nat.mod_eq_zero_of_dvd hgn))
 have hq1:(n / (g:Int)).natAbs≤n.natAbs:=Int.natAbs_ediv_le_natAbs _ _
 obtain⟨Z,hZ⟩:∃Z,Z=n / (g:Int):=⟨_,rfl⟩
 rw[←hZ] at hq1 te ⊢
 obtain⟨D,hD⟩:∃D,D=m / g:=⟨_,rfl⟩
 have hDm:D≤m:=by rw[hD];exact Nat.div_le_self _ _
 rw[←hD]
 have w0:IntKind.i64.wrap (-n)= -n:=ag (by omega) (by omega)
 have hmax:(if n< -n then -n else n)=(N:Int):=by split<;>omega
 have hmax' :(if -n<n then n else -n)=(N:Int):=by split<;>omega
 have w1:IntKind.i64.wrap (n.tdiv (g:Int))=Z:=by rw[te.1];exact ag (by omega) (by omega)
 have w1' :IntKind.i64.wrap Z=Z:=ag (by omega) (by omega)
 have w2:IntKind.i64.wrap ((m:Int).tdiv (g:Int))=(D:Int):=by rw[tI,←hD];exact ag (by omega) (by omega)
 have w2' :IntKind.i64.wrap ((m:Int) / (g:Int))=(D:Int):=by rw[←Int.natCast_ediv,←hD];exact ag (by omega) (by omega)
 have hf1:dD Z=true:=by unfold dD;simp;omega
 have hf2:dD (D:Int)=true:=by unfold dD;simp;omega
 have hDs:bE (D:Int)=au D:=rfl
 have hg0' :¬g=0:=by omega
 have lZ:(bE Z).length+1≤gE∧(bE Z).length+1+(au D).length≤gE:=by
  have h1:=cm Z
  have h2:=aK (u:=Z.natAbs) (k:=20) (by omega) (by omega)
  have h3:=aK (u:=D) (k:=20) (by omega) (by omega)
  unfold gE;omega
 obtain⟨l1,l2⟩:=lZ
 by_cases hm1:m=1
 ·have hg1:g=1:=by omega
  have hD1:D=1:=by rw[hD,hm1,hg1]
  have hZn:Z=n:=by rw[hZ,hg1];exact Int.ediv_one n
  have hfn:dD n=true:=by rw[←hZn];exact hf1
  subst hm1
  rw[if_pos hD1,hZn]
  simp[aa,hG,Tryz.f77,ai,ao,hfn]
 ·have hm1I:¬(m:Int)=1:=by omega
  by_cases hD1:D=1
  ·have hD1I:(D:Int)=1:=by omega
   rw[if_pos hD1]
   simp[aa,hG,Tryz.f77,hm1I,w0,hmax,hF,hg0',te,w1',w2',hD1I,ai,ao,hf1,Nat.testBit]
  ·have hD1I:¬(D:Int)=1:=by omega
   rw[if_neg hD1]
   simp[aa,hG,Tryz.f77,hm1I,w0,hmax,hF,hg0',te,w1',w2',hD1I,ai,ao,hf1,hf2,hDs,l1,l2,Nat.testBit]
theorem wL{O:Oracle}{K:Nat}(n m:Int) (hK:m.natAbs<K) {b:Code}(hb:aj Tryz.f117=[b]):
  ∃F:Env→Bool→Env,∀env0 d,(ab env0 9=.int .i64 n∧ab env0 10=.int .i64 m)→
   aU (aO Tryz.prog) (fun _=>[9,10]) O K 55 0 true (.loop b) ⟨env0,[],d⟩=some (.exit 0,⟨F env0 d,[],d⟩)∧(ab (F env0 d) 9=.int .i64 (euc K n m)∧ab (F env0 d) 5=ab env0 5∧ab (F env0 d) 7=ab env0 7∧ab (F env0 d) 4=ab env0 4):=by
 refine bp rfl (fun env0=>ab env0 9=.int .i64 n∧ab env0 10=.int .i64 m) (fun env0 env' =>ab env' 9=.int .i64 (euc K n m)∧ab env' 5=ab env0 5∧ab env' 7=ab env0 7∧ab env' 4=ab env0 4) ?_
 rintro env0 d ⟨h5,h6⟩
 have hn:az [9,10] (ad b) env0 ((9,.int .i64 n)::(10,.int .i64 m)::env0)=az [9,10] (ad b) env0 env0:=by simp[az,h5,h6]
 rw[←hn]
 have key:∀(k:Nat) (x y:Int),y.natAbs<k→∃env',fA [9,10] (ad b) env0 0 (aU (aO Tryz.prog) (fun _=>[9,10]) O K 55 0 true b) k ⟨az [9,10] (ad b) env0 ((9,.int .i64 x)::(10,.int .i64 y)::env0),[],d⟩=
   some (.exit 0,⟨env',[],d⟩)∧ab env' 9=.int .i64 (euc k x y)∧ab env' 5=ab env0 5∧ab env' 7=ab env0 7∧ab env' 4=ab env0 4:=by
  clear hn
  simp[aj,aM,Tryz.f117] at hb
  intro k
  induction k with
  |zero=>intro x y h;omega
  |succ k ih=>
   intro x y hk
   by_cases hy:y=0
   ·subst hb
    subst hy
    simp[fA,euc]
   ·have hlt:(x.tmod y).natAbs<k:=by
     rw[Int.natAbs_tmod]
     have:=Nat.mod_lt x.natAbs (show 0<y.natAbs by omega)
     omega
    obtain⟨env',e1,e2,e4⟩:=ih y (x.tmod y) hlt
    subst hb
    refine⟨env',?_,by rw[e2,euc,if_neg hy],e4⟩
    rw[fA]
    simp[hy]
    simp at e1
    exact e1
 exact key K n m hK
theorem LW:∀(k x y:Nat),0≤euc k (x:Int) (y:Int):=by
 intro k
 induction k with
 |zero=>intro x y;unfold euc;omega
 |succ k ih=>
  intro x y
  unfold euc
  split
  ·omega
  ·rw[tJ];exact ih y (x%y)
theorem DA(n:Int) (m:Nat) (hm0:m≠0) (hl1:(bE n).length≤18) (hl2:(au m).length≤18) (mem:Mem):ACallsTo Tryz.prog 117 [.str (bE n),.str (au m)] mem (.str (aB (mkRat n m))) mem:=by
 have hG:aN Tryz.prog 117=some Tryz.f117:=by kernel_rfl
 have hn:=gQ hl1
 have hm:m<10 ^ 18:=by
  have h1:=cn m
  have h2:10 ^ (au m).length≤10 ^ 18:=Nat.pow_le_pow_right (by omega) hl2
  omega
 refine aq dc (lv:=fun _=>[9,10]) (K:=m+1) rfl rfl ?_ mem
 obtain⟨b,hb⟩:∃b,aj Tryz.f117=[b]:=⟨_,rfl⟩
 obtain⟨N,hN⟩:∃N:Nat,N=n.natAbs:=⟨_,rfl⟩
 rw[←hN] at hn
 obtain⟨F,hF⟩:=wL (O:=ai ao) (K:=m+1) (N:Int) (m:Int) (by simp) hb
 simp[aj,aM,Tryz.f117] at hb
 subst hb
 rw[uV n hm0,←hN]
 have hg:=pL (m+1) (N:Int) (m:Int) (by simp)
 have hg0:=LW (m+1) N m
 generalize euc (m+1) (N:Int) (m:Int)=gz at hF hg hg0
 rw[Int.natAbs_natCast,Int.natAbs_natCast] at hg
 obtain⟨g,rfl⟩:∃g:Nat,gz=g:=⟨gz.toNat,by omega⟩
 rw[Int.natAbs_natCast] at hg
 rw[←hg]
 have hgp:0<g:=by rw[hg];exact Nat.gcd_pos_of_pos_right _ (by omega)
 have hgn:g∣N:=by rw[hg];exact Nat.gcd_dvd_left _ _
 have te:=Bx (a:=n) hgp (.inr (by rw[←hN];exact Nat.mod_eq_zero_of_dvd hgn))
 have hq1:(n / (g:Int)).natAbs≤n.natAbs:=Int.natAbs_ediv_le_natAbs _ _
 obtain⟨Z,hZ⟩:∃Z,Z=n / (g:Int):=⟨_,rfl⟩
 rw[←hZ] at hq1 te ⊢
 obtain⟨D,hD⟩:∃D,D=m / g:=⟨_,rfl⟩
 have hDm:D≤m:=by rw[hD];exact Nat.div_le_self _ _
 rw[←hD]
 have w1:IntKind.i64.wrap (n.tdiv (g:Int))=Z:=by rw[te.1];exact ag (by omega) (by omega)
 have w1' :IntKind.i64.wrap Z=Z:=ag (by omega) (by omega)
 have w2:IntKind.i64.wrap ((m:Int).tdiv (g:Int))=(D:Int):=by rw[tI,←hD];exact ag (by omega) (by omega)
 have w2' :IntKind.i64.wrap ((m:Int) / (g:Int))=(D:Int):=by rw[←Int.natCast_ediv,←hD];exact ag (by omega) (by omega)
 have hf1:dD Z=true:=by unfold dD;simp;omega
 have hf2:dD (D:Int)=true:=by unfold dD;simp;omega
 have hDs:bE (D:Int)=au D:=rfl
 have hg0' :¬g=0:=by omega
 have lZ:(bE Z).length+1≤gE∧(bE Z).length+1+(au D).length≤gE:=by
  have h1:=cm Z
  have h2:=aK (u:=Z.natAbs) (k:=20) (by omega) (by omega)
  have h3:=aK (u:=D) (k:=20) (by omega) (by omega)
  unfold gE;omega
 obtain⟨l1,l2⟩:=lZ
 have ha2:Lib.atoi (au m)=some (m:Int):=kI (m:Int)
 have hmn:¬(m:Int)<0:=by omega
 have w0:IntKind.i64.wrap (-n)= -n:=ag (by omega) (by omega)
 have hneg:n<0→ -n=(N:Int):=by omega
 have hpos:¬n<0→n=(N:Int):=by omega
 by_cases h0:n<0
 ·have w0' :IntKind.i64.wrap (-n)=(N:Int):=by rw[w0];exact hneg h0
  by_cases hD1:D=1
  ·have hD1I:(D:Int)=1:=by omega
   rw[if_pos hD1]
   simp[aa,hG,Tryz.f117,ai,ao,hl1,hl2,kI,ha2,hmn,h0,w0',hF,hg0',te,w1',w2',hD1I,hf1,Nat.testBit]
  ·have hD1I:¬(D:Int)=1:=by omega
   rw[if_neg hD1]
   simp[aa,hG,Tryz.f117,ai,ao,hl1,hl2,kI,ha2,hmn,h0,w0',hF,hg0',te,w1',w2',hD1I,hf1,hf2,hDs,l1,l2,Nat.testBit]
 ·have e:=hpos h0
  rw[←e] at hF
  by_cases hD1:D=1
  ·have hD1I:(D:Int)=1:=by omega
   rw[if_pos hD1]
   simp[aa,hG,Tryz.f117,ai,ao,hl1,hl2,kI,ha2,hmn,h0, hF,hg0',te,w1',w2',hD1I,hf1,Nat.testBit]
  ·have hD1I:¬(D:Int)=1:=by omega
   rw[if_neg hD1]
   simp[aa,hG,Tryz.f117,ai,ao,hl1,hl2,kI,ha2,hmn,h0, hF,hg0',te,w1',w2',hD1I,hf1,hf2,hDs,l1,l2,Nat.testBit]
end Go.Proofs
