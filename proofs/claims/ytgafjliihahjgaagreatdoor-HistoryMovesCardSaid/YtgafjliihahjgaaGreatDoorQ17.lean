/- See Q54. -/
import Derived.Test.YtgafjliihahjgaaGreatDoorQ14
import Derived.Test.YtgafjliihahjgaaGreatDoorQ16
set_option linter.all false
namespace Go.Proofs
open Go.Eng
noncomputable def ym(f:FuncId) (args:List AV):Option AV:=
 match f,args with
 |221,[.str s,.int .i64 b,.int .i64 w]=>if s≠[]∧s.all isD=true∧s.length≤18∧b=10∧w=64 then some (.tuple [.int .u64 (jK s:Nat),.nilIface]) else none
 |228,[.int .u64 u,.int .i64 b]=>if 0≤u∧u≤18446744073709551615∧b=10 then some (.str (aJ u.toNat)) else none
 |f,args=>aO f args
theorem Jx:OracleOk Tryz.prog (af ym):=bq fun f args v h mem=>by
 unfold ym at h;split at h
 ·split at h
  ·rename_i hc
   obtain⟨h1,h2,h3,rfl,rfl⟩:=hc;cases h;exact xL _ h1 h2 h3 mem
  ·cases h
 ·split at h
  ·rename_i hc
   obtain⟨h1,h2,rfl⟩:=hc;cases h;have hd:=(Int.toNat_lt h1).2 (show _<((18446744073709551616:Nat):Int) by omega);have:=vQ _ hd mem;rw[Int.toNat_of_nonneg h1] at this;exact this
  ·cases h
 ·have:=dq.fn _ _ mem ⟨v,none,[]⟩ (by unfold af;simp only;rw[h])
  simpa [CallRes.mem] using this
noncomputable def lk:Oracle:=fun c args M=>match c,args with
 |.fn 266,[.ptr b 0]=>match M[b]? with
  |some (.cells true es [.nilptr,sl])=>if es=lT then some ⟨.tuple [],some (M.set b (.cells true lT [.ptr b 0,sl])),[]⟩ else none
  |some (.cells true es [.ptr b' 0,_])=>if es=lT∧b' =b then some ⟨.tuple [],none,[]⟩ else none
  |_=>none
 |_,_=>none
theorem B8:OracleOk Tryz.prog lk where
 fn f args mem r h:=by
  unfold lk at h;split at h
  ·rename_i heq
   cases heq;split at h
   ·rename_i b _ es sl hb
    split at h
    ·rename_i he
     cases h;subst he;simpa [CallRes.mem] using nv mem b sl hb
    ·cases h
   ·rename_i b _ es b' sl hb
    split at h
    ·rename_i he
     cases h;obtain⟨rfl,rfl⟩:=he;simpa [CallRes.mem] using pJ mem _ _ hb
    ·cases h
   ·cases h
  ·cases h
 yld b args mem r h:=by unfold lk at h;split at h<;>simp_all
 pre c args mem r p h hp:=by
  unfold lk at h;split at h
  ·split at h
   ·split at h
    ·cases h;cases hp;simp
    ·cases h
   ·split at h
    ·cases h;cases hp
    ·cases h
   ·cases h
  ·cases h
noncomputable def CE:Oracle:=Oracle.or lk (af ym)
theorem yn:OracleOk Tryz.prog CE:=OracleOk.or B8 Jx
def TJ(q:List UInt8) (r:CallRes):Bool:=match r.v with
 |.tuple [.str s,.int .i64 0]=>s==q&&(match r.pre with | some p=>p.isEmpty | none=>true)&&r.new.isEmpty
 |_=>false
theorem PB{q:List UInt8}{r:CallRes}(h:TJ q r=true):r.v=.tuple [.str q,.int .i64 0]∧r.mem []=[]:=by
 obtain⟨v,pre,new⟩:=r;unfold TJ at h;simp only at h;split at h
 ·rename_i s
  simp only[Bool.and_eq_true,beq_iff_eq,List.isEmpty_iff] at h;obtain⟨⟨rfl,h1⟩,rfl⟩:=h;refine⟨rfl,?_⟩;cases pre with
  |none=>rfl
  |some p=>
   simp only[List.isEmpty_iff] at h1;subst h1;rfl
 ·cases h
noncomputable def o7(n:Int) (d:Nat):Bool:=match pM (aM Tryz.prog) ad (aL Tryz.prog) CE 60 30 (.fn 56) [.int .i64 n,.int .i64 d] [] with
 |some r=>TJ (ah (mkRat n d)) r
 |none=>false
theorem Qu:(List.range 21).all (fun k=>o7 ((k:Int)-7) 1)=true:=by kernel_rfl
theorem Qv:(List.range 21).all (fun k=>o7 ((k:Int)-7) 2)=true:=by kernel_rfl
theorem NG(n:Int) (d:Nat) (hd:d=1∨d=2) (h0: -7≤n) (h1:n≤13) (mem:Mem):
  ACallsTo Tryz.prog 56 [.int .i64 n,.int .i64 d] mem (.tuple [.str (ah (mkRat n d)),.int .i64 0]) mem:=by
 have h:o7 n d=true:=by
  have e:(((n+7).toNat:Nat)-7:Int)=n:=by omega
  rcases hd with rfl | rfl
  ·have:=List.all_eq_true.1 Qu (n+7).toNat (List.mem_range.2 (by omega));rwa [e] at this
  ·have:=List.all_eq_true.1 Qv (n+7).toNat (List.mem_range.2 (by omega));rwa [e] at this
 unfold o7 at h;split at h
 ·rename_i r hr
  obtain⟨e1,e2⟩:=PB h;have:=(fI ae (aw _) (az _) yn 30).fn _ _ _ _ hr;rw[e1,e2] at this;exact ACallsTo.lift rfl rfl this mem
 ·cases h
end Go.Proofs
namespace Go.Eng
theorem BK{a:Int}{b:Nat}(hb:0<b) (h:0≤a∨a.natAbs%b=0):a.tdiv b=a / b∧a.tmod b=((a.natAbs%b:Nat):Int):=by
 by_cases h0:0≤a
 ·obtain⟨n,rfl⟩:∃n:Nat,a=n:=⟨a.toNat,by omega⟩
  rw[Dz,xo,Int.natAbs_natCast,Int.natCast_ediv];exact⟨rfl,rfl⟩
 ·have h1:a.natAbs%b=0:=by rcases h with h | h<;>omega
  have h2:a= -((a.natAbs / b*b:Nat):Int):=by have:=Nat.div_add_mod a.natAbs b;rw[h1,Nat.add_zero,Nat.mul_comm] at this;omega
  obtain⟨q,hq⟩:∃q,q=a.natAbs / b:=⟨_,rfl⟩
  rw[←hq] at h2;rw[h1,h2,Int.natCast_mul,←Int.neg_mul];have hb' :(b:Int)≠0:=by omega
  exact⟨by rw[Int.mul_tdiv_cancel _ hb',Int.mul_ediv_cancel _ hb'],by rw[Int.mul_tmod_left];rfl⟩
end Go.Eng
namespace Go.Proofs
open Go.Eng
theorem Ao{O:Oracle}{K:Nat}(n m:Int) (hK:m.natAbs<K) {b:Code}(hb:ax Tryz.f129=[b]):
  ∃F:Env→Bool→Env,∀env0 d,(ab env0 5=.int .i64 n∧ab env0 6=.int .i64 m)→
   aT (aM Tryz.prog) (fun _=>[5,6]) O K 36 0 true (.loop b) ⟨env0,[],d⟩=some (.exit 0,⟨F env0 d,[],d⟩)∧(ab (F env0 d) 5=.int .i64 (euc K n m)∧ab (F env0 d) 0=ab env0 0∧ab (F env0 d) 1=ab env0 1∧ab (F env0 d) 4=ab env0 4):=by
 refine cg rfl (fun env0=>ab env0 5=.int .i64 n∧ab env0 6=.int .i64 m) (fun env0 env' =>ab env' 5=.int .i64 (euc K n m)∧ab env' 0=ab env0 0∧ab env' 1=ab env0 1∧ab env' 4=ab env0 4) ?_;rintro env0 d ⟨h5,h6⟩;have hn:aI [5,6] (ad b) env0 ((5,.int .i64 n)::(6,.int .i64 m)::env0)=aI [5,6] (ad b) env0 env0:=by simp[aI,h5,h6]
 rw[←hn];have key:∀(k:Nat) (x y:Int),y.natAbs<k→∃env',dV [5,6] (ad b) env0 0 (aT (aM Tryz.prog) (fun _=>[5,6]) O K 36 0 true b) k ⟨aI [5,6] (ad b) env0 ((5,.int .i64 x)::(6,.int .i64 y)::env0),[],d⟩=
   some (.exit 0,⟨env',[],d⟩)∧ab env' 5=.int .i64 (euc k x y)∧ab env' 0=ab env0 0∧ab env' 1=ab env0 1∧ab env' 4=ab env0 4:=by
  clear hn;simp[ax,aV,Tryz.f129] at hb;intro k;induction k with
  |zero=>intro x y h;omega
  |succ k ih=>
   intro x y hk;by_cases hy:y=0
   ·subst hb
    subst hy;simp[dV,euc]
   ·have hlt:(x.tmod y).natAbs<k:=by rw[Int.natAbs_tmod];have:=Nat.mod_lt x.natAbs (show 0<y.natAbs by omega);omega
    obtain⟨env',e1,e2,e4⟩:=ih y (x.tmod y) hlt;subst hb;refine⟨env',?_,by rw[e2,euc,if_neg hy],e4⟩;rw[dV];simp[hy];simp at e1;exact e1
 exact key K n m hK
theorem B0(n:Int) (m:Nat) (hn:n.natAbs≤4611686018427387904) (hm0:m≠0) (hm:m≤4611686018427387904) (mem:Mem):ACallsTo Tryz.prog 129 [.int .i64 n,.int .i64 m] mem (.str (ah (mkRat n m))) mem:=by
 have hG:aL Tryz.prog 129=some Tryz.f129:=by kernel_rfl
 refine aq dq (lv:=fun _=>[5,6]) (K:=m+1) rfl rfl ?_ mem;obtain⟨b,hb⟩:∃b,ax Tryz.f129=[b]:=⟨_,rfl⟩
 obtain⟨N,hN⟩:∃N:Nat,N=n.natAbs:=⟨_,rfl⟩
 obtain⟨F,hF⟩:=Ao (O:=af aO) (K:=m+1) (N:Int) (m:Int) (by simp) hb;simp[ax,aV,Tryz.f129] at hb;subst hb;rw[uF n hm0,←hN];have hgE:∀k (x y:Nat),0≤euc k (x:Int) (y:Int):=by
  intro k;induction k with
  |zero=>intro x y;unfold euc;omega
  |succ k ih=>
   intro x y;unfold euc;split
   ·omega
   ·rw[xo];exact ih y (x%y)
 have hg:=pj (m+1) (N:Int) (m:Int) (by simp);have hg0:=hgE (m+1) N m;generalize euc (m+1) (N:Int) (m:Int)=gz at hF hg hg0;rw[Int.natAbs_natCast,Int.natAbs_natCast] at hg;obtain⟨g,rfl⟩:∃g:Nat,gz=g:=⟨gz.toNat,by omega⟩
 rw[Int.natAbs_natCast] at hg;rw[←hg];have hgp:0<g:=by rw[hg];exact Nat.gcd_pos_of_pos_right _ (by omega)
 have hgn:g∣N:=by rw[hg];exact Nat.gcd_dvd_left _ _
 have hgd:g∣m:=by rw[hg];exact Nat.gcd_dvd_right _ _
 have hgm:g≤m:=Nat.le_of_dvd (by omega) hgd;have te:=BK (a:=n) hgp (.inr (by rw[←hN];exact Nat.mod_eq_zero_of_dvd hgn));have hq1:(n / (g:Int)).natAbs≤n.natAbs:=Int.natAbs_ediv_le_natAbs _ _;obtain⟨Z,hZ⟩:∃Z,Z=n / (g:Int):=⟨_,rfl⟩
 rw[←hZ] at hq1 te ⊢;obtain⟨D,hD⟩:∃D,D=m / g:=⟨_,rfl⟩
 have hDm:D≤m:=by rw[hD];exact Nat.div_le_self _ _
 rw[←hD];have w0:IntKind.i64.wrap (-n)= -n:=aj (by omega) (by omega);have hmax:(if n< -n then -n else n)=(N:Int):=by split<;>omega
 have hmax' :(if -n<n then n else -n)=(N:Int):=by split<;>omega
 have w1:IntKind.i64.wrap (n.tdiv (g:Int))=Z:=by rw[te.1];exact aj (by omega) (by omega)
 have w1' :IntKind.i64.wrap Z=Z:=aj (by omega) (by omega);have w2:IntKind.i64.wrap ((m:Int).tdiv (g:Int))=(D:Int):=by rw[Dz,←hD];exact aj (by omega) (by omega)
 have w2' :IntKind.i64.wrap ((m:Int) / (g:Int))=(D:Int):=by rw[←Int.natCast_ediv,←hD];exact aj (by omega) (by omega)
 have hf1:de Z=true:=by unfold de;simp;omega
 have hf2:de (D:Int)=true:=by unfold de;simp;omega
 have hDs:bT (D:Int)=aJ D:=rfl;have hg0' :¬g=0:=by omega
 have lZ:(bT Z).length+1≤fx∧(bT Z).length+1+(aJ D).length≤fx:=by have h1:=ef Z;have h2:=bf (u:=Z.natAbs) (k:=20) (by omega) (by omega);have h3:=bf (u:=D) (k:=20) (by omega) (by omega);unfold fx;omega
 obtain⟨l1,l2⟩:=lZ;by_cases hm1:m=1
 ·have hg1:g=1:=by omega
  have hD1:D=1:=by rw[hD,hm1,hg1]
  have hZn:Z=n:=by rw[hZ,hg1];exact Int.ediv_one n
  have hfn:de n=true:=by rw[←hZn];exact hf1
  subst hm1;rw[if_pos hD1,hZn];simp[aa,hG,Tryz.f129,af,aO,hfn]
 ·have hm1I:¬(m:Int)=1:=by omega
  by_cases hD1:D=1
  ·have hD1I:(D:Int)=1:=by omega
   rw[if_pos hD1];simp[aa,hG,Tryz.f129,hm1I,w0,hmax,hF,hg0',te,w1',w2',hD1I,af,aO,hf1,Nat.testBit]
  ·have hD1I:¬(D:Int)=1:=by omega
   rw[if_neg hD1];simp[aa,hG,Tryz.f129,hm1I,w0,hmax,hF,hg0',te,w1',w2',hD1I,af,aO,hf1,hf2,hDs,l1,l2,Nat.testBit]
theorem wB{O:Oracle}{K:Nat}(n m:Int) (hK:m.natAbs<K) {b:Code}(hb:ax Tryz.f99=[b]):
  ∃F:Env→Bool→Env,∀env0 d,(ab env0 9=.int .i64 n∧ab env0 10=.int .i64 m)→
   aT (aM Tryz.prog) (fun _=>[9,10]) O K 55 0 true (.loop b) ⟨env0,[],d⟩=some (.exit 0,⟨F env0 d,[],d⟩)∧(ab (F env0 d) 9=.int .i64 (euc K n m)∧ab (F env0 d) 5=ab env0 5∧ab (F env0 d) 7=ab env0 7∧ab (F env0 d) 4=ab env0 4):=by
 refine cg rfl (fun env0=>ab env0 9=.int .i64 n∧ab env0 10=.int .i64 m) (fun env0 env' =>ab env' 9=.int .i64 (euc K n m)∧ab env' 5=ab env0 5∧ab env' 7=ab env0 7∧ab env' 4=ab env0 4) ?_;rintro env0 d ⟨h5,h6⟩;have hn:aI [9,10] (ad b) env0 ((9,.int .i64 n)::(10,.int .i64 m)::env0)=aI [9,10] (ad b) env0 env0:=by simp[aI,h5,h6]
 rw[←hn];have key:∀(k:Nat) (x y:Int),y.natAbs<k→∃env',dV [9,10] (ad b) env0 0 (aT (aM Tryz.prog) (fun _=>[9,10]) O K 55 0 true b) k ⟨aI [9,10] (ad b) env0 ((9,.int .i64 x)::(10,.int .i64 y)::env0),[],d⟩=
   some (.exit 0,⟨env',[],d⟩)∧ab env' 9=.int .i64 (euc k x y)∧ab env' 5=ab env0 5∧ab env' 7=ab env0 7∧ab env' 4=ab env0 4:=by
  clear hn;simp[ax,aV,Tryz.f99] at hb;intro k;induction k with
  |zero=>intro x y h;omega
  |succ k ih=>
   intro x y hk;by_cases hy:y=0
   ·subst hb
    subst hy;simp[dV,euc]
   ·have hlt:(x.tmod y).natAbs<k:=by rw[Int.natAbs_tmod];have:=Nat.mod_lt x.natAbs (show 0<y.natAbs by omega);omega
    obtain⟨env',e1,e2,e4⟩:=ih y (x.tmod y) hlt;subst hb;refine⟨env',?_,by rw[e2,euc,if_neg hy],e4⟩;rw[dV];simp[hy];simp at e1;exact e1
 exact key K n m hK
theorem MO:∀(k x y:Nat),0≤euc k (x:Int) (y:Int):=by
 intro k;induction k with
 |zero=>intro x y;unfold euc;omega
 |succ k ih=>
  intro x y;unfold euc;split
  ·omega
  ·rw[xo];exact ih y (x%y)
theorem Ei(n:Int) (m:Nat) (hm0:m≠0) (hl1:(bT n).length≤18) (hl2:(aJ m).length≤18) (mem:Mem):ACallsTo Tryz.prog 99 [.str (bT n),.str (aJ m)] mem (.str (ah (mkRat n m))) mem:=by
 have hG:aL Tryz.prog 99=some Tryz.f99:=by kernel_rfl
 have hn:=ux hl1;have hm:m<10 ^ 18:=by have h1:=dJ m;have h2:10 ^ (aJ m).length≤10 ^ 18:=Nat.pow_le_pow_right (by omega) hl2;omega
 refine aq dq (lv:=fun _=>[9,10]) (K:=m+1) rfl rfl ?_ mem;obtain⟨b,hb⟩:∃b,ax Tryz.f99=[b]:=⟨_,rfl⟩
 obtain⟨N,hN⟩:∃N:Nat,N=n.natAbs:=⟨_,rfl⟩
 rw[←hN] at hn;obtain⟨F,hF⟩:=wB (O:=af aO) (K:=m+1) (N:Int) (m:Int) (by simp) hb;simp[ax,aV,Tryz.f99] at hb;subst hb;rw[uF n hm0,←hN];have hg:=pj (m+1) (N:Int) (m:Int) (by simp);have hg0:=MO (m+1) N m;generalize euc (m+1) (N:Int) (m:Int)=gz at hF hg hg0;rw[Int.natAbs_natCast,Int.natAbs_natCast] at hg;obtain⟨g,rfl⟩:∃g:Nat,gz=g:=⟨gz.toNat,by omega⟩
 rw[Int.natAbs_natCast] at hg;rw[←hg];have hgp:0<g:=by rw[hg];exact Nat.gcd_pos_of_pos_right _ (by omega)
 have hgn:g∣N:=by rw[hg];exact Nat.gcd_dvd_left _ _
 have te:=BK (a:=n) hgp (.inr (by rw[←hN];exact Nat.mod_eq_zero_of_dvd hgn));have hq1:(n / (g:Int)).natAbs≤n.natAbs:=Int.natAbs_ediv_le_natAbs _ _;obtain⟨Z,hZ⟩:∃Z,Z=n / (g:Int):=⟨_,rfl⟩
 rw[←hZ] at hq1 te ⊢;obtain⟨D,hD⟩:∃D,D=m / g:=⟨_,rfl⟩
 have hDm:D≤m:=by rw[hD];exact Nat.div_le_self _ _
 rw[←hD];have w1:IntKind.i64.wrap (n.tdiv (g:Int))=Z:=by rw[te.1];exact aj (by omega) (by omega)
 have w1' :IntKind.i64.wrap Z=Z:=aj (by omega) (by omega);have w2:IntKind.i64.wrap ((m:Int).tdiv (g:Int))=(D:Int):=by rw[Dz,←hD];exact aj (by omega) (by omega)
 have w2' :IntKind.i64.wrap ((m:Int) / (g:Int))=(D:Int):=by rw[←Int.natCast_ediv,←hD];exact aj (by omega) (by omega)
 have hf1:de Z=true:=by unfold de;simp;omega
 have hf2:de (D:Int)=true:=by unfold de;simp;omega
 have hDs:bT (D:Int)=aJ D:=rfl;have hg0' :¬g=0:=by omega
 have lZ:(bT Z).length+1≤fx∧(bT Z).length+1+(aJ D).length≤fx:=by have h1:=ef Z;have h2:=bf (u:=Z.natAbs) (k:=20) (by omega) (by omega);have h3:=bf (u:=D) (k:=20) (by omega) (by omega);unfold fx;omega
 obtain⟨l1,l2⟩:=lZ;have ha2:Lib.atoi (aJ m)=some (m:Int):=lD (m:Int);have hmn:¬(m:Int)<0:=by omega
 have w0:IntKind.i64.wrap (-n)= -n:=aj (by omega) (by omega);have hneg:n<0→ -n=(N:Int):=by omega
 have hpos:¬n<0→n=(N:Int):=by omega
 by_cases h0:n<0
 ·have w0' :IntKind.i64.wrap (-n)=(N:Int):=by rw[w0];exact hneg h0
  by_cases hD1:D=1
  ·have hD1I:(D:Int)=1:=by omega
   rw[if_pos hD1];simp[aa,hG,Tryz.f99,af,aO,hl1,hl2,lD,ha2,hmn,h0,w0',hF,hg0',te,w1',w2',hD1I,hf1,Nat.testBit]
  ·have hD1I:¬(D:Int)=1:=by omega
   rw[if_neg hD1];simp[aa,hG,Tryz.f99,af,aO,hl1,hl2,lD,ha2,hmn,h0,w0',hF,hg0',te,w1',w2',hD1I,hf1,hf2,hDs,l1,l2,Nat.testBit]
 ·have e:=hpos h0
  rw[←e] at hF;by_cases hD1:D=1
  ·have hD1I:(D:Int)=1:=by omega
   rw[if_pos hD1];simp[aa,hG,Tryz.f99,af,aO,hl1,hl2,lD,ha2,hmn,h0, hF,hg0',te,w1',w2',hD1I,hf1,Nat.testBit]
  ·have hD1I:¬(D:Int)=1:=by omega
   rw[if_neg hD1];simp[aa,hG,Tryz.f99,af,aO,hl1,hl2,lD,ha2,hmn,h0, hF,hg0',te,w1',w2',hD1I,hf1,hf2,hDs,l1,l2,Nat.testBit]
end Go.Proofs
