/- See M58. -/
import Derived.Test.YtmhkeaphiadacaaGreatDoorM20
import Derived.Test.YtmhkeaphiadacaaGreatDoorM23
import Derived.Test.YtmhkeaphiadacaaGreatDoorM08
import Derived.Test.YtmhkeaphiadacaaGreatDoorM07
set_option linter.all false
namespace Go.Proofs
open Go.Eng
noncomputable def xk(f:FuncId) (args:List AV):Option AV:=
 match f,args with
 |247,[.str s,.int .i64 b,.int .i64 w]=>if s≠[]∧s.all isD=true∧s.length≤18∧b=10∧w=64 then some (.tuple [.int .u64 (jv s:Nat),.nilIface]) else none
 |251,[.int .u64 u,.int .i64 b]=>if 0≤u∧u≤18446744073709551615∧b=10 then some (.str (aI u.toNat)) else none
 |f,args=>aJ f args
theorem IN:OracleOk Tryz.prog (ao xk):=bI fun f args v h mem=>by
 unfold xk at h
 split at h
 ·split at h
  ·rename_i hc
   obtain⟨h1,h2,h3,rfl,rfl⟩:=hc
   cases h
   exact yB _ h1 h2 h3 mem
  ·cases h
 ·split at h
  ·rename_i hc
   obtain⟨h1,h2,rfl⟩:=hc
   cases h
   have hd:=(Int.toNat_lt h1).2 (show _<((18446744073709551616:Nat):Int) by omega)
   have:=uM _ hd mem
   rw[Int.toNat_of_nonneg h1] at this
   exact this
  ·cases h
 ·have:=cW.fn _ _ mem ⟨v,none,[]⟩ (by unfold ao;simp only;rw[h])
  simpa [CallRes.mem] using this
noncomputable def lA:Oracle:=fun c args M=>match c,args with
 |.fn 269,[.ptr b 0]=>match M[b]? with
  |some (.cells true es [.nilptr,sl])=>if es=mv then some ⟨.tuple [],some (M.set b (.cells true mv [.ptr b 0,sl])),[]⟩ else none
  |some (.cells true es [.ptr b' 0,_])=>if es=mv∧b' =b then some ⟨.tuple [],none,[]⟩ else none
  |_=>none
 |_,_=>none
theorem Bq:OracleOk Tryz.prog lA where
 fn f args mem r h:=by
  unfold lA at h
  split at h
  ·rename_i heq
   cases heq
   split at h
   ·rename_i b _ es sl hb
    split at h
    ·rename_i he
     cases h;subst he
     simpa [CallRes.mem] using oo mem b sl hb
    ·cases h
   ·rename_i b _ es b' sl hb
    split at h
    ·rename_i he
     cases h;obtain⟨rfl,rfl⟩:=he
     simpa [CallRes.mem] using pD mem _ _ hb
    ·cases h
   ·cases h
  ·cases h
 yld b args mem r h:=by unfold lA at h;split at h<;>simp_all
 pre c args mem r p h hp:=by
  unfold lA at h
  split at h
  ·split at h
   ·split at h
    ·cases h;cases hp;simp
    ·cases h
   ·split at h
    ·cases h;cases hp
    ·cases h
   ·cases h
  ·cases h
noncomputable def Jv:Oracle:=Oracle.or lA (ao xk)
theorem HF:OracleOk Tryz.prog Jv:=OracleOk.or Bq IN
def QR(q:List UInt8) (r:CallRes):Bool:=match r.v with
 |.tuple [.str s,.int .i64 0]=>s==q&&(match r.pre with | some p=>p.isEmpty | none=>true)&&r.new.isEmpty
 |_=>false
theorem M7{q:List UInt8}{r:CallRes}(h:QR q r=true):r.v=.tuple [.str q,.int .i64 0]∧r.mem []=[]:=by
 obtain⟨v,pre,new⟩:=r
 unfold QR at h
 simp only at h
 split at h
 ·rename_i s
  simp only[Bool.and_eq_true,beq_iff_eq,List.isEmpty_iff] at h
  obtain⟨⟨rfl,h1⟩,rfl⟩:=h
  refine⟨rfl,?_⟩
  cases pre with
  |none=>rfl
  |some p=>
   simp only[List.isEmpty_iff] at h1
   subst h1;rfl
 ·cases h
noncomputable def po(n:Int) (d:Nat):Bool:=match q9 (aA Tryz.prog) ab (aF Tryz.prog) Jv 60 30 (.fn 91) [.int .i64 n,.int .i64 d] [] with
 |some r=>QR (aK (mkRat n d)) r
 |none=>false
theorem Pa:(List.range 21).all (fun k=>po ((k:Int)-7) 1)=true:=by kernel_rfl
theorem N9:(List.range 21).all (fun k=>po ((k:Int)-7) 2)=true:=by kernel_rfl
theorem MR(n:Int) (d:Nat) (hd:d=1∨d=2) (h0: -7≤n) (h1:n≤13) (mem:Mem):
  ACallsTo Tryz.prog 91 [.int .i64 n,.int .i64 d] mem (.tuple [.str (aK (mkRat n d)),.int .i64 0]) mem:=by
 have h:po n d=true:=by
  have e:(((n+7).toNat:Nat)-7:Int)=n:=by omega
  rcases hd with rfl | rfl
  ·have:=List.all_eq_true.1 Pa (n+7).toNat (List.mem_range.2 (by omega));rwa [e] at this
  ·have:=List.all_eq_true.1 N9 (n+7).toNat (List.mem_range.2 (by omega));rwa [e] at this
 unfold po at h
 split at h
 ·rename_i r hr
  obtain⟨e1,e2⟩:=M7 h
  have:=(jq aa (aj _) (al _) HF 30).fn _ _ _ _ hr
  rw[e1,e2] at this
  exact ACallsTo.lift rfl rfl this mem
 ·cases h
end Go.Proofs
namespace Go.Eng
theorem AE{a:Int}{b:Nat}(hb:0<b) (h:0≤a∨a.natAbs%b=0):a.tdiv b=a / b∧a.tmod b=((a.natAbs%b:Nat):Int):=by
 by_cases h0:0≤a
 ·obtain⟨n,rfl⟩:∃n:Nat,a=n:=⟨a.toNat,by omega⟩
  rw[BI,vH,Int.natAbs_natCast,Int.natCast_ediv]
  exact⟨rfl,rfl⟩
 ·have h1:a.natAbs%b=0:=by rcases h with h | h<;>omega
  have h2:a= -((a.natAbs / b*b:Nat):Int):=by
   have:=Nat.div_add_mod a.natAbs b
   rw[h1,Nat.add_zero,Nat.mul_comm] at this
   omega
  obtain⟨q,hq⟩:∃q,q=a.natAbs / b:=⟨_,rfl⟩
  rw[←hq] at h2
  rw[h1,h2,Int.natCast_mul,←Int.neg_mul]
  have hb' :(b:Int)≠0:=by omega
  exact⟨by rw[Int.mul_tdiv_cancel _ hb',Int.mul_ediv_cancel _ hb'],by rw[Int.mul_tmod_left];rfl⟩
end Go.Eng
namespace Go.Proofs
open Go.Eng
theorem zr{O:Oracle}{K:Nat}(n m:Int) (hK:m.natAbs<K) {b:Code}(hb:am Tryz.f93=[b]):
  ∃F:Env→Bool→Env,∀env0 d,(ac env0 5=.int .i64 n∧ac env0 6=.int .i64 m)→
   aH (aA Tryz.prog) (fun _=>[5,6]) O K 36 0 true (.loop b) ⟨env0,[],d⟩=some (.exit 0,⟨F env0 d,[],d⟩)∧(ac (F env0 d) 5=.int .i64 (euc K n m)∧ac (F env0 d) 0=ac env0 0∧ac (F env0 d) 1=ac env0 1∧ac (F env0 d) 4=ac env0 4):=by
 refine bo rfl (fun env0=>ac env0 5=.int .i64 n∧ac env0 6=.int .i64 m) (fun env0 env' =>ac env' 5=.int .i64 (euc K n m)∧ac env' 0=ac env0 0∧ac env' 1=ac env0 1∧ac env' 4=ac env0 4) ?_
 rintro env0 d ⟨h5,h6⟩
 have hn:aw [5,6] (ab b) env0 ((5,.int .i64 n)::(6,.int .i64 m)::env0)=aw [5,6] (ab b) env0 env0:=by simp[aw,h5,h6]
 rw[←hn]
 have key:∀(k:Nat) (x y:Int),y.natAbs<k→∃env',dN [5,6] (ab b) env0 0 (aH (aA Tryz.prog) (fun _=>[5,6]) O K 36 0 true b) k ⟨aw [5,6] (ab b) env0 ((5,.int .i64 x)::(6,.int .i64 y)::env0),[],d⟩=
   some (.exit 0,⟨env',[],d⟩)∧ac env' 5=.int .i64 (euc k x y)∧ac env' 0=ac env0 0∧ac env' 1=ac env0 1∧ac env' 4=ac env0 4:=by
  clear hn
  simp[am,aB,Tryz.f93] at hb
  intro k
  induction k with
  |zero=>intro x y h;omega
  |succ k ih=>
   intro x y hk
   by_cases hy:y=0
   ·subst hb
    subst hy
    simp[dN,euc]
   ·have hlt:(x.tmod y).natAbs<k:=by
     rw[Int.natAbs_tmod]
     have:=Nat.mod_lt x.natAbs (show 0<y.natAbs by omega)
     omega
    obtain⟨env',e1,e2,e4⟩:=ih y (x.tmod y) hlt
    subst hb
    refine⟨env',?_,by rw[e2,euc,if_neg hy],e4⟩
    rw[dN]
    simp[hy]
    simp at e1
    exact e1
 exact key K n m hK
theorem BA(n:Int) (m:Nat) (hn:n.natAbs≤4611686018427387904) (hm0:m≠0) (hm:m≤4611686018427387904) (mem:Mem):ACallsTo Tryz.prog 93 [.int .i64 n,.int .i64 m] mem (.str (aK (mkRat n m))) mem:=by
 have hG:aF Tryz.prog 93=some Tryz.f93:=by kernel_rfl
 refine aq cW (lv:=fun _=>[5,6]) (K:=m+1) rfl rfl ?_ mem
 obtain⟨b,hb⟩:∃b,am Tryz.f93=[b]:=⟨_,rfl⟩
 obtain⟨N,hN⟩:∃N:Nat,N=n.natAbs:=⟨_,rfl⟩
 obtain⟨F,hF⟩:=zr (O:=ao aJ) (K:=m+1) (N:Int) (m:Int) (by simp) hb
 simp[am,aB,Tryz.f93] at hb
 subst hb
 rw[Ah n hm0,←hN]
 have hgE:∀k (x y:Nat),0≤euc k (x:Int) (y:Int):=by
  intro k
  induction k with
  |zero=>intro x y;unfold euc;omega
  |succ k ih=>
   intro x y
   unfold euc
   split
   ·omega
   ·rw[vH];exact ih y (x%y)
 have hg:=oQ (m+1) (N:Int) (m:Int) (by simp)
 have hg0:=hgE (m+1) N m
 generalize euc (m+1) (N:Int) (m:Int)=gz at hF hg hg0
 rw[Int.natAbs_natCast,Int.natAbs_natCast] at hg
 obtain⟨g,rfl⟩:∃g:Nat,gz=g:=⟨gz.toNat,by omega⟩
 rw[Int.natAbs_natCast] at hg
 rw[←hg]
 have hgp:0<g:=by rw[hg];exact Nat.gcd_pos_of_pos_right _ (by omega)
 have hgn:g∣N:=by rw[hg];exact Nat.gcd_dvd_left _ _
 have hgd:g∣m:=by rw[hg];exact Nat.gcd_dvd_right _ _
 have hgm:g≤m:=Nat.le_of_dvd (by omega) hgd
 have te:=AE (a:=n) hgp (.inr (by rw[←hN];exact Nat.mod_eq_zero_of_dvd hgn))
 have hq1:(n / (g:Int)).natAbs≤n.natAbs:=Int.natAbs_ediv_le_natAbs _ _
 obtain⟨Z,hZ⟩:∃Z,Z=n / (g:Int):=⟨_,rfl⟩
 rw[←hZ] at hq1 te ⊢
 obtain⟨D,hD⟩:∃D,D=m / g:=⟨_,rfl⟩
 have hDm:D≤m:=by rw[hD];exact Nat.div_le_self _ _
 rw[←hD]
 have w0:IntKind.i64.wrap (-n)= -n:=ai (by omega) (by omega)
 have hmax:(if n< -n then -n else n)=(N:Int):=by split<;>omega
 have hmax' :(if -n<n then n else -n)=(N:Int):=by split<;>omega
 have w1:IntKind.i64.wrap (n.tdiv (g:Int))=Z:=by rw[te.1];exact ai (by omega) (by omega)
 have w1' :IntKind.i64.wrap Z=Z:=ai (by omega) (by omega)
 have w2:IntKind.i64.wrap ((m:Int).tdiv (g:Int))=(D:Int):=by rw[BI,←hD];exact ai (by omega) (by omega)
 have w2' :IntKind.i64.wrap ((m:Int) / (g:Int))=(D:Int):=by rw[←Int.natCast_ediv,←hD];exact ai (by omega) (by omega)
 have hf1:iz Z=true:=by unfold iz;simp;omega
 have hf2:iz (D:Int)=true:=by unfold iz;simp;omega
 have hDs:bW (D:Int)=aI D:=rfl
 have hg0' :¬g=0:=by omega
 have lZ:(bW Z).length+1≤dT∧(bW Z).length+1+(aI D).length≤dT:=by
  have h1:=ei Z
  have h2:=bl (u:=Z.natAbs) (k:=20) (by omega) (by omega)
  have h3:=bl (u:=D) (k:=20) (by omega) (by omega)
  unfold dT;omega
 obtain⟨l1,l2⟩:=lZ
 by_cases hm1:m=1
 ·have hg1:g=1:=by omega
  have hD1:D=1:=by rw[hD,hm1,hg1]
  have hZn:Z=n:=by rw[hZ,hg1];exact Int.ediv_one n
  have hfn:iz n=true:=by rw[←hZn];exact hf1
  subst hm1
  rw[if_pos hD1,hZn]
  simp[ad,hG,Tryz.f93,ao,aJ,hfn]
 ·have hm1I:¬(m:Int)=1:=by omega
  by_cases hD1:D=1
  ·have hD1I:(D:Int)=1:=by omega
   rw[if_pos hD1]
   simp[ad,hG,Tryz.f93,hm1,hm1I,w0,hmax,hmax',hF,hg0',te,w1',w1,w2,w2',hD1I,ao,aJ,hf1,Nat.testBit]
  ·have hD1I:¬(D:Int)=1:=by omega
   rw[if_neg hD1]
   simp[ad,hG,Tryz.f93,hm1,hm1I,w0,hmax,hmax',hF,hg0',te,w1',w1,w2,w2',hD1I,hD1,ao,aJ,hf1,hf2,hDs,l1,l2,Nat.testBit]
theorem u6{O:Oracle}{K:Nat}(n m:Int) (hK:m.natAbs<K) {b:Code}(hb:am Tryz.f98=[b]):
  ∃F:Env→Bool→Env,∀env0 d,(ac env0 9=.int .i64 n∧ac env0 10=.int .i64 m)→
   aH (aA Tryz.prog) (fun _=>[9,10]) O K 55 0 true (.loop b) ⟨env0,[],d⟩=some (.exit 0,⟨F env0 d,[],d⟩)∧(ac (F env0 d) 9=.int .i64 (euc K n m)∧ac (F env0 d) 5=ac env0 5∧ac (F env0 d) 7=ac env0 7∧ac (F env0 d) 4=ac env0 4):=by
 refine bo rfl (fun env0=>ac env0 9=.int .i64 n∧ac env0 10=.int .i64 m) (fun env0 env' =>ac env' 9=.int .i64 (euc K n m)∧ac env' 5=ac env0 5∧ac env' 7=ac env0 7∧ac env' 4=ac env0 4) ?_
 rintro env0 d ⟨h5,h6⟩
 have hn:aw [9,10] (ab b) env0 ((9,.int .i64 n)::(10,.int .i64 m)::env0)=aw [9,10] (ab b) env0 env0:=by simp[aw,h5,h6]
 rw[←hn]
 have key:∀(k:Nat) (x y:Int),y.natAbs<k→∃env',dN [9,10] (ab b) env0 0 (aH (aA Tryz.prog) (fun _=>[9,10]) O K 55 0 true b) k ⟨aw [9,10] (ab b) env0 ((9,.int .i64 x)::(10,.int .i64 y)::env0),[],d⟩=
   some (.exit 0,⟨env',[],d⟩)∧ac env' 9=.int .i64 (euc k x y)∧ac env' 5=ac env0 5∧ac env' 7=ac env0 7∧ac env' 4=ac env0 4:=by
  clear hn
  simp[am,aB,Tryz.f98] at hb
  intro k
  induction k with
  |zero=>intro x y h;omega
  |succ k ih=>
   intro x y hk
   by_cases hy:y=0
   ·subst hb
    subst hy
    simp[dN,euc]
   ·have hlt:(x.tmod y).natAbs<k:=by
     rw[Int.natAbs_tmod]
     have:=Nat.mod_lt x.natAbs (show 0<y.natAbs by omega)
     omega
    obtain⟨env',e1,e2,e4⟩:=ih y (x.tmod y) hlt
    subst hb
    refine⟨env',?_,by rw[e2,euc,if_neg hy],e4⟩
    rw[dN]
    simp[hy]
    simp at e1
    exact e1
 exact key K n m hK
theorem KP:∀(k x y:Nat),0≤euc k (x:Int) (y:Int):=by
 intro k
 induction k with
 |zero=>intro x y;unfold euc;omega
 |succ k ih=>
  intro x y
  unfold euc
  split
  ·omega
  ·rw[vH];exact ih y (x%y)
theorem DZ(n:Int) (m:Nat) (hm0:m≠0) (hl1:(bW n).length≤18) (hl2:(aI m).length≤18) (mem:Mem):ACallsTo Tryz.prog 98 [.str (bW n),.str (aI m)] mem (.str (aK (mkRat n m))) mem:=by
 have hG:aF Tryz.prog 98=some Tryz.f98:=by kernel_rfl
 have hn:=sr hl1
 have hm:m<10 ^ 18:=by
  have h1:=dr m
  have h2:10 ^ (aI m).length≤10 ^ 18:=Nat.pow_le_pow_right (by omega) hl2
  omega
 refine aq cW (lv:=fun _=>[9,10]) (K:=m+1) rfl rfl ?_ mem
 obtain⟨b,hb⟩:∃b,am Tryz.f98=[b]:=⟨_,rfl⟩
 obtain⟨N,hN⟩:∃N:Nat,N=n.natAbs:=⟨_,rfl⟩
 rw[←hN] at hn
 obtain⟨F,hF⟩:=u6 (O:=ao aJ) (K:=m+1) (N:Int) (m:Int) (by simp) hb
 simp[am,aB,Tryz.f98] at hb
 subst hb
 rw[Ah n hm0,←hN]
 have hg:=oQ (m+1) (N:Int) (m:Int) (by simp)
 have hg0:=KP (m+1) N m
 generalize euc (m+1) (N:Int) (m:Int)=gz at hF hg hg0
 rw[Int.natAbs_natCast,Int.natAbs_natCast] at hg
 obtain⟨g,rfl⟩:∃g:Nat,gz=g:=⟨gz.toNat,by omega⟩
 rw[Int.natAbs_natCast] at hg
 rw[←hg]
 have hgp:0<g:=by rw[hg];exact Nat.gcd_pos_of_pos_right _ (by omega)
 have hgn:g∣N:=by rw[hg];exact Nat.gcd_dvd_left _ _
 have te:=AE (a:=n) hgp (.inr (by rw[←hN];exact Nat.mod_eq_zero_of_dvd hgn))
 have hq1:(n / (g:Int)).natAbs≤n.natAbs:=Int.natAbs_ediv_le_natAbs _ _
 obtain⟨Z,hZ⟩:∃Z,Z=n / (g:Int):=⟨_,rfl⟩
 rw[←hZ] at hq1 te ⊢
 obtain⟨D,hD⟩:∃D,D=m / g:=⟨_,rfl⟩
 have hDm:D≤m:=by rw[hD];exact Nat.div_le_self _ _
 rw[←hD]
 have w1:IntKind.i64.wrap (n.tdiv (g:Int))=Z:=by rw[te.1];exact ai (by omega) (by omega)
 have w1' :IntKind.i64.wrap Z=Z:=ai (by omega) (by omega)
 have w2:IntKind.i64.wrap ((m:Int).tdiv (g:Int))=(D:Int):=by rw[BI,←hD];exact ai (by omega) (by omega)
 have w2' :IntKind.i64.wrap ((m:Int) / (g:Int))=(D:Int):=by rw[←Int.natCast_ediv,←hD];exact ai (by omega) (by omega)
 have hf1:iz Z=true:=by unfold iz;simp;omega
 have hf2:iz (D:Int)=true:=by unfold iz;simp;omega
 have hDs:bW (D:Int)=aI D:=rfl
 have hg0' :¬g=0:=by omega
 have lZ:(bW Z).length+1≤dT∧(bW Z).length+1+(aI D).length≤dT:=by
  have h1:=ei Z
  have h2:=bl (u:=Z.natAbs) (k:=20) (by omega) (by omega)
  have h3:=bl (u:=D) (k:=20) (by omega) (by omega)
  unfold dT;omega
 obtain⟨l1,l2⟩:=lZ
 have ha2:Lib.atoi (aI m)=some (m:Int):=lH (m:Int)
 have hmn:¬(m:Int)<0:=by omega
 have w0:IntKind.i64.wrap (-n)= -n:=ai (by omega) (by omega)
 have hneg:n<0→ -n=(N:Int):=by omega
 have hpos:¬n<0→n=(N:Int):=by omega
 by_cases h0:n<0
 ·have w0' :IntKind.i64.wrap (-n)=(N:Int):=by rw[w0];exact hneg h0
  by_cases hD1:D=1
  ·have hD1I:(D:Int)=1:=by omega
   rw[if_pos hD1]
   simp[ad,hG,Tryz.f98,ao,aJ,hl1,hl2,lH,ha2,hmn,h0,w0',hF,hg0',te,w1',w1,w2,w2',hD1I,hf1,Nat.testBit]
  ·have hD1I:¬(D:Int)=1:=by omega
   rw[if_neg hD1]
   simp[ad,hG,Tryz.f98,ao,aJ,hl1,hl2,lH,ha2,hmn,h0,w0',hF,hg0',te,w1',w1,w2,w2',hD1I,hD1,hf1,hf2,hDs,l1,l2,Nat.testBit]
 ·have e:=hpos h0
  rw[←e] at hF
  by_cases hD1:D=1
  ·have hD1I:(D:Int)=1:=by omega
   rw[if_pos hD1]
   simp[ad,hG,Tryz.f98,ao,aJ,hl1,hl2,lH,ha2,hmn,h0, hF,hg0',te,w1',w1,w2,w2',hD1I,hf1,Nat.testBit]
  ·have hD1I:¬(D:Int)=1:=by omega
   rw[if_neg hD1]
   simp[ad,hG,Tryz.f98,ao,aJ,hl1,hl2,lH,ha2,hmn,h0, hF,hg0',te,w1',w1,w2,w2',hD1I,hD1,hf1,hf2,hDs,l1,l2,Nat.testBit]
end Go.Proofs
