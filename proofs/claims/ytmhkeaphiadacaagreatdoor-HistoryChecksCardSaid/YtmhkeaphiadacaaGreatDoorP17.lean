/- See P53. -/
import Derived.Test.YtmhkeaphiadacaaGreatDoorP14
import Derived.Test.YtmhkeaphiadacaaGreatDoorP16
set_option linter.all false
namespace Go.Proofs
open Go.Eng
open Tryz
noncomputable def Aw(f:FuncId) (args:List AV):Option AV:=
 match f,args with
 |247,[.str s,.int .i64 b,.int .i64 w]=>if s≠[]∧s.all isD=true∧s.length≤18∧b=10∧w=64 then some (.tuple [.int .u64 (kW s:Nat),.nilIface]) else none
 |251,[.int .u64 u,.int .i64 b]=>if 0≤u∧u≤18446744073709551615∧b=10 then some (.str (aS u.toNat)) else none
 |f,args=>aT f args
theorem MA:qS prog (ar Aw):=bZ fun f args v h mem=>by
 unfold Aw at h;split at h
 ·split at h
  ·rename_i hc
   obtain⟨h1,h2,h3,rfl,rfl⟩:=hc;cases h;exact zT _ h1 h2 h3 mem
  ·cases h
 ·split at h
  ·rename_i hc
   obtain⟨h1,h2,rfl⟩:=hc;cases h;have hd:=(Int.toNat_lt h1).2 (show _<((18446744073709551616:Nat):Int) by omega);have:=yj _ hd mem;rw[Int.toNat_of_nonneg h1] at this;exact this
  ·cases h
 ·have:=dM.fn _ _ mem ⟨v,none,[]⟩ (by unfold ar;simp only;rw[h])
  simpa [HS.mem] using this
noncomputable def mH:aac:=fun c args M=>match c,args with
 |.fn 269,[.ptr b 0]=>match M[b]? with
  |some (.cells true es [.aar,sl])=>if es=nA then some ⟨.tuple [],some (M.set b (.cells true nA [.ptr b 0,sl])),[]⟩ else none
  |some (.cells true es [.ptr b' 0,_])=>if es=nA∧b' =b then some ⟨.tuple [],none,[]⟩ else none
  |_=>none
 |_,_=>none
theorem Ep:qS prog mH where
 fn f args mem r h:=by
  unfold mH at h;split at h
  ·rename_i S'
   cases S';split at h
   ·rename_i b _ es sl hb
    split at h
    ·rename_i he
     cases h;subst he;simpa [HS.mem] using pD mem b sl hb
    ·cases h
   ·rename_i b _ es b' sl hb
    split at h
    ·rename_i he
     cases h;obtain⟨rfl,rfl⟩:=he;simpa [HS.mem] using si mem _ _ hb
    ·cases h
   ·cases h
  ·cases h
 yld b args mem r h:=by unfold mH at h;split at h<;>simp_all
 pre c args mem r p h hp:=by
  unfold mH at h;split at h
  ·split at h
   ·split at h
    ·cases h;cases hp;simp
    ·cases h
   ·split at h
    ·cases h;cases hp
    ·cases h
   ·cases h
  ·cases h
noncomputable def NB:aac:=aac.or mH (ar Aw)
theorem ME:qS prog NB:=qS.or Ep MA
def Wh(q:List UInt8) (r:HS):Bool:=match r.v with
 |.tuple [.str s,.int .i64 0]=>s==q&&(match r.pre with | some p=>p.isEmpty | none=>true)&&r.new.isEmpty
 |_=>false
theorem RW{q:List UInt8}{r:HS}(h:Wh q r=true):r.v=.tuple [.str q,.int .i64 0]∧r.mem []=[]:=by
 obtain⟨v,pre,new⟩:=r;unfold Wh at h;simp only at h;split at h
 ·rename_i s
  simp only[Bool.and_eq_true,beq_iff_eq,List.isEmpty_iff] at h;obtain⟨⟨rfl,h1⟩,rfl⟩:=h;refine⟨rfl,?_⟩;cases pre with
  |none=>rfl
  |some p=>
   simp only[List.isEmpty_iff] at h1;subst h1;rfl
 ·cases h
noncomputable def rI(n:Int) (d:Nat):Bool:=match ow (aC prog) ab (aO prog) NB 60 30 (.fn 91) [.int .i64 n,.int .i64 d] [] with
 |some r=>Wh (aN (mkRat n d)) r
 |none=>false
theorem SG:(List.range 21).all (fun k=>rI ((k:Int)-7) 1)=true:=by kernel_rfl
theorem SH:(List.range 21).all (fun k=>rI ((k:Int)-7) 2)=true:=by kernel_rfl
theorem Qx(n:Int)(d:Nat)(hd:d=1∨d=2)(h0: -7≤n)(h1:n≤13)(mem:Mem):
  mB prog 91 [.int .i64 n,.int .i64 d] mem (.tuple [.str (aN (mkRat n d)),.int .i64 0]) mem:=by
 have h:rI n d=true:=by
  have e:(((n+7).toNat:Nat)-7:Int)=n:=by omega
  rcases hd with rfl | rfl
  ·have:=List.all_eq_true.1 SG (n+7).toNat (List.mem_range.2 (by omega));rwa [e] at this
  ·have:=List.all_eq_true.1 SH (n+7).toNat (List.mem_range.2 (by omega));rwa [e] at this
 unfold rI at h;split at h
 ·rename_i r hr
  obtain⟨e1,e2⟩:=RW h;have:=(kq af (aw _) (ax _) ME 30).fn _ _ _ _ hr;rw[e1,e2] at this;exact mB.lift rfl rfl this mem
 ·cases h
end Go.Proofs
namespace Go.Eng
theorem DP{a:Int}{b:Nat}(hb:0<b)(h:0≤a∨a.natAbs%b=0):a.tdiv b=a / b∧a.tmod b=((a.natAbs%b:Nat):Int):=by
 by_cases h0:0≤a
 ·obtain⟨n,rfl⟩:∃n:Nat,a=n:=⟨a.toNat,by omega⟩
  rw[FV,vC,Int.natAbs_natCast,Int.natCast_ediv];exact⟨rfl,rfl⟩
 ·have h1:a.natAbs%b=0:=by rcases h with h | h<;>omega
  have h2:a= -((a.natAbs / b*b:Nat):Int):=by have:=Nat.div_add_mod a.natAbs b;rw[h1,Nat.add_zero,Nat.mul_comm] at this;omega
  obtain⟨q,hq⟩:∃q,q=a.natAbs / b:=⟨_,rfl⟩
  rw[←hq] at h2;rw[h1,h2,Int.natCast_mul,←Int.neg_mul];have J' :(b:Int)≠0:=by omega
  exact⟨by rw[Int.mul_tdiv_cancel _ J',Int.mul_ediv_cancel _ J'],by rw[Int.mul_tmod_left];rfl⟩
end Go.Eng
namespace Go.Proofs
open Go.Eng
open Tryz
variable{K:Nat}{O:aac}{b:Code}
theorem Cn(n m:Int)(hK:m.natAbs<K)(hb:aj f93=[b]):
  ∃F:Env→Bool→Env,∀y' d,(aa y' 5=.int .i64 n∧aa y' 6=.int .i64 m)→
   aQ (aC prog) (fun _=>[5,6]) O K 36 0 true (.loop b) ⟨y',[],d⟩=some (.exit 0,⟨F y' d,[],d⟩)∧(aa (F y' d) 5=.int .i64 (euc K n m)∧aa (F y' d) 0=aa y' 0∧aa (F y' d) 1=aa y' 1∧aa (F y' d) 4=aa y' 4):=by
 refine bf rfl (fun y'=>aa y' 5=.int .i64 n∧aa y' 6=.int .i64 m) (fun y' z' =>aa z' 5=.int .i64 (euc K n m)∧aa z' 0=aa y' 0∧aa z' 1=aa y' 1∧aa z' 4=aa y' 4) ?_;rintro y' d ⟨h5,h6⟩;have hn:az [5,6] (ab b) y' ((5,.int .i64 n)::(6,.int .i64 m)::y')=az [5,6] (ab b) y' y':=by simp[az,h5,h6]
 rw[←hn];have key:∀(k:Nat) (x y:Int),y.natAbs<k→∃z',gl [5,6] (ab b) y' 0 (aQ (aC prog) (fun _=>[5,6]) O K 36 0 true b) k ⟨az [5,6] (ab b) y' ((5,.int .i64 x)::(6,.int .i64 y)::y'),[],d⟩=
   some (.exit 0,⟨z',[],d⟩)∧aa z' 5=.int .i64 (euc k x y)∧aa z' 0=aa y' 0∧aa z' 1=aa y' 1∧aa z' 4=aa y' 4:=by
  clear hn;simp[aj,aD,f93] at hb;intro k;induction k with
  |zero=>intro x y h;omega
  |succ k ih=>
   intro x y hk;by_cases hy:y=0
   ·subst hb
    subst hy;simp[gl,euc]
   ·have AC:(x.tmod y).natAbs<k:=by rw[Int.natAbs_tmod];have:=Nat.mod_lt x.natAbs (show 0<y.natAbs by omega);omega
    obtain⟨z',e1,e2,e4⟩:=ih y (x.tmod y) AC;subst hb;refine⟨z',?_,by rw[e2,euc,if_neg hy],e4⟩;rw[gl];simp[hy];simp at e1;exact e1
 exact key K n m hK
theorem Ed(n:Int)(m:Nat)(hn:n.natAbs≤4611686018427387904)(Xe:m≠0)(hm:m≤4611686018427387904)(mem:Mem):mB prog 93 [.int .i64 n,.int .i64 m] mem (.str (aN (mkRat n m))) mem:=by
 have hG:aO prog 93=some f93:=by kernel_rfl
 refine aB dM (lv:=fun _=>[5,6]) (K:=m+1) rfl rfl ?_ mem;obtain⟨b,hb⟩:∃b,aj f93=[b]:=⟨_,rfl⟩
 obtain⟨N,hN⟩:∃N:Nat,N=n.natAbs:=⟨_,rfl⟩
 obtain⟨F,hF⟩:=Cn (O:=ar aT) (K:=m+1) (N:Int) (m:Int) (by simp) hb;simp[aj,aD,f93] at hb;subst hb;rw[DB n Xe,←hN];have hgE:∀k (x y:Nat),0≤euc k (x:Int) (y:Int):=by
  intro k;induction k with
  |zero=>intro x y;unfold euc;omega
  |succ k ih=>
   intro x y;unfold euc;split
   ·omega
   ·rw[vC];exact ih y (x%y)
 have hg:=rW (m+1) (N:Int) (m:Int) (by simp);have hg0:=hgE (m+1) N m;generalize euc (m+1) (N:Int) (m:Int)=gz at hF hg hg0;rw[Int.natAbs_natCast,Int.natAbs_natCast] at hg;obtain⟨g,rfl⟩:∃g:Nat,gz=g:=⟨gz.toNat,by omega⟩
 rw[Int.natAbs_natCast] at hg;rw[←hg];have hgp:0<g:=by rw[hg];exact Nat.gcd_pos_of_pos_right _ (by omega)
 have hgn:g∣N:=by rw[hg];exact Nat.gcd_dvd_left _ _
 have hgd:g∣m:=by rw[hg];exact Nat.gcd_dvd_right _ _
 have hgm:g≤m:=Nat.le_of_dvd (by omega) hgd;have te:=DP (a:=n) hgp (.inr (by rw[←hN];exact Nat.mod_eq_zero_of_dvd hgn));have hq1:(n / (g:Int)).natAbs≤n.natAbs:=Int.natAbs_ediv_le_natAbs _ _;obtain⟨Z,hZ⟩:∃Z,Z=n / (g:Int):=⟨_,rfl⟩
 rw[←hZ] at hq1 te ⊢;obtain⟨D,hD⟩:∃D,D=m / g:=⟨_,rfl⟩
 have hDm:D≤m:=by rw[hD];exact Nat.div_le_self _ _
 rw[←hD];have w0:IntKind.i64.wrap (-n)= -n:=ai (by omega) (by omega);have hmax:(if n< -n then -n else n)=(N:Int):=by split<;>omega
 have hmax' :(if -n<n then n else -n)=(N:Int):=by split<;>omega
 have w1:IntKind.i64.wrap (n.tdiv (g:Int))=Z:=by rw[te.1];exact ai (by omega) (by omega)
 have w1' :IntKind.i64.wrap Z=Z:=ai (by omega) (by omega);have w2:IntKind.i64.wrap ((m:Int).tdiv (g:Int))=(D:Int):=by rw[FV,←hD];exact ai (by omega) (by omega)
 have w2' :IntKind.i64.wrap ((m:Int) / (g:Int))=(D:Int):=by rw[←Int.natCast_ediv,←hD];exact ai (by omega) (by omega)
 have Xl:jC Z=true:=by unfold jC;simp;omega
 have hf2:jC (D:Int)=true:=by unfold jC;simp;omega
 have hDs:cN (D:Int)=aS D:=rfl;have ZV :¬g=0:=by omega
 have lZ:(cN Z).length+1≤gd∧(cN Z).length+1+(aS D).length≤gd:=by have h1:=fK Z;have h2:=bC (u:=Z.natAbs) (k:=20) (by omega) (by omega);have h3:=bC (u:=D) (k:=20) (by omega) (by omega);unfold gd;omega
 obtain⟨l1,l2⟩:=lZ;by_cases Yn:m=1
 ·have hg1:g=1:=by omega
  have hD1:D=1:=by rw[hD,Yn,hg1]
  have hZn:Z=n:=by rw[hZ,hg1];exact Int.ediv_one n
  have hfn:jC n=true:=by rw[←hZn];exact Xl
  subst Yn;rw[if_pos hD1,hZn];simp[ad,hG,f93,ar,aT,hfn]
 ·have hm1I:¬(m:Int)=1:=by omega
  by_cases hD1:D=1
  ·have Yo:(D:Int)=1:=by omega
   rw[if_pos hD1];simp[ad,hG,f93,hm1I,w0,hmax,hF,ZV,te,w1',w2',Yo,ar,aT,Xl,Nat.testBit]
  ·have Yo:¬(D:Int)=1:=by omega
   rw[if_neg hD1];simp[ad,hG,f93,hm1I,w0,hmax,hF,ZV,te,w1',w2',Yo,ar,aT,Xl,hf2,hDs,l1,l2,Nat.testBit]
theorem yG(n m:Int)(hK:m.natAbs<K)(hb:aj f98=[b]):
  ∃F:Env→Bool→Env,∀y' d,(aa y' 9=.int .i64 n∧aa y' 10=.int .i64 m)→
   aQ (aC prog) (fun _=>[9,10]) O K 55 0 true (.loop b) ⟨y',[],d⟩=some (.exit 0,⟨F y' d,[],d⟩)∧(aa (F y' d) 9=.int .i64 (euc K n m)∧aa (F y' d) 5=aa y' 5∧aa (F y' d) 7=aa y' 7∧aa (F y' d) 4=aa y' 4):=by
 refine bf rfl (fun y'=>aa y' 9=.int .i64 n∧aa y' 10=.int .i64 m) (fun y' z' =>aa z' 9=.int .i64 (euc K n m)∧aa z' 5=aa y' 5∧aa z' 7=aa y' 7∧aa z' 4=aa y' 4) ?_;rintro y' d ⟨h5,h6⟩;have hn:az [9,10] (ab b) y' ((9,.int .i64 n)::(10,.int .i64 m)::y')=az [9,10] (ab b) y' y':=by simp[az,h5,h6]
 rw[←hn];have key:∀(k:Nat) (x y:Int),y.natAbs<k→∃z',gl [9,10] (ab b) y' 0 (aQ (aC prog) (fun _=>[9,10]) O K 55 0 true b) k ⟨az [9,10] (ab b) y' ((9,.int .i64 x)::(10,.int .i64 y)::y'),[],d⟩=
   some (.exit 0,⟨z',[],d⟩)∧aa z' 9=.int .i64 (euc k x y)∧aa z' 5=aa y' 5∧aa z' 7=aa y' 7∧aa z' 4=aa y' 4:=by
  clear hn;simp[aj,aD,f98] at hb;intro k;induction k with
  |zero=>intro x y h;omega
  |succ k ih=>
   intro x y hk;by_cases hy:y=0
   ·subst hb
    subst hy;simp[gl,euc]
   ·have AC:(x.tmod y).natAbs<k:=by rw[Int.natAbs_tmod];have:=Nat.mod_lt x.natAbs (show 0<y.natAbs by omega);omega
    obtain⟨z',e1,e2,e4⟩:=ih y (x.tmod y) AC;subst hb;refine⟨z',?_,by rw[e2,euc,if_neg hy],e4⟩;rw[gl];simp[hy];simp at e1;exact e1
 exact key K n m hK
theorem PL:∀(k x y:Nat),0≤euc k (x:Int) (y:Int):=by
 intro k;induction k with
 |zero=>intro x y;unfold euc;omega
 |succ k ih=>
  intro x y;unfold euc;split
  ·omega
  ·rw[vC];exact ih y (x%y)
theorem Gu(n:Int)(m:Nat)(Xe:m≠0)(Xb:(cN n).length≤18)(WZ:(aS m).length≤18)(mem:Mem):mB prog 98 [.str (cN n),.str (aS m)] mem (.str (aN (mkRat n m))) mem:=by
 have hG:aO prog 98=some f98:=by kernel_rfl
 have hn:=wJ Xb;have hm:m<10 ^ 18:=by have h1:=eF m;have h2:10 ^ (aS m).length≤10 ^ 18:=Nat.pow_le_pow_right (by omega) WZ;omega
 refine aB dM (lv:=fun _=>[9,10]) (K:=m+1) rfl rfl ?_ mem;obtain⟨b,hb⟩:∃b,aj f98=[b]:=⟨_,rfl⟩
 obtain⟨N,hN⟩:∃N:Nat,N=n.natAbs:=⟨_,rfl⟩
 rw[←hN] at hn;obtain⟨F,hF⟩:=yG (O:=ar aT) (K:=m+1) (N:Int) (m:Int) (by simp) hb;simp[aj,aD,f98] at hb;subst hb;rw[DB n Xe,←hN];have hg:=rW (m+1) (N:Int) (m:Int) (by simp);have hg0:=PL (m+1) N m;generalize euc (m+1) (N:Int) (m:Int)=gz at hF hg hg0;rw[Int.natAbs_natCast,Int.natAbs_natCast] at hg;obtain⟨g,rfl⟩:∃g:Nat,gz=g:=⟨gz.toNat,by omega⟩
 rw[Int.natAbs_natCast] at hg;rw[←hg];have hgp:0<g:=by rw[hg];exact Nat.gcd_pos_of_pos_right _ (by omega)
 have hgn:g∣N:=by rw[hg];exact Nat.gcd_dvd_left _ _
 have te:=DP (a:=n) hgp (.inr (by rw[←hN];exact Nat.mod_eq_zero_of_dvd hgn));have hq1:(n / (g:Int)).natAbs≤n.natAbs:=Int.natAbs_ediv_le_natAbs _ _;obtain⟨Z,hZ⟩:∃Z,Z=n / (g:Int):=⟨_,rfl⟩
 rw[←hZ] at hq1 te ⊢;obtain⟨D,hD⟩:∃D,D=m / g:=⟨_,rfl⟩
 have hDm:D≤m:=by rw[hD];exact Nat.div_le_self _ _
 rw[←hD];have w1:IntKind.i64.wrap (n.tdiv (g:Int))=Z:=by rw[te.1];exact ai (by omega) (by omega)
 have w1' :IntKind.i64.wrap Z=Z:=ai (by omega) (by omega);have w2:IntKind.i64.wrap ((m:Int).tdiv (g:Int))=(D:Int):=by rw[FV,←hD];exact ai (by omega) (by omega)
 have w2' :IntKind.i64.wrap ((m:Int) / (g:Int))=(D:Int):=by rw[←Int.natCast_ediv,←hD];exact ai (by omega) (by omega)
 have Xl:jC Z=true:=by unfold jC;simp;omega
 have hf2:jC (D:Int)=true:=by unfold jC;simp;omega
 have hDs:cN (D:Int)=aS D:=rfl;have ZV :¬g=0:=by omega
 have lZ:(cN Z).length+1≤gd∧(cN Z).length+1+(aS D).length≤gd:=by have h1:=fK Z;have h2:=bC (u:=Z.natAbs) (k:=20) (by omega) (by omega);have h3:=bC (u:=D) (k:=20) (by omega) (by omega);unfold gd;omega
 obtain⟨l1,l2⟩:=lZ;have ha2:Lib.atoi (aS m)=some (m:Int):=mY (m:Int);have hmn:¬(m:Int)<0:=by omega
 have w0:IntKind.i64.wrap (-n)= -n:=ai (by omega) (by omega);have Xu:n<0→ -n=(N:Int):=by omega
 have WC:¬n<0→n=(N:Int):=by omega
 by_cases h0:n<0
 ·have w0' :IntKind.i64.wrap (-n)=(N:Int):=by rw[w0];exact Xu h0
  by_cases hD1:D=1
  ·have Yo:(D:Int)=1:=by omega
   rw[if_pos hD1];simp[ad,hG,f98,ar,aT,Xb,WZ,mY,ha2,hmn,h0,w0',hF,ZV,te,w1',w2',Yo,Xl,Nat.testBit]
  ·have Yo:¬(D:Int)=1:=by omega
   rw[if_neg hD1];simp[ad,hG,f98,ar,aT,Xb,WZ,mY,ha2,hmn,h0,w0',hF,ZV,te,w1',w2',Yo,Xl,hf2,hDs,l1,l2,Nat.testBit]
 ·have e:=WC h0
  rw[←e] at hF;by_cases hD1:D=1
  ·have Yo:(D:Int)=1:=by omega
   rw[if_pos hD1];simp[ad,hG,f98,ar,aT,Xb,WZ,mY,ha2,hmn,h0, hF,ZV,te,w1',w2',Yo,Xl,Nat.testBit]
  ·have Yo:¬(D:Int)=1:=by omega
   rw[if_neg hD1];simp[ad,hG,f98,ar,aT,Xb,WZ,mY,ha2,hmn,h0, hF,ZV,te,w1',w2',Yo,Xl,hf2,hDs,l1,l2,Nat.testBit]
end Go.Proofs
