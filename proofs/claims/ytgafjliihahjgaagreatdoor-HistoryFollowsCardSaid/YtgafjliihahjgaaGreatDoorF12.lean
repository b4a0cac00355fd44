/- See F54. -/
import Derived.Test.YtgafjliihahjgaaGreatDoorF09
import Derived.Test.YtgafjliihahjgaaGreatDoorF11
set_option linter.all false
namespace Go.Proofs
open Go.Eng
open Tryz
noncomputable def Bs(f:FuncId)(args:List AV):Option AV:=
 match f,args with
 |221,[.str s,.int .i64 b,.int .i64 w]=>if s≠[]∧s.all isD=true∧s.length≤18∧b=10∧w=64 then some (.tuple [.int .u64 (lC s:Nat),.nilIface]) else none
 |228,[.int .u64 u,.int .i64 b]=>if 0≤u∧u≤18446744073709551615∧b=10 then some (.str (aR u.toNat)) else none
 |f,args=>aY f args
theorem Oe:HS prog (af Bs):=bH fun f X v h mem=>by
 unfold Bs at h;split at h
 ·split at h
  ·rename_i hc
   obtain⟨Z,W,h3,rfl,rfl⟩:=hc;cases h;exact AT _ Z W h3 mem
  ·cases h
 ·split at h
  ·rename_i hc
   obtain⟨Z,W,rfl⟩:=hc;cases h;have V:=(Int.toNat_lt Z).2 (show _<((18446744073709551616:Nat):Int) by omega);have:=zg _ V mem;rw[Int.toNat_of_nonneg Z] at this;exact this
  ·cases h
 ·have:=dZ.fn _ _ mem ⟨v,none,[]⟩ (by unfold af;simp only;rw[h])
  simpa [aeQ.mem] using this
noncomputable def nk:aeT:=fun c Z M=>match c,Z with
 |.fn 266,[.ptr b 0]=>match M[b]? with
  |some (.cells true es [.afd,sl])=>if es=nX then some ⟨.tuple [],some (M.set b (.cells true nX [.ptr b 0,sl])),[]⟩ else none
  |some (.cells true es [.ptr b' 0,_])=>if es=nX∧b' =b then some ⟨.tuple [],none,[]⟩ else none
  |_=>none
 |_,_=>none
theorem Fs:HS prog nk where
 fn f args mem r h:=by
  unfold nk at h;split at h
  ·rename_i W
   cases W;split at h
   ·rename_i b _ es X Z
    split at h
    ·rename_i he
     cases h;subst he;simpa [aeQ.mem] using pK mem b X Z
    ·cases h
   ·rename_i b _ es b' X Z
    split at h
    ·rename_i he
     cases h;obtain⟨rfl,rfl⟩:=he;simpa [aeQ.mem] using sK mem _ _ Z
    ·cases h
   ·cases h
  ·cases h
 yld b args mem r h:=by unfold nk at h;split at h<;>simp_all
 pre c args mem r p h hp:=by
  unfold nk at h;split at h
  ·split at h
   ·split at h
    ·cases h;cases hp;simp
    ·cases h
   ·split at h
    ·cases h;cases hp
    ·cases h
   ·cases h
  ·cases h
noncomputable def Gj:aeT:=aeT.or nk (af Bs)
theorem Bt:HS prog Gj:=HS.or Fs Oe
def ZL(q:List UInt8)(r:aeQ):Bool:=match r.v with
 |.tuple [.str s,.int .i64 0]=>s==q&&(match r.pre with | some p=>p.isEmpty | none=>true)&&r.new.isEmpty
 |_=>false
theorem UR{q:List UInt8}{r:aeQ}(h:ZL q r=true):r.v=.tuple [.str q,.int .i64 0]∧r.mem []=[]:=by
 obtain⟨v,Z,W⟩:=r;unfold ZL at h;simp only at h;split at h
 ·rename_i s
  simp only[Bool.and_eq_true,beq_iff_eq,List.isEmpty_iff] at h;obtain⟨⟨rfl,X⟩,rfl⟩:=h;refine⟨rfl,?_⟩;cases Z with
  |none=>rfl
  |some p=>
   simp only[List.isEmpty_iff] at X;subst X;rfl
 ·cases h
noncomputable def rX(n:Int)(d:Nat):Bool:=match sN (aN prog) ab (aK prog) Gj 60 30 (.fn 56) [.int .i64 n,.int .i64 d] [] with
 |some r=>ZL (ak (mkRat n d)) r
 |none=>false
theorem VQ:(List.range 21).all (fun k=>rX ((k:Int)-7) 1)=true:=by kernel_rfl
theorem VR:(List.range 21).all (fun k=>rX ((k:Int)-7) 2)=true:=by kernel_rfl
theorem SA(n:Int)(d:Nat)(A:d=1∨d=2)(h0: -7≤n)(G:n≤13)(mem:Mem):
  kO prog 56 [.int .i64 n,.int .i64 d] mem (.tuple [.str (ak (mkRat n d)),.int .i64 0]) mem:=by
 have h:rX n d=true:=by
  have e:(((n+7).toNat:Nat)-7:Int)=n:=by omega
  rcases A with rfl | rfl
  ·have:=List.all_eq_true.1 VQ (n+7).toNat (List.mem_range.2 (by omega));rwa [e] at this
  ·have:=List.all_eq_true.1 VR (n+7).toNat (List.mem_range.2 (by omega));rwa [e] at this
 unfold rX at h;split at h
 ·rename_i r Z
  obtain⟨X,W⟩:=UR h;have:=(gG ae (ar _) (au _) Bt 30).fn _ _ _ _ Z;rw[X,W] at this;exact kO.lift rfl rfl this mem
 ·cases h
end Go.Proofs
namespace Go.Eng
theorem EV{a:Int}{b:Nat}(A:0<b)(h:0≤a∨a.natAbs%b=0):a.tdiv b=a / b∧a.tmod b=((a.natAbs%b:Nat):Int):=by
 by_cases V:0≤a
 ·obtain⟨n,rfl⟩:∃n:Nat,a=n:=⟨a.toNat,by omega⟩
  rw[Hm,Ar,Int.natAbs_natCast,Int.natCast_ediv];exact⟨rfl,rfl⟩
 ·have Z:a.natAbs%b=0:=by rcases h with h | h<;>omega
  have X:a= -((a.natAbs / b*b:Nat):Int):=by have:=Nat.div_add_mod a.natAbs b;rw[Z,Nat.add_zero,Nat.mul_comm] at this;omega
  obtain⟨q,hq⟩:=xE (a.natAbs / b);rw[←hq] at X;rw[Z,X,Int.natCast_mul,←Int.neg_mul];have W :(b:Int)≠0:=by omega
  exact⟨by rw[Int.mul_tdiv_cancel _ W,Int.mul_ediv_cancel _ W],by rw[Int.mul_tmod_left];rfl⟩
end Go.Eng
namespace Go.Proofs
open Go.Eng
open Tryz
variable{K:Nat}{O:aeT}{b:Code}
theorem Dv(n m:Int)(G:m.natAbs<K)(A:ai f129=[b]):
  ∃F:Env→Bool→Env,∀Z d,(ad Z 5=.int .i64 n∧ad Z 6=.int .i64 m)→
   aM (aN prog) (fun _=>[5,6]) O K 36 0 true (.loop b) ⟨Z,[],d⟩=some (.exit 0,⟨F Z d,[],d⟩)∧(ad (F Z d) 5=.int .i64 (euc K n m)∧ad (F Z d) 0=ad Z 0∧ad (F Z d) 1=ad Z 1∧ad (F Z d) 4=ad Z 4):=by
 refine cD rfl (fun Z=>ad Z 5=.int .i64 n∧ad Z 6=.int .i64 m) (fun Z X =>ad X 5=.int .i64 (euc K n m)∧ad X 0=ad Z 0∧ad X 1=ad Z 1∧ad X 4=ad Z 4) ?_;rintro Z d ⟨h5,h6⟩;have S:aD [5,6] (ab b) Z ((5,.int .i64 n)::(6,.int .i64 m)::Z)=aD [5,6] (ab b) Z Z:=by simp[aD,h5,h6]
 rw[←S];have W:∀(k:Nat) (x y:Int),y.natAbs<k→∃X,er [5,6] (ab b) Z 0 (aM (aN prog) (fun _=>[5,6]) O K 36 0 true b) k ⟨aD [5,6] (ab b) Z ((5,.int .i64 x)::(6,.int .i64 y)::Z),[],d⟩=
   some (.exit 0,⟨X,[],d⟩)∧ad X 5=.int .i64 (euc k x y)∧ad X 0=ad Z 0∧ad X 1=ad Z 1∧ad X 4=ad Z 4:=by
  clear S;simp[ai,aG,f129] at A;intro k;induction k with
  |zero=>intro x y h;omega
  |succ k ih=>
   intro x y B;by_cases V:y=0
   ·subst A
    subst V;simp[er,euc]
   ·have J:(x.tmod y).natAbs<k:=by rw[Int.natAbs_tmod];have:=Nat.mod_lt x.natAbs (show 0<y.natAbs by omega);omega
    obtain⟨X,M,D,C⟩:=ih y (x.tmod y) J;subst A;refine⟨X,?_,by rw[D,euc,if_neg V],C⟩;rw[er];simp[V];simp at M;exact M
 exact W K n m G
theorem Fm(n:Int)(m:Nat)(hn:n.natAbs≤4611686018427387904)(A:m≠0)(hm:m≤4611686018427387904)(mem:Mem):kO prog 129 [.int .i64 n,.int .i64 m] mem (.str (ak (mkRat n m))) mem:=by
 have G:aK prog 129=some f129:=by kernel_rfl
 refine cV dZ (lv:=fun _=>[5,6]) (K:=m+1) rfl rfl ?_ mem;obtain⟨b,hb⟩:∃b,ai f129=[b]:=⟨_,rfl⟩
 obtain⟨N,hN⟩:=xE (α:=Nat) n.natAbs;obtain⟨F,hF⟩:=Dv (O:=af aY) (K:=m+1) (N:Int) (m:Int) (by simp) hb;simp[ai,aG,f129] at hb;subst hb;rw[xK n A,←hN];have hgE:∀k (x y:Nat),0≤euc k (x:Int) (y:Int):=by
  intro k;induction k with
  |zero=>intro x y;unfold euc;omega
  |succ k ih=>
   intro x y;unfold euc;split
   ·omega
   ·rw[Ar];exact ih y (x%y)
 have W:=sn (m+1) (N:Int) (m:Int) (by simp);have hg0:=hgE (m+1) N m;generalize euc (m+1) (N:Int) (m:Int)=gz at hF W hg0;rw[Int.natAbs_natCast,Int.natAbs_natCast] at W;obtain⟨g,rfl⟩:∃g:Nat,gz=g:=⟨gz.toNat,by omega⟩
 rw[Int.natAbs_natCast] at W;rw[←W];have hgp:0<g:=by rw[W];exact Nat.gcd_pos_of_pos_right _ (by omega)
 have hgn:g∣N:=by rw[W];exact Nat.gcd_dvd_left _ _
 have hgd:g∣m:=by rw[W];exact Nat.gcd_dvd_right _ _
 have hgm:g≤m:=Nat.le_of_dvd (by omega) hgd;have H:=EV (a:=n) hgp (.inr (by rw[←hN];exact Nat.mod_eq_zero_of_dvd hgn));have hq1:(n / (g:Int)).natAbs≤n.natAbs:=Int.natAbs_ediv_le_natAbs _ _;obtain⟨Z,hZ⟩:=xE (n / (g:Int));rw[←hZ] at hq1 H ⊢;obtain⟨D,M⟩:=xE (m / g);have hDm:D≤m:=by rw[M];exact Nat.div_le_self _ _
 rw[←M];have w0:IntKind.i64.wrap (-n)= -n:=aq;have J:(if n< -n then -n else n)=(N:Int):=by split<;>omega
 have aeE :(if -n<n then n else -n)=(N:Int):=by split<;>omega
 have w1:IntKind.i64.wrap (n.tdiv (g:Int))=Z:=by rw[H.1];exact aq
 have C :IntKind.i64.wrap Z=Z:=aq;have w2:IntKind.i64.wrap ((m:Int).tdiv (g:Int))=(D:Int):=by rw[Hm,←M];exact aq
 have B :IntKind.i64.wrap ((m:Int) / (g:Int))=(D:Int):=by rw[←Int.natCast_ediv,←M];exact aq
 have V:dU Z=true:=by unfold dU;simp;omega
 have hf2:dU (D:Int)=true:=by unfold dU;simp;omega
 have hDs:cC (D:Int)=aR D:=rfl;have z :¬g=0:=by omega
 have lZ:(cC Z).length+1≤gv∧(cC Z).length+1+(aR D).length≤gv:=by have h1:=fH Z;have h2:=bD (u:=Z.natAbs) (k:=20) (by omega) (by omega);have h3:=bD (u:=D) (k:=20) (by omega) (by omega);unfold gv;omega
 obtain⟨l1,l2⟩:=lZ;by_cases j:m=1
 ·have Y:g=1:=by omega
  have X:D=1:=by rw[M,j,Y]
  have R:Z=n:=by rw[hZ,Y];exact Int.ediv_one n
  have hfn:dU n=true:=by rw[←R];exact V
  subst j;rw[if_pos X,R];simp[aa,G,f129,af,aY,hfn]
 ·have I:¬(m:Int)=1:=by omega
  by_cases X:D=1
  ·have S:(D:Int)=1:=by omega
   rw[if_pos X];simp[aa,G,f129,I,w0,J,hF,z,H,C,B,S,af,aY,V,Nat.testBit]
  ·have S:¬(D:Int)=1:=by omega
   rw[if_neg X];simp[aa,G,f129,I,w0,J,hF,z,H,C,B,S,af,aY,V,hf2,hDs,l1,l2,Nat.testBit]
theorem zy(n m:Int)(G:m.natAbs<K)(A:ai f99=[b]):
  ∃F:Env→Bool→Env,∀Z d,(ad Z 9=.int .i64 n∧ad Z 10=.int .i64 m)→
   aM (aN prog) (fun _=>[9,10]) O K 55 0 true (.loop b) ⟨Z,[],d⟩=some (.exit 0,⟨F Z d,[],d⟩)∧(ad (F Z d) 9=.int .i64 (euc K n m)∧ad (F Z d) 5=ad Z 5∧ad (F Z d) 7=ad Z 7∧ad (F Z d) 4=ad Z 4):=by
 refine cD rfl (fun Z=>ad Z 9=.int .i64 n∧ad Z 10=.int .i64 m) (fun Z X =>ad X 9=.int .i64 (euc K n m)∧ad X 5=ad Z 5∧ad X 7=ad Z 7∧ad X 4=ad Z 4) ?_;rintro Z d ⟨h5,h6⟩;have S:aD [9,10] (ab b) Z ((9,.int .i64 n)::(10,.int .i64 m)::Z)=aD [9,10] (ab b) Z Z:=by simp[aD,h5,h6]
 rw[←S];have W:∀(k:Nat) (x y:Int),y.natAbs<k→∃X,er [9,10] (ab b) Z 0 (aM (aN prog) (fun _=>[9,10]) O K 55 0 true b) k ⟨aD [9,10] (ab b) Z ((9,.int .i64 x)::(10,.int .i64 y)::Z),[],d⟩=
   some (.exit 0,⟨X,[],d⟩)∧ad X 9=.int .i64 (euc k x y)∧ad X 5=ad Z 5∧ad X 7=ad Z 7∧ad X 4=ad Z 4:=by
  clear S;simp[ai,aG,f99] at A;intro k;induction k with
  |zero=>intro x y h;omega
  |succ k ih=>
   intro x y B;by_cases V:y=0
   ·subst A
    subst V;simp[er,euc]
   ·have J:(x.tmod y).natAbs<k:=by rw[Int.natAbs_tmod];have:=Nat.mod_lt x.natAbs (show 0<y.natAbs by omega);omega
    obtain⟨X,M,D,C⟩:=ih y (x.tmod y) J;subst A;refine⟨X,?_,by rw[D,euc,if_neg V],C⟩;rw[er];simp[V];simp at M;exact M
 exact W K n m G
theorem RH:∀(k x y:Nat),0≤euc k (x:Int) (y:Int):=by
 intro k;induction k with
 |zero=>intro x y;unfold euc;omega
 |succ k ih=>
  intro x y;unfold euc;split
  ·omega
  ·rw[Ar];exact ih y (x%y)
theorem Ie(n:Int)(m:Nat)(hm0:m≠0)(A:(cC n).length≤18)(G:(aR m).length≤18)(mem:Mem):kO prog 99 [.str (cC n),.str (aR m)] mem (.str (ak (mkRat n m))) mem:=by
 have hG:aK prog 99=some f99:=by kernel_rfl
 have hn:=xB A;have hm:m<10 ^ 18:=by have h1:=fh m;have h2:10 ^ (aR m).length≤10 ^ 18:=Nat.pow_le_pow_right (by omega) G;omega
 refine cV dZ (lv:=fun _=>[9,10]) (K:=m+1) rfl rfl ?_ mem;obtain⟨b,hb⟩:∃b,ai f99=[b]:=⟨_,rfl⟩
 obtain⟨N,hN⟩:=xE (α:=Nat) n.natAbs;rw[←hN] at hn;obtain⟨F,z⟩:=zy (O:=af aY) (K:=m+1) (N:Int) (m:Int) (by simp) hb;simp[ai,aG,f99] at hb;subst hb;rw[xK n hm0,←hN];have j:=sn (m+1) (N:Int) (m:Int) (by simp);have hg0:=RH (m+1) N m;generalize euc (m+1) (N:Int) (m:Int)=gz at z j hg0;rw[Int.natAbs_natCast,Int.natAbs_natCast] at j;obtain⟨g,rfl⟩:∃g:Nat,gz=g:=⟨gz.toNat,by omega⟩
 rw[Int.natAbs_natCast] at j;rw[←j];have hgp:0<g:=by rw[j];exact Nat.gcd_pos_of_pos_right _ (by omega)
 have hgn:g∣N:=by rw[j];exact Nat.gcd_dvd_left _ _
 have Y:=EV (a:=n) hgp (.inr (by rw[←hN];exact Nat.mod_eq_zero_of_dvd hgn));have hq1:(n / (g:Int)).natAbs≤n.natAbs:=Int.natAbs_ediv_le_natAbs _ _;obtain⟨Z,hZ⟩:=xE (n / (g:Int));rw[←hZ] at hq1 Y ⊢;obtain⟨D,hD⟩:=xE (m / g);have hDm:D≤m:=by rw[hD];exact Nat.div_le_self _ _
 rw[←hD];have w1:IntKind.i64.wrap (n.tdiv (g:Int))=Z:=by rw[Y.1];exact aq
 have V :IntKind.i64.wrap Z=Z:=aq;have w2:IntKind.i64.wrap ((m:Int).tdiv (g:Int))=(D:Int):=by rw[Hm,←hD];exact aq
 have S :IntKind.i64.wrap ((m:Int) / (g:Int))=(D:Int):=by rw[←Int.natCast_ediv,←hD];exact aq
 have M:dU Z=true:=by unfold dU;simp;omega
 have I:dU (D:Int)=true:=by unfold dU;simp;omega
 have H:cC (D:Int)=aR D:=rfl;have J :¬g=0:=by omega
 have lZ:(cC Z).length+1≤gv∧(cC Z).length+1+(aR D).length≤gv:=by have h1:=fH Z;have h2:=bD (u:=Z.natAbs) (k:=20) (by omega) (by omega);have h3:=bD (u:=D) (k:=20) (by omega) (by omega);unfold gv;omega
 obtain⟨l1,l2⟩:=lZ;have C:Lib.atoi (aR m)=some (m:Int):=nu (m:Int);have B:¬(m:Int)<0:=by omega
 have w0:IntKind.i64.wrap (-n)= -n:=aq;have abc:n<0→ -n=(N:Int):=by omega
 have Z6:¬n<0→n=(N:Int):=by omega
 by_cases R:n<0
 ·have w0' :IntKind.i64.wrap (-n)=(N:Int):=by rw[w0];exact abc R
  by_cases W:D=1
  ·have X:(D:Int)=1:=by omega
   rw[if_pos W];simp[aa,hG,f99,af,aY,A,G,nu,C,B,R,w0',z,J,Y,V,S,X,M,Nat.testBit]
  ·have X:¬(D:Int)=1:=by omega
   rw[if_neg W];simp[aa,hG,f99,af,aY,A,G,nu,C,B,R,w0',z,J,Y,V,S,X,M,I,H,l1,l2,Nat.testBit]
 ·have e:=Z6 R
  rw[←e] at z;by_cases W:D=1
  ·have X:(D:Int)=1:=by omega
   rw[if_pos W];simp[aa,hG,f99,af,aY,A,G,nu,C,B,R, z,J,Y,V,S,X,M,Nat.testBit]
  ·have X:¬(D:Int)=1:=by omega
   rw[if_neg W];simp[aa,hG,f99,af,aY,A,G,nu,C,B,R, z,J,Y,V,S,X,M,I,H,l1,l2,Nat.testBit]
end Go.Proofs
