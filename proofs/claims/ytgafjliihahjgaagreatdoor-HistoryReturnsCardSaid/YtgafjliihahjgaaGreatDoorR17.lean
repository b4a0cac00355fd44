/- See R54. -/
import Derived.Test.YtgafjliihahjgaaGreatDoorR14
import Derived.Test.YtgafjliihahjgaaGreatDoorR16
set_option linter.all false
namespace Go.Proofs
open Go.Eng
open Tryz
noncomputable def Ah(f:FuncId) (args:List AV):Option AV:=
 match f,args with
 |221,[.str s,.int .i64 b,.int .i64 w]=>if s≠[]∧s.all isD=true∧s.length≤18∧b=10∧w=64 then some (.tuple [.int .u64 (lA s:Nat),.nilIface]) else none
 |228,[.int .u64 u,.int .i64 b]=>if 0≤u∧u≤18446744073709551615∧b=10 then some (.str (aQ u.toNat)) else none
 |f,args=>aV f args
theorem LV:kP prog (ag Ah):=bK fun f args v h mem=>by
 unfold Ah at h;split at h
 ·split at h
  ·rename_i hc
   obtain⟨h1,h2,h3,rfl,rfl⟩:=hc;cases h;exact zE _ h1 h2 h3 mem
  ·cases h
 ·split at h
  ·rename_i hc
   obtain⟨h1,h2,rfl⟩:=hc;cases h;have hd:=(Int.toNat_lt h1).2 (show _<((18446744073709551616:Nat):Int) by omega);have:=xX _ hd mem;rw[Int.toNat_of_nonneg h1] at this;exact this
  ·cases h
 ·have:=dP.fn _ _ mem ⟨v,none,[]⟩ (by unfold ag;simp only;rw[h])
  simpa [HS.mem] using this
noncomputable def mV:adM:=fun c args M=>match c,args with
 |.fn 266,[.ptr b 0]=>match M[b]? with
  |some (.cells true es [.aeT,sl])=>if es=nC then some ⟨.tuple [],some (M.set b (.cells true nC [.ptr b 0,sl])),[]⟩ else none
  |some (.cells true es [.ptr b' 0,_])=>if es=nC∧b' =b then some ⟨.tuple [],none,[]⟩ else none
  |_=>none
 |_,_=>none
theorem Eb:kP prog mV where
 fn f args mem r h:=by
  unfold mV at h;split at h
  ·rename_i S'
   cases S';split at h
   ·rename_i b _ es sl hb
    split at h
    ·rename_i he
     cases h;subst he;simpa [HS.mem] using o9 mem b sl hb
    ·cases h
   ·rename_i b _ es b' sl hb
    split at h
    ·rename_i he
     cases h;obtain⟨rfl,rfl⟩:=he;simpa [HS.mem] using rI mem _ _ hb
    ·cases h
   ·cases h
  ·cases h
 yld b args mem r h:=by unfold mV at h;split at h<;>simp_all
 pre c args mem r p h hp:=by
  unfold mV at h;split at h
  ·split at h
   ·split at h
    ·cases h;cases hp;simp
    ·cases h
   ·split at h
    ·cases h;cases hp
    ·cases h
   ·cases h
  ·cases h
noncomputable def EI:adM:=adM.or mV (ag Ah)
theorem Ai:kP prog EI:=kP.or Eb LV
def XB(q:List UInt8) (r:HS):Bool:=match r.v with
 |.tuple [.str s,.int .i64 0]=>s==q&&(match r.pre with | some p=>p.isEmpty | none=>true)&&r.new.isEmpty
 |_=>false
theorem SH{q:List UInt8}{r:HS}(h:XB q r=true):r.v=.tuple [.str q,.int .i64 0]∧r.mem []=[]:=by
 obtain⟨v,pre,new⟩:=r;unfold XB at h;simp only at h;split at h
 ·rename_i s
  simp only[Bool.and_eq_true,beq_iff_eq,List.isEmpty_iff] at h;obtain⟨⟨rfl,h1⟩,rfl⟩:=h;refine⟨rfl,?_⟩;cases pre with
  |none=>rfl
  |some p=>
   simp only[List.isEmpty_iff] at h1;subst h1;rfl
 ·cases h
noncomputable def qT(n:Int) (d:Nat):Bool:=match uQ (aM prog) aa (aT prog) EI 60 30 (.fn 56) [.int .i64 n,.int .i64 d] [] with
 |some r=>XB (aw (mkRat n d)) r
 |none=>false
theorem TG:(List.range 21).all (fun k=>qT ((k:Int)-7) 1)=true:=by kernel_rfl
theorem TH:(List.range 21).all (fun k=>qT ((k:Int)-7) 2)=true:=by kernel_rfl
theorem Qo(n:Int)(d:Nat)(hd:d=1∨d=2)(h0: -7≤n)(h1:n≤13)(mem:Mem):
  kF prog 56 [.int .i64 n,.int .i64 d] mem (.tuple [.str (aw (mkRat n d)),.int .i64 0]) mem:=by
 have h:qT n d=true:=by
  have e:(((n+7).toNat:Nat)-7:Int)=n:=by omega
  rcases hd with rfl | rfl
  ·have:=List.all_eq_true.1 TG (n+7).toNat (List.mem_range.2 (by omega));rwa [e] at this
  ·have:=List.all_eq_true.1 TH (n+7).toNat (List.mem_range.2 (by omega));rwa [e] at this
 unfold qT at h;split at h
 ·rename_i r hr
  obtain⟨e1,e2⟩:=SH h;have:=(jg ae (aq _) (au _) Ai 30).fn _ _ _ _ hr;rw[e1,e2] at this;exact kF.lift rfl rfl this mem
 ·cases h
end Go.Proofs
namespace Go.Eng
theorem DM{a:Int}{b:Nat}(hb:0<b)(h:0≤a∨a.natAbs%b=0):a.tdiv b=a / b∧a.tmod b=((a.natAbs%b:Nat):Int):=by
 by_cases h0:0≤a
 ·obtain⟨n,rfl⟩:∃n:Nat,a=n:=⟨a.toNat,by omega⟩
  rw[FG,zc,Int.natAbs_natCast,Int.natCast_ediv];exact⟨rfl,rfl⟩
 ·have h1:a.natAbs%b=0:=by rcases h with h | h<;>omega
  have h2:a= -((a.natAbs / b*b:Nat):Int):=by have:=Nat.div_add_mod a.natAbs b;rw[h1,Nat.add_zero,Nat.mul_comm] at this;omega
  obtain⟨q,hq⟩:∃q,q=a.natAbs / b:=⟨_,rfl⟩
  rw[←hq] at h2;rw[h1,h2,Int.natCast_mul,←Int.neg_mul];have UV :(b:Int)≠0:=by omega
  exact⟨by rw[Int.mul_tdiv_cancel _ UV,Int.mul_ediv_cancel _ UV],by rw[Int.mul_tmod_left];rfl⟩
end Go.Eng
namespace Go.Proofs
open Go.Eng
open Tryz
variable{K:Nat}{O:adM}{b:Code}
theorem Ch(n m:Int)(hK:m.natAbs<K)(hb:ai f129=[b]):
  ∃F:Env→Bool→Env,∀z' d,(ab z' 5=.int .i64 n∧ab z' 6=.int .i64 m)→
   aN (aM prog) (fun _=>[5,6]) O K 36 0 true (.loop b) ⟨z',[],d⟩=some (.exit 0,⟨F z' d,[],d⟩)∧(ab (F z' d) 5=.int .i64 (euc K n m)∧ab (F z' d) 0=ab z' 0∧ab (F z' d) 1=ab z' 1∧ab (F z' d) 4=ab z' 4):=by
 refine cv rfl (fun z'=>ab z' 5=.int .i64 n∧ab z' 6=.int .i64 m) (fun z' AC =>ab AC 5=.int .i64 (euc K n m)∧ab AC 0=ab z' 0∧ab AC 1=ab z' 1∧ab AC 4=ab z' 4) ?_;rintro z' d ⟨h5,h6⟩;have hn:aD [5,6] (aa b) z' ((5,.int .i64 n)::(6,.int .i64 m)::z')=aD [5,6] (aa b) z' z':=by simp[aD,h5,h6]
 rw[←hn];have key:∀(k:Nat) (x y:Int),y.natAbs<k→∃AC,ej [5,6] (aa b) z' 0 (aN (aM prog) (fun _=>[5,6]) O K 36 0 true b) k ⟨aD [5,6] (aa b) z' ((5,.int .i64 x)::(6,.int .i64 y)::z'),[],d⟩=
   some (.exit 0,⟨AC,[],d⟩)∧ab AC 5=.int .i64 (euc k x y)∧ab AC 0=ab z' 0∧ab AC 1=ab z' 1∧ab AC 4=ab z' 4:=by
  clear hn;simp[ai,aK,f129] at hb;intro k;induction k with
  |zero=>intro x y h;omega
  |succ k ih=>
   intro x y hk;by_cases hy:y=0
   ·subst hb
    subst hy;simp[ej,euc]
   ·have A':(x.tmod y).natAbs<k:=by rw[Int.natAbs_tmod];have:=Nat.mod_lt x.natAbs (show 0<y.natAbs by omega);omega
    obtain⟨AC,e1,e2,e4⟩:=ih y (x.tmod y) A';subst hb;refine⟨AC,?_,by rw[e2,euc,if_neg hy],e4⟩;rw[ej];simp[hy];simp at e1;exact e1
 exact key K n m hK
theorem D6(n:Int)(m:Nat)(hn:n.natAbs≤4611686018427387904)(Yt:m≠0)(hm:m≤4611686018427387904)(mem:Mem):kF prog 129 [.int .i64 n,.int .i64 m] mem (.str (aw (mkRat n m))) mem:=by
 have hG:aT prog 129=some f129:=by kernel_rfl
 refine az dP (lv:=fun _=>[5,6]) (K:=m+1) rfl rfl ?_ mem;obtain⟨b,hb⟩:∃b,ai f129=[b]:=⟨_,rfl⟩
 obtain⟨N,hN⟩:∃N:Nat,N=n.natAbs:=⟨_,rfl⟩
 obtain⟨F,hF⟩:=Ch (O:=ag aV) (K:=m+1) (N:Int) (m:Int) (by simp) hb;simp[ai,aK,f129] at hb;subst hb;rw[wO n Yt,←hN];have hgE:∀k (x y:Nat),0≤euc k (x:Int) (y:Int):=by
  intro k;induction k with
  |zero=>intro x y;unfold euc;omega
  |succ k ih=>
   intro x y;unfold euc;split
   ·omega
   ·rw[zc];exact ih y (x%y)
 have hg:=rm (m+1) (N:Int) (m:Int) (by simp);have hg0:=hgE (m+1) N m;generalize euc (m+1) (N:Int) (m:Int)=gz at hF hg hg0;rw[Int.natAbs_natCast,Int.natAbs_natCast] at hg;obtain⟨g,rfl⟩:∃g:Nat,gz=g:=⟨gz.toNat,by omega⟩
 rw[Int.natAbs_natCast] at hg;rw[←hg];have hgp:0<g:=by rw[hg];exact Nat.gcd_pos_of_pos_right _ (by omega)
 have hgn:g∣N:=by rw[hg];exact Nat.gcd_dvd_left _ _
 have hgd:g∣m:=by rw[hg];exact Nat.gcd_dvd_right _ _
 have hgm:g≤m:=Nat.le_of_dvd (by omega) hgd;have te:=DM (a:=n) hgp (.inr (by rw[←hN];exact Nat.mod_eq_zero_of_dvd hgn));have hq1:(n / (g:Int)).natAbs≤n.natAbs:=Int.natAbs_ediv_le_natAbs _ _;obtain⟨Z,hZ⟩:∃Z,Z=n / (g:Int):=⟨_,rfl⟩
 rw[←hZ] at hq1 te ⊢;obtain⟨D,hD⟩:∃D,D=m / g:=⟨_,rfl⟩
 have hDm:D≤m:=by rw[hD];exact Nat.div_le_self _ _
 rw[←hD];have w0:IntKind.i64.wrap (-n)= -n:=al (by omega) (by omega);have acI:(if n< -n then -n else n)=(N:Int):=by split<;>omega
 have aei :(if -n<n then n else -n)=(N:Int):=by split<;>omega
 have w1:IntKind.i64.wrap (n.tdiv (g:Int))=Z:=by rw[te.1];exact al (by omega) (by omega)
 have w1' :IntKind.i64.wrap Z=Z:=al (by omega) (by omega);have w2:IntKind.i64.wrap ((m:Int).tdiv (g:Int))=(D:Int):=by rw[FG,←hD];exact al (by omega) (by omega)
 have w2' :IntKind.i64.wrap ((m:Int) / (g:Int))=(D:Int):=by rw[←Int.natCast_ediv,←hD];exact al (by omega) (by omega)
 have YD:dH Z=true:=by unfold dH;simp;omega
 have hf2:dH (D:Int)=true:=by unfold dH;simp;omega
 have hDs:cf (D:Int)=aQ D:=rfl;have aaE :¬g=0:=by omega
 have lZ:(cf Z).length+1≤gk∧(cf Z).length+1+(aQ D).length≤gk:=by have h1:=fm Z;have h2:=br (u:=Z.natAbs) (k:=20) (by omega) (by omega);have h3:=br (u:=D) (k:=20) (by omega) (by omega);unfold gk;omega
 obtain⟨l1,l2⟩:=lZ;by_cases YY:m=1
 ·have hg1:g=1:=by omega
  have hD1:D=1:=by rw[hD,YY,hg1]
  have hZn:Z=n:=by rw[hZ,hg1];exact Int.ediv_one n
  have hfn:dH n=true:=by rw[←hZn];exact YD
  subst YY;rw[if_pos hD1,hZn];simp[ad,hG,f129,ag,aV,hfn]
 ·have acJ:¬(m:Int)=1:=by omega
  by_cases hD1:D=1
  ·have Zx:(D:Int)=1:=by omega
   rw[if_pos hD1];simp[ad,hG,f129,acJ,w0,acI,hF,aaE,te,w1',w2',Zx,ag,aV,YD,Nat.testBit]
  ·have Zx:¬(D:Int)=1:=by omega
   rw[if_neg hD1];simp[ad,hG,f129,acJ,w0,acI,hF,aaE,te,w1',w2',Zx,ag,aV,YD,hf2,hDs,l1,l2,Nat.testBit]
theorem yo(n m:Int)(hK:m.natAbs<K)(hb:ai f99=[b]):
  ∃F:Env→Bool→Env,∀z' d,(ab z' 9=.int .i64 n∧ab z' 10=.int .i64 m)→
   aN (aM prog) (fun _=>[9,10]) O K 55 0 true (.loop b) ⟨z',[],d⟩=some (.exit 0,⟨F z' d,[],d⟩)∧(ab (F z' d) 9=.int .i64 (euc K n m)∧ab (F z' d) 5=ab z' 5∧ab (F z' d) 7=ab z' 7∧ab (F z' d) 4=ab z' 4):=by
 refine cv rfl (fun z'=>ab z' 9=.int .i64 n∧ab z' 10=.int .i64 m) (fun z' AC =>ab AC 9=.int .i64 (euc K n m)∧ab AC 5=ab z' 5∧ab AC 7=ab z' 7∧ab AC 4=ab z' 4) ?_;rintro z' d ⟨h5,h6⟩;have hn:aD [9,10] (aa b) z' ((9,.int .i64 n)::(10,.int .i64 m)::z')=aD [9,10] (aa b) z' z':=by simp[aD,h5,h6]
 rw[←hn];have key:∀(k:Nat) (x y:Int),y.natAbs<k→∃AC,ej [9,10] (aa b) z' 0 (aN (aM prog) (fun _=>[9,10]) O K 55 0 true b) k ⟨aD [9,10] (aa b) z' ((9,.int .i64 x)::(10,.int .i64 y)::z'),[],d⟩=
   some (.exit 0,⟨AC,[],d⟩)∧ab AC 9=.int .i64 (euc k x y)∧ab AC 5=ab z' 5∧ab AC 7=ab z' 7∧ab AC 4=ab z' 4:=by
  clear hn;simp[ai,aK,f99] at hb;intro k;induction k with
  |zero=>intro x y h;omega
  |succ k ih=>
   intro x y hk;by_cases hy:y=0
   ·subst hb
    subst hy;simp[ej,euc]
   ·have A':(x.tmod y).natAbs<k:=by rw[Int.natAbs_tmod];have:=Nat.mod_lt x.natAbs (show 0<y.natAbs by omega);omega
    obtain⟨AC,e1,e2,e4⟩:=ih y (x.tmod y) A';subst hb;refine⟨AC,?_,by rw[e2,euc,if_neg hy],e4⟩;rw[ej];simp[hy];simp at e1;exact e1
 exact key K n m hK
theorem Pv:∀(k x y:Nat),0≤euc k (x:Int) (y:Int):=by
 intro k;induction k with
 |zero=>intro x y;unfold euc;omega
 |succ k ih=>
  intro x y;unfold euc;split
  ·omega
  ·rw[zc];exact ih y (x%y)
theorem Gh(n:Int)(m:Nat)(Yt:m≠0)(Ym:(cf n).length≤18)(YU:(aQ m).length≤18)(mem:Mem):kF prog 99 [.str (cf n),.str (aQ m)] mem (.str (aw (mkRat n m))) mem:=by
 have hG:aT prog 99=some f99:=by kernel_rfl
 have hn:=wG Ym;have hm:m<10 ^ 18:=by have h1:=eI m;have h2:10 ^ (aQ m).length≤10 ^ 18:=Nat.pow_le_pow_right (by omega) YU;omega
 refine az dP (lv:=fun _=>[9,10]) (K:=m+1) rfl rfl ?_ mem;obtain⟨b,hb⟩:∃b,ai f99=[b]:=⟨_,rfl⟩
 obtain⟨N,hN⟩:∃N:Nat,N=n.natAbs:=⟨_,rfl⟩
 rw[←hN] at hn;obtain⟨F,hF⟩:=yo (O:=ag aV) (K:=m+1) (N:Int) (m:Int) (by simp) hb;simp[ai,aK,f99] at hb;subst hb;rw[wO n Yt,←hN];have hg:=rm (m+1) (N:Int) (m:Int) (by simp);have hg0:=Pv (m+1) N m;generalize euc (m+1) (N:Int) (m:Int)=gz at hF hg hg0;rw[Int.natAbs_natCast,Int.natAbs_natCast] at hg;obtain⟨g,rfl⟩:∃g:Nat,gz=g:=⟨gz.toNat,by omega⟩
 rw[Int.natAbs_natCast] at hg;rw[←hg];have hgp:0<g:=by rw[hg];exact Nat.gcd_pos_of_pos_right _ (by omega)
 have hgn:g∣N:=by rw[hg];exact Nat.gcd_dvd_left _ _
 have te:=DM (a:=n) hgp (.inr (by rw[←hN];exact Nat.mod_eq_zero_of_dvd hgn));have hq1:(n / (g:Int)).natAbs≤n.natAbs:=Int.natAbs_ediv_le_natAbs _ _;obtain⟨Z,hZ⟩:∃Z,Z=n / (g:Int):=⟨_,rfl⟩
 rw[←hZ] at hq1 te ⊢;obtain⟨D,hD⟩:∃D,D=m / g:=⟨_,rfl⟩
 have hDm:D≤m:=by rw[hD];exact Nat.div_le_self _ _
 rw[←hD];have w1:IntKind.i64.wrap (n.tdiv (g:Int))=Z:=by rw[te.1];exact al (by omega) (by omega)
 have w1' :IntKind.i64.wrap Z=Z:=al (by omega) (by omega);have w2:IntKind.i64.wrap ((m:Int).tdiv (g:Int))=(D:Int):=by rw[FG,←hD];exact al (by omega) (by omega)
 have w2' :IntKind.i64.wrap ((m:Int) / (g:Int))=(D:Int):=by rw[←Int.natCast_ediv,←hD];exact al (by omega) (by omega)
 have YD:dH Z=true:=by unfold dH;simp;omega
 have hf2:dH (D:Int)=true:=by unfold dH;simp;omega
 have hDs:cf (D:Int)=aQ D:=rfl;have aaE :¬g=0:=by omega
 have lZ:(cf Z).length+1≤gk∧(cf Z).length+1+(aQ D).length≤gk:=by have h1:=fm Z;have h2:=br (u:=Z.natAbs) (k:=20) (by omega) (by omega);have h3:=br (u:=D) (k:=20) (by omega) (by omega);unfold gk;omega
 obtain⟨l1,l2⟩:=lZ;have ha2:Lib.atoi (aQ m)=some (m:Int):=nh (m:Int);have hmn:¬(m:Int)<0:=by omega
 have w0:IntKind.i64.wrap (-n)= -n:=al (by omega) (by omega);have aav:n<0→ -n=(N:Int):=by omega
 have XQ:¬n<0→n=(N:Int):=by omega
 by_cases h0:n<0
 ·have w0' :IntKind.i64.wrap (-n)=(N:Int):=by rw[w0];exact aav h0
  by_cases hD1:D=1
  ·have Zx:(D:Int)=1:=by omega
   rw[if_pos hD1];simp[ad,hG,f99,ag,aV,Ym,YU,nh,ha2,hmn,h0,w0',hF,aaE,te,w1',w2',Zx,YD,Nat.testBit]
  ·have Zx:¬(D:Int)=1:=by omega
   rw[if_neg hD1];simp[ad,hG,f99,ag,aV,Ym,YU,nh,ha2,hmn,h0,w0',hF,aaE,te,w1',w2',Zx,YD,hf2,hDs,l1,l2,Nat.testBit]
 ·have e:=XQ h0
  rw[←e] at hF;by_cases hD1:D=1
  ·have Zx:(D:Int)=1:=by omega
   rw[if_pos hD1];simp[ad,hG,f99,ag,aV,Ym,YU,nh,ha2,hmn,h0, hF,aaE,te,w1',w2',Zx,YD,Nat.testBit]
  ·have Zx:¬(D:Int)=1:=by omega
   rw[if_neg hD1];simp[ad,hG,f99,ag,aV,Ym,YU,nh,ha2,hmn,h0, hF,aaE,te,w1',w2',Zx,YD,hf2,hDs,l1,l2,Nat.testBit]
end Go.Proofs
