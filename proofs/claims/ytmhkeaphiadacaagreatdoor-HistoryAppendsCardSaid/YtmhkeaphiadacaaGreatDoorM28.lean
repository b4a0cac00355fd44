/- See M58. -/
import Derived.Test.YtmhkeaphiadacaaGreatDoorM25
import Derived.Test.YtmhkeaphiadacaaGreatDoorM26
import Derived.Test.YtmhkeaphiadacaaGreatDoorM09
set_option linter.all false
namespace Go.Proofs
open Go.Eng
theorem J7(q:Rat) (hl:(aK q).length≤1000000000) (mem:Mem):ACallsTo Tryz.prog 196 [.str (aK q)] mem (.str (aK (-q))) mem:=by
 have hG:aF Tryz.prog 196=some Tryz.f196:=by kernel_rfl
 refine aq (af _) (lv:=fun _=>[]) (K:=1) rfl rfl ?_ mem
 by_cases h0:q=0
 ·subst h0
  simp[ad,hG,Tryz.f196,bq]
 ·have hn:¬q.num=0:=fun e=>h0 (vQ.1 e)
  by_cases h1:q.num<0
  ·have e:=ne h1
   have hb:(45::aK (-q)==[48])=false:=by rw[←e,bq];simpa using h0
   rw[e]
   have h3:(1:Int)≤((aK (-q)).length:Int)+1:=by omega
   simp[ad,hG,Tryz.f196,hb,h3]
  ·have e:=ow (q:=q) (by omega)
   obtain⟨c,r,e2,hc⟩:=nT (q:=q) (by omega)
   have hb:(c::r==[48])=false:=by rw[←e2,bq];simpa using h0
   have h2:=ff hc
   rw[e,e2]
   rw[e2] at hl
   simp only[List.length_cons] at hl
   have h3:1+(r.length+1)≤9223372036854775807:=by omega
   simp[ad,hG,Tryz.f196,hb,h2,h3,dT]
noncomputable def kQ(f:FuncId) (args:List AV):Option AV:=
 match f,args with
 |38,[.int .i64 n,.int .i64 d]=>if 0<d∧n.natAbs<10 ^ 8∧d.toNat<10 ^ 8 then some (.str (aK (mkRat n d.toNat))) else none
 |65,[.str s,.str t]=>match dz s,dz t with
  |some a,some b=>if (aK a).length≤9∧(aK b).length≤9 then some (.str (aK (a+b))) else none
  |_,_=>none
 |138,[.str s,.str t]=>match dz s,dz t with
  |some a,some b=>if (aK a).length≤9∧(aK b).length≤9 then some (.str (aK (a*b))) else none
  |_,_=>none
 |196,[.str s]=>match dz s with
  |some a=>if (aK a).length≤9 then some (.str (aK (-a))) else none
  |none=>none
 |_,_=>none
theorem qj:OracleOk Tryz.prog (ao kQ):=bI fun f args v h mem=>by
 unfold kQ at h
 split at h
 ·rename_i n d
  split at h
  ·rename_i hc
   cases h
   have:=Co n d.toNat (by omega) hc.2.1 hc.2.2 mem
   rw[Int.toNat_of_nonneg (by omega)] at this
   exact this
  ·cases h
 ·split at h
  ·rename_i m n hm hn
   split at h
   ·rename_i hc;cases h;rw[ap hm,ap hn];exact AJ m n hc.1 hc.2 mem
   ·cases h
  ·cases h
 ·split at h
  ·rename_i m n hm hn
   split at h
   ·rename_i hc;cases h;rw[ap hm,ap hn];exact Lt m n hc.1 hc.2 mem
   ·cases h
  ·cases h
 ·split at h
  ·rename_i m hm
   split at h
   ·rename_i hc;cases h;rw[ap hm];exact J7 m (by omega) mem
   ·cases h
  ·cases h
 ·cases h
theorem Kk(a b:Rat) (qa:(aK a).length≤9) (qb:(aK b).length≤9) (qn:(aK (-b)).length≤9) (mem:Mem):
  ACallsTo Tryz.prog 137 [.str (aK a),.str (aK b)] mem (.str (aK (a-b))) mem:=by
 have hG:aF Tryz.prog 137=some Tryz.f137:=by kernel_rfl
 refine aq qj (lv:=fun _=>[]) (K:=1) rfl rfl ?_ mem
 have e:a+ -b=a-b:=(Rat.sub_eq_add_neg a b).symm
 simp[ad,hG,Tryz.f137,ao,kQ,aM,qa,qb,qn,e]
def zS(n:Int):List UInt8:=aK (n:Rat)
theorem dY{n:Int}(h:n.natAbs<10 ^ 4):(aK (n:Rat)).length≤9:=by
 have e:aK (n:Rat)=bW n:=by
  unfold aK
  simp
 rw[e]
 have h1:=ei n
 have h2:(aI n.natAbs).length≤4:=bl (by omega) h
 omega
noncomputable def xC(f:FuncId) (args:List AV):Option AV:=
 match f,args with
 |137,[.str s,.str t]=>match dz s,dz t with
  |some a,some b=>if (aK a).length≤9∧(aK b).length≤9∧(aK (-b)).length≤9 then some (.str (aK (a-b))) else none
  |_,_=>none
 |f,args=>kQ f args
theorem I9:OracleOk Tryz.prog (ao xC):=bI fun f args v h mem=>by
 unfold xC at h
 split at h
 ·split at h
  ·rename_i m n hm hn
   split at h
   ·rename_i hc;cases h;rw[ap hm,ap hn];exact Kk m n hc.1 hc.2.1 hc.2.2 mem
   ·cases h
  ·cases h
 ·have:=qj.fn _ _ mem ⟨v,none,[]⟩ (by unfold ao;simp only;rw[h])
  simpa [CallRes.mem] using this
theorem Gl{a b:Int}(ha:a.natAbs≤30) (hb:b.natAbs≤30):(a*b).natAbs≤900:=by
 rw[Int.natAbs_mul]
 exact Nat.mul_le_mul ha hb
theorem Im(a b c d:Int) (ha:a.natAbs≤30) (hb:b.natAbs≤30) (hc:c.natAbs≤30) (hd:d.natAbs≤30) (mem:Mem):
  ACallsTo Tryz.prog 97 [.str (zS a),.str (zS b),.str (zS c),.str (zS d)] mem (.str (zS (a*d-b*c))) mem:=by
 have hG:aF Tryz.prog 97=some Tryz.f97:=by kernel_rfl
 have p1:=Gl ha hd
 have p2:=Gl hb hc
 have e1:(a:Rat)*(d:Rat)=((a*d:Int):Rat):=(Rat.intCast_mul a d).symm
 have e2:(b:Rat)*(c:Rat)=((b*c:Int):Rat):=(Rat.intCast_mul b c).symm
 obtain⟨x,hx⟩:∃x,x=a*d:=⟨_,rfl⟩
 obtain⟨y,hy⟩:∃x,x=b*c:=⟨_,rfl⟩
 rw[←hx] at p1 e1 ⊢
 rw[←hy] at p2 e2 ⊢
 have e3:(x:Rat)-(y:Rat)=((x-y:Int):Rat):=(Rat.intCast_sub x y).symm
 obtain⟨z,hz⟩:∃z,z=x-y:=⟨_,rfl⟩
 rw[←hz] at e3 ⊢
 have l1:=dY (n:=a) (by omega)
 have l2:=dY (n:=b) (by omega)
 have l3:=dY (n:=c) (by omega)
 have l4:=dY (n:=d) (by omega)
 have l5:=dY (n:=x) (by omega)
 have l6:=dY (n:=y) (by omega)
 have l7:(aK (-(y:Rat))).length≤9:=by
  rw[←Rat.intCast_neg]
  exact dY (n:= -y) (by omega)
 refine aq I9 (lv:=fun _=>[]) (K:=1) rfl rfl ?_ mem
 simp[ad,hG,Tryz.f97,ao,xC,kQ,zS,aM,l1,l2,l3,l4,l5,l6,l7,e1,e2,e3]
abbrev Z3:=Int×Int×Int
def zA(v:Z3):AV:=.agg [.str (zS v.1),.str (zS v.2.1),.str (zS v.2.2)]
def fB(n:Nat) (v:Z3):Prop:=v.1.natAbs≤n∧v.2.1.natAbs≤n∧v.2.2.natAbs≤n
instance (n:Nat) (v:Z3):Decidable (fB n v):=inferInstanceAs (Decidable (v.1.natAbs≤n∧v.2.1.natAbs≤n∧v.2.2.natAbs≤n))
theorem bk{n:Int}(h0: -1000000≤n) (h1:n≤1000000):IntKind.i64.wrap n=n:=by rw[ai (by omega) (by omega)]
def iB(a b:Z3):Z3:=(a.2.1*b.2.2-a.2.2*b.2.1,a.2.2*b.1-a.1*b.2.2,a.1*b.2.1-a.2.1*b.1)
theorem QC{a b:Int}(h:zS a=zS b):a=b:=by
 have:=vJ h
 exact_mod_cast this
theorem mI(n:Int):(zS n==[48])=decide (n=0):=by
 have h0:zS 0=[48]:=rfl
 by_cases h:n=0
 ·subst h;rfl
 ·rw[decide_eq_false h]
  have:zS n≠[48]:=fun e=>h (QC (e.trans h0.symm))
  simpa using this
def ie(v:Z3):Bool:=decide (v.1=0)&&decide (v.2.1=0)&&decide (v.2.2=0)
theorem H6(v:Z3) (mem:Mem):ACallsTo Tryz.prog 63 [zA v] mem (.bool (ie v)) mem:=by
 have hG:aF Tryz.prog 63=some Tryz.f63:=by kernel_rfl
 refine aq (af _) (lv:=fun _=>[]) (K:=1) rfl rfl ?_ mem
 obtain⟨a,b,c⟩:=v
 have ea:=mI a
 have eb:=mI b
 have ec:=mI c
 unfold ie zA
 simp only
 obtain⟨A,hA⟩:∃A,A=zS a:=⟨_,rfl⟩
 obtain⟨B,hB⟩:∃A,A=zS b:=⟨_,rfl⟩
 obtain⟨C,hC⟩:∃A,A=zS c:=⟨_,rfl⟩
 rw[←hA] at ea ⊢
 rw[←hB] at eb ⊢
 rw[←hC] at ec ⊢
 rw[←ea,←eb,←ec]
 cases h1:(A==[48])<;>cases h2:(B==[48])<;>cases h3:(C==[48])<;>simp[ad,hG,Tryz.f63,h1,h2,h3]
noncomputable def qR(f:FuncId) (args:List AV):Option AV:=
 match f,args with
 |97,[.str s,.str t,.str u,.str v]=>match dz s,dz t,dz u,dz v with
  |some a,some b,some c,some d=>if (a.den=1∧b.den=1∧c.den=1∧d.den=1)∧a.num.natAbs≤30∧b.num.natAbs≤30∧c.num.natAbs≤30∧d.num.natAbs≤30 then some (.str (zS (a.num*d.num-b.num*c.num))) else none
  |_,_,_,_=>none
 |_,_=>none
theorem fu{q:Rat}(h:q.den=1):q=(q.num:Rat):=Rat.ext rfl h
theorem yx:OracleOk Tryz.prog (ao qR):=bI fun f args v h mem=>by
 unfold qR at h
 split at h
 ·split at h
  ·rename_i a b c d ha hb hc hd
   split at h
   ·rename_i hcond
    obtain⟨⟨d1,d2,d3,d4⟩,c1,c2,c3,c4⟩:=hcond
    cases h
    rw[ap ha,ap hb,ap hc,ap hd]
    have:=Im a.num b.num c.num d.num c1 c2 c3 c4 mem
    unfold zS at this ⊢
    rw[←fu d1,←fu d2,←fu d3,←fu d4] at this
    exact this
   ·cases h
  ·cases h
 ·cases h
set_option maxRecDepth 8192 in
set_option maxHeartbeats 3200000 in
theorem CW(a b:Z3) (ha:fB 30 a) (hb:fB 30 b) (mem:Mem):ACallsTo Tryz.prog 66 [zA a,zA b] mem (zA (iB a b)) mem:=by
 have hG:aF Tryz.prog 66=some Tryz.f66:=by kernel_rfl
 obtain⟨a1,a2,a3⟩:=a
 obtain⟨b1,b2,b3⟩:=b
 obtain⟨h1,h2,h3⟩:=ha
 obtain⟨h4,h5,h6⟩:=hb
 simp only at h1 h2 h3 h4 h5 h6
 refine aq yx (lv:=fun _=>[]) (K:=1) rfl rfl ?_ mem
 obtain⟨ops,hops⟩:∃ops,aE Tryz.f66=[ops]:=⟨_,rfl⟩
 have hbs:=kX hops (l:=[0,1,0,4,0,16,0,64,255,0,512,0,2048,0,8192,0,32768,131071,0,262144,0,1048576,0,4194304,0,16777216,67108863,134217727,268435455]) (by kernel_rfl)
 have hab:aN [0,1,0,4,0,16,0,64,255,0,512,0,2048,0,8192,0,32768,131071,0,262144,0,1048576,0,4194304,0,16777216,67108863,134217727,268435455] 28=true:=by decide
 simp[aE,bw,Tryz.f66] at hops
 subst hops
 have hp:∀n:Int,dz (zS n)=some (n:Rat):=fun n=>aM _
 unfold zA iB
 simp only
 obtain⟨A1,e1⟩:∃x,x=zS a1:=⟨_,rfl⟩
 obtain⟨A2,e2⟩:∃x,x=zS a2:=⟨_,rfl⟩
 obtain⟨A3,e3⟩:∃x,x=zS a3:=⟨_,rfl⟩
 obtain⟨B1,e4⟩:∃x,x=zS b1:=⟨_,rfl⟩
 obtain⟨B2,e5⟩:∃x,x=zS b2:=⟨_,rfl⟩
 obtain⟨B3,e6⟩:∃x,x=zS b3:=⟨_,rfl⟩
 have p1:dz A1=some (a1:Rat):=by rw[e1];exact hp _
 have p2:dz A2=some (a2:Rat):=by rw[e2];exact hp _
 have p3:dz A3=some (a3:Rat):=by rw[e3];exact hp _
 have p4:dz B1=some (b1:Rat):=by rw[e4];exact hp _
 have p5:dz B2=some (b2:Rat):=by rw[e5];exact hp _
 have p6:dz B3=some (b3:Rat):=by rw[e6];exact hp _
 rw[←e1,←e2,←e3,←e4,←e5,←e6]
 obtain⟨C1,f1⟩:∃x,x=zS (a2*b3-a3*b2):=⟨_,rfl⟩
 obtain⟨C2,f2⟩:∃x,x=zS (a3*b1-a1*b3):=⟨_,rfl⟩
 obtain⟨C3,f3⟩:∃x,x=zS (a1*b2-a2*b1):=⟨_,rfl⟩
 rw[←f1,←f2,←f3]
 simp[ad,hG,Tryz.f66,-aC,ar hbs,bN,bt,bJ,hab,ao,qR,p1,p2,p3,p4,p5,p6,h1,h2,h3,h4,h5,h6,←f1,←f2,←f3,bH,ax,Nat.testBit]
theorem Nz(n:Int):mkRat n 1=(n:Rat):=by
 have:=Rat.mkRat_self (n:Rat)
 exact this
theorem DQ(n:Int) (hn:n.natAbs<10 ^ 8) (mem:Mem):ACallsTo Tryz.prog 35 [.int .i64 n] mem (.str (zS n)) mem:=by
 have hG:aF Tryz.prog 35=some Tryz.f35:=by kernel_rfl
 refine aq qj (lv:=fun _=>[]) (K:=1) rfl rfl ?_ mem
 have h:n.natAbs<100000000:=hn
 have e:=Nz n
 simp[ad,hG,Tryz.f35,ao,kQ,h,e,zS]
noncomputable def se(f:FuncId) (args:List AV):Option AV:=
 match f,args with
 |35,[.int .i64 n]=>if n.natAbs<10 ^ 8 then some (.str (zS n)) else none
 |_,_=>none
theorem xz:OracleOk Tryz.prog (ao se):=bI fun f args v h mem=>by
 unfold se at h
 split at h
 ·split at h
  ·rename_i hc;cases h;exact DQ _ hc mem
  ·cases h
 ·cases h
theorem xv(v:Z3) (hv:fB 10000 v) (mem:Mem):ACallsTo Tryz.prog 21 [.int .i64 v.1,.int .i64 v.2.1,.int .i64 v.2.2] mem (zA v) mem:=by
 have hG:aF Tryz.prog 21=some Tryz.f21:=by kernel_rfl
 refine aq xz (lv:=fun _=>[]) (K:=1) rfl rfl ?_ mem
 obtain⟨a,b,c⟩:=v
 obtain⟨h1,h2,h3⟩:=hv
 simp only at h1 h2 h3
 have g1:a.natAbs<100000000:=by omega
 have g2:b.natAbs<100000000:=by omega
 have g3:c.natAbs<100000000:=by omega
 simp[ad,hG,Tryz.f21,ao,se,zA,g1,g2,g3,bH,ax]
def pH(v:Z3):Z3:=(v.1.tmod 3,v.2.1.tmod 3,v.2.2.tmod 3)
def aY(v:Z3):Z3:=if ie (pH v) then (0,0,1) else pH v
def da(n b:Z3):Z3:=if ie (iB n b) then (if ie (iB n (1,0,0)) then (if ie (iB n (0,1,0)) then (0,0,0) else iB n (0,1,0)) else iB n (1,0,0)) else iB n b
theorem P9(x:Int): -2≤x.tmod 3∧x.tmod 3≤2:=by
 have h1:=Int.tmod_lt_of_pos x (show(0:Int)<3 by decide)
 have h2: -3<x.tmod 3:=by
  have:=Int.tmod_lt_of_pos (-x) (show(0:Int)<3 by decide)
  rw[Int.neg_tmod] at this
  omega
 omega
theorem fW(v:Z3):fB 2 (pH v):=by
 obtain⟨a,b,c⟩:=v
 have h1:=P9 a
 have h2:=P9 b
 have h3:=P9 c
 unfold fB pH
 simp only
 omega
theorem cj(v:Z3):fB 2 (aY v):=by
 unfold aY
 split
 ·exact⟨by decide,by decide,by decide⟩
 ·exact fW v
theorem iS(v:Z3):ie (aY v)=false:=by
 unfold aY
 split
 ·rfl
 ·rename_i h;simpa using h
noncomputable def ic(f:FuncId) (args:List AV):Option AV:=
 match f,args with
 |21,[.int .i64 a,.int .i64 b,.int .i64 c]=>if a.natAbs≤10000∧b.natAbs≤10000∧c.natAbs≤10000 then some (zA (a,b,c)) else none
 |63,[.agg [.str s,.str t,.str u]]=>match dz s,dz t,dz u with
  |some a,some b,some c=>if a.den=1∧b.den=1∧c.den=1 then some (.bool (ie (a.num,b.num,c.num))) else none
  |_,_,_=>none
 |66,[.agg [.str s,.str t,.str u],.agg [.str s',.str t',.str u']]=>match dz s,dz t,dz u,dz s',dz t',dz u' with
  |some a,some b,some c,some d,some e,some f=>if (a.den=1∧b.den=1∧c.den=1∧d.den=1∧e.den=1∧f.den=1)∧fB 30 (a.num,b.num,c.num)∧fB 30 (d.num,e.num,f.num) then some (zA (iB (a.num,b.num,c.num) (d.num,e.num,f.num))) else none
  |_,_,_,_,_,_=>none
 |f,args=>se f args
theorem wz:OracleOk Tryz.prog (ao ic):=bI fun f args v h mem=>by
 unfold ic at h
 split at h
 ·split at h
  ·rename_i hc;cases h;exact xv (_,_,_) hc mem
  ·cases h
 ·split at h
  ·rename_i a b c ha hb hc
   split at h
   ·rename_i hcond
    obtain⟨d1,d2,d3⟩:=hcond
    cases h
    rw[ap ha,ap hb,ap hc]
    have:=H6 (a.num,b.num,c.num) mem
    unfold zA zS at this
    simp only at this
    rw[←fu d1,←fu d2,←fu d3] at this
    exact this
   ·cases h
  ·cases h
 ·split at h
  ·rename_i a b c d e f ha hb hc hd he hf
   split at h
   ·rename_i hcond
    obtain⟨⟨d1,d2,d3,d4,d5,d6⟩,c1,c2⟩:=hcond
    cases h
    rw[ap ha,ap hb,ap hc,ap hd,ap he,ap hf]
    have:=CW (a.num,b.num,c.num) (d.num,e.num,f.num) c1 c2 mem
    unfold zA at this
    simp only at this
    have k:∀q:Rat,q.den=1→zS q.num=aK q:=fun q hq=>by unfold zS;rw[←fu hq]
    rw[k a d1,k b d2,k c d3,k d d4,k e d5,k f d6] at this
    exact this
   ·cases h
  ·cases h
 ·have:=xz.fn _ _ mem ⟨v,none,[]⟩ (by unfold ao;simp only;rw[h])
  simpa [CallRes.mem] using this
theorem fF(n:Int):dz (zS n)=some (n:Rat):=aM _
theorem Q0:zS 1=[49]:=rfl
set_option maxHeartbeats 1600000 in
theorem BQ(v:Z3) (hv:fB 200 v) (mem:Mem):ACallsTo Tryz.prog 34 [.agg [.int .i8 v.1,.int .i8 v.2.1,.int .i8 v.2.2]] mem (zA (aY v)) mem:=by
 have hG:aF Tryz.prog 34=some Tryz.f34:=by kernel_rfl
 refine aq wz (lv:=fun _=>[]) (K:=1) rfl rfl ?_ mem
 have hm:=fW v
 unfold aY
 obtain⟨a,b,c⟩:=v
 obtain⟨h1,h2,h3⟩:=hv
 unfold pH at hm ⊢
 simp only at h1 h2 h3 hm ⊢
 have wa:IntKind.i64.wrap a=a:=bk (by omega) (by omega)
 have wb:IntKind.i64.wrap b=b:=bk (by omega) (by omega)
 have wc:IntKind.i64.wrap c=c:=bk (by omega) (by omega)
 obtain⟨x,hx⟩:∃x,x=a.tmod 3:=⟨_,rfl⟩
 obtain⟨y,hy⟩:∃x,x=b.tmod 3:=⟨_,rfl⟩
 obtain⟨z,hz⟩:∃x,x=c.tmod 3:=⟨_,rfl⟩
 rw[←hx,←hy,←hz] at hm ⊢
 obtain⟨g1,g2,g3⟩:=hm
 simp only at g1 g2 g3
 have g1' :x.natAbs≤10000:=by omega
 have g2' :y.natAbs≤10000:=by omega
 have g3' :z.natAbs≤10000:=by omega
 have hX:=fF x
 have hY:=fF y
 have hZ:=fF z
 have e0:zS 0=[48]:=rfl
 cases hzero:ie (x,y,z) with
 |true=>
  have hz0:=hzero
  unfold ie at hz0
  simp only[Bool.and_eq_true,decide_eq_true_eq] at hz0
  obtain⟨⟨rfl,rfl⟩,rfl⟩:=hz0
  have h48:dz [48]=some ((0:Int):Rat):=fF 0
  simp[ad,hG,Tryz.f34,ao,ic,wa,wb,wc,←hx,←hy,←hz,zA,hX,hzero,e0,Q0,h48]
 |false=>
  simp[ad,hG,Tryz.f34,ao,ic,wa,wb,wc,←hx,←hy,←hz,zA,g1',g2',g3',hX,hY,hZ,hzero]
theorem lh{a b:Z3}(ha:fB 2 a) (hb:fB 2 b):fB 8 (iB a b):=by
 obtain⟨a1,a2,a3⟩:=a
 obtain⟨b1,b2,b3⟩:=b
 obtain⟨h1,h2,h3⟩:=ha
 obtain⟨h4,h5,h6⟩:=hb
 simp only at h1 h2 h3 h4 h5 h6
 have m:∀x y:Int,x.natAbs≤2→y.natAbs≤2→(x*y).natAbs≤4:=fun x y hx hy=>by
  rw[Int.natAbs_mul];exact Nat.mul_le_mul hx hy
 unfold iB fB
 simp only
 have p1:=m a2 b3 h2 h6
 have p2:=m a3 b2 h3 h5
 have p3:=m a3 b1 h3 h4
 have p4:=m a1 b3 h1 h6
 have p5:=m a1 b2 h1 h5
 have p6:=m a2 b1 h2 h4
 omega
set_option maxRecDepth 8192 in
set_option maxHeartbeats 6400000 in
theorem Bx(n b:Z3) (hn:fB 2 n) (hb:fB 2 b) (mem:Mem):ACallsTo Tryz.prog 37 [zA n,zA b] mem (zA (da n b)) mem:=by
 have hG:aF Tryz.prog 37=some Tryz.f37:=by kernel_rfl
 refine aq wz (lv:=fun _=>[13]) (K:=9) rfl rfl ?_ mem
 have l0:fB 2 (1,0,0):=by decide
 have l1:fB 2 (0,1,0):=by decide
 have c1:=lh hn hb
 have c2:=lh hn l0
 have c3:=lh hn l1
 have hn30:fB 30 n:=⟨by have:=hn.1;omega,by have:=hn.2.1;omega,by have:=hn.2.2;omega⟩
 have hb30:fB 30 b:=⟨by have:=hb.1;omega,by have:=hb.2.1;omega,by have:=hb.2.2;omega⟩
 have h030:fB 30 (1,0,0):=by decide
 have h130:fB 30 (0,1,0):=by decide
 unfold da
 obtain⟨C1,e1⟩:∃c,c=iB n b:=⟨_,rfl⟩
 obtain⟨C2,e2⟩:∃c,c=iB n (1,0,0):=⟨_,rfl⟩
 obtain⟨C3,e3⟩:∃c,c=iB n (0,1,0):=⟨_,rfl⟩
 rw[←e1,←e2,←e3]
 obtain⟨n1,n2,n3⟩:=n
 obtain⟨b1,b2,b3⟩:=b
 obtain⟨p1,p2,p3⟩:=C1
 obtain⟨q1,q2,q3⟩:=C2
 obtain⟨r1,r2,r3⟩:=C3
 have z0:zS 0=[48]:=rfl
 have z1:zS 1=[49]:=rfl
 have h0:dz [48]=some ((0:Int):Rat):=fF 0
 have h1:dz [49]=some ((1:Int):Rat):=fF 1
 have w1:IntKind.i64.wrap 1=1:=rfl
 have w2:IntKind.i64.wrap 2=2:=rfl
 have w3:IntKind.i64.wrap 3=3:=rfl
 have w2' :IntKind.i64.wrap (1+1)=2:=rfl
 have w3' :IntKind.i64.wrap (2+1)=3:=rfl
 have hp:=fF
 cases y1:ie (p1,p2,p3) with
 |false=>
  simp[ad,hG,Tryz.f37,ao,ic,zA,hp,h0,h1,z0,z1,hn30,hb30,h030,h130,←e1,y1,ay,dN,w1,w2,w3,w2',w3',Nat.testBit]
 |true=>
  cases y2:ie (q1,q2,q3) with
  |false=>
   simp[ad,hG,Tryz.f37,ao,ic,zA,hp,h0,h1,z0,z1,hn30,hb30,h030,h130,←e1,←e2,y1,y2,ay,dN,w1,w2,w3,w2',w3',Nat.testBit]
  |true=>
   cases y3:ie (r1,r2,r3) with
   |false=>
    simp[ad,hG,Tryz.f37,ao,ic,zA,hp,h0,h1,z0,z1,hn30,hb30,h030,h130,←e1,←e2,←e3,y1,y2,y3,ay,dN,w1,w2,w3,w2',w3',Nat.testBit]
   |true=>
    simp[ad,hG,Tryz.f37,ao,ic,zA,hp,h0,h1,z0,z1,hn30,hb30,h030,h130,←e1,←e2,←e3,y1,y2,y3,ay,dN,w1,w2,w3,w2',w3',Nat.testBit]
def Jl(a b:Z3):Int:=a.1*b.1+a.2.1*b.2.1+a.2.2*b.2.2
theorem wd(n b:Z3):Jl (iB n b) n=0:=by
 obtain⟨a1,a2,a3⟩:=n
 obtain⟨b1,b2,b3⟩:=b
 unfold Jl iB
 simp only
 grind
theorem oT(n b:Z3):Jl (da n b) n=0:=by
 unfold da
 split
 ·split
  ·split
   ·simp[Jl]
   ·exact wd _ _
  ·exact wd _ _
 ·exact wd _ _
theorem ph{n b:Z3}(hn:fB 2 n) (hb:fB 2 b):fB 8 (da n b):=by
 unfold da
 split
 ·split
  ·split
   ·decide
   ·exact lh hn (by decide)
  ·exact lh hn (by decide)
 ·exact lh hn hb
theorem Pm{n:Int}(h:n.natAbs<10 ^ 4):uS (zS n)=0:=by
 have:dg 4 1 (n:Rat):=Qv h
 exact tA (this.mono (by omega) (by omega))
theorem Ps{v:Z3}(h:fB 99 v):t7 [zS v.1,zS v.2.1,zS v.2.2]=0:=by
 obtain⟨h1,h2,h3⟩:=h
 simp[t7,Pm (n:=v.1) (by omega),Pm (n:=v.2.1) (by omega),Pm (n:=v.2.2) (by omega)]
set_option maxHeartbeats 1600000 in
theorem wl(v n:Z3) (hv:fB 99 v) (hn:fB 99 n) (hd:Jl v n=0) (M:Mem):ACallsTo Tryz.prog 209 [zA v,zA n] M (.int .i64 0) M:=by
 have hG:aF Tryz.prog 209=some Tryz.f209:=by kernel_rfl
 have hE:=Ps hv
 obtain⟨v1,v2,v3⟩:=v
 obtain⟨n1,n2,n3⟩:=n
 obtain⟨h1,h2,h3⟩:=hv
 obtain⟨h4,h5,h6⟩:=hn
 simp only at h1 h2 h3 h4 h5 h6 hE
 have k:∀m:Nat,m≤99→(aI m).length≤2:=fun m hm=>bl (k:=2) (by omega) (by omega)
 have k1:(aI 1).length≤1:=bl (k:=1) (by omega) (by omega)
 have l1:=k _ h1
 have l2:=k _ h2
 have l3:=k _ h3
 have l4:=k _ h4
 have l5:=k _ h5
 have l6:=k _ h6
 have s1:=dY (n:=v1) (by omega)
 have s2:=dY (n:=v2) (by omega)
 have s3:=dY (n:=v3) (by omega)
 have s1' :(zS v1).length≤18:=by unfold zS;omega
 have s2' :(zS v2).length≤18:=by unfold zS;omega
 have s3' :(zS v3).length≤18:=by unfold zS;omega
 have hdot:(v1:Rat)*(n1:Rat)+(v2:Rat)*(n2:Rat)+(v3:Rat)*(n3:Rat)=0:=by
  unfold Jl at hd
  simp only at hd
  rw[←Rat.intCast_mul,←Rat.intCast_mul,←Rat.intCast_mul,←Rat.intCast_add,←Rat.intCast_add,hd]
  rfl
 have hp:=fF
 have z0:aK 0=[48]:=rfl
 refine aq uw (lv:=fun _=>[]) (K:=1) rfl rfl ?_ M
 simp[ad,hG,Tryz.f209,ao,nZ,zA,hp,hE,k1,l1,l2,l3,l4,l5,l6,s1',s2',s3',hdot,z0]
set_option maxHeartbeats 1600000 in
theorem ns(n:Z3) (o:Int) (hn:fB 99 n) (hz:ie n=false) (ho:o.natAbs≤1000) (M:Mem):ACallsTo Tryz.prog 208 [.agg [.str (zS n.1),.str (zS n.2.1),.str (zS n.2.2),.str (zS o)]] M (.int .i64 0) M:=by
 have hG:aF Tryz.prog 208=some Tryz.f208:=by kernel_rfl
 obtain⟨n1,n2,n3⟩:=n
 obtain⟨h4,h5,h6⟩:=hn
 simp only at h4 h5 h6
 have s1:=dY (n:=n1) (by omega)
 have s2:=dY (n:=n2) (by omega)
 have s3:=dY (n:=n3) (by omega)
 have s4:=dY (n:=o) (by omega)
 have s1' :(zS n1).length≤18:=by unfold zS;omega
 have s2' :(zS n2).length≤18:=by unfold zS;omega
 have s3' :(zS n3).length≤18:=by unfold zS;omega
 have s4' :(zS o).length≤18:=by unfold zS;omega
 have hE:t7 [zS n1,zS n2,zS n3,zS o]=0:=by
  simp[t7,Pm (n:=n1) (by omega),Pm (n:=n2) (by omega),Pm (n:=n3) (by omega),Pm (n:=o) (by omega)]
 have e1:=mI n1
 have e2:=mI n2
 have e3:=mI n3
 have hb:((zS n1==[48]&&zS n2==[48])&&zS n3==[48])=false:=by rw[e1,e2,e3];exact hz
 refine aq F4 (lv:=fun _=>[]) (K:=1) rfl rfl ?_ M
 simp only at hb ⊢
 obtain⟨A,hA⟩:∃A,A=zS n1:=⟨_,rfl⟩
 obtain⟨B,hB⟩:∃A,A=zS n2:=⟨_,rfl⟩
 obtain⟨C,hC⟩:∃A,A=zS n3:=⟨_,rfl⟩
 obtain⟨D,hD⟩:∃A,A=zS o:=⟨_,rfl⟩
 rw[←hA] at s1' hE hb ⊢
 rw[←hB] at s2' hE hb ⊢
 rw[←hC] at s3' hE hb ⊢
 rw[←hD] at s4' hE ⊢
 simp[ad,hG,Tryz.f208,El,Oracle.or,ao,nZ,jj,rm,ud,hE,hb,s1',s2',s3',s4']
end Go.Proofs
