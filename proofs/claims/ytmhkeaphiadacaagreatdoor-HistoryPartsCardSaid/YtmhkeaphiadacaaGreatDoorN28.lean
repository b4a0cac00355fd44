/- See N58. -/
import Derived.Test.YtmhkeaphiadacaaGreatDoorN25
import Derived.Test.YtmhkeaphiadacaaGreatDoorN26
import Derived.Test.YtmhkeaphiadacaaGreatDoorN09
set_option linter.all false
namespace Go.Proofs
open Go.Eng
theorem KH(q:Rat) (hl:(aN q).length≤1000000000) (mem:Mem):ACallsTo Tryz.prog 196 [.str (aN q)] mem (.str (aN (-q))) mem:=by
 have hG:aI Tryz.prog 196=some Tryz.f196:=by kernel_rfl
 refine aw (af _) (lv:=fun _=>[]) (K:=1) rfl rfl ?_ mem
 by_cases h0:q=0
 ·subst h0
  simp[ab,hG,Tryz.f196,bA]
 ·have hn:¬q.num=0:=fun e=>h0 (wH.1 e)
  by_cases h1:q.num<0
  ·have e:=nj h1
   have hb:(45::aN (-q)==[48])=false:=by rw[←e,bA];simpa using h0
   rw[e]
   have h3:(1:Int)≤((aN (-q)).length:Int)+1:=by omega
   simp[ab,hG,Tryz.f196,hb,h3]
  ·have e:=pd (q:=q) (by omega)
   obtain⟨c,r,e2,hc⟩:=pc (q:=q) (by omega)
   have hb:(c::r==[48])=false:=by rw[←e2,bA];simpa using h0
   have h2:=fp hc
   rw[e,e2]
   rw[e2] at hl
   simp only[List.length_cons] at hl
   have h3:1+(r.length+1)≤9223372036854775807:=by omega
   simp[ab,hG,Tryz.f196,hb,h2,h3,dX]
noncomputable def lC(f:FuncId) (args:List AV):Option AV:=
 match f,args with
 |38,[.int .i64 n,.int .i64 d]=>if 0<d∧n.natAbs<10 ^ 8∧d.toNat<10 ^ 8 then some (.str (aN (mkRat n d.toNat))) else none
 |65,[.str s,.str t]=>match dE s,dE t with
  |some a,some b=>if (aN a).length≤9∧(aN b).length≤9 then some (.str (aN (a+b))) else none
  |_,_=>none
 |138,[.str s,.str t]=>match dE s,dE t with
  |some a,some b=>if (aN a).length≤9∧(aN b).length≤9 then some (.str (aN (a*b))) else none
  |_,_=>none
 |196,[.str s]=>match dE s with
  |some a=>if (aN a).length≤9 then some (.str (aN (-a))) else none
  |none=>none
 |_,_=>none
theorem qD:OracleOk Tryz.prog (ao lC):=bN fun f args v h mem=>by
 unfold lC at h
 split at h
 ·rename_i n d
  split at h
  ·rename_i hc
   cases h
   have:=Df n d.toNat (by omega) hc.2.1 hc.2.2 mem
   rw[Int.toNat_of_nonneg (by omega)] at this
   exact this
  ·cases h
 ·split at h
  ·rename_i m n hm hn
   split at h
   ·rename_i hc;cases h;rw[au hm,au hn];exact Ad m n hc.1 hc.2 mem
   ·cases h
  ·cases h
 ·split at h
  ·rename_i m n hm hn
   split at h
   ·rename_i hc;cases h;rw[au hm,au hn];exact KG m n hc.1 hc.2 mem
   ·cases h
  ·cases h
 ·split at h
  ·rename_i m hm
   split at h
   ·rename_i hc;cases h;rw[au hm];exact KH m (by omega) mem
   ·cases h
  ·cases h
 ·cases h
theorem KI(a b:Rat) (qa:(aN a).length≤9) (qb:(aN b).length≤9) (qn:(aN (-b)).length≤9) (mem:Mem):
  ACallsTo Tryz.prog 137 [.str (aN a),.str (aN b)] mem (.str (aN (a-b))) mem:=by
 have hG:aI Tryz.prog 137=some Tryz.f137:=by kernel_rfl
 refine aw qD (lv:=fun _=>[]) (K:=1) rfl rfl ?_ mem
 have e:a+ -b=a-b:=(Rat.sub_eq_add_neg a b).symm
 simp[ab,hG,Tryz.f137,ao,lC,aR,qa,qb,qn,e]
def zS(n:Int):List UInt8:=aN (n:Rat)
theorem eh{n:Int}(h:n.natAbs<10 ^ 4):(aN (n:Rat)).length≤9:=by
 have e:aN (n:Rat)=cd n:=by
  unfold aN
  simp
 rw[e]
 have h1:=ez n
 have h2:(aK n.natAbs).length≤4:=bp (by omega) h
 omega
noncomputable def xT(f:FuncId) (args:List AV):Option AV:=
 match f,args with
 |137,[.str s,.str t]=>match dE s,dE t with
  |some a,some b=>if (aN a).length≤9∧(aN b).length≤9∧(aN (-b)).length≤9 then some (.str (aN (a-b))) else none
  |_,_=>none
 |f,args=>lC f args
theorem IT:OracleOk Tryz.prog (ao xT):=bN fun f args v h mem=>by
 unfold xT at h
 split at h
 ·split at h
  ·rename_i m n hm hn
   split at h
   ·rename_i hc;cases h;rw[au hm,au hn];exact KI m n hc.1 hc.2.1 hc.2.2 mem
   ·cases h
  ·cases h
 ·have:=qD.fn _ _ mem ⟨v,none,[]⟩ (by unfold ao;simp only;rw[h])
  simpa [CallRes.mem] using this
theorem Ha{a b:Int}(ha:a.natAbs≤30) (hb:b.natAbs≤30):(a*b).natAbs≤900:=by
 rw[Int.natAbs_mul]
 exact Nat.mul_le_mul ha hb
theorem HV(a b c d:Int) (ha:a.natAbs≤30) (hb:b.natAbs≤30) (hc:c.natAbs≤30) (hd:d.natAbs≤30) (mem:Mem):
  ACallsTo Tryz.prog 97 [.str (zS a),.str (zS b),.str (zS c),.str (zS d)] mem (.str (zS (a*d-b*c))) mem:=by
 have hG:aI Tryz.prog 97=some Tryz.f97:=by kernel_rfl
 have p1:=Ha ha hd
 have p2:=Ha hb hc
 have e1:(a:Rat)*(d:Rat)=((a*d:Int):Rat):=(Rat.intCast_mul a d).symm
 have e2:(b:Rat)*(c:Rat)=((b*c:Int):Rat):=(Rat.intCast_mul b c).symm
 obtain⟨x,hx⟩:∃x,x=a*d:=⟨_,rfl⟩
 obtain⟨y,hy⟩:∃x,x=b*c:=⟨_,rfl⟩
 rw[←hx] at p1 e1 ⊢
 rw[←hy] at p2 e2 ⊢
 have e3:(x:Rat)-(y:Rat)=((x-y:Int):Rat):=(Rat.intCast_sub x y).symm
 obtain⟨z,hz⟩:∃z,z=x-y:=⟨_,rfl⟩
 rw[←hz] at e3 ⊢
 have l1:=eh (n:=a) (by omega)
 have l2:=eh (n:=b) (by omega)
 have l3:=eh (n:=c) (by omega)
 have l4:=eh (n:=d) (by omega)
 have l5:=eh (n:=x) (by omega)
 have l6:=eh (n:=y) (by omega)
 have l7:(aN (-(y:Rat))).length≤9:=by
  rw[←Rat.intCast_neg]
  exact eh (n:= -y) (by omega)
 refine aw IT (lv:=fun _=>[]) (K:=1) rfl rfl ?_ mem
 simp[ab,hG,Tryz.f97,ao,xT,lC,zS,aR,l1,l2,l3,l4,l5,l6,l7,e1,e2,e3]
abbrev Z3:=Int×Int×Int
def zA(v:Z3):AV:=.agg [.str (zS v.1),.str (zS v.2.1),.str (zS v.2.2)]
def fI(n:Nat) (v:Z3):Prop:=v.1.natAbs≤n∧v.2.1.natAbs≤n∧v.2.2.natAbs≤n
instance (n:Nat) (v:Z3):Decidable (fI n v):=inferInstanceAs (Decidable (v.1.natAbs≤n∧v.2.1.natAbs≤n∧v.2.2.natAbs≤n))
theorem bo{n:Int}(h0: -1000000≤n) (h1:n≤1000000):IntKind.i64.wrap n=n:=by rw[al (by omega) (by omega)]
def iL(a b:Z3):Z3:=(a.2.1*b.2.2-a.2.2*b.2.1,a.2.2*b.1-a.1*b.2.2,a.1*b.2.1-a.2.1*b.1)
theorem Ra{a b:Int}(h:zS a=zS b):a=b:=by
 have:=wI h
 exact_mod_cast this
theorem nv(n:Int):(zS n==[48])=decide (n=0):=by
 have h0:zS 0=[48]:=rfl
 by_cases h:n=0
 ·subst h;rfl
 ·rw[decide_eq_false h]
  have:zS n≠[48]:=fun e=>h (Ra (e.trans h0.symm))
  simpa using this
def iI(v:Z3):Bool:=decide (v.1=0)&&decide (v.2.1=0)&&decide (v.2.2=0)
theorem Ic(v:Z3) (mem:Mem):ACallsTo Tryz.prog 63 [zA v] mem (.bool (iI v)) mem:=by
 have hG:aI Tryz.prog 63=some Tryz.f63:=by kernel_rfl
 refine aw (af _) (lv:=fun _=>[]) (K:=1) rfl rfl ?_ mem
 obtain⟨a,b,c⟩:=v
 have ea:=nv a
 have eb:=nv b
 have ec:=nv c
 unfold iI zA
 simp only
 obtain⟨A,hA⟩:∃A,A=zS a:=⟨_,rfl⟩
 obtain⟨B,hB⟩:∃A,A=zS b:=⟨_,rfl⟩
 obtain⟨C,hC⟩:∃A,A=zS c:=⟨_,rfl⟩
 rw[←hA] at ea ⊢
 rw[←hB] at eb ⊢
 rw[←hC] at ec ⊢
 rw[←ea,←eb,←ec]
 cases h1:(A==[48])<;>cases h2:(B==[48])<;>cases h3:(C==[48])<;>simp[ab,hG,Tryz.f63,h1,h2,h3]
noncomputable def rO(f:FuncId) (args:List AV):Option AV:=
 match f,args with
 |97,[.str s,.str t,.str u,.str v]=>match dE s,dE t,dE u,dE v with
  |some a,some b,some c,some d=>if (a.den=1∧b.den=1∧c.den=1∧d.den=1)∧a.num.natAbs≤30∧b.num.natAbs≤30∧c.num.natAbs≤30∧d.num.natAbs≤30 then some (.str (zS (a.num*d.num-b.num*c.num))) else none
  |_,_,_,_=>none
 |_,_=>none
theorem fz{q:Rat}(h:q.den=1):q=(q.num:Rat):=Rat.ext rfl h
theorem xR:OracleOk Tryz.prog (ao rO):=bN fun f args v h mem=>by
 unfold rO at h
 split at h
 ·split at h
  ·rename_i a b c d ha hb hc hd
   split at h
   ·rename_i hcond
    obtain⟨⟨d1,d2,d3,d4⟩,c1,c2,c3,c4⟩:=hcond
    cases h
    rw[au ha,au hb,au hc,au hd]
    have:=HV a.num b.num c.num d.num c1 c2 c3 c4 mem
    unfold zS at this ⊢
    rw[←fz d1,←fz d2,←fz d3,←fz d4] at this
    exact this
   ·cases h
  ·cases h
 ·cases h
set_option maxRecDepth 8192 in
set_option maxHeartbeats 3200000 in
theorem CU(a b:Z3) (ha:fI 30 a) (hb:fI 30 b) (mem:Mem):ACallsTo Tryz.prog 66 [zA a,zA b] mem (zA (iL a b)) mem:=by
 have hG:aI Tryz.prog 66=some Tryz.f66:=by kernel_rfl
 obtain⟨a1,a2,a3⟩:=a
 obtain⟨b1,b2,b3⟩:=b
 obtain⟨h1,h2,h3⟩:=ha
 obtain⟨h4,h5,h6⟩:=hb
 simp only at h1 h2 h3 h4 h5 h6
 refine aw xR (lv:=fun _=>[]) (K:=1) rfl rfl ?_ mem
 obtain⟨ops,hops⟩:∃ops,aG Tryz.f66=[ops]:=⟨_,rfl⟩
 have hbs:=lQ hops (l:=[0,1,0,4,0,16,0,64,255,0,512,0,2048,0,8192,0,32768,131071,0,262144,0,1048576,0,4194304,0,16777216,67108863,134217727,268435455]) (by kernel_rfl)
 have hab:aS [0,1,0,4,0,16,0,64,255,0,512,0,2048,0,8192,0,32768,131071,0,262144,0,1048576,0,4194304,0,16777216,67108863,134217727,268435455] 28=true:=by decide
 simp[aG,bC,Tryz.f66] at hops
 subst hops
 have hp:∀n:Int,dE (zS n)=some (n:Rat):=fun n=>aR _
 unfold zA iL
 simp only
 obtain⟨A1,e1⟩:∃x,x=zS a1:=⟨_,rfl⟩
 obtain⟨A2,e2⟩:∃x,x=zS a2:=⟨_,rfl⟩
 obtain⟨A3,e3⟩:∃x,x=zS a3:=⟨_,rfl⟩
 obtain⟨B1,e4⟩:∃x,x=zS b1:=⟨_,rfl⟩
 obtain⟨B2,e5⟩:∃x,x=zS b2:=⟨_,rfl⟩
 obtain⟨B3,e6⟩:∃x,x=zS b3:=⟨_,rfl⟩
 have p1:dE A1=some (a1:Rat):=by rw[e1];exact hp _
 have p2:dE A2=some (a2:Rat):=by rw[e2];exact hp _
 have p3:dE A3=some (a3:Rat):=by rw[e3];exact hp _
 have p4:dE B1=some (b1:Rat):=by rw[e4];exact hp _
 have p5:dE B2=some (b2:Rat):=by rw[e5];exact hp _
 have p6:dE B3=some (b3:Rat):=by rw[e6];exact hp _
 rw[←e1,←e2,←e3,←e4,←e5,←e6]
 obtain⟨C1,f1⟩:∃x,x=zS (a2*b3-a3*b2):=⟨_,rfl⟩
 obtain⟨C2,f2⟩:∃x,x=zS (a3*b1-a1*b3):=⟨_,rfl⟩
 obtain⟨C3,f3⟩:∃x,x=zS (a1*b2-a2*b1):=⟨_,rfl⟩
 rw[←f1,←f2,←f3]
 simp[ab,hG,Tryz.f66,-aF,ax hbs,bS,bF,bM,hab,ao,rO,p1,p2,p3,p4,p5,p6,h1,h2,h3,h4,h5,h6,←f1,←f2,←f3,bB,ar,Nat.testBit]
theorem NC(n:Int):mkRat n 1=(n:Rat):=by
 have:=Rat.mkRat_self (n:Rat)
 exact this
theorem C4(n:Int) (hn:n.natAbs<10 ^ 8) (mem:Mem):ACallsTo Tryz.prog 35 [.int .i64 n] mem (.str (zS n)) mem:=by
 have hG:aI Tryz.prog 35=some Tryz.f35:=by kernel_rfl
 refine aw qD (lv:=fun _=>[]) (K:=1) rfl rfl ?_ mem
 have h:n.natAbs<100000000:=hn
 have e:=NC n
 simp[ab,hG,Tryz.f35,ao,lC,h,e,zS]
noncomputable def rv(f:FuncId) (args:List AV):Option AV:=
 match f,args with
 |35,[.int .i64 n]=>if n.natAbs<10 ^ 8 then some (.str (zS n)) else none
 |_,_=>none
theorem xw:OracleOk Tryz.prog (ao rv):=bN fun f args v h mem=>by
 unfold rv at h
 split at h
 ·split at h
  ·rename_i hc;cases h;exact C4 _ hc mem
  ·cases h
 ·cases h
theorem xf(v:Z3) (hv:fI 10000 v) (mem:Mem):ACallsTo Tryz.prog 21 [.int .i64 v.1,.int .i64 v.2.1,.int .i64 v.2.2] mem (zA v) mem:=by
 have hG:aI Tryz.prog 21=some Tryz.f21:=by kernel_rfl
 refine aw xw (lv:=fun _=>[]) (K:=1) rfl rfl ?_ mem
 obtain⟨a,b,c⟩:=v
 obtain⟨h1,h2,h3⟩:=hv
 simp only at h1 h2 h3
 have g1:a.natAbs<100000000:=by omega
 have g2:b.natAbs<100000000:=by omega
 have g3:c.natAbs<100000000:=by omega
 simp[ab,hG,Tryz.f21,ao,rv,zA,g1,g2,g3,bB,ar]
def qq(v:Z3):Z3:=(v.1.tmod 3,v.2.1.tmod 3,v.2.2.tmod 3)
def bf(v:Z3):Z3:=if iI (qq v) then (0,0,1) else qq v
def dm(n b:Z3):Z3:=if iI (iL n b) then (if iI (iL n (1,0,0)) then (if iI (iL n (0,1,0)) then (0,0,0) else iL n (0,1,0)) else iL n (1,0,0)) else iL n b
theorem QM(x:Int): -2≤x.tmod 3∧x.tmod 3≤2:=by
 have h1:=Int.tmod_lt_of_pos x (show(0:Int)<3 by decide)
 have h2: -3<x.tmod 3:=by
  have:=Int.tmod_lt_of_pos (-x) (show(0:Int)<3 by decide)
  rw[Int.neg_tmod] at this
  omega
 omega
theorem gc(v:Z3):fI 2 (qq v):=by
 obtain⟨a,b,c⟩:=v
 have h1:=QM a
 have h2:=QM b
 have h3:=QM c
 unfold fI qq
 simp only
 omega
theorem cr(v:Z3):fI 2 (bf v):=by
 unfold bf
 split
 ·exact⟨by decide,by decide,by decide⟩
 ·exact gc v
theorem jb(v:Z3):iI (bf v)=false:=by
 unfold bf
 split
 ·rfl
 ·rename_i h;simpa using h
noncomputable def ii(f:FuncId) (args:List AV):Option AV:=
 match f,args with
 |21,[.int .i64 a,.int .i64 b,.int .i64 c]=>if a.natAbs≤10000∧b.natAbs≤10000∧c.natAbs≤10000 then some (zA (a,b,c)) else none
 |63,[.agg [.str s,.str t,.str u]]=>match dE s,dE t,dE u with
  |some a,some b,some c=>if a.den=1∧b.den=1∧c.den=1 then some (.bool (iI (a.num,b.num,c.num))) else none
  |_,_,_=>none
 |66,[.agg [.str s,.str t,.str u],.agg [.str s',.str t',.str u']]=>match dE s,dE t,dE u,dE s',dE t',dE u' with
  |some a,some b,some c,some d,some e,some f=>if (a.den=1∧b.den=1∧c.den=1∧d.den=1∧e.den=1∧f.den=1)∧fI 30 (a.num,b.num,c.num)∧fI 30 (d.num,e.num,f.num) then some (zA (iL (a.num,b.num,c.num) (d.num,e.num,f.num))) else none
  |_,_,_,_,_,_=>none
 |f,args=>rv f args
theorem xx:OracleOk Tryz.prog (ao ii):=bN fun f args v h mem=>by
 unfold ii at h
 split at h
 ·split at h
  ·rename_i hc;cases h;exact xf (_,_,_) hc mem
  ·cases h
 ·split at h
  ·rename_i a b c ha hb hc
   split at h
   ·rename_i hcond
    obtain⟨d1,d2,d3⟩:=hcond
    cases h
    rw[au ha,au hb,au hc]
    have:=Ic (a.num,b.num,c.num) mem
    unfold zA zS at this
    simp only at this
    rw[←fz d1,←fz d2,←fz d3] at this
    exact this
   ·cases h
  ·cases h
 ·split at h
  ·rename_i a b c d e f ha hb hc hd he hf
   split at h
   ·rename_i hcond
    obtain⟨⟨d1,d2,d3,d4,d5,d6⟩,c1,c2⟩:=hcond
    cases h
    rw[au ha,au hb,au hc,au hd,au he,au hf]
    have:=CU (a.num,b.num,c.num) (d.num,e.num,f.num) c1 c2 mem
    unfold zA at this
    simp only at this
    have k:∀q:Rat,q.den=1→zS q.num=aN q:=fun q hq=>by unfold zS;rw[←fz hq]
    rw[k a d1,k b d2,k c d3,k d d4,k e d5,k f d6] at this
    exact this
   ·cases h
  ·cases h
 ·have:=xw.fn _ _ mem ⟨v,none,[]⟩ (by unfold ao;simp only;rw[h])
  simpa [CallRes.mem] using this
theorem fH(n:Int):dE (zS n)=some (n:Rat):=aR _
theorem Rx:zS 1=[49]:=rfl
set_option maxHeartbeats 1600000 in
theorem Bp(v:Z3) (hv:fI 200 v) (mem:Mem):ACallsTo Tryz.prog 34 [.agg [.int .i8 v.1,.int .i8 v.2.1,.int .i8 v.2.2]] mem (zA (bf v)) mem:=by
 have hG:aI Tryz.prog 34=some Tryz.f34:=by kernel_rfl
 refine aw xx (lv:=fun _=>[]) (K:=1) rfl rfl ?_ mem
 have hm:=gc v
 unfold bf
 obtain⟨a,b,c⟩:=v
 obtain⟨h1,h2,h3⟩:=hv
 unfold qq at hm ⊢
 simp only at h1 h2 h3 hm ⊢
 have wa:IntKind.i64.wrap a=a:=bo (by omega) (by omega)
 have wb:IntKind.i64.wrap b=b:=bo (by omega) (by omega)
 have wc:IntKind.i64.wrap c=c:=bo (by omega) (by omega)
 obtain⟨x,hx⟩:∃x,x=a.tmod 3:=⟨_,rfl⟩
 obtain⟨y,hy⟩:∃x,x=b.tmod 3:=⟨_,rfl⟩
 obtain⟨z,hz⟩:∃x,x=c.tmod 3:=⟨_,rfl⟩
 rw[←hx,←hy,←hz] at hm ⊢
 obtain⟨g1,g2,g3⟩:=hm
 simp only at g1 g2 g3
 have g1' :x.natAbs≤10000:=by omega
 have g2' :y.natAbs≤10000:=by omega
 have g3' :z.natAbs≤10000:=by omega
 have hX:=fH x
 have hY:=fH y
 have hZ:=fH z
 have e0:zS 0=[48]:=rfl
 cases hzero:iI (x,y,z) with
 |true=>
  have hz0:=hzero
  unfold iI at hz0
  simp only[Bool.and_eq_true,decide_eq_true_eq] at hz0
  obtain⟨⟨rfl,rfl⟩,rfl⟩:=hz0
  have h48:dE [48]=some ((0:Int):Rat):=fH 0
  simp[ab,hG,Tryz.f34,ao,ii,wa,wb,wc,←hx,←hy,←hz,zA,hX,hzero,e0,Rx,h48]
 |false=>
  simp[ab,hG,Tryz.f34,ao,ii,wa,wb,wc,←hx,←hy,←hz,zA,g1',g2',g3',hX,hY,hZ,hzero]
theorem lL{a b:Z3}(ha:fI 2 a) (hb:fI 2 b):fI 8 (iL a b):=by
 obtain⟨a1,a2,a3⟩:=a
 obtain⟨b1,b2,b3⟩:=b
 obtain⟨h1,h2,h3⟩:=ha
 obtain⟨h4,h5,h6⟩:=hb
 simp only at h1 h2 h3 h4 h5 h6
 have m:∀x y:Int,x.natAbs≤2→y.natAbs≤2→(x*y).natAbs≤4:=fun x y hx hy=>by
  rw[Int.natAbs_mul];exact Nat.mul_le_mul hx hy
 unfold iL fI
 simp only
 have p1:=m a2 b3 h2 h6
 have p2:=m a3 b2 h3 h5
 have p3:=m a3 b1 h3 h4
 have p4:=m a1 b3 h1 h6
 have p5:=m a1 b2 h1 h5
 have p6:=m a2 b1 h2 h4
 omega
set_option maxRecDepth 8192 in
set_option maxHeartbeats 6400000 in
theorem Bn(n b:Z3) (hn:fI 2 n) (hb:fI 2 b) (mem:Mem):ACallsTo Tryz.prog 37 [zA n,zA b] mem (zA (dm n b)) mem:=by
 have hG:aI Tryz.prog 37=some Tryz.f37:=by kernel_rfl
 refine aw xx (lv:=fun _=>[13]) (K:=9) rfl rfl ?_ mem
 have l0:fI 2 (1,0,0):=by decide
 have l1:fI 2 (0,1,0):=by decide
 have c1:=lL hn hb
 have c2:=lL hn l0
 have c3:=lL hn l1
 have hn30:fI 30 n:=⟨by have:=hn.1;omega,by have:=hn.2.1;omega,by have:=hn.2.2;omega⟩
 have hb30:fI 30 b:=⟨by have:=hb.1;omega,by have:=hb.2.1;omega,by have:=hb.2.2;omega⟩
 have h030:fI 30 (1,0,0):=by decide
 have h130:fI 30 (0,1,0):=by decide
 unfold dm
 obtain⟨C1,e1⟩:∃c,c=iL n b:=⟨_,rfl⟩
 obtain⟨C2,e2⟩:∃c,c=iL n (1,0,0):=⟨_,rfl⟩
 obtain⟨C3,e3⟩:∃c,c=iL n (0,1,0):=⟨_,rfl⟩
 rw[←e1,←e2,←e3]
 obtain⟨n1,n2,n3⟩:=n
 obtain⟨b1,b2,b3⟩:=b
 obtain⟨p1,p2,p3⟩:=C1
 obtain⟨q1,q2,q3⟩:=C2
 obtain⟨r1,r2,r3⟩:=C3
 have z0:zS 0=[48]:=rfl
 have z1:zS 1=[49]:=rfl
 have h0:dE [48]=some ((0:Int):Rat):=fH 0
 have h1:dE [49]=some ((1:Int):Rat):=fH 1
 have w1:IntKind.i64.wrap 1=1:=rfl
 have w2:IntKind.i64.wrap 2=2:=rfl
 have w3:IntKind.i64.wrap 3=3:=rfl
 have w2' :IntKind.i64.wrap (1+1)=2:=rfl
 have w3' :IntKind.i64.wrap (2+1)=3:=rfl
 have hp:=fH
 cases y1:iI (p1,p2,p3) with
 |false=>
  simp[ab,hG,Tryz.f37,ao,ii,zA,hp,h0,h1,z0,z1,hn30,hb30,h030,h130,←e1,y1,aC,dS,w1,w2,w3,w2',w3',Nat.testBit]
 |true=>
  cases y2:iI (q1,q2,q3) with
  |false=>
   simp[ab,hG,Tryz.f37,ao,ii,zA,hp,h0,h1,z0,z1,hn30,hb30,h030,h130,←e1,←e2,y1,y2,aC,dS,w1,w2,w3,w2',w3',Nat.testBit]
  |true=>
   cases y3:iI (r1,r2,r3) with
   |false=>
    simp[ab,hG,Tryz.f37,ao,ii,zA,hp,h0,h1,z0,z1,hn30,hb30,h030,h130,←e1,←e2,←e3,y1,y2,y3,aC,dS,w1,w2,w3,w2',w3',Nat.testBit]
   |true=>
    simp[ab,hG,Tryz.f37,ao,ii,zA,hp,h0,h1,z0,z1,hn30,hb30,h030,h130,←e1,←e2,←e3,y1,y2,y3,aC,dS,w1,w2,w3,w2',w3',Nat.testBit]
def JY(a b:Z3):Int:=a.1*b.1+a.2.1*b.2.1+a.2.2*b.2.2
theorem yp(n b:Z3):JY (iL n b) n=0:=by
 obtain⟨a1,a2,a3⟩:=n
 obtain⟨b1,b2,b3⟩:=b
 unfold JY iL
 simp only
 grind
theorem pG(n b:Z3):JY (dm n b) n=0:=by
 unfold dm
 split
 ·split
  ·split
   ·simp[JY]
   ·exact yp _ _
  ·exact yp _ _
 ·exact yp _ _
theorem pB{n b:Z3}(hn:fI 2 n) (hb:fI 2 b):fI 8 (dm n b):=by
 unfold dm
 split
 ·split
  ·split
   ·decide
   ·exact lL hn (by decide)
  ·exact lL hn (by decide)
 ·exact lL hn hb
theorem PP{n:Int}(h:n.natAbs<10 ^ 4):vZ (zS n)=0:=by
 have:dg 4 1 (n:Rat):=QS h
 exact tX (this.mono (by omega) (by omega))
theorem PX{v:Z3}(h:fI 99 v):u5 [zS v.1,zS v.2.1,zS v.2.2]=0:=by
 obtain⟨h1,h2,h3⟩:=h
 simp[u5,PP (n:=v.1) (by omega),PP (n:=v.2.1) (by omega),PP (n:=v.2.2) (by omega)]
set_option maxHeartbeats 1600000 in
theorem wP(v n:Z3) (hv:fI 99 v) (hn:fI 99 n) (hd:JY v n=0) (M:Mem):ACallsTo Tryz.prog 209 [zA v,zA n] M (.int .i64 0) M:=by
 have hG:aI Tryz.prog 209=some Tryz.f209:=by kernel_rfl
 have hE:=PX hv
 obtain⟨v1,v2,v3⟩:=v
 obtain⟨n1,n2,n3⟩:=n
 obtain⟨h1,h2,h3⟩:=hv
 obtain⟨h4,h5,h6⟩:=hn
 simp only at h1 h2 h3 h4 h5 h6 hE
 have k:∀m:Nat,m≤99→(aK m).length≤2:=fun m hm=>bp (k:=2) (by omega) (by omega)
 have k1:(aK 1).length≤1:=bp (k:=1) (by omega) (by omega)
 have l1:=k _ h1
 have l2:=k _ h2
 have l3:=k _ h3
 have l4:=k _ h4
 have l5:=k _ h5
 have l6:=k _ h6
 have s1:=eh (n:=v1) (by omega)
 have s2:=eh (n:=v2) (by omega)
 have s3:=eh (n:=v3) (by omega)
 have s1' :(zS v1).length≤18:=by unfold zS;omega
 have s2' :(zS v2).length≤18:=by unfold zS;omega
 have s3' :(zS v3).length≤18:=by unfold zS;omega
 have hdot:(v1:Rat)*(n1:Rat)+(v2:Rat)*(n2:Rat)+(v3:Rat)*(n3:Rat)=0:=by
  unfold JY at hd
  simp only at hd
  rw[←Rat.intCast_mul,←Rat.intCast_mul,←Rat.intCast_mul,←Rat.intCast_add,←Rat.intCast_add,hd]
  rfl
 have hp:=fH
 have z0:aN 0=[48]:=rfl
 refine aw uF (lv:=fun _=>[]) (K:=1) rfl rfl ?_ M
 simp[ab,hG,Tryz.f209,ao,oC,zA,hp,hE,k1,l1,l2,l3,l4,l5,l6,s1',s2',s3',hdot,z0]
set_option maxHeartbeats 1600000 in
theorem nA(n:Z3) (o:Int) (hn:fI 99 n) (hz:iI n=false) (ho:o.natAbs≤1000) (M:Mem):ACallsTo Tryz.prog 208 [.agg [.str (zS n.1),.str (zS n.2.1),.str (zS n.2.2),.str (zS o)]] M (.int .i64 0) M:=by
 have hG:aI Tryz.prog 208=some Tryz.f208:=by kernel_rfl
 obtain⟨n1,n2,n3⟩:=n
 obtain⟨h4,h5,h6⟩:=hn
 simp only at h4 h5 h6
 have s1:=eh (n:=n1) (by omega)
 have s2:=eh (n:=n2) (by omega)
 have s3:=eh (n:=n3) (by omega)
 have s4:=eh (n:=o) (by omega)
 have s1' :(zS n1).length≤18:=by unfold zS;omega
 have s2' :(zS n2).length≤18:=by unfold zS;omega
 have s3' :(zS n3).length≤18:=by unfold zS;omega
 have s4' :(zS o).length≤18:=by unfold zS;omega
 have hE:u5 [zS n1,zS n2,zS n3,zS o]=0:=by
  simp[u5,PP (n:=n1) (by omega),PP (n:=n2) (by omega),PP (n:=n3) (by omega),PP (n:=o) (by omega)]
 have e1:=nv n1
 have e2:=nv n2
 have e3:=nv n3
 have hb:((zS n1==[48]&&zS n2==[48])&&zS n3==[48])=false:=by rw[e1,e2,e3];exact hz
 refine aw Gk (lv:=fun _=>[]) (K:=1) rfl rfl ?_ M
 simp only at hb ⊢
 obtain⟨A,hA⟩:∃A,A=zS n1:=⟨_,rfl⟩
 obtain⟨B,hB⟩:∃A,A=zS n2:=⟨_,rfl⟩
 obtain⟨C,hC⟩:∃A,A=zS n3:=⟨_,rfl⟩
 obtain⟨D,hD⟩:∃A,A=zS o:=⟨_,rfl⟩
 rw[←hA] at s1' hE hb ⊢
 rw[←hB] at s2' hE hb ⊢
 rw[←hC] at s3' hE hb ⊢
 rw[←hD] at s4' hE ⊢
 simp[ab,hG,Tryz.f208,Gj,Oracle.or,ao,oC,jk,sM,ve,hE,hb,s1',s2',s3',s4']
end Go.Proofs
