/- See P53. -/
import Derived.Test.YtmhkeaphiadacaaGreatDoorP18
import Derived.Test.YtmhkeaphiadacaaGreatDoorP19
set_option linter.all false
set_option maxRecDepth 100000
set_option maxHeartbeats 40000000
namespace Go.Proofs
open Go.Eng
open Tryz
theorem OB(q:Rat)(hl:(aN q).length≤1000000000)(mem:Mem):mB prog 196 [.str (aN q)] mem (.str (aN (-q))) mem:=by
 have hG:aO prog 196=some f196:=by kernel_rfl
 refine aB (ah _) (lv:=fun _=>[]) (K:=1) rfl rfl ?_ mem;by_cases h0:q=0
 ·subst h0
  simp[ad,hG,f196,bT]
 ·have hn:¬q.num=0:=fun e=>h0 (zr.1 e)
  by_cases h1:q.num<0
  ·have e:=oJ h1
   have hb:(45::aN (-q)==[48])=false:=by rw[←e,bT];simpa using h0
   rw[e];have h3:(1:Int)≤((aN (-q)).length:Int)+1:=by omega
   simp[ad,hG,f196,hb,h3]
  ·have e:=rf (q:=q) (by omega)
   obtain⟨c,r,e2,hc⟩:=rb (q:=q) (by omega);have hb:(c::r==[48])=false:=by rw[←e2,bT];simpa using h0
   have h2:=gu hc;rw[e,e2];rw[e2] at hl;simp only[List.length_cons] at hl;have h3:1+(r.length+1)≤9223372036854775807:=by omega
   simp[ad,hG,f196,hb,h2,h3,gd]
noncomputable def mU(f:FuncId) (args:List AV):Option AV:=
 match f,args with
 |38,[.int .i64 n,.int .i64 d]=>if 0<d∧n.natAbs<10 ^ 8∧d.toNat<10 ^ 8 then some (.str (aN (mkRat n d.toNat))) else none
 |65,[.str s,.str t]=>match ef s,ef t with
  |some a,some b=>if (aN a).length≤9∧(aN b).length≤9 then some (.str (aN (a+b))) else none
  |_,_=>none
 |138,[.str s,.str t]=>match ef s,ef t with
  |some a,some b=>if (aN a).length≤9∧(aN b).length≤9 then some (.str (aN (a*b))) else none
  |_,_=>none
 |196,[.str s]=>match ef s with
  |some a=>if (aN a).length≤9 then some (.str (aN (-a))) else none
  |none=>none
 |_,_=>none
theorem tT:qS prog (ar mU):=bZ fun f args v h mem=>by
 unfold mU at h;split at h
 ·rename_i n d
  split at h
  ·rename_i hc
   cases h;have:=Gx n d.toNat (by omega) hc.2.1 hc.2.2 mem;rw[Int.toNat_of_nonneg (by omega)] at this;exact this
  ·cases h
 ·split at h
  ·rename_i m n hm hn
   split at h
   ·rename_i hc;cases h;rw[aA hm,aA hn];exact CH m n hc.1 hc.2 mem
   ·cases h
  ·cases h
 ·split at h
  ·rename_i m n hm hn
   split at h
   ·rename_i hc;cases h;rw[aA hm,aA hn];exact OA m n hc.1 hc.2 mem
   ·cases h
  ·cases h
 ·split at h
  ·rename_i m hm
   split at h
   ·rename_i hc;cases h;rw[aA hm];exact OB m (by omega) mem
   ·cases h
  ·cases h
 ·cases h
theorem OC(a b:Rat)(qa:(aN a).length≤9)(qb:(aN b).length≤9)(qn:(aN (-b)).length≤9)(mem:Mem):
  mB prog 137 [.str (aN a),.str (aN b)] mem (.str (aN (a-b))) mem:=by
 have hG:aO prog 137=some f137:=by kernel_rfl
 refine aB tT (lv:=fun _=>[]) (K:=1) rfl rfl ?_ mem;have e:a+ -b=a-b:=(Rat.sub_eq_add_neg a b).symm;simp[ad,hG,f137,ar,mU,aM,qa,qb,qn,e]
def zS(n:Int):List UInt8:=aN (n:Rat)
variable{n:Int}
theorem fE(h:n.natAbs<10 ^ 4):(aN (n:Rat)).length≤9:=by
 have e:aN (n:Rat)=cN n:=by unfold aN;simp
 rw[e];have h1:=fK n;have h2:(aS n.natAbs).length≤4:=bC (by omega) h;omega
noncomputable def AE(f:FuncId) (args:List AV):Option AV:=
 match f,args with
 |137,[.str s,.str t]=>match ef s,ef t with
  |some a,some b=>if (aN a).length≤9∧(aN b).length≤9∧(aN (-b)).length≤9 then some (.str (aN (a-b))) else none
  |_,_=>none
 |f,args=>mU f args
theorem MH:qS prog (ar AE):=bZ fun f args v h mem=>by
 unfold AE at h;split at h
 ·split at h
  ·rename_i m n hm hn
   split at h
   ·rename_i hc;cases h;rw[aA hm,aA hn];exact OC m n hc.1 hc.2.1 hc.2.2 mem
   ·cases h
  ·cases h
 ·have:=tT.fn _ _ mem ⟨v,none,[]⟩ (by unfold ar;simp only;rw[h])
  simpa [HS.mem] using this
variable{a b:Int}
theorem KB(ha:a.natAbs≤30)(hb:b.natAbs≤30):(a*b).natAbs≤900:=by rw[Int.natAbs_mul];exact Nat.mul_le_mul ha hb
theorem Lu(a b c d:Int)(ha:a.natAbs≤30)(hb:b.natAbs≤30)(hc:c.natAbs≤30)(hd:d.natAbs≤30)(mem:Mem):
  mB prog 97 [.str (zS a),.str (zS b),.str (zS c),.str (zS d)] mem (.str (zS (a*d-b*c))) mem:=by
 have hG:aO prog 97=some f97:=by kernel_rfl
 have p1:=KB ha hd;have p2:=KB hb hc;have e1:(a:Rat)*(d:Rat)=((a*d:Int):Rat):=(Rat.intCast_mul a d).symm;have e2:(b:Rat)*(c:Rat)=((b*c:Int):Rat):=(Rat.intCast_mul b c).symm;obtain⟨x,hx⟩:∃x,x=a*d:=⟨_,rfl⟩
 obtain⟨y,hy⟩:∃x,x=b*c:=⟨_,rfl⟩
 rw[←hx] at p1 e1 ⊢;rw[←hy] at p2 e2 ⊢;have e3:(x:Rat)-(y:Rat)=((x-y:Int):Rat):=(Rat.intCast_sub x y).symm;obtain⟨z,hz⟩:∃z,z=x-y:=⟨_,rfl⟩
 rw[←hz] at e3 ⊢;have l1:=fE (n:=a) (by omega);have l2:=fE (n:=b) (by omega);have l3:=fE (n:=c) (by omega);have l4:=fE (n:=d) (by omega);have l5:=fE (n:=x) (by omega);have l6:=fE (n:=y) (by omega);have l7:(aN (-(y:Rat))).length≤9:=by rw[←Rat.intCast_neg];exact fE (n:= -y) (by omega)
 refine aB MH (lv:=fun _=>[]) (K:=1) rfl rfl ?_ mem;simp[ad,hG,f97,ar,AE,mU,zS,aM,l1,l2,l3,l4,l5,l6,l7,e1,e2,e3]
abbrev Z3:=Int×Int×Int
def zA(v:Z3):AV:=.agg [.str (zS v.1),.str (zS v.2.1),.str (zS v.2.2)]
def gm(n:Nat) (v:Z3):Prop:=v.1.natAbs≤n∧v.2.1.natAbs≤n∧v.2.2.natAbs≤n
instance (n:Nat) (v:Z3):Decidable (gm n v):=inferInstanceAs (Decidable (v.1.natAbs≤n∧v.2.1.natAbs≤n∧v.2.2.natAbs≤n))
theorem bN(h0: -1000000≤n)(h1:n≤1000000):IntKind.i64.wrap n=n:=by rw[ai (by omega) (by omega)]
def jD(a b:Z3):Z3:=(a.2.1*b.2.2-a.2.2*b.2.1,a.2.2*b.1-a.1*b.2.2,a.1*b.2.1-a.2.1*b.1)
theorem VW(h:zS a=zS b):a=b:=by
 have:=mf h
 exact_mod_cast this
theorem oU(n:Int):(zS n==[48])=decide (n=0):=by
 have h0:zS 0=[48]:=rfl;by_cases h:n=0
 ·subst h;rfl
 ·rw[decide_eq_false h]
  have:zS n≠[48]:=fun e=>h (VW (e.trans h0.symm))
  simpa using this
def iS(v:Z3):Bool:=decide (v.1=0)&&decide (v.2.1=0)&&decide (v.2.2=0)
theorem LF(v:Z3)(mem:Mem):mB prog 63 [zA v] mem (.bool (iS v)) mem:=by
 have hG:aO prog 63=some f63:=by kernel_rfl
 refine aB (ah _) (lv:=fun _=>[]) (K:=1) rfl rfl ?_ mem;obtain⟨a,b,c⟩:=v;have ea:=oU a;have eb:=oU b;have ec:=oU c;unfold iS zA;simp only;obtain⟨A,hA⟩:∃A,A=zS a:=⟨_,rfl⟩
 obtain⟨B,hB⟩:∃A,A=zS b:=⟨_,rfl⟩
 obtain⟨C,hC⟩:∃A,A=zS c:=⟨_,rfl⟩
 rw[←hA] at ea ⊢;rw[←hB] at eb ⊢;rw[←hC] at ec ⊢;rw[←ea,←eb,←ec];cases h1:(A==[48])<;>cases h2:(B==[48])<;>cases h3:(C==[48])<;>simp[ad,hG,f63,h1,h2,h3]
noncomputable def uU(f:FuncId) (args:List AV):Option AV:=
 match f,args with
 |97,[.str s,.str t,.str u,.str v]=>match ef s,ef t,ef u,ef v with
  |some a,some b,some c,some d=>if (a.den=1∧b.den=1∧c.den=1∧d.den=1)∧a.num.natAbs≤30∧b.num.natAbs≤30∧c.num.natAbs≤30∧d.num.natAbs≤30 then some (.str (zS (a.num*d.num-b.num*c.num))) else none
  |_,_,_,_=>none
 |_,_=>none
theorem gI{q:Rat}(h:q.den=1):q=(q.num:Rat):=Rat.ext rfl h
theorem AB:qS prog (ar uU):=bZ fun f args v h mem=>by
 unfold uU at h;split at h
 ·split at h
  ·rename_i a b c d ha hb hc hd
   split at h
   ·rename_i I'
    obtain⟨⟨d1,d2,d3,d4⟩,c1,c2,c3,c4⟩:=I';cases h;rw[aA ha,aA hb,aA hc,aA hd];have:=Lu a.num b.num c.num d.num c1 c2 c3 c4 mem;unfold zS at this ⊢;rw[←gI d1,←gI d2,←gI d3,←gI d4] at this;exact this
   ·cases h
  ·cases h
 ·cases h
theorem Gb(a b:Z3)(ha:gm 30 a)(hb:gm 30 b)(mem:Mem):mB prog 66 [zA a,zA b] mem (zA (jD a b)) mem:=by
 have hG:aO prog 66=some f66:=by kernel_rfl
 obtain⟨a1,a2,a3⟩:=a;obtain⟨b1,b2,b3⟩:=b;obtain⟨h1,h2,h3⟩:=ha;obtain⟨h4,h5,h6⟩:=hb;simp only at h1 h2 h3 h4 h5 h6;refine aB AB (lv:=fun _=>[]) (K:=1) rfl rfl ?_ mem;obtain⟨ops,F'⟩:∃ops,aP f66=[ops]:=⟨_,rfl⟩
 have PP:=ie F' (l:=[0,1,0,4,0,16,0,64,255,0,512,0,2048,0,8192,0,32768,131071,0,262144,0,1048576,0,4194304,0,16777216,67108863,134217727,268435455]) (by kernel_rfl);have Y9:ba [0,1,0,4,0,16,0,64,255,0,512,0,2048,0,8192,0,32768,131071,0,262144,0,1048576,0,4194304,0,16777216,67108863,134217727,268435455] 28=true:=by decide
 simp[aP,bQ,f66] at F';subst F';have hp:∀n:Int,ef (zS n)=some (n:Rat):=fun n=>aM _
 unfold zA jD;simp only;obtain⟨A1,e1⟩:∃x,x=zS a1:=⟨_,rfl⟩
 obtain⟨A2,e2⟩:∃x,x=zS a2:=⟨_,rfl⟩
 obtain⟨A3,e3⟩:∃x,x=zS a3:=⟨_,rfl⟩
 obtain⟨B1,e4⟩:∃x,x=zS b1:=⟨_,rfl⟩
 obtain⟨B2,e5⟩:∃x,x=zS b2:=⟨_,rfl⟩
 obtain⟨B3,e6⟩:∃x,x=zS b3:=⟨_,rfl⟩
 have p1:ef A1=some (a1:Rat):=by rw[e1];exact hp _
 have p2:ef A2=some (a2:Rat):=by rw[e2];exact hp _
 have p3:ef A3=some (a3:Rat):=by rw[e3];exact hp _
 have p4:ef B1=some (b1:Rat):=by rw[e4];exact hp _
 have p5:ef B2=some (b2:Rat):=by rw[e5];exact hp _
 have p6:ef B3=some (b3:Rat):=by rw[e6];exact hp _
 rw[←e1,←e2,←e3,←e4,←e5,←e6];obtain⟨C1,f1⟩:∃x,x=zS (a2*b3-a3*b2):=⟨_,rfl⟩
 obtain⟨C2,f2⟩:∃x,x=zS (a3*b1-a1*b3):=⟨_,rfl⟩
 obtain⟨C3,f3⟩:∃x,x=zS (a1*b2-a2*b1):=⟨_,rfl⟩
 rw[←f1,←f2,←f3];simp[ad,hG,f66,-ay,ag PP,aJ,aG,aH,Y9,ar,uU,p1,p2,p3,p4,p5,p6,h1,h2,h3,h4,h5,h6,←f1,←f2,←f3,bO,aL,Nat.testBit]
theorem RS(n:Int):mkRat n 1=(n:Rat):=by have:=Rat.mkRat_self (n:Rat);exact this
theorem Gj(n:Int)(hn:n.natAbs<10 ^ 8)(mem:Mem):mB prog 35 [.int .i64 n] mem (.str (zS n)) mem:=by
 have hG:aO prog 35=some f35:=by kernel_rfl
 refine aB tT (lv:=fun _=>[]) (K:=1) rfl rfl ?_ mem;have h:n.natAbs<100000000:=hn;have e:=RS n;simp[ad,hG,f35,ar,mU,h,e,zS]
noncomputable def uC(f:FuncId) (args:List AV):Option AV:=
 match f,args with
 |35,[.int .i64 n]=>if n.natAbs<10 ^ 8 then some (.str (zS n)) else none
 |_,_=>none
theorem Af:qS prog (ar uC):=bZ fun f args v h mem=>by
 unfold uC at h;split at h
 ·split at h
  ·rename_i hc;cases h;exact Gj _ hc mem
  ·cases h
 ·cases h
theorem nu(v:Z3)(hv:gm 10000 v)(mem:Mem):mB prog 21 [.int .i64 v.1,.int .i64 v.2.1,.int .i64 v.2.2] mem (zA v) mem:=by
 have hG:aO prog 21=some f21:=by kernel_rfl
 refine aB Af (lv:=fun _=>[]) (K:=1) rfl rfl ?_ mem;obtain⟨a,b,c⟩:=v;obtain⟨h1,h2,h3⟩:=hv;simp only at h1 h2 h3;have g1:a.natAbs<100000000:=by omega
 have g2:b.natAbs<100000000:=by omega
 have g3:c.natAbs<100000000:=by omega
 simp[ad,hG,f21,ar,uC,zA,g1,g2,g3,bO,aL]
def sG(v:Z3):Z3:=(v.1.tmod 3,v.2.1.tmod 3,v.2.2.tmod 3)
def bE(v:Z3):Z3:=if iS (sG v) then (0,0,1) else sG v
def dQ(n b:Z3):Z3:=if iS (jD n b) then (if iS (jD n (1,0,0)) then (if iS (jD n (0,1,0)) then (0,0,0) else jD n (0,1,0)) else jD n (1,0,0)) else jD n b
theorem Va(x:Int): -2≤x.tmod 3∧x.tmod 3≤2:=by
 have h1:=Int.tmod_lt_of_pos x (show(0:Int)<3 by decide);have h2: -3<x.tmod 3:=by have:=Int.tmod_lt_of_pos (-x) (show(0:Int)<3 by decide);rw[Int.neg_tmod] at this;omega
 omega
theorem iw(v:Z3):gm 2 (sG v):=by obtain⟨a,b,c⟩:=v;have h1:=Va a;have h2:=Va b;have h3:=Va c;unfold gm sG;simp only;omega
theorem dj(v:Z3):gm 2 (bE v):=by
 unfold bE;split
 ·exact⟨by decide,by decide,by decide⟩
 ·exact iw v
theorem jU(v:Z3):iS (bE v)=false:=by
 unfold bE;split
 ·rfl
 ·rename_i h;simpa using h
noncomputable def jt(f:FuncId) (args:List AV):Option AV:=
 match f,args with
 |21,[.int .i64 a,.int .i64 b,.int .i64 c]=>if a.natAbs≤10000∧b.natAbs≤10000∧c.natAbs≤10000 then some (zA (a,b,c)) else none
 |63,[.agg [.str s,.str t,.str u]]=>match ef s,ef t,ef u with
  |some a,some b,some c=>if a.den=1∧b.den=1∧c.den=1 then some (.bool (iS (a.num,b.num,c.num))) else none
  |_,_,_=>none
 |66,[.agg [.str s,.str t,.str u],.agg [.str s',.str t',.str u']]=>match ef s,ef t,ef u,ef s',ef t',ef u' with
  |some a,some b,some c,some d,some e,some f=>if (a.den=1∧b.den=1∧c.den=1∧d.den=1∧e.den=1∧f.den=1)∧gm 30 (a.num,b.num,c.num)∧gm 30 (d.num,e.num,f.num) then some (zA (jD (a.num,b.num,c.num) (d.num,e.num,f.num))) else none
  |_,_,_,_,_,_=>none
 |f,args=>uC f args
theorem Ag:qS prog (ar jt):=bZ fun f args v h mem=>by
 unfold jt at h;split at h
 ·split at h
  ·rename_i hc;cases h;exact nu (_,_,_) hc mem
  ·cases h
 ·split at h
  ·rename_i a b c ha hb hc
   split at h
   ·rename_i I'
    obtain⟨d1,d2,d3⟩:=I';cases h;rw[aA ha,aA hb,aA hc];have:=LF (a.num,b.num,c.num) mem;unfold zA zS at this;simp only at this;rw[←gI d1,←gI d2,←gI d3] at this;exact this
   ·cases h
  ·cases h
 ·split at h
  ·rename_i a b c d e f ha hb hc hd he hf
   split at h
   ·rename_i I'
    obtain⟨⟨d1,d2,d3,d4,d5,d6⟩,c1,c2⟩:=I';cases h;rw[aA ha,aA hb,aA hc,aA hd,aA he,aA hf];have:=Gb (a.num,b.num,c.num) (d.num,e.num,f.num) c1 c2 mem;unfold zA at this;simp only at this;have k:∀q:Rat,q.den=1→zS q.num=aN q:=fun q hq=>by unfold zS;rw[←gI hq]
    rw[k a d1,k b d2,k c d3,k d d4,k e d5,k f d6] at this;exact this
   ·cases h
  ·cases h
 ·have:=Af.fn _ _ mem ⟨v,none,[]⟩ (by unfold ar;simp only;rw[h])
  simpa [HS.mem] using this
theorem gW(n:Int):ef (zS n)=some (n:Rat):=aM _
theorem Wz:zS 1=[49]:=rfl
theorem DV(v:Z3)(hv:gm 200 v)(mem:Mem):mB prog 34 [.agg [.int .i8 v.1,.int .i8 v.2.1,.int .i8 v.2.2]] mem (zA (bE v)) mem:=by
 have hG:aO prog 34=some f34:=by kernel_rfl
 refine aB Ag (lv:=fun _=>[]) (K:=1) rfl rfl ?_ mem;have hm:=iw v;unfold bE;obtain⟨a,b,c⟩:=v;obtain⟨h1,h2,h3⟩:=hv;unfold sG at hm ⊢;simp only at h1 h2 h3 hm ⊢;have wa:IntKind.i64.wrap a=a:=bN (by omega) (by omega);have wb:IntKind.i64.wrap b=b:=bN (by omega) (by omega);have wc:IntKind.i64.wrap c=c:=bN (by omega) (by omega);obtain⟨x,hx⟩:∃x,x=a.tmod 3:=⟨_,rfl⟩
 obtain⟨y,hy⟩:∃x,x=b.tmod 3:=⟨_,rfl⟩
 obtain⟨z,hz⟩:∃x,x=c.tmod 3:=⟨_,rfl⟩
 rw[←hx,←hy,←hz] at hm ⊢;obtain⟨g1,g2,g3⟩:=hm;simp only at g1 g2 g3;have g1' :x.natAbs≤10000:=by omega
 have g2' :y.natAbs≤10000:=by omega
 have g3' :z.natAbs≤10000:=by omega
 have hX:=gW x;have hY:=gW y;have hZ:=gW z;have e0:zS 0=[48]:=rfl;cases hzero:iS (x,y,z) with
 |true=>
  have hz0:=hzero;unfold iS at hz0;simp only[Bool.and_eq_true,decide_eq_true_eq] at hz0;obtain⟨⟨rfl,rfl⟩,rfl⟩:=hz0;have h48:ef [48]=some ((0:Int):Rat):=gW 0;simp[ad,hG,f34,ar,jt,wa,wb,wc,←hx,←hy,←hz,zA,hzero,e0,Wz,h48]
 |false=>
  simp[ad,hG,f34,ar,jt,wa,wb,wc,←hx,←hy,←hz,zA,g1',g2',g3',hX,hY,hZ,hzero]
theorem nf{a b:Z3}(ha:gm 2 a)(hb:gm 2 b):gm 8 (jD a b):=by
 obtain⟨a1,a2,a3⟩:=a;obtain⟨b1,b2,b3⟩:=b;obtain⟨h1,h2,h3⟩:=ha;obtain⟨h4,h5,h6⟩:=hb;simp only at h1 h2 h3 h4 h5 h6;have m:∀x y:Int,x.natAbs≤2→y.natAbs≤2→(x*y).natAbs≤4:=fun x y hx hy=>by rw[Int.natAbs_mul];exact Nat.mul_le_mul hx hy
 unfold jD gm;simp only;have p1:=m a2 b3 h2 h6;have p2:=m a3 b2 h3 h5;have p3:=m a3 b1 h3 h4;have p4:=m a1 b3 h1 h6;have p5:=m a1 b2 h1 h5;have p6:=m a2 b1 h2 h4;omega
theorem DU(n b:Z3)(hn:gm 2 n)(hb:gm 2 b)(mem:Mem):mB prog 37 [zA n,zA b] mem (zA (dQ n b)) mem:=by
 have hG:aO prog 37=some f37:=by kernel_rfl
 refine aB Ag (lv:=fun _=>[13]) (K:=9) rfl rfl ?_ mem;have l0:gm 2 (1,0,0):=by decide
 have l1:gm 2 (0,1,0):=by decide
 have c1:=nf hn hb;have c2:=nf hn l0;have c3:=nf hn l1;have hn30:gm 30 n:=⟨by have:=hn.1;omega,by have:=hn.2.1;omega,by have:=hn.2.2;omega⟩;have hb30:gm 30 b:=⟨by have:=hb.1;omega,by have:=hb.2.1;omega,by have:=hb.2.2;omega⟩;have h030:gm 30 (1,0,0):=by decide
 have h130:gm 30 (0,1,0):=by decide
 unfold dQ;obtain⟨C1,e1⟩:∃c,c=jD n b:=⟨_,rfl⟩
 obtain⟨C2,e2⟩:∃c,c=jD n (1,0,0):=⟨_,rfl⟩
 obtain⟨C3,e3⟩:∃c,c=jD n (0,1,0):=⟨_,rfl⟩
 rw[←e1,←e2,←e3];obtain⟨n1,n2,n3⟩:=n;obtain⟨b1,b2,b3⟩:=b;obtain⟨p1,p2,p3⟩:=C1;obtain⟨q1,q2,q3⟩:=C2;obtain⟨r1,r2,r3⟩:=C3;have z0:zS 0=[48]:=rfl;have z1:zS 1=[49]:=rfl;have h0:ef [48]=some ((0:Int):Rat):=gW 0;have h1:ef [49]=some ((1:Int):Rat):=gW 1;have w2' :IntKind.i64.wrap (1+1)=2:=rfl;have w3' :IntKind.i64.wrap (2+1)=3:=rfl;have hp:=gW;cases y1:iS (p1,p2,p3) with
 |false=>
  simp[ad,hG,f37,ar,jt,zA,hp,z0,z1,hn30,hb30,←e1,y1,aR,gl,Nat.testBit]
 |true=>
  cases y2:iS (q1,q2,q3) with
  |false=>
   simp[ad,hG,f37,ar,jt,zA,hp,h0,h1,z0,z1,hn30,hb30,h030,←e1,←e2,y1,y2,aR,gl,w1,Nat.testBit]
  |true=>
   cases y3:iS (r1,r2,r3) with
   |false=>
    simp[ad,hG,f37,ar,jt,zA,hp,h0,h1,z0,z1,hn30,hb30,h030,h130,←e1,←e2,←e3,y1,y2,y3,aR,gl,w1,w2,Nat.testBit]
   |true=>
    simp[ad,hG,f37,ar,jt,zA,hp,h0,h1,z0,z1,hn30,hb30,h030,h130,←e1,←e2,←e3,y1,y2,y3,aR,gl,w1,w2,w3,Nat.testBit]
def Ld(a b:Z3):Int:=a.1*b.1+a.2.1*b.2.1+a.2.2*b.2.2
theorem AX(n b:Z3):Ld (jD n b) n=0:=by
 obtain⟨a1,a2,a3⟩:=n;obtain⟨b1,b2,b3⟩:=b;unfold Ld jD;simp only
 grind
theorem rV(n b:Z3):Ld (dQ n b) n=0:=by
 unfold dQ;split
 ·split
  ·split
   ·simp[Ld]
   ·exact AX _ _
  ·exact AX _ _
 ·exact AX _ _
theorem rQ{n b:Z3}(hn:gm 2 n)(hb:gm 2 b):gm 8 (dQ n b):=by
 unfold dQ;split
 ·split
  ·split
   ·decide
   ·exact nf hn (by decide)
  ·exact nf hn (by decide)
 ·exact nf hn hb
theorem Uf(h:n.natAbs<10 ^ 4):yV (zS n)=0:=by have:dg 4 1 (n:Rat):=Vx h;exact wD (this.mono (by omega) (by omega))
theorem Ul{v:Z3}(h:gm 99 v):zb [zS v.1,zS v.2.1,zS v.2.2]=0:=by obtain⟨h1,h2,h3⟩:=h;simp[zb,Uf (n:=v.1) (by omega),Uf (n:=v.2.1) (by omega),Uf (n:=v.2.2) (by omega)]
theorem zw(v n:Z3)(hv:gm 99 v)(hn:gm 99 n)(hd:Ld v n=0)(M:Mem):mB prog 209 [zA v,zA n] M (.int .i64 0) M:=by
 have hG:aO prog 209=some f209:=by kernel_rfl
 have hE:=Ul hv;obtain⟨v1,v2,v3⟩:=v;obtain⟨n1,n2,n3⟩:=n;obtain⟨h1,h2,h3⟩:=hv;obtain⟨h4,h5,h6⟩:=hn;simp only at h1 h2 h3 h4 h5 h6 hE;have k:∀m:Nat,m≤99→(aS m).length≤2:=fun m hm=>bC (k:=2) (by omega) (by omega)
 have k1:(aS 1).length≤1:=bC (k:=1) (by omega) (by omega);have l1:=k _ h1;have l2:=k _ h2;have l3:=k _ h3;have l4:=k _ h4;have l5:=k _ h5;have l6:=k _ h6;have s1:=fE (n:=v1) (by omega);have s2:=fE (n:=v2) (by omega);have s3:=fE (n:=v3) (by omega);have s1' :(zS v1).length≤18:=by unfold zS;omega
 have s2' :(zS v2).length≤18:=by unfold zS;omega
 have s3' :(zS v3).length≤18:=by unfold zS;omega
 have hdot:(v1:Rat)*(n1:Rat)+(v2:Rat)*(n2:Rat)+(v3:Rat)*(n3:Rat)=0:=by unfold Ld at hd;simp only at hd;rw[←Rat.intCast_mul,←Rat.intCast_mul,←Rat.intCast_mul,←Rat.intCast_add,←Rat.intCast_add,hd];rfl
 have hp:=gW;have z0:aN 0=[48]:=rfl;refine aB xu (lv:=fun _=>[]) (K:=1) rfl rfl ?_ M;simp[ad,hG,f209,ar,qz,zA,hp,hE,k1,l1,l2,l3,l4,l5,l6,s1',s2',s3',hdot,z0]
theorem oV(n:Z3)(o:Int)(hn:gm 99 n)(hz:iS n=false)(ho:o.natAbs≤1000)(M:Mem):mB prog 208 [.agg [.str (zS n.1),.str (zS n.2.1),.str (zS n.2.2),.str (zS o)]] M (.int .i64 0) M:=by
 have hG:aO prog 208=some f208:=by kernel_rfl
 obtain⟨n1,n2,n3⟩:=n;obtain⟨h4,h5,h6⟩:=hn;simp only at h4 h5 h6;have s1:=fE (n:=n1) (by omega);have s2:=fE (n:=n2) (by omega);have s3:=fE (n:=n3) (by omega);have s4:=fE (n:=o) (by omega);have s1' :(zS n1).length≤18:=by unfold zS;omega
 have s2' :(zS n2).length≤18:=by unfold zS;omega
 have s3' :(zS n3).length≤18:=by unfold zS;omega
 have s4' :(zS o).length≤18:=by unfold zS;omega
 have hE:zb [zS n1,zS n2,zS n3,zS o]=0:=by simp[zb,Uf (n:=n1) (by omega),Uf (n:=n2) (by omega),Uf (n:=n3) (by omega),Uf (n:=o) (by omega)]
 have e1:=oU n1;have e2:=oU n2;have e3:=oU n3;have hb:((zS n1==[48]&&zS n2==[48])&&zS n3==[48])=false:=by rw[e1,e2,e3];exact hz
 refine aB JJ (lv:=fun _=>[]) (K:=1) rfl rfl ?_ M;simp only at hb ⊢;obtain⟨A,hA⟩:∃A,A=zS n1:=⟨_,rfl⟩
 obtain⟨B,hB⟩:∃A,A=zS n2:=⟨_,rfl⟩
 obtain⟨C,hC⟩:∃A,A=zS n3:=⟨_,rfl⟩
 obtain⟨D,hD⟩:∃A,A=zS o:=⟨_,rfl⟩
 rw[←hA] at s1' hE hb ⊢;rw[←hB] at s2' hE hb ⊢;rw[←hC] at s3' hE hb ⊢;rw[←hD] at s4' hE ⊢;simp[ad,hG,f208,JI,aac.or,ar,qz,kj,vy,xU,hE,hb,s1',s2',s3',s4']
end Go.Proofs
