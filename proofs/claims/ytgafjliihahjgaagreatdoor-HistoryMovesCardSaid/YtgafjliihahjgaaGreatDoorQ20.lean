/- See Q54. -/
import Derived.Test.YtgafjliihahjgaaGreatDoorQ18
import Derived.Test.YtgafjliihahjgaaGreatDoorQ19
set_option linter.all false
namespace Go.Proofs
open Go.Eng
theorem LJ(q:Rat) (hl:(ah q).length≤1000000000) (mem:Mem):ACallsTo Tryz.prog 258 [.str (ah q)] mem (.str (ah (-q))) mem:=by
 have hG:aL Tryz.prog 258=some Tryz.f258:=by kernel_rfl
 refine aq (ao _) (lv:=fun _=>[]) (K:=1) rfl rfl ?_ mem;by_cases h0:q=0
 ·subst h0
  simp[aa,hG,Tryz.f258,bL]
 ·have hn:¬q.num=0:=fun e=>h0 (xl.1 e)
  by_cases h1:q.num<0
  ·have e:=mK h1
   have hb:(45::ah (-q)==[48])=false:=by rw[←e,bL];simpa using h0
   rw[e];have h3:(1:Int)≤((ah (-q)).length:Int)+1:=by omega
   simp[aa,hG,Tryz.f258,hb,h3]
  ·have e:=oO (q:=q) (by omega)
   obtain⟨c,r,e2,hc⟩:=oM (q:=q) (by omega);have hb:(c::r==[48])=false:=by rw[←e2,bL];simpa using h0
   have h2:=fJ hc;rw[e,e2];rw[e2] at hl;simp only[List.length_cons] at hl;have h3:1+(r.length+1)≤9223372036854775807:=by omega
   simp[aa,hG,Tryz.f258,hb,h2,h3,fx]
noncomputable def gN(f:FuncId) (args:List AV):Option AV:=
 match f,args with
 |34,[.int .i64 n,.int .i64 d]=>if 0<d∧n.natAbs<10 ^ 8∧d.toNat<10 ^ 8 then some (.str (ah (mkRat n d.toNat))) else none
 |81,[.str s,.str t]=>match cV s,cV t with
  |some a,some b=>if (ah a).length≤9∧(ah b).length≤9 then some (.str (ah (a+b))) else none
  |_,_=>none
 |214,[.str s,.str t]=>match cV s,cV t with
  |some a,some b=>if (ah a).length≤9∧(ah b).length≤9 then some (.str (ah (a*b))) else none
  |_,_=>none
 |258,[.str s]=>match cV s with
  |some a=>if (ah a).length≤9 then some (.str (ah (-a))) else none
  |none=>none
 |_,_=>none
theorem my:OracleOk Tryz.prog (af gN):=bq fun f args v h mem=>by
 unfold gN at h;split at h
 ·rename_i n d
  split at h
  ·rename_i hc
   cases h;have:=Ep n d.toNat (by omega) hc.2.1 hc.2.2 mem;rw[Int.toNat_of_nonneg (by omega)] at this;exact this
  ·cases h
 ·split at h
  ·rename_i m n hm hn
   split at h
   ·rename_i hc;cases h;rw[au hm,au hn];exact AJ m n hc.1 hc.2 mem
   ·cases h
  ·cases h
 ·split at h
  ·rename_i m n hm hn
   split at h
   ·rename_i hc;cases h;rw[au hm,au hn];exact LI m n hc.1 hc.2 mem
   ·cases h
  ·cases h
 ·split at h
  ·rename_i m hm
   split at h
   ·rename_i hc;cases h;rw[au hm];exact LJ m (by omega) mem
   ·cases h
  ·cases h
 ·cases h
theorem LK(a b:Rat) (qa:(ah a).length≤9) (qb:(ah b).length≤9) (qn:(ah (-b)).length≤9) (mem:Mem):
  ACallsTo Tryz.prog 213 [.str (ah a),.str (ah b)] mem (.str (ah (a-b))) mem:=by
 have hG:aL Tryz.prog 213=some Tryz.f213:=by kernel_rfl
 refine aq my (lv:=fun _=>[]) (K:=1) rfl rfl ?_ mem;have e:a+ -b=a-b:=(Rat.sub_eq_add_neg a b).symm;simp[aa,hG,Tryz.f213,af,gN,ay,qa,qb,qn,e]
def zS(n:Int):List UInt8:=ah (n:Rat)
theorem eW{n:Int}(h:n.natAbs<10 ^ 4):(ah (n:Rat)).length≤9:=by
 have e:ah (n:Rat)=bT n:=by unfold ah;simp
 rw[e];have h1:=ef n;have h2:(aJ n.natAbs).length≤4:=bf (by omega) h;omega
noncomputable def yv(f:FuncId) (args:List AV):Option AV:=
 match f,args with
 |213,[.str s,.str t]=>match cV s,cV t with
  |some a,some b=>if (ah a).length≤9∧(ah b).length≤9∧(ah (-b)).length≤9 then some (.str (ah (a-b))) else none
  |_,_=>none
 |f,args=>gN f args
theorem JB:OracleOk Tryz.prog (af yv):=bq fun f args v h mem=>by
 unfold yv at h;split at h
 ·split at h
  ·rename_i m n hm hn
   split at h
   ·rename_i hc;cases h;rw[au hm,au hn];exact LK m n hc.1 hc.2.1 hc.2.2 mem
   ·cases h
  ·cases h
 ·have:=my.fn _ _ mem ⟨v,none,[]⟩ (by unfold af;simp only;rw[h])
  simpa [CallRes.mem] using this
theorem HN{a b:Int}(ha:a.natAbs≤30) (hb:b.natAbs≤30):(a*b).natAbs≤900:=by rw[Int.natAbs_mul];exact Nat.mul_le_mul ha hb
theorem IN(a b c d:Int) (ha:a.natAbs≤30) (hb:b.natAbs≤30) (hc:c.natAbs≤30) (hd:d.natAbs≤30) (mem:Mem):
  ACallsTo Tryz.prog 133 [.str (zS a),.str (zS b),.str (zS c),.str (zS d)] mem (.str (zS (a*d-b*c))) mem:=by
 have hG:aL Tryz.prog 133=some Tryz.f133:=by kernel_rfl
 have p1:=HN ha hd;have p2:=HN hb hc;have e1:(a:Rat)*(d:Rat)=((a*d:Int):Rat):=(Rat.intCast_mul a d).symm;have e2:(b:Rat)*(c:Rat)=((b*c:Int):Rat):=(Rat.intCast_mul b c).symm;obtain⟨x,hx⟩:∃x,x=a*d:=⟨_,rfl⟩
 obtain⟨y,hy⟩:∃x,x=b*c:=⟨_,rfl⟩
 rw[←hx] at p1 e1 ⊢;rw[←hy] at p2 e2 ⊢;have e3:(x:Rat)-(y:Rat)=((x-y:Int):Rat):=(Rat.intCast_sub x y).symm;obtain⟨z,hz⟩:∃z,z=x-y:=⟨_,rfl⟩
 rw[←hz] at e3 ⊢;have l1:=eW (n:=a) (by omega);have l2:=eW (n:=b) (by omega);have l3:=eW (n:=c) (by omega);have l4:=eW (n:=d) (by omega);have l5:=eW (n:=x) (by omega);have l6:=eW (n:=y) (by omega);have l7:(ah (-(y:Rat))).length≤9:=by rw[←Rat.intCast_neg];exact eW (n:= -y) (by omega)
 refine aq JB (lv:=fun _=>[]) (K:=1) rfl rfl ?_ mem;simp[aa,hG,Tryz.f133,af,yv,gN,zS,ay,l1,l2,l3,l4,l5,l6,l7,e1,e2,e3]
abbrev Z3:=Int×Int×Int
def zA(v:Z3):AV:=.agg [.str (zS v.1),.str (zS v.2.1),.str (zS v.2.2)]
def dO(n:Nat) (v:Z3):Prop:=v.1.natAbs≤n∧v.2.1.natAbs≤n∧v.2.2.natAbs≤n
instance (n:Nat) (v:Z3):Decidable (dO n v):=inferInstanceAs (Decidable (v.1.natAbs≤n∧v.2.1.natAbs≤n∧v.2.2.natAbs≤n))
theorem bF{n:Int}(h0: -1000000≤n) (h1:n≤1000000):IntKind.i64.wrap n=n:=by rw[aj (by omega) (by omega)]
def iS(a b:Z3):Z3:=(a.2.1*b.2.2-a.2.2*b.2.1,a.2.2*b.1-a.1*b.2.2,a.1*b.2.1-a.2.1*b.1)
theorem Tl{a b:Int}(h:zS a=zS b):a=b:=by
 have:=xm h
 exact_mod_cast this
theorem mQ(n:Int):(zS n==[48])=decide (n=0):=by
 have h0:zS 0=[48]:=rfl;by_cases h:n=0
 ·subst h;rfl
 ·rw[decide_eq_false h]
  have:zS n≠[48]:=fun e=>h (Tl (e.trans h0.symm))
  simpa using this
def gh(v:Z3):Bool:=decide (v.1=0)&&decide (v.2.1=0)&&decide (v.2.2=0)
theorem IZ(v:Z3) (mem:Mem):ACallsTo Tryz.prog 79 [zA v] mem (.bool (gh v)) mem:=by
 have hG:aL Tryz.prog 79=some Tryz.f79:=by kernel_rfl
 refine aq (ao _) (lv:=fun _=>[]) (K:=1) rfl rfl ?_ mem;obtain⟨a,b,c⟩:=v;have ea:=mQ a;have eb:=mQ b;have ec:=mQ c;unfold gh zA;simp only;obtain⟨A,hA⟩:∃A,A=zS a:=⟨_,rfl⟩
 obtain⟨B,hB⟩:∃A,A=zS b:=⟨_,rfl⟩
 obtain⟨C,hC⟩:∃A,A=zS c:=⟨_,rfl⟩
 rw[←hA] at ea ⊢;rw[←hB] at eb ⊢;rw[←hC] at ec ⊢;rw[←ea,←eb,←ec];cases h1:(A==[48])<;>cases h2:(B==[48])<;>cases h3:(C==[48])<;>simp[aa,hG,Tryz.f79,h1,h2,h3]
noncomputable def si(f:FuncId) (args:List AV):Option AV:=
 match f,args with
 |133,[.str s,.str t,.str u,.str v]=>match cV s,cV t,cV u,cV v with
  |some a,some b,some c,some d=>if (a.den=1∧b.den=1∧c.den=1∧d.den=1)∧a.num.natAbs≤30∧b.num.natAbs≤30∧c.num.natAbs≤30∧d.num.natAbs≤30 then some (.str (zS (a.num*d.num-b.num*c.num))) else none
  |_,_,_,_=>none
 |_,_=>none
theorem fR{q:Rat}(h:q.den=1):q=(q.num:Rat):=Rat.ext rfl h
theorem yr:OracleOk Tryz.prog (af si):=bq fun f args v h mem=>by
 unfold si at h;split at h
 ·split at h
  ·rename_i a b c d ha hb hc hd
   split at h
   ·rename_i hcond
    obtain⟨⟨d1,d2,d3,d4⟩,c1,c2,c3,c4⟩:=hcond;cases h;rw[au ha,au hb,au hc,au hd];have:=IN a.num b.num c.num d.num c1 c2 c3 c4 mem;unfold zS at this ⊢;rw[←fR d1,←fR d2,←fR d3,←fR d4] at this;exact this
   ·cases h
  ·cases h
 ·cases h
set_option maxRecDepth 8192 in
set_option maxHeartbeats 3200000 in
theorem DS(a b:Z3) (ha:dO 30 a) (hb:dO 30 b) (mem:Mem):ACallsTo Tryz.prog 82 [zA a,zA b] mem (zA (iS a b)) mem:=by
 have hG:aL Tryz.prog 82=some Tryz.f82:=by kernel_rfl
 obtain⟨a1,a2,a3⟩:=a;obtain⟨b1,b2,b3⟩:=b;obtain⟨h1,h2,h3⟩:=ha;obtain⟨h4,h5,h6⟩:=hb;simp only at h1 h2 h3 h4 h5 h6;refine aq yr (lv:=fun _=>[]) (K:=1) rfl rfl ?_ mem;obtain⟨ops,hops⟩:∃ops,aE Tryz.f82=[ops]:=⟨_,rfl⟩
 have hbs:=cE hops (l:=[0,1,0,4,0,16,0,64,255,0,512,0,2048,0,8192,0,32768,131071,0,262144,0,1048576,0,4194304,0,16777216,67108863,134217727,268435455]) (by kernel_rfl);have hab:aN [0,1,0,4,0,16,0,64,255,0,512,0,2048,0,8192,0,32768,131071,0,262144,0,1048576,0,4194304,0,16777216,67108863,134217727,268435455] 28=true:=by decide
 simp[aE,bC,Tryz.f82] at hops;subst hops;have hp:∀n:Int,cV (zS n)=some (n:Rat):=fun n=>ay _
 unfold zA iS;simp only;obtain⟨A1,e1⟩:∃x,x=zS a1:=⟨_,rfl⟩
 obtain⟨A2,e2⟩:∃x,x=zS a2:=⟨_,rfl⟩
 obtain⟨A3,e3⟩:∃x,x=zS a3:=⟨_,rfl⟩
 obtain⟨B1,e4⟩:∃x,x=zS b1:=⟨_,rfl⟩
 obtain⟨B2,e5⟩:∃x,x=zS b2:=⟨_,rfl⟩
 obtain⟨B3,e6⟩:∃x,x=zS b3:=⟨_,rfl⟩
 have p1:cV A1=some (a1:Rat):=by rw[e1];exact hp _
 have p2:cV A2=some (a2:Rat):=by rw[e2];exact hp _
 have p3:cV A3=some (a3:Rat):=by rw[e3];exact hp _
 have p4:cV B1=some (b1:Rat):=by rw[e4];exact hp _
 have p5:cV B2=some (b2:Rat):=by rw[e5];exact hp _
 have p6:cV B3=some (b3:Rat):=by rw[e6];exact hp _
 rw[←e1,←e2,←e3,←e4,←e5,←e6];obtain⟨C1,f1⟩:∃x,x=zS (a2*b3-a3*b2):=⟨_,rfl⟩
 obtain⟨C2,f2⟩:∃x,x=zS (a3*b1-a1*b3):=⟨_,rfl⟩
 obtain⟨C3,f3⟩:∃x,x=zS (a1*b2-a2*b1):=⟨_,rfl⟩
 rw[←f1,←f2,←f3];simp[aa,hG,Tryz.f82,-aD,ai hbs,bc,aW,a8,hab,af,si,p1,p2,p3,p4,p5,p6,h1,h2,h3,h4,h5,h6,←f1,←f2,←f3,bO,aH,Nat.testBit]
theorem Pv(n:Int):mkRat n 1=(n:Rat):=by have:=Rat.mkRat_self (n:Rat);exact this
theorem D9(n:Int) (hn:n.natAbs<10 ^ 8) (mem:Mem):ACallsTo Tryz.prog 44 [.int .i64 n] mem (.str (zS n)) mem:=by
 have hG:aL Tryz.prog 44=some Tryz.f44:=by kernel_rfl
 refine aq my (lv:=fun _=>[]) (K:=1) rfl rfl ?_ mem;have h:n.natAbs<100000000:=hn;have e:=Pv n;simp[aa,hG,Tryz.f44,af,gN,h,e,zS]
noncomputable def rQ(f:FuncId) (args:List AV):Option AV:=
 match f,args with
 |44,[.int .i64 n]=>if n.natAbs<10 ^ 8 then some (.str (zS n)) else none
 |_,_=>none
theorem xZ:OracleOk Tryz.prog (af rQ):=bq fun f args v h mem=>by
 unfold rQ at h;split at h
 ·split at h
  ·rename_i hc;cases h;exact D9 _ hc mem
  ·cases h
 ·cases h
theorem xK(v:Z3) (hv:dO 10000 v) (mem:Mem):ACallsTo Tryz.prog 25 [.int .i64 v.1,.int .i64 v.2.1,.int .i64 v.2.2] mem (zA v) mem:=by
 have hG:aL Tryz.prog 25=some Tryz.f25:=by kernel_rfl
 refine aq xZ (lv:=fun _=>[]) (K:=1) rfl rfl ?_ mem;obtain⟨a,b,c⟩:=v;obtain⟨h1,h2,h3⟩:=hv;simp only at h1 h2 h3;have g1:a.natAbs<100000000:=by omega
 have g2:b.natAbs<100000000:=by omega
 have g3:c.natAbs<100000000:=by omega
 simp[aa,hG,Tryz.f25,af,rQ,zA,g1,g2,g3,bO,aH]
def qc(v:Z3):Z3:=(v.1.tmod 3,v.2.1.tmod 3,v.2.2.tmod 3)
def bw(v:Z3):Z3:=if gh (qc v) then (0,0,1) else qc v
def dw(n b:Z3):Z3:=if gh (iS n b) then (if gh (iS n (1,0,0)) then (if gh (iS n (0,1,0)) then (0,0,0) else iS n (0,1,0)) else iS n (1,0,0)) else iS n b
theorem SE(x:Int): -2≤x.tmod 3∧x.tmod 3≤2:=by
 have h1:=Int.tmod_lt_of_pos x (show(0:Int)<3 by decide);have h2: -3<x.tmod 3:=by have:=Int.tmod_lt_of_pos (-x) (show(0:Int)<3 by decide);rw[Int.neg_tmod] at this;omega
 omega
theorem fl(v:Z3):dO 2 (qc v):=by obtain⟨a,b,c⟩:=v;have h1:=SE a;have h2:=SE b;have h3:=SE c;unfold dO qc;simp only;omega
theorem bR(v:Z3):dO 2 (bw v):=by
 unfold bw;split
 ·exact⟨by decide,by decide,by decide⟩
 ·exact fl v
theorem jm(v:Z3):gh (bw v)=false:=by
 unfold bw;split
 ·rfl
 ·rename_i h;simpa using h
noncomputable def iD(f:FuncId) (args:List AV):Option AV:=
 match f,args with
 |25,[.int .i64 a,.int .i64 b,.int .i64 c]=>if a.natAbs≤10000∧b.natAbs≤10000∧c.natAbs≤10000 then some (zA (a,b,c)) else none
 |79,[.agg [.str s,.str t,.str u]]=>match cV s,cV t,cV u with
  |some a,some b,some c=>if a.den=1∧b.den=1∧c.den=1 then some (.bool (gh (a.num,b.num,c.num))) else none
  |_,_,_=>none
 |82,[.agg [.str s,.str t,.str u],.agg [.str s',.str t',.str u']]=>match cV s,cV t,cV u,cV s',cV t',cV u' with
  |some a,some b,some c,some d,some e,some f=>if (a.den=1∧b.den=1∧c.den=1∧d.den=1∧e.den=1∧f.den=1)∧dO 30 (a.num,b.num,c.num)∧dO 30 (d.num,e.num,f.num) then some (zA (iS (a.num,b.num,c.num) (d.num,e.num,f.num))) else none
  |_,_,_,_,_,_=>none
 |f,args=>rQ f args
theorem ya:OracleOk Tryz.prog (af iD):=bq fun f args v h mem=>by
 unfold iD at h;split at h
 ·split at h
  ·rename_i hc;cases h;exact xK (_,_,_) hc mem
  ·cases h
 ·split at h
  ·rename_i a b c ha hb hc
   split at h
   ·rename_i hcond
    obtain⟨d1,d2,d3⟩:=hcond;cases h;rw[au ha,au hb,au hc];have:=IZ (a.num,b.num,c.num) mem;unfold zA zS at this;simp only at this;rw[←fR d1,←fR d2,←fR d3] at this;exact this
   ·cases h
  ·cases h
 ·split at h
  ·rename_i a b c d e f ha hb hc hd he hf
   split at h
   ·rename_i hcond
    obtain⟨⟨d1,d2,d3,d4,d5,d6⟩,c1,c2⟩:=hcond;cases h;rw[au ha,au hb,au hc,au hd,au he,au hf];have:=DS (a.num,b.num,c.num) (d.num,e.num,f.num) c1 c2 mem;unfold zA at this;simp only at this;have k:∀q:Rat,q.den=1→zS q.num=ah q:=fun q hq=>by unfold zS;rw[←fR hq]
    rw[k a d1,k b d2,k c d3,k d d4,k e d5,k f d6] at this;exact this
   ·cases h
  ·cases h
 ·have:=xZ.fn _ _ mem ⟨v,none,[]⟩ (by unfold af;simp only;rw[h])
  simpa [CallRes.mem] using this
theorem fX(n:Int):cV (zS n)=some (n:Rat):=ay _
theorem TW:zS 1=[49]:=rfl
set_option maxHeartbeats 1600000 in
theorem BU(v:Z3) (hv:dO 200 v) (mem:Mem):ACallsTo Tryz.prog 46 [.agg [.int .i8 v.1,.int .i8 v.2.1,.int .i8 v.2.2]] mem (zA (bw v)) mem:=by
 have hG:aL Tryz.prog 46=some Tryz.f46:=by kernel_rfl
 refine aq ya (lv:=fun _=>[]) (K:=1) rfl rfl ?_ mem;have hm:=fl v;unfold bw;obtain⟨a,b,c⟩:=v;obtain⟨h1,h2,h3⟩:=hv;unfold qc at hm ⊢;simp only at h1 h2 h3 hm ⊢;have wa:IntKind.i64.wrap a=a:=bF (by omega) (by omega);have wb:IntKind.i64.wrap b=b:=bF (by omega) (by omega);have wc:IntKind.i64.wrap c=c:=bF (by omega) (by omega);obtain⟨x,hx⟩:∃x,x=a.tmod 3:=⟨_,rfl⟩
 obtain⟨y,hy⟩:∃x,x=b.tmod 3:=⟨_,rfl⟩
 obtain⟨z,hz⟩:∃x,x=c.tmod 3:=⟨_,rfl⟩
 rw[←hx,←hy,←hz] at hm ⊢;obtain⟨g1,g2,g3⟩:=hm;simp only at g1 g2 g3;have g1' :x.natAbs≤10000:=by omega
 have g2' :y.natAbs≤10000:=by omega
 have g3' :z.natAbs≤10000:=by omega
 have hX:=fX x;have hY:=fX y;have hZ:=fX z;have e0:zS 0=[48]:=rfl;cases hzero:gh (x,y,z) with
 |true=>
  have hz0:=hzero;unfold gh at hz0;simp only[Bool.and_eq_true,decide_eq_true_eq] at hz0;obtain⟨⟨rfl,rfl⟩,rfl⟩:=hz0;have h48:cV [48]=some ((0:Int):Rat):=fX 0;simp[aa,hG,Tryz.f46,af,iD,wa,wb,wc,←hx,←hy,←hz,zA,hzero,e0,TW,h48]
 |false=>
  simp[aa,hG,Tryz.f46,af,iD,wa,wb,wc,←hx,←hy,←hz,zA,g1',g2',g3',hX,hY,hZ,hzero]
theorem lH{a b:Z3}(ha:dO 2 a) (hb:dO 2 b):dO 8 (iS a b):=by
 obtain⟨a1,a2,a3⟩:=a;obtain⟨b1,b2,b3⟩:=b;obtain⟨h1,h2,h3⟩:=ha;obtain⟨h4,h5,h6⟩:=hb;simp only at h1 h2 h3 h4 h5 h6;have m:∀x y:Int,x.natAbs≤2→y.natAbs≤2→(x*y).natAbs≤4:=fun x y hx hy=>by rw[Int.natAbs_mul];exact Nat.mul_le_mul hx hy
 unfold iS dO;simp only;have p1:=m a2 b3 h2 h6;have p2:=m a3 b2 h3 h5;have p3:=m a3 b1 h3 h4;have p4:=m a1 b3 h1 h6;have p5:=m a1 b2 h1 h5;have p6:=m a2 b1 h2 h4;omega
set_option maxRecDepth 8192 in
set_option maxHeartbeats 6400000 in
theorem BT(n b:Z3) (hn:dO 2 n) (hb:dO 2 b) (mem:Mem):ACallsTo Tryz.prog 48 [zA n,zA b] mem (zA (dw n b)) mem:=by
 have hG:aL Tryz.prog 48=some Tryz.f48:=by kernel_rfl
 refine aq ya (lv:=fun _=>[13]) (K:=9) rfl rfl ?_ mem;have l0:dO 2 (1,0,0):=by decide
 have l1:dO 2 (0,1,0):=by decide
 have c1:=lH hn hb;have c2:=lH hn l0;have c3:=lH hn l1;have hn30:dO 30 n:=⟨by have:=hn.1;omega,by have:=hn.2.1;omega,by have:=hn.2.2;omega⟩;have hb30:dO 30 b:=⟨by have:=hb.1;omega,by have:=hb.2.1;omega,by have:=hb.2.2;omega⟩;have h030:dO 30 (1,0,0):=by decide
 have h130:dO 30 (0,1,0):=by decide
 unfold dw;obtain⟨C1,e1⟩:∃c,c=iS n b:=⟨_,rfl⟩
 obtain⟨C2,e2⟩:∃c,c=iS n (1,0,0):=⟨_,rfl⟩
 obtain⟨C3,e3⟩:∃c,c=iS n (0,1,0):=⟨_,rfl⟩
 rw[←e1,←e2,←e3];obtain⟨n1,n2,n3⟩:=n;obtain⟨b1,b2,b3⟩:=b;obtain⟨p1,p2,p3⟩:=C1;obtain⟨q1,q2,q3⟩:=C2;obtain⟨r1,r2,r3⟩:=C3;have z0:zS 0=[48]:=rfl;have z1:zS 1=[49]:=rfl;have h0:cV [48]=some ((0:Int):Rat):=fX 0;have h1:cV [49]=some ((1:Int):Rat):=fX 1;have w1:IntKind.i64.wrap 1=1:=rfl;have w2:IntKind.i64.wrap 2=2:=rfl;have w3:IntKind.i64.wrap 3=3:=rfl;have w2' :IntKind.i64.wrap (1+1)=2:=rfl;have w3' :IntKind.i64.wrap (2+1)=3:=rfl;have hp:=fX;cases y1:gh (p1,p2,p3) with
 |false=>
  simp[aa,hG,Tryz.f48,af,iD,zA,hp,z0,z1,hn30,hb30,←e1,y1,aB,dV,Nat.testBit]
 |true=>
  cases y2:gh (q1,q2,q3) with
  |false=>
   simp[aa,hG,Tryz.f48,af,iD,zA,hp,h0,h1,z0,z1,hn30,hb30,h030,←e1,←e2,y1,y2,aB,dV,w1,Nat.testBit]
  |true=>
   cases y3:gh (r1,r2,r3) with
   |false=>
    simp[aa,hG,Tryz.f48,af,iD,zA,hp,h0,h1,z0,z1,hn30,hb30,h030,h130,←e1,←e2,←e3,y1,y2,y3,aB,dV,w1,w2,Nat.testBit]
   |true=>
    simp[aa,hG,Tryz.f48,af,iD,zA,hp,h0,h1,z0,z1,hn30,hb30,h030,h130,←e1,←e2,←e3,y1,y2,y3,aB,dV,w1,w2,w3,Nat.testBit]
def DE(a b:Z3):Int:=a.1*b.1+a.2.1*b.2.1+a.2.2*b.2.2
theorem yQ(n b:Z3):DE (iS n b) n=0:=by
 obtain⟨a1,a2,a3⟩:=n;obtain⟨b1,b2,b3⟩:=b;unfold DE iS;simp only
 grind
theorem ph(n b:Z3):DE (dw n b) n=0:=by
 unfold dw;split
 ·split
  ·split
   ·simp[DE]
   ·exact yQ _ _
  ·exact yQ _ _
 ·exact yQ _ _
theorem jk{n b:Z3}(hn:dO 2 n) (hb:dO 2 b):dO 8 (dw n b):=by
 unfold dw;split
 ·split
  ·split
   ·decide
   ·exact lH hn (by decide)
  ·exact lH hn (by decide)
 ·exact lH hn hb
theorem RK{n:Int}(h:n.natAbs<10 ^ 4):u4 (zS n)=0:=by have:dg 4 1 (n:Rat):=SO h;exact qX (this.mono (by omega) (by omega))
theorem RT{v:Z3}(h:dO 99 v):tq [zS v.1,zS v.2.1,zS v.2.2]=0:=by obtain⟨h1,h2,h3⟩:=h;simp[tq,RK (n:=v.1) (by omega),RK (n:=v.2.1) (by omega),RK (n:=v.2.2) (by omega)]
set_option maxHeartbeats 1600000 in
theorem xq(v n:Z3) (hv:dO 99 v) (hn:dO 99 n) (hd:DE v n=0) (M:Mem):ACallsTo Tryz.prog 255 [zA v,zA n] M (.int .i64 0) M:=by
 have hG:aL Tryz.prog 255=some Tryz.f255:=by kernel_rfl
 have hE:=RT hv;obtain⟨v1,v2,v3⟩:=v;obtain⟨n1,n2,n3⟩:=n;obtain⟨h1,h2,h3⟩:=hv;obtain⟨h4,h5,h6⟩:=hn;simp only at h1 h2 h3 h4 h5 h6 hE;have k:∀m:Nat,m≤99→(aJ m).length≤2:=fun m hm=>bf (k:=2) (by omega) (by omega)
 have k1:(aJ 1).length≤1:=bf (k:=1) (by omega) (by omega);have l1:=k _ h1;have l2:=k _ h2;have l3:=k _ h3;have l4:=k _ h4;have l5:=k _ h5;have l6:=k _ h6;have s1:=eW (n:=v1) (by omega);have s2:=eW (n:=v2) (by omega);have s3:=eW (n:=v3) (by omega);have s1' :(zS v1).length≤18:=by unfold zS;omega
 have s2' :(zS v2).length≤18:=by unfold zS;omega
 have s3' :(zS v3).length≤18:=by unfold zS;omega
 have hdot:(v1:Rat)*(n1:Rat)+(v2:Rat)*(n2:Rat)+(v3:Rat)*(n3:Rat)=0:=by unfold DE at hd;simp only at hd;rw[←Rat.intCast_mul,←Rat.intCast_mul,←Rat.intCast_mul,←Rat.intCast_add,←Rat.intCast_add,hd];rfl
 have hp:=fX;have z0:ah 0=[48]:=rfl;refine aq uY (lv:=fun _=>[]) (K:=1) rfl rfl ?_ M;simp[aa,hG,Tryz.f255,af,od,zA,hp,hE,k1,l1,l2,l3,l4,l5,l6,s1',s2',s3',hdot,z0]
set_option maxHeartbeats 1600000 in
theorem mT(n:Z3) (o:Int) (hn:dO 99 n) (hz:gh n=false) (ho:o.natAbs≤1000) (M:Mem):ACallsTo Tryz.prog 254 [.agg [.str (zS n.1),.str (zS n.2.1),.str (zS n.2.2),.str (zS o)]] M (.int .i64 0) M:=by
 have hG:aL Tryz.prog 254=some Tryz.f254:=by kernel_rfl
 obtain⟨n1,n2,n3⟩:=n;obtain⟨h4,h5,h6⟩:=hn;simp only at h4 h5 h6;have s1:=eW (n:=n1) (by omega);have s2:=eW (n:=n2) (by omega);have s3:=eW (n:=n3) (by omega);have s4:=eW (n:=o) (by omega);have s1' :(zS n1).length≤18:=by unfold zS;omega
 have s2' :(zS n2).length≤18:=by unfold zS;omega
 have s3' :(zS n3).length≤18:=by unfold zS;omega
 have s4' :(zS o).length≤18:=by unfold zS;omega
 have hE:tq [zS n1,zS n2,zS n3,zS o]=0:=by simp[tq,RK (n:=n1) (by omega),RK (n:=n2) (by omega),RK (n:=n3) (by omega),RK (n:=o) (by omega)]
 have e1:=mQ n1;have e2:=mQ n2;have e3:=mQ n3;have hb:((zS n1==[48]&&zS n2==[48])&&zS n3==[48])=false:=by rw[e1,e2,e3];exact hz
 refine aq GY (lv:=fun _=>[]) (K:=1) rfl rfl ?_ M;simp only at hb ⊢;obtain⟨A,hA⟩:∃A,A=zS n1:=⟨_,rfl⟩
 obtain⟨B,hB⟩:∃A,A=zS n2:=⟨_,rfl⟩
 obtain⟨C,hC⟩:∃A,A=zS n3:=⟨_,rfl⟩
 obtain⟨D,hD⟩:∃A,A=zS o:=⟨_,rfl⟩
 rw[←hA] at s1' hE hb ⊢;rw[←hB] at s2' hE hb ⊢;rw[←hC] at s3' hE hb ⊢;rw[←hD] at s4' hE ⊢;simp[aa,hG,Tryz.f254,GX,Oracle.or,af,od,fG,lO,lP,hE,hb,s1',s2',s3',s4']
end Go.Proofs
