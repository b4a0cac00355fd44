/- See R54. -/
import Derived.Test.YtgafjliihahjgaaGreatDoorR18
import Derived.Test.YtgafjliihahjgaaGreatDoorR19
set_option linter.all false
set_option maxRecDepth 100000
set_option maxHeartbeats 40000000
namespace Go.Proofs
open Go.Eng
open Tryz
theorem Oy(q:Rat)(hl:(aw q).length≤1000000000)(mem:Mem):kF prog 258 [.str (aw q)] mem (.str (aw (-q))) mem:=by
 have hG:aT prog 258=some f258:=by kernel_rfl
 refine az (ah _) (lv:=fun _=>[]) (K:=1) rfl rfl ?_ mem;by_cases h0:q=0
 ·subst h0
  simp[ad,hG,f258,bT]
 ·have hn:¬q.num=0:=fun e=>h0 (za.1 e)
  by_cases h1:q.num<0
  ·have e:=og h1
   have hb:(45::aw (-q)==[48])=false:=by rw[←e,bT];simpa using h0
   rw[e];have h3:(1:Int)≤((aw (-q)).length:Int)+1:=by omega
   simp[ad,hG,f258,hb,h3]
  ·have e:=qK (q:=q) (by omega)
   obtain⟨c,r,e2,hc⟩:=qJ (q:=q) (by omega);have hb:(c::r==[48])=false:=by rw[←e2,bT];simpa using h0
   have h2:=gx hc;rw[e,e2];rw[e2] at hl;simp only[List.length_cons] at hl;have h3:1+(r.length+1)≤9223372036854775807:=by omega
   simp[ad,hG,f258,hb,h2,h3,gk]
noncomputable def iL(f:FuncId) (args:List AV):Option AV:=
 match f,args with
 |34,[.int .i64 n,.int .i64 d]=>if 0<d∧n.natAbs<10 ^ 8∧d.toNat<10 ^ 8 then some (.str (aw (mkRat n d.toNat))) else none
 |81,[.str s,.str t]=>match dJ s,dJ t with
  |some a,some b=>if (aw a).length≤9∧(aw b).length≤9 then some (.str (aw (a+b))) else none
  |_,_=>none
 |214,[.str s,.str t]=>match dJ s,dJ t with
  |some a,some b=>if (aw a).length≤9∧(aw b).length≤9 then some (.str (aw (a*b))) else none
  |_,_=>none
 |258,[.str s]=>match dJ s with
  |some a=>if (aw a).length≤9 then some (.str (aw (-a))) else none
  |none=>none
 |_,_=>none
theorem nY:kP prog (ag iL):=bK fun f args v h mem=>by
 unfold iL at h;split at h
 ·rename_i n d
  split at h
  ·rename_i hc
   cases h;have:=Gm n d.toNat (by omega) hc.2.1 hc.2.2 mem;rw[Int.toNat_of_nonneg (by omega)] at this;exact this
  ·cases h
 ·split at h
  ·rename_i m n hm hn
   split at h
   ·rename_i hc;cases h;rw[aA hm,aA hn];exact CE m n hc.1 hc.2 mem
   ·cases h
  ·cases h
 ·split at h
  ·rename_i m n hm hn
   split at h
   ·rename_i hc;cases h;rw[aA hm,aA hn];exact Ox m n hc.1 hc.2 mem
   ·cases h
  ·cases h
 ·split at h
  ·rename_i m hm
   split at h
   ·rename_i hc;cases h;rw[aA hm];exact Oy m (by omega) mem
   ·cases h
  ·cases h
 ·cases h
theorem Oz(a b:Rat)(qa:(aw a).length≤9)(qb:(aw b).length≤9)(qn:(aw (-b)).length≤9)(mem:Mem):
  kF prog 213 [.str (aw a),.str (aw b)] mem (.str (aw (a-b))) mem:=by
 have hG:aT prog 213=some f213:=by kernel_rfl
 refine az nY (lv:=fun _=>[]) (K:=1) rfl rfl ?_ mem;have e:a+ -b=a-b:=(Rat.sub_eq_add_neg a b).symm;simp[ad,hG,f213,ag,iL,aB,qa,qb,qn,e]
def zS(n:Int):List UInt8:=aw (n:Rat)
variable{n:Int}
theorem fQ(h:n.natAbs<10 ^ 4):(aw (n:Rat)).length≤9:=by
 have e:aw (n:Rat)=cf n:=by unfold aw;simp
 rw[e];have h1:=fm n;have h2:(aQ n.natAbs).length≤4:=br (by omega) h;omega
noncomputable def Ao(f:FuncId) (args:List AV):Option AV:=
 match f,args with
 |213,[.str s,.str t]=>match dJ s,dJ t with
  |some a,some b=>if (aw a).length≤9∧(aw b).length≤9∧(aw (-b)).length≤9 then some (.str (aw (a-b))) else none
  |_,_=>none
 |f,args=>iL f args
theorem LZ:kP prog (ag Ao):=bK fun f args v h mem=>by
 unfold Ao at h;split at h
 ·split at h
  ·rename_i m n hm hn
   split at h
   ·rename_i hc;cases h;rw[aA hm,aA hn];exact Oz m n hc.1 hc.2.1 hc.2.2 mem
   ·cases h
  ·cases h
 ·have:=nY.fn _ _ mem ⟨v,none,[]⟩ (by unfold ag;simp only;rw[h])
  simpa [HS.mem] using this
variable{a b:Int}
theorem Kk(ha:a.natAbs≤30)(hb:b.natAbs≤30):(a*b).natAbs≤900:=by rw[Int.natAbs_mul];exact Nat.mul_le_mul ha hb
theorem Lc(a b c d:Int)(ha:a.natAbs≤30)(hb:b.natAbs≤30)(hc:c.natAbs≤30)(hd:d.natAbs≤30)(mem:Mem):
  kF prog 133 [.str (zS a),.str (zS b),.str (zS c),.str (zS d)] mem (.str (zS (a*d-b*c))) mem:=by
 have hG:aT prog 133=some f133:=by kernel_rfl
 have p1:=Kk ha hd;have p2:=Kk hb hc;have e1:(a:Rat)*(d:Rat)=((a*d:Int):Rat):=(Rat.intCast_mul a d).symm;have e2:(b:Rat)*(c:Rat)=((b*c:Int):Rat):=(Rat.intCast_mul b c).symm;obtain⟨x,hx⟩:∃x,x=a*d:=⟨_,rfl⟩
 obtain⟨y,hy⟩:∃x,x=b*c:=⟨_,rfl⟩
 rw[←hx] at p1 e1 ⊢;rw[←hy] at p2 e2 ⊢;have e3:(x:Rat)-(y:Rat)=((x-y:Int):Rat):=(Rat.intCast_sub x y).symm;obtain⟨z,hz⟩:∃z,z=x-y:=⟨_,rfl⟩
 rw[←hz] at e3 ⊢;have l1:=fQ (n:=a) (by omega);have l2:=fQ (n:=b) (by omega);have l3:=fQ (n:=c) (by omega);have l4:=fQ (n:=d) (by omega);have l5:=fQ (n:=x) (by omega);have l6:=fQ (n:=y) (by omega);have l7:(aw (-(y:Rat))).length≤9:=by rw[←Rat.intCast_neg];exact fQ (n:= -y) (by omega)
 refine az LZ (lv:=fun _=>[]) (K:=1) rfl rfl ?_ mem;simp[ad,hG,f133,ag,Ao,iL,zS,aB,l1,l2,l3,l4,l5,l6,l7,e1,e2,e3]
abbrev Z3:=Int×Int×Int
def zA(v:Z3):AV:=.agg [.str (zS v.1),.str (zS v.2.1),.str (zS v.2.2)]
def eS(n:Nat) (v:Z3):Prop:=v.1.natAbs≤n∧v.2.1.natAbs≤n∧v.2.2.natAbs≤n
instance (n:Nat) (v:Z3):Decidable (eS n v):=inferInstanceAs (Decidable (v.1.natAbs≤n∧v.2.1.natAbs≤n∧v.2.2.natAbs≤n))
theorem bN(h0: -1000000≤n)(h1:n≤1000000):IntKind.i64.wrap n=n:=by rw[al (by omega) (by omega)]
def jQ(a b:Z3):Z3:=(a.2.1*b.2.2-a.2.2*b.2.1,a.2.2*b.1-a.1*b.2.2,a.1*b.2.1-a.2.1*b.1)
theorem Xh(h:zS a=zS b):a=b:=by
 have:=gO h
 exact_mod_cast this
theorem oB(n:Int):(zS n==[48])=decide (n=0):=by
 have h0:zS 0=[48]:=rfl;by_cases h:n=0
 ·subst h;rfl
 ·rw[decide_eq_false h]
  have:zS n≠[48]:=fun e=>h (Xh (e.trans h0.symm))
  simpa using this
def ib(v:Z3):Bool:=decide (v.1=0)&&decide (v.2.1=0)&&decide (v.2.2=0)
theorem Lk(v:Z3)(mem:Mem):kF prog 79 [zA v] mem (.bool (ib v)) mem:=by
 have hG:aT prog 79=some f79:=by kernel_rfl
 refine az (ah _) (lv:=fun _=>[]) (K:=1) rfl rfl ?_ mem;obtain⟨a,b,c⟩:=v;have ea:=oB a;have eb:=oB b;have ec:=oB c;unfold ib zA;simp only;obtain⟨A,hA⟩:∃A,A=zS a:=⟨_,rfl⟩
 obtain⟨B,hB⟩:∃A,A=zS b:=⟨_,rfl⟩
 obtain⟨C,hC⟩:∃A,A=zS c:=⟨_,rfl⟩
 rw[←hA] at ea ⊢;rw[←hB] at eb ⊢;rw[←hC] at ec ⊢;rw[←ea,←eb,←ec];cases h1:(A==[48])<;>cases h2:(B==[48])<;>cases h3:(C==[48])<;>simp[ad,hG,f79,h1,h2,h3]
noncomputable def uG(f:FuncId) (args:List AV):Option AV:=
 match f,args with
 |133,[.str s,.str t,.str u,.str v]=>match dJ s,dJ t,dJ u,dJ v with
  |some a,some b,some c,some d=>if (a.den=1∧b.den=1∧c.den=1∧d.den=1)∧a.num.natAbs≤30∧b.num.natAbs≤30∧c.num.natAbs≤30∧d.num.natAbs≤30 then some (.str (zS (a.num*d.num-b.num*c.num))) else none
  |_,_,_,_=>none
 |_,_=>none
theorem gM{q:Rat}(h:q.den=1):q=(q.num:Rat):=Rat.ext rfl h
theorem Am:kP prog (ag uG):=bK fun f args v h mem=>by
 unfold uG at h;split at h
 ·split at h
  ·rename_i a b c d ha hb hc hd
   split at h
   ·rename_i P'
    obtain⟨⟨d1,d2,d3,d4⟩,c1,c2,c3,c4⟩:=P';cases h;rw[aA ha,aA hb,aA hc,aA hd];have:=Lc a.num b.num c.num d.num c1 c2 c3 c4 mem;unfold zS at this ⊢;rw[←gM d1,←gM d2,←gM d3,←gM d4] at this;exact this
   ·cases h
  ·cases h
 ·cases h
theorem FW(a b:Z3)(ha:eS 30 a)(hb:eS 30 b)(mem:Mem):kF prog 82 [zA a,zA b] mem (zA (jQ a b)) mem:=by
 have hG:aT prog 82=some f82:=by kernel_rfl
 obtain⟨a1,a2,a3⟩:=a;obtain⟨b1,b2,b3⟩:=b;obtain⟨h1,h2,h3⟩:=ha;obtain⟨h4,h5,h6⟩:=hb;simp only at h1 h2 h3 h4 h5 h6;refine az Am (lv:=fun _=>[]) (K:=1) rfl rfl ?_ mem;obtain⟨ops,FS⟩:∃ops,aG f82=[ops]:=⟨_,rfl⟩
 have IR:=dw FS (l:=[0,1,0,4,0,16,0,64,255,0,512,0,2048,0,8192,0,32768,131071,0,262144,0,1048576,0,4194304,0,16777216,67108863,134217727,268435455]) (by kernel_rfl);have hab:aX [0,1,0,4,0,16,0,64,255,0,512,0,2048,0,8192,0,32768,131071,0,262144,0,1048576,0,4194304,0,16777216,67108863,134217727,268435455] 28=true:=by decide
 simp[aG,bF,f82] at FS;subst FS;have hp:∀n:Int,dJ (zS n)=some (n:Rat):=fun n=>aB _
 unfold zA jQ;simp only;obtain⟨A1,e1⟩:∃x,x=zS a1:=⟨_,rfl⟩
 obtain⟨A2,e2⟩:∃x,x=zS a2:=⟨_,rfl⟩
 obtain⟨A3,e3⟩:∃x,x=zS a3:=⟨_,rfl⟩
 obtain⟨B1,e4⟩:∃x,x=zS b1:=⟨_,rfl⟩
 obtain⟨B2,e5⟩:∃x,x=zS b2:=⟨_,rfl⟩
 obtain⟨B3,e6⟩:∃x,x=zS b3:=⟨_,rfl⟩
 have p1:dJ A1=some (a1:Rat):=by rw[e1];exact hp _
 have p2:dJ A2=some (a2:Rat):=by rw[e2];exact hp _
 have p3:dJ A3=some (a3:Rat):=by rw[e3];exact hp _
 have p4:dJ B1=some (b1:Rat):=by rw[e4];exact hp _
 have p5:dJ B2=some (b2:Rat):=by rw[e5];exact hp _
 have p6:dJ B3=some (b3:Rat):=by rw[e6];exact hp _
 rw[←e1,←e2,←e3,←e4,←e5,←e6];obtain⟨C1,f1⟩:∃x,x=zS (a2*b3-a3*b2):=⟨_,rfl⟩
 obtain⟨C2,f2⟩:∃x,x=zS (a3*b1-a1*b3):=⟨_,rfl⟩
 obtain⟨C3,f3⟩:∃x,x=zS (a1*b2-a2*b1):=⟨_,rfl⟩
 rw[←f1,←f2,←f3];simp[ad,hG,f82,-aE,aj IR,bn,bf,bm,hab,ag,uG,p1,p2,p3,p4,p5,p6,h1,h2,h3,h4,h5,h6,←f1,←f2,←f3,cM,aR,Nat.testBit]
theorem SA(n:Int):mkRat n 1=(n:Rat):=by have:=Rat.mkRat_self (n:Rat);exact this
theorem F9(n:Int)(hn:n.natAbs<10 ^ 8)(mem:Mem):kF prog 44 [.int .i64 n] mem (.str (zS n)) mem:=by
 have hG:aT prog 44=some f44:=by kernel_rfl
 refine az nY (lv:=fun _=>[]) (K:=1) rfl rfl ?_ mem;have h:n.natAbs<100000000:=hn;have e:=SA n;simp[ad,hG,f44,ag,iL,h,e,zS]
noncomputable def uk(f:FuncId) (args:List AV):Option AV:=
 match f,args with
 |44,[.int .i64 n]=>if n.natAbs<10 ^ 8 then some (.str (zS n)) else none
 |_,_=>none
theorem zW:kP prog (ag uk):=bK fun f args v h mem=>by
 unfold uk at h;split at h
 ·split at h
  ·rename_i hc;cases h;exact F9 _ hc mem
  ·cases h
 ·cases h
theorem zC(v:Z3)(hv:eS 10000 v)(mem:Mem):kF prog 25 [.int .i64 v.1,.int .i64 v.2.1,.int .i64 v.2.2] mem (zA v) mem:=by
 have hG:aT prog 25=some f25:=by kernel_rfl
 refine az zW (lv:=fun _=>[]) (K:=1) rfl rfl ?_ mem;obtain⟨a,b,c⟩:=v;obtain⟨h1,h2,h3⟩:=hv;simp only at h1 h2 h3;have g1:a.natAbs<100000000:=by omega
 have g2:b.natAbs<100000000:=by omega
 have g3:c.natAbs<100000000:=by omega
 simp[ad,hG,f25,ag,uk,zA,g1,g2,g3,cM,aR]
def se(v:Z3):Z3:=(v.1.tmod 3,v.2.1.tmod 3,v.2.2.tmod 3)
def bG(v:Z3):Z3:=if ib (se v) then (0,0,1) else se v
def dU(n b:Z3):Z3:=if ib (jQ n b) then (if ib (jQ n (1,0,0)) then (if ib (jQ n (0,1,0)) then (0,0,0) else jQ n (0,1,0)) else jQ n (1,0,0)) else jQ n b
theorem Wq(x:Int): -2≤x.tmod 3∧x.tmod 3≤2:=by
 have h1:=Int.tmod_lt_of_pos x (show(0:Int)<3 by decide);have h2: -3<x.tmod 3:=by have:=Int.tmod_lt_of_pos (-x) (show(0:Int)<3 by decide);rw[Int.neg_tmod] at this;omega
 omega
theorem gd(v:Z3):eS 2 (se v):=by obtain⟨a,b,c⟩:=v;have h1:=Wq a;have h2:=Wq b;have h3:=Wq c;unfold eS se;simp only;omega
theorem bZ(v:Z3):eS 2 (bG v):=by
 unfold bG;split
 ·exact⟨by decide,by decide,by decide⟩
 ·exact gd v
theorem ko(v:Z3):ib (bG v)=false:=by
 unfold bG;split
 ·rfl
 ·rename_i h;simpa using h
noncomputable def jB(f:FuncId) (args:List AV):Option AV:=
 match f,args with
 |25,[.int .i64 a,.int .i64 b,.int .i64 c]=>if a.natAbs≤10000∧b.natAbs≤10000∧c.natAbs≤10000 then some (zA (a,b,c)) else none
 |79,[.agg [.str s,.str t,.str u]]=>match dJ s,dJ t,dJ u with
  |some a,some b,some c=>if a.den=1∧b.den=1∧c.den=1 then some (.bool (ib (a.num,b.num,c.num))) else none
  |_,_,_=>none
 |82,[.agg [.str s,.str t,.str u],.agg [.str s',.str t',.str u']]=>match dJ s,dJ t,dJ u,dJ s',dJ t',dJ u' with
  |some a,some b,some c,some d,some e,some f=>if (a.den=1∧b.den=1∧c.den=1∧d.den=1∧e.den=1∧f.den=1)∧eS 30 (a.num,b.num,c.num)∧eS 30 (d.num,e.num,f.num) then some (zA (jQ (a.num,b.num,c.num) (d.num,e.num,f.num))) else none
  |_,_,_,_,_,_=>none
 |f,args=>uk f args
theorem zX:kP prog (ag jB):=bK fun f args v h mem=>by
 unfold jB at h;split at h
 ·split at h
  ·rename_i hc;cases h;exact zC (_,_,_) hc mem
  ·cases h
 ·split at h
  ·rename_i a b c ha hb hc
   split at h
   ·rename_i P'
    obtain⟨d1,d2,d3⟩:=P';cases h;rw[aA ha,aA hb,aA hc];have:=Lk (a.num,b.num,c.num) mem;unfold zA zS at this;simp only at this;rw[←gM d1,←gM d2,←gM d3] at this;exact this
   ·cases h
  ·cases h
 ·split at h
  ·rename_i a b c d e f ha hb hc hd he hf
   split at h
   ·rename_i P'
    obtain⟨⟨d1,d2,d3,d4,d5,d6⟩,c1,c2⟩:=P';cases h;rw[aA ha,aA hb,aA hc,aA hd,aA he,aA hf];have:=FW (a.num,b.num,c.num) (d.num,e.num,f.num) c1 c2 mem;unfold zA at this;simp only at this;have k:∀q:Rat,q.den=1→zS q.num=aw q:=fun q hq=>by unfold zS;rw[←gM hq]
    rw[k a d1,k b d2,k c d3,k d d4,k e d5,k f d6] at this;exact this
   ·cases h
  ·cases h
 ·have:=zW.fn _ _ mem ⟨v,none,[]⟩ (by unfold ag;simp only;rw[h])
  simpa [HS.mem] using this
theorem gU(n:Int):dJ (zS n)=some (n:Rat):=aB _
theorem XN:zS 1=[49]:=rfl
theorem DY(v:Z3)(hv:eS 200 v)(mem:Mem):kF prog 46 [.agg [.int .i8 v.1,.int .i8 v.2.1,.int .i8 v.2.2]] mem (zA (bG v)) mem:=by
 have hG:aT prog 46=some f46:=by kernel_rfl
 refine az zX (lv:=fun _=>[]) (K:=1) rfl rfl ?_ mem;have hm:=gd v;unfold bG;obtain⟨a,b,c⟩:=v;obtain⟨h1,h2,h3⟩:=hv;unfold se at hm ⊢;simp only at h1 h2 h3 hm ⊢;have wa:IntKind.i64.wrap a=a:=bN (by omega) (by omega);have wb:IntKind.i64.wrap b=b:=bN (by omega) (by omega);have wc:IntKind.i64.wrap c=c:=bN (by omega) (by omega);obtain⟨x,hx⟩:∃x,x=a.tmod 3:=⟨_,rfl⟩
 obtain⟨y,hy⟩:∃x,x=b.tmod 3:=⟨_,rfl⟩
 obtain⟨z,hz⟩:∃x,x=c.tmod 3:=⟨_,rfl⟩
 rw[←hx,←hy,←hz] at hm ⊢;obtain⟨g1,g2,g3⟩:=hm;simp only at g1 g2 g3;have g1' :x.natAbs≤10000:=by omega
 have g2' :y.natAbs≤10000:=by omega
 have g3' :z.natAbs≤10000:=by omega
 have hX:=gU x;have hY:=gU y;have hZ:=gU z;have e0:zS 0=[48]:=rfl;cases hzero:ib (x,y,z) with
 |true=>
  have hz0:=hzero;unfold ib at hz0;simp only[Bool.and_eq_true,decide_eq_true_eq] at hz0;obtain⟨⟨rfl,rfl⟩,rfl⟩:=hz0;have h48:dJ [48]=some ((0:Int):Rat):=gU 0;simp[ad,hG,f46,ag,jB,wa,wb,wc,←hx,←hy,←hz,zA,hzero,e0,XN,h48]
 |false=>
  simp[ad,hG,f46,ag,jB,wa,wb,wc,←hx,←hy,←hz,zA,g1',g2',g3',hX,hY,hZ,hzero]
theorem nk{a b:Z3}(ha:eS 2 a)(hb:eS 2 b):eS 8 (jQ a b):=by
 obtain⟨a1,a2,a3⟩:=a;obtain⟨b1,b2,b3⟩:=b;obtain⟨h1,h2,h3⟩:=ha;obtain⟨h4,h5,h6⟩:=hb;simp only at h1 h2 h3 h4 h5 h6;have m:∀x y:Int,x.natAbs≤2→y.natAbs≤2→(x*y).natAbs≤4:=fun x y hx hy=>by rw[Int.natAbs_mul];exact Nat.mul_le_mul hx hy
 unfold jQ eS;simp only;have p1:=m a2 b3 h2 h6;have p2:=m a3 b2 h3 h5;have p3:=m a3 b1 h3 h4;have p4:=m a1 b3 h1 h6;have p5:=m a1 b2 h1 h5;have p6:=m a2 b1 h2 h4;omega
theorem DX(n b:Z3)(hn:eS 2 n)(hb:eS 2 b)(mem:Mem):kF prog 48 [zA n,zA b] mem (zA (dU n b)) mem:=by
 have hG:aT prog 48=some f48:=by kernel_rfl
 refine az zX (lv:=fun _=>[13]) (K:=9) rfl rfl ?_ mem;have l0:eS 2 (1,0,0):=by decide
 have l1:eS 2 (0,1,0):=by decide
 have c1:=nk hn hb;have c2:=nk hn l0;have c3:=nk hn l1;have abD:eS 30 n:=⟨by have:=hn.1;omega,by have:=hn.2.1;omega,by have:=hn.2.2;omega⟩;have abE:eS 30 b:=⟨by have:=hb.1;omega,by have:=hb.2.1;omega,by have:=hb.2.2;omega⟩;have abV:eS 30 (1,0,0):=by decide
 have acK:eS 30 (0,1,0):=by decide
 unfold dU;obtain⟨C1,e1⟩:∃c,c=jQ n b:=⟨_,rfl⟩
 obtain⟨C2,e2⟩:∃c,c=jQ n (1,0,0):=⟨_,rfl⟩
 obtain⟨C3,e3⟩:∃c,c=jQ n (0,1,0):=⟨_,rfl⟩
 rw[←e1,←e2,←e3];obtain⟨n1,n2,n3⟩:=n;obtain⟨b1,b2,b3⟩:=b;obtain⟨p1,p2,p3⟩:=C1;obtain⟨q1,q2,q3⟩:=C2;obtain⟨r1,r2,r3⟩:=C3;have z0:zS 0=[48]:=rfl;have z1:zS 1=[49]:=rfl;have h0:dJ [48]=some ((0:Int):Rat):=gU 0;have h1:dJ [49]=some ((1:Int):Rat):=gU 1;have w2' :IntKind.i64.wrap (1+1)=2:=rfl;have w3' :IntKind.i64.wrap (2+1)=3:=rfl;have hp:=gU;cases y1:ib (p1,p2,p3) with
 |false=>
  simp[ad,hG,f48,ag,jB,zA,hp,z0,z1,abD,abE,←e1,y1,aI,ej,Nat.testBit]
 |true=>
  cases y2:ib (q1,q2,q3) with
  |false=>
   simp[ad,hG,f48,ag,jB,zA,hp,h0,h1,z0,z1,abD,abE,abV,←e1,←e2,y1,y2,aI,ej,w1,Nat.testBit]
  |true=>
   cases y3:ib (r1,r2,r3) with
   |false=>
    simp[ad,hG,f48,ag,jB,zA,hp,h0,h1,z0,z1,abD,abE,abV,acK,←e1,←e2,←e3,y1,y2,y3,aI,ej,w1,w2,Nat.testBit]
   |true=>
    simp[ad,hG,f48,ag,jB,zA,hp,h0,h1,z0,z1,abD,abE,abV,acK,←e1,←e2,←e3,y1,y2,y3,aI,ej,w1,w2,w3,Nat.testBit]
def AM(a b:Z3):Int:=a.1*b.1+a.2.1*b.2.1+a.2.2*b.2.2
theorem AN(n b:Z3):AM (jQ n b) n=0:=by
 obtain⟨a1,a2,a3⟩:=n;obtain⟨b1,b2,b3⟩:=b;unfold AM jQ;simp only
 grind
theorem rh(n b:Z3):AM (dU n b) n=0:=by
 unfold dU;split
 ·split
  ·split
   ·simp[AM]
   ·exact AN _ _
  ·exact AN _ _
 ·exact AN _ _
theorem kk{n b:Z3}(hn:eS 2 n)(hb:eS 2 b):eS 8 (dU n b):=by
 unfold dU;split
 ·split
  ·split
   ·decide
   ·exact nk hn (by decide)
  ·exact nk hn (by decide)
 ·exact nk hn hb
theorem Vf(h:n.natAbs<10 ^ 4):xk (zS n)=0:=by have:dg 4 1 (n:Rat):=WE h;exact tG (this.mono (by omega) (by omega))
theorem Vp{v:Z3}(h:eS 99 v):vw [zS v.1,zS v.2.1,zS v.2.2]=0:=by obtain⟨h1,h2,h3⟩:=h;simp[vw,Vf (n:=v.1) (by omega),Vf (n:=v.2.1) (by omega),Vf (n:=v.2.2) (by omega)]
theorem zf(v n:Z3)(hv:eS 99 v)(hn:eS 99 n)(hd:AM v n=0)(M:Mem):kF prog 255 [zA v,zA n] M (.int .i64 0) M:=by
 have hG:aT prog 255=some f255:=by kernel_rfl
 have hE:=Vp hv;obtain⟨v1,v2,v3⟩:=v;obtain⟨n1,n2,n3⟩:=n;obtain⟨h1,h2,h3⟩:=hv;obtain⟨h4,h5,h6⟩:=hn;simp only at h1 h2 h3 h4 h5 h6 hE;have k:∀m:Nat,m≤99→(aQ m).length≤2:=fun m hm=>br (k:=2) (by omega) (by omega)
 have k1:(aQ 1).length≤1:=br (k:=1) (by omega) (by omega);have l1:=k _ h1;have l2:=k _ h2;have l3:=k _ h3;have l4:=k _ h4;have l5:=k _ h5;have l6:=k _ h6;have s1:=fQ (n:=v1) (by omega);have s2:=fQ (n:=v2) (by omega);have s3:=fQ (n:=v3) (by omega);have s1' :(zS v1).length≤18:=by unfold zS;omega
 have s2' :(zS v2).length≤18:=by unfold zS;omega
 have s3' :(zS v3).length≤18:=by unfold zS;omega
 have adm:(v1:Rat)*(n1:Rat)+(v2:Rat)*(n2:Rat)+(v3:Rat)*(n3:Rat)=0:=by unfold AM at hd;simp only at hd;rw[←Rat.intCast_mul,←Rat.intCast_mul,←Rat.intCast_mul,←Rat.intCast_add,←Rat.intCast_add,hd];rfl
 have hp:=gU;have z0:aw 0=[48]:=rfl;refine az xh (lv:=fun _=>[]) (K:=1) rfl rfl ?_ M;simp[ad,hG,f255,ag,qd,zA,hp,hE,k1,l1,l2,l3,l4,l5,l6,s1',s2',s3',adm,z0]
theorem oC(n:Z3)(o:Int)(hn:eS 99 n)(hz:ib n=false)(ho:o.natAbs≤1000)(M:Mem):kF prog 254 [.agg [.str (zS n.1),.str (zS n.2.1),.str (zS n.2.2),.str (zS o)]] M (.int .i64 0) M:=by
 have hG:aT prog 254=some f254:=by kernel_rfl
 obtain⟨n1,n2,n3⟩:=n;obtain⟨h4,h5,h6⟩:=hn;simp only at h4 h5 h6;have s1:=fQ (n:=n1) (by omega);have s2:=fQ (n:=n2) (by omega);have s3:=fQ (n:=n3) (by omega);have s4:=fQ (n:=o) (by omega);have s1' :(zS n1).length≤18:=by unfold zS;omega
 have s2' :(zS n2).length≤18:=by unfold zS;omega
 have s3' :(zS n3).length≤18:=by unfold zS;omega
 have s4' :(zS o).length≤18:=by unfold zS;omega
 have hE:vw [zS n1,zS n2,zS n3,zS o]=0:=by simp[vw,Vf (n:=n1) (by omega),Vf (n:=n2) (by omega),Vf (n:=n3) (by omega),Vf (n:=o) (by omega)]
 have e1:=oB n1;have e2:=oB n2;have e3:=oB n3;have hb:((zS n1==[48]&&zS n2==[48])&&zS n3==[48])=false:=by rw[e1,e2,e3];exact hz
 refine az Jk (lv:=fun _=>[]) (K:=1) rfl rfl ?_ M;simp only at hb ⊢;obtain⟨A,hA⟩:∃A,A=zS n1:=⟨_,rfl⟩
 obtain⟨B,hB⟩:∃A,A=zS n2:=⟨_,rfl⟩
 obtain⟨C,hC⟩:∃A,A=zS n3:=⟨_,rfl⟩
 obtain⟨D,hD⟩:∃A,A=zS o:=⟨_,rfl⟩
 rw[←hA] at s1' hE hb ⊢;rw[←hB] at s2' hE hb ⊢;rw[←hC] at s3' hE hb ⊢;rw[←hD] at s4' hE ⊢;simp[ad,hG,f254,Jj,adM.or,ag,qd,gw,nu,oO,hE,hb,s1',s2',s3',s4']
end Go.Proofs
