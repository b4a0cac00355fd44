/- See R54. -/
import Derived.Test.YtgafjliihahjgaaGreatDoorR13
set_option linter.all false
set_option maxRecDepth 100000
set_option maxHeartbeats 40000000
namespace Go.Proofs
open Go.Eng
open Tryz
theorem SI(t:List UInt8):okT false t=(decide (t.length≤200)&&jF t):=by
 cases t with
 |nil=>rfl
 |cons c r=>
  unfold okT jF;simp only[List.length_cons,Bool.or_false,List.all_cons];rw[Bool.eq_iff_iff];simp;cases r with
  |nil=>simp
  |cons x r=>simp;grind
theorem US(t:List UInt8):okT true t=(decide (t.length≤200)&&jF t&& !(t.head? ==some 48)):=by
 cases t with
 |nil=>rfl
 |cons c r=>
  unfold okT jF;simp only[List.length_cons,Bool.or_true,Bool.and_true,List.all_cons,List.head?_cons];rw[Bool.eq_iff_iff];simp
  grind
def okI(s:List UInt8):Bool:=match oT s with
 |some n=>decide ((aQ n.natAbs).length≤200)
 |none=>false
theorem PF(r:List UInt8):oT (45::r)=match y8 r with
  |some (u+1)=>some (Int.negSucc u)
  |_=>none:=rfl
variable{t:List UInt8}
theorem PG(h:∀r,t≠45::r):oT t=(y8 t).map Int.ofNat:=by
 unfold oT;split
 ·rename_i r;exact absurd rfl (h r)
 ·cases y8 t<;>rfl
theorem NC(h:jF t=true):y8 t=some (lA t):=by unfold y8;rw[if_pos h]
theorem SD(h:jF t=false):y8 t=none:=by unfold y8;rw[h];rfl
theorem qB(s:List UInt8):okT (Lib.hasPrefix s [45]) (Lib.trimPrefix s [45])=okI s:=by
 unfold Lib.trimPrefix;have abo:∀t:List UInt8,(∀r,t≠45::r)→okT false t=okI t:=by
  intro t ht;rw[SI];unfold okI;rw[PG ht];cases hc:jF t with
  |true=>
   have:=Bh hc;rw[NC hc];show _=decide ((aQ (Int.ofNat (lA t)).natAbs).length≤200)
   rw[show(Int.ofNat (lA t)).natAbs=lA t from rfl,this,Bool.and_true]
  |false=>
   rw[SD hc,Bool.and_false];rfl
 cases s with
 |nil=>rw[show Lib.hasPrefix [] [45]=false from rfl];exact abo [] (by simp)
 |cons c r=>
  by_cases h:c=45
  ·subst h
   rw[show Lib.hasPrefix (45::r) [45]=true by simp[Lib.hasPrefix,List.isPrefixOf]];simp only[if_true,List.length_singleton,List.drop_succ_cons,List.drop_zero];rw[US];unfold okI;rw[PF];cases hc:jF r with
   |true=>
    rw[NC hc,Bool.and_true];have hv:=Bh hc;cases hvd:lA r with
    |zero=>
     rw[hvd,qA] at hv;rw[←hv];rfl
    |succ u=>
     rw[hvd] at hv;have hh:=Kl (u+1) (by omega);rw[hv] at hh;show _=decide ((aQ (Int.negSucc u).natAbs).length≤200)
     rw[show(Int.negSucc u).natAbs=u+1 from rfl,hv];have:(r.head? ==some 48)=false:=by simpa using hh
     rw[this];simp
   |false=>
    rw[SD hc];simp
  ·have h1:Lib.hasPrefix (c::r) [45]=false:=by
    have h' :¬(45:UInt8)=c:=fun e=>h e.symm
    simp[Lib.hasPrefix,List.isPrefixOf,h']
   rw[h1];exact abo (c::r) (by intro r' e;exact h (List.cons.inj e).1)
variable{n:Int}{r:List UInt8}
theorem UD(h:oT r=some n)(hn:0≤n):y8 r=some n.toNat:=by rw[eG h,n9 hn,fX];congr 1;omega
theorem Km{n:Nat}(h:y8 r=some n):oT r=some (n:Int):=by rw[jH h];exact iG n
theorem qo:∀(s:List UInt8) (c:UInt8),Lib.indexByte s c=match s.idxOf? c with
  |some i=>(i:Int)
  |none=> -1
 | [],_=>rfl
 |b::l,c=>by
  unfold Lib.indexByte;rw[List.idxOf?_cons,qo l c];by_cases h:b=c
  ·subst h;simp
  ·have h' :(b==c)=false:=by simpa using h
   rw[h'];simp only[Bool.false_eq_true,if_false];cases l.idxOf? c with
   |none=>simp
   |some i=>
    have hn:¬(((i:Int)== -1)=true):=by rw[beq_iff_eq];omega
    simp only[Option.map_some];rw[if_neg hn,Int.natCast_add];rfl
def xk(s:List UInt8):Int:=match dJ s with
 |some q=>if (aQ q.num.natAbs).length≤200∧(aQ q.den).length≤200 then 0 else 2
 |none=>2
noncomputable def aH(f:FuncId) (args:List AV):Option AV:=
 match f,args with
 |85,[.str s,.str t]=>match dJ s,dJ t with
  |some a,some b=>if (aQ a.num.natAbs).length≤9∧(aQ a.den).length≤9∧(aQ b.num.natAbs).length≤9∧(aQ b.den).length≤9 then some (.int .i64 (mo a b)) else none
  |_,_=>none
 |111,[.str s,.str t]=>match dJ s,dJ t with
  |some a,some b=>if (aQ a.num.natAbs).length≤9∧(aQ a.den).length≤9∧(aQ b.num.natAbs).length≤9∧(aQ b.den).length≤9 then some (.str (aw (a+b))) else none
  |_,_=>none
 |74,[.str s,.str t]=>match dJ s,dJ t with
  |some a,some b=>if (aQ a.num.natAbs).length≤9∧(aQ a.den).length≤9∧(aQ b.num.natAbs).length≤9∧(aQ b.den).length≤9 then some (.str (aw (a*b))) else none
  |_,_=>none
 |f,args=>bM f args
theorem ml:kP prog (ag aH):=bK fun f args v h mem=>by
 unfold aH at h;split at h
 ·split at h
  ·rename_i m n hm hn
   split at h
   ·rename_i hc
    cases h;rw[aA hm,aA hn];exact rN m n ⟨hc.1,hc.2.1⟩ ⟨hc.2.2.1,hc.2.2.2⟩ mem
   ·cases h
  ·cases h
 ·split at h
  ·rename_i m n hm hn
   split at h
   ·rename_i hc
    cases h;rw[aA hm,aA hn];exact NW m n ⟨hc.1,hc.2.1⟩ ⟨hc.2.2.1,hc.2.2.2⟩ mem
   ·cases h
  ·cases h
 ·split at h
  ·rename_i m n hm hn
   split at h
   ·rename_i hc
    cases h;rw[aA hm,aA hn];exact Oo m n ⟨hc.1,hc.2.1⟩ ⟨hc.2.2.1,hc.2.2.2⟩ mem
   ·cases h
  ·cases h
 ·have:=mj.fn _ _ mem ⟨v,none,[]⟩ (by unfold ag;simp only;rw[h])
  simpa [HS.mem] using this
theorem OB(a b:Rat)(ha:aeF a)(hb:aeF b)(mem:Mem):
  kF prog 88 [.str (aw a),.str (aw b)] mem (.str (aw (a-b))) mem:=by
 have hG:aT prog 88=some f88:=by kernel_rfl
 refine az ml (lv:=fun _=>[]) (K:=1) rfl rfl ?_ mem;have lb:=jv hb;obtain⟨a1,a2⟩:=ha;obtain⟨b1,b2⟩:=hb;have e:a+ -b=a-b:=(Rat.sub_eq_add_neg a b).symm;simp[ad,hG,f88,ag,aH,bM,be,aB,lb,a1,a2,b1,b2,e]
variable{b:Rat}
theorem AW(h:0<b.num):b⁻¹.num=(b.den:Int)∧b⁻¹.den=b.num.natAbs:=by rw[Rat.num_inv,Rat.den_inv,Int.sign_eq_one_of_pos h,if_neg (by omega)];exact⟨Int.one_mul _,rfl⟩
theorem AU(h:b.num<0):b⁻¹.num= -(b.den:Int)∧b⁻¹.den=b.num.natAbs:=by rw[Rat.num_inv,Rat.den_inv,Int.sign_eq_neg_one_of_neg h,if_neg (by omega)];exact⟨by omega,rfl⟩
theorem NZ(a b:Rat)(XY:b≠0)(ha:aeF a)(hb:aeF b)(mem:Mem):
  kF prog 136 [.str (aw a),.str (aw b)] mem (.tuple [.str (aw (a / b)),.int .i64 0]) mem:=by
 have hG:aT prog 136=some f136:=by kernel_rfl
 refine az ml (lv:=fun _=>[]) (K:=1) rfl rfl ?_ mem;have lb:=jv hb;obtain⟨a1,a2⟩:=ha;obtain⟨b1,b2⟩:=hb;have hn:b.num≠0:=fun e=>XY (za.1 e)
 have Zo:(aw b==[48])=false:=by rw[bT];simpa using XY
 have e:a*b⁻¹=a / b:=(Rat.div_def a b).symm;obtain⟨m,hm⟩:∃m,m=b.num.natAbs:=⟨_,rfl⟩
 rw[←hm] at b1;have lm:(aQ m).length≤1000000000:=by omega
 have ld:(aQ b.den).length≤1000000000:=by omega
 have fi:(aQ b⁻¹.num.natAbs).length≤9∧(aQ b⁻¹.den).length≤9:=by
  rcases Int.lt_or_gt_of_ne hn with h | h
  ·obtain⟨i1,i2⟩:=AU h
   rw[i1,i2,Int.natAbs_neg,Int.natAbs_natCast,←hm];exact⟨b2,b1⟩
  ·obtain⟨i1,i2⟩:=AW h
   rw[i1,i2,Int.natAbs_natCast,←hm];exact⟨b2,b1⟩
 have acF:=fun h=>AU (b:=b) h
 have acG:=fun h=>AW (b:=b) h
 obtain⟨w,hw⟩:∃w,w=b⁻¹:=⟨_,rfl⟩
 rw[←hw] at fi e acF acG;obtain⟨f1,f2⟩:=fi;rcases Int.lt_or_gt_of_ne hn with h | h
 ·obtain⟨i1,i2⟩:=acF h
  have hg:(aw b)[0]? =some 45:=by rw[og h];rfl
  have Zj:cf (-b.num)=aQ m:=by rw[n9 (by omega),Int.natAbs_neg,hm]
  have ln:(cf b.num).length≤1000000000:=by have:=fm b.num;rw[←hm] at this;omega
  have ln2:(cf (-(b.den:Int))).length≤1000000000:=by have:=fm (-(b.den:Int));rw[Int.natAbs_neg,Int.natAbs_natCast] at this;omega
  by_cases YY:m=1
  ·have hj:cf (-(b.den:Int))=aw w:=by unfold aw;rw[if_pos (by rw[i2,←hm,YY]),i1]
   have hp:=congrArg oT hj;rw[cL] at hp;have hp:=hp.symm;have l1:(aQ 1).length≤1000000000:=by decide
   have lj:(aw w).length≤1000000000:=by rw[←hj];first | exact ln2 | exact ld
   simp[ad,hG,f136,Zo,ag,aH,bM,be,da,cI,aB,cL,fX,iG,lb,hg,Zj,ln,ld,YY,hj,hp,l1,lj,a1,a2,f1,f2,e]
  ·have hj:cf (-(b.den:Int))++47::aQ m=aw w:=by unfold aw;rw[if_neg (by rw[i2,←hm];exact YY),i1,i2,←hm]
   simp[ad,hG,f136,Zo,ag,aH,bM,be,da,cI,aB,cL,fX,iG,lb,hg,Zj,ln,ln2,lm,ld,YY,hj,a1,a2,f1,f2,e]
 ·obtain⟨i1,i2⟩:=acG h
  obtain⟨c,r,hc,hd⟩:=qJ (q:=b) (by omega);have hg:(aw b)[0]? =some c:=by rw[hc];rfl
  have Zw:=gx hd;have Zj:cf b.num=aQ m:=by rw[n9 (by omega),hm]
  by_cases YY:m=1
  ·have hj:cf (b.den:Int)=aw w:=by unfold aw;rw[if_pos (by rw[i2,←hm,YY]),i1]
   have hp:=congrArg oT hj;rw[cL] at hp;have hp:=hp.symm;have l1:(aQ 1).length≤1000000000:=by decide
   have lj:(aw w).length≤1000000000:=by rw[←hj];first | exact ln2 | exact ld
   simp[ad,hG,f136,Zo,ag,aH,bM,be,aB,fX,iG,lb,hg,Zw,Zj,ld,YY,hj,l1,a1,a2,f1,f2,e]
  ·have hj:cf (b.den:Int)++47::aQ m=aw w:=by unfold aw;rw[if_neg (by rw[i2,←hm];exact YY),i1,i2,←hm]
   simp[ad,hG,f136,Zo,ag,aH,bM,be,aB,fX,iG,lb,hg,Zw,Zj,lm,ld,YY,hj,a1,a2,f1,f2,e]
variable{s:List UInt8}
theorem RM(h:s.idxOf? 47=none):xk s=if okI s then 0 else 2:=by
 unfold xk dJ okI;rw[h];cases hn:oT s with
 |none=>simp
 |some n=>
  have:(aQ 1).length≤200:=by decide
  simp[this]
variable{i:Nat}
theorem RK(h:s.idxOf? 47=some i)(h1:okI (s.take i)=false):xk s=2:=by
 unfold xk dJ;rw[h];unfold okI at h1;cases hn:oT (s.take i) with
 |none=>simp[hn]
 |some n=>
  rw[hn] at h1;simp only[decide_eq_false_iff_not] at h1;simp only[hn];cases hd:y8 (s.drop (i+1)) with
  |none=>simp[]
  |some d=>
   simp only[PX];by_cases hc:1<d∧n.natAbs.gcd d=1
   ·rw[dif_pos hc]
    simp only;rw[if_neg (by intro h;exact h1 h.1)]
   ·rw[dif_neg hc]
theorem RL(h:s.idxOf? 47=some i)(h1:okI (s.drop (i+1))=false):xk s=2:=by
 unfold xk dJ;rw[h];unfold okI at h1;cases hn:oT (s.take i) with
 |none=>simp[hn]
 |some n=>
  simp only[hn];cases hd:y8 (s.drop (i+1)) with
  |none=>simp[]
  |some d=>
   rw[Km hd] at h1;simp only[decide_eq_false_iff_not,Int.natAbs_natCast] at h1;simp only[PX];by_cases hc:1<d∧n.natAbs.gcd d=1
   ·rw[dif_pos hc]
    simp only;rw[if_neg (by intro h;exact h1 h.2)]
   ·rw[dif_neg hc]
theorem Pq{d:Int}(h:s.idxOf? 47=some i)(hn:oT (s.take i)=some n)(hd:oT (s.drop (i+1))=some d)(hn2:(aQ n.natAbs).length≤200)(hd2:(aQ d.natAbs).length≤200):
  xk s=if 1<d∧n.natAbs.gcd d.natAbs=1 then 0 else 2:=by
 unfold xk dJ;rw[h];simp only[hn];by_cases h0:0≤d
 ·rw[UD hd h0]
  simp only[PX];have e:d.toNat=d.natAbs:=by omega
  rw[e];by_cases hc:1<d∧n.natAbs.gcd d.natAbs=1
  ·rw[if_pos hc,dif_pos ⟨by omega,hc.2⟩]
   simp only;rw[if_pos ⟨hn2,hd2⟩]
  ·rw[if_neg hc,dif_neg (fun e=>hc ⟨by omega,e.2⟩)]
 ·have:y8 (s.drop (i+1))=none:=by
   cases hx:y8 (s.drop (i+1)) with
   |none=>rfl
   |some u=>
    rw[Km hx] at hd;cases hd;omega
  rw[this];rw[if_neg (fun e=>by omega)]
theorem o6(s:List UInt8)(hl8:s.length≤18)(mem:Mem):
  kF prog 55 [.str s] mem (.int .i64 (xk s)) mem:=by
 have hG:aT prog 55=some f55:=by kernel_rfl
 refine az ml (lv:=fun _=>[]) (K:=1) rfl rfl ?_ mem;have hl:s.length≤1000000000:=by omega
 have hi:=qo s 47;cases hx:s.idxOf? 47 with
 |none=>
  rw[hx] at hi;simp only at hi;rw[RM hx];cases ho:okI s with
  |true=>simp[ad,hG,f55,ag,aH,bM,be,da,cI,bY,aV,hl,hi,qB,ho]
  |false=>simp[ad,hG,f55,ag,aH,bM,be,da,cI,bY,aV,hl,hi,qB,ho]
 |some i=>
  rw[hx] at hi;simp only at hi;have hi0:(0:Int)≤i:=by omega
  obtain⟨a,ha⟩:∃a,a=s.take i:=⟨_,rfl⟩
  obtain⟨b,hb⟩:∃b,b=s.drop (i+1):=⟨_,rfl⟩
  have la:a.length≤1000000000:=by rw[ha,List.length_take];omega
  have lb:b.length≤1000000000:=by rw[hb,List.length_drop];omega
  have la8:a.length≤18:=by rw[ha,List.length_take];omega
  have lb8:b.length≤18:=by rw[hb,List.length_drop];omega
  cases ho:okI a with
  |false=>
   rw[RK hx (by rw[←ha];exact ho)];simp[ad,hG,f55,ag,aH,bM,be,da,cI,bY,aV,hl,hi,hi0,←ha,←hb,la,qB,ho]
  |true=>
   cases ho2:okI b with
   |false=>
    rw[RL hx (by rw[←hb];exact ho2)];simp[ad,hG,f55,ag,aH,bM,be,da,cI,bY,aV,hl,hi,hi0,←ha,←hb,la,lb,qB,ho,ho2]
   |true=>
    have hn:∃n,oT a=some n∧(aQ n.natAbs).length≤200:=by
     unfold okI at ho;cases hx:oT a with
     |none=>rw[hx] at ho;cases ho
     |some n=>rw[hx] at ho;exact⟨n,rfl,by simpa using ho⟩
    have hd:∃n,oT b=some n∧(aQ n.natAbs).length≤200:=by
     unfold okI at ho2;cases hx:oT b with
     |none=>rw[hx] at ho2;cases ho2
     |some n=>rw[hx] at ho2;exact⟨n,rfl,by simpa using ho2⟩
    obtain⟨n,hn,n2⟩:=hn;obtain⟨d,hd,d2⟩:=hd;rw[Pq hx (by rw[←ha];exact hn) (by rw[←hb];exact hd) n2 d2];have h1:oT [49]=some 1:=rfl;have aa0:JM d 1≤0↔¬1<d:=by
     unfold JM;split
     ·constructor<;>intro h<;>omega
     ·split<;>constructor<;>intro h<;>omega
    have ha0:(a==[48])=decide (n=0):=by rw[eG hn,jW]
    by_cases c1:1<d
    ·have c1' :¬JM d 1≤0:=fun e=>aa0.1 e c1
     by_cases c2:n=0
     ·have c3:¬n.natAbs.gcd d.natAbs=1:=by subst c2;simp;omega
      rw[if_neg (fun e=>c3 e.2)];simp[ad,hG,f55,ag,aH,bM,be,da,cI,bY,aV,hl,hi,hi0,←ha,←hb,la,lb,qB,ho,ho2,hd,h1,c1',ha0,c2]
     ·by_cases c3:n.natAbs.gcd d.natAbs=1
      ·rw[if_pos ⟨c1,c3⟩]
       simp[ad,hG,f55,ag,aH,bM,be,da,cI,bY,aV,hl,hi,hi0,←ha,←hb,la,lb,qB,ho,ho2,hn,hd,h1,c1',ha0,c2,la8,lb8,qw,c3]
      ·rw[if_neg (fun e=>c3 e.2)]
       simp[ad,hG,f55,ag,aH,bM,be,da,cI,bY,aV,hl,hi,hi0,←ha,←hb,la,lb,qB,ho,ho2,hn,hd,h1,c1',ha0,c2,la8,lb8,qw,c3]
    ·have c1' :JM d 1≤0:=aa0.2 c1
     rw[if_neg (fun e=>c1 e.1)];simp[ad,hG,f55,ag,aH,bM,be,da,cI,bY,aV,hl,hi,hi0,←ha,←hb,la,lb,qB,ho,ho2,hd,h1,c1']
noncomputable def ao(f:FuncId) (args:List AV):Option AV:=
 match f,args with
 |55,[.str s]=>if s.length≤18 then some (.int .i64 (xk s)) else none
 |88,[.str s,.str t]=>match dJ s,dJ t with
  |some a,some b=>if (aQ a.num.natAbs).length≤9∧(aQ a.den).length≤9∧(aQ b.num.natAbs).length≤9∧(aQ b.den).length≤9 then some (.str (aw (a-b))) else none
  |_,_=>none
 |136,[.str s,.str t]=>match dJ s,dJ t with
  |some a,some b=>if b≠0∧(aQ a.num.natAbs).length≤9∧(aQ a.den).length≤9∧(aQ b.num.natAbs).length≤9∧(aQ b.den).length≤9 then some (.tuple [.str (aw (a / b)),.int .i64 0]) else none
  |_,_=>none
 |f,args=>aH f args
theorem bP:kP prog (ag ao):=bK fun f args v h mem=>by
 unfold ao at h;split at h
 ·split at h
  ·rename_i hc;cases h;exact o6 _ hc mem
  ·cases h
 ·split at h
  ·rename_i m n hm hn
   split at h
   ·rename_i hc;cases h;rw[aA hm,aA hn];exact OB m n ⟨hc.1,hc.2.1⟩ ⟨hc.2.2.1,hc.2.2.2⟩ mem
   ·cases h
  ·cases h
 ·split at h
  ·rename_i m n hm hn
   split at h
   ·rename_i hc;cases h;rw[aA hm,aA hn];exact NZ m n hc.1 ⟨hc.2.1,hc.2.2.1⟩ ⟨hc.2.2.2.1,hc.2.2.2.2⟩ mem
   ·cases h
  ·cases h
 ·have:=ml.fn _ _ mem ⟨v,none,[]⟩ (by unfold ag;simp only;rw[h])
  simpa [HS.mem] using this
theorem Uo(h:xk s=0):∃q,dJ s=some q∧s=aw q∧(aQ q.num.natAbs).length≤200∧(aQ q.den).length≤200:=by
 unfold xk at h;cases hq:dJ s with
 |none=>rw[hq] at h;cases h
 |some q=>
  rw[hq] at h;simp only at h;split at h
  ·rename_i hc;exact⟨q,rfl,aA hq,hc.1,hc.2⟩
  ·cases h
end Go.Proofs
