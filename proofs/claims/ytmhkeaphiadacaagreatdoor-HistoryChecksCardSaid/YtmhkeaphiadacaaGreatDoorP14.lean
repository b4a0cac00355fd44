/- See P53. -/
import Derived.Test.YtmhkeaphiadacaaGreatDoorP13
set_option linter.all false
set_option maxRecDepth 100000
set_option maxHeartbeats 40000000
namespace Go.Proofs
open Go.Eng
open Tryz
theorem RX(t:List UInt8):okT false t=(decide (t.length≤200)&&jw t):=by
 cases t with
 |nil=>rfl
 |cons c r=>
  unfold okT jw;simp only[List.length_cons,Bool.or_false,List.all_cons];rw[Bool.eq_iff_iff];simp;cases r with
  |nil=>simp
  |cons x r=>simp;grind
theorem TZ(t:List UInt8):okT true t=(decide (t.length≤200)&&jw t&& !(t.head? ==some 48)):=by
 cases t with
 |nil=>rfl
 |cons c r=>
  unfold okT jw;simp only[List.length_cons,Bool.or_true,Bool.and_true,List.all_cons,List.head?_cons];rw[Bool.eq_iff_iff];simp
  grind
def okI(s:List UInt8):Bool:=match pq s with
 |some n=>decide ((aS n.natAbs).length≤200)
 |none=>false
theorem PW(r:List UInt8):pq (45::r)=match Bn r with
  |some (u+1)=>some (Int.negSucc u)
  |_=>none:=rfl
variable{t:List UInt8}
theorem PX(h:∀r,t≠45::r):pq t=(Bn t).map Int.ofNat:=by
 unfold pq;split
 ·rename_i r;exact absurd rfl (h r)
 ·cases Bn t<;>rfl
theorem NY(h:jw t=true):Bn t=some (kW t):=by unfold Bn;rw[if_pos h]
theorem RU(h:jw t=false):Bn t=none:=by unfold Bn;rw[h];rfl
theorem qW(s:List UInt8):okT (Lib.hasPrefix s [45]) (Lib.trimPrefix s [45])=okI s:=by
 unfold Lib.trimPrefix;have plain:∀t:List UInt8,(∀r,t≠45::r)→okT false t=okI t:=by
  intro t ht;rw[RX];unfold okI;rw[PX ht];cases hc:jw t with
  |true=>
   have:=Bm hc;rw[NY hc];show _=decide ((aS (Int.ofNat (kW t)).natAbs).length≤200)
   rw[show(Int.ofNat (kW t)).natAbs=kW t from rfl,this,Bool.and_true]
  |false=>
   rw[RU hc,Bool.and_false];rfl
 cases s with
 |nil=>rw[show Lib.hasPrefix [] [45]=false from rfl];exact plain [] (by simp)
 |cons c r=>
  by_cases h:c=45
  ·subst h
   rw[show Lib.hasPrefix (45::r) [45]=true by simp[Lib.hasPrefix,List.isPrefixOf]];simp only[if_true,List.length_singleton,List.drop_succ_cons,List.drop_zero];rw[TZ];unfold okI;rw[PW];cases hc:jw r with
   |true=>
    rw[NY hc,Bool.and_true];have hv:=Bm hc;cases hvd:kW r with
    |zero=>
     rw[hvd,qU] at hv;rw[←hv];rfl
    |succ u=>
     rw[hvd] at hv;have hh:=KC (u+1) (by omega);rw[hv] at hh;show _=decide ((aS (Int.negSucc u).natAbs).length≤200)
     rw[show(Int.negSucc u).natAbs=u+1 from rfl,hv];have:(r.head? ==some 48)=false:=by simpa using hh
     rw[this];simp
   |false=>
    rw[RU hc];simp
  ·have h1:Lib.hasPrefix (c::r) [45]=false:=by
    have h' :¬(45:UInt8)=c:=fun e=>h e.symm
    simp[Lib.hasPrefix,List.isPrefixOf,h']
   rw[h1];exact plain (c::r) (by intro r' e;exact h (List.cons.inj e).1)
variable{n:Int}{r:List UInt8}
theorem TN(h:pq r=some n)(hn:0≤n):Bn r=some n.toNat:=by rw[eR h,oB hn,ig];congr 1;omega
theorem KD{n:Nat}(h:Bn r=some n):pq r=some (n:Int):=by rw[kG h];exact nl n
theorem qL:∀(s:List UInt8) (c:UInt8),Lib.indexByte s c=match s.idxOf? c with
  |some i=>(i:Int)
  |none=> -1
 | [],_=>rfl
 |b::l,c=>by
  unfold Lib.indexByte;rw[List.idxOf?_cons,qL l c];by_cases h:b=c
  ·subst h;simp
  ·have h' :(b==c)=false:=by simpa using h
   rw[h'];simp only[Bool.false_eq_true,if_false];cases l.idxOf? c with
   |none=>simp
   |some i=>
    have hn:¬(((i:Int)== -1)=true):=by rw[beq_iff_eq];omega
    simp only[Option.map_some];rw[if_neg hn,Int.natCast_add];rfl
def yV(s:List UInt8):Int:=match ef s with
 |some q=>if (aS q.num.natAbs).length≤200∧(aS q.den).length≤200 then 0 else 2
 |none=>2
noncomputable def a8(f:FuncId) (args:List AV):Option AV:=
 match f,args with
 |117,[.str s,.str t]=>match ef s,ef t with
  |some a,some b=>if (aS a.num.natAbs).length≤9∧(aS a.den).length≤9∧(aS b.num.natAbs).length≤9∧(aS b.den).length≤9 then some (.int .i64 (AT a b)) else none
  |_,_=>none
 |176,[.str s,.str t]=>match ef s,ef t with
  |some a,some b=>if (aS a.num.natAbs).length≤9∧(aS a.den).length≤9∧(aS b.num.natAbs).length≤9∧(aS b.den).length≤9 then some (.str (aN (a+b))) else none
  |_,_=>none
 |123,[.str s,.str t]=>match ef s,ef t with
  |some a,some b=>if (aS a.num.natAbs).length≤9∧(aS a.den).length≤9∧(aS b.num.natAbs).length≤9∧(aS b.den).length≤9 then some (.str (aN (a*b))) else none
  |_,_=>none
 |f,args=>bu f args
theorem lW:qS prog (ar a8):=bZ fun f args v h mem=>by
 unfold a8 at h;split at h
 ·split at h
  ·rename_i m n hm hn
   split at h
   ·rename_i hc
    cases h;rw[aA hm,aA hn];exact sq m n ⟨hc.1,hc.2.1⟩ ⟨hc.2.2.1,hc.2.2.2⟩ mem
   ·cases h
  ·cases h
 ·split at h
  ·rename_i m n hm hn
   split at h
   ·rename_i hc
    cases h;rw[aA hm,aA hn];exact Of m n ⟨hc.1,hc.2.1⟩ ⟨hc.2.2.1,hc.2.2.2⟩ mem
   ·cases h
  ·cases h
 ·split at h
  ·rename_i m n hm hn
   split at h
   ·rename_i hc
    cases h;rw[aA hm,aA hn];exact Ox m n ⟨hc.1,hc.2.1⟩ ⟨hc.2.2.1,hc.2.2.2⟩ mem
   ·cases h
  ·cases h
 ·have:=lV.fn _ _ mem ⟨v,none,[]⟩ (by unfold ar;simp only;rw[h])
  simpa [HS.mem] using this
theorem OE(a b:Rat)(ha:Le a)(hb:Le b)(mem:Mem):
  mB prog 120 [.str (aN a),.str (aN b)] mem (.str (aN (a-b))) mem:=by
 have hG:aO prog 120=some f120:=by kernel_rfl
 refine aB lW (lv:=fun _=>[]) (K:=1) rfl rfl ?_ mem;have lb:=mc hb;obtain⟨a1,a2⟩:=ha;obtain⟨b1,b2⟩:=hb;have e:a+ -b=a-b:=(Rat.sub_eq_add_neg a b).symm;simp[ad,hG,f120,ar,a8,bu,bq,aM,lb,a1,a2,b1,b2,e]
variable{b:Rat}
theorem A8(h:0<b.num):b⁻¹.num=(b.den:Int)∧b⁻¹.den=b.num.natAbs:=by rw[Rat.num_inv,Rat.den_inv,Int.sign_eq_one_of_pos h,if_neg (by omega)];exact⟨Int.one_mul _,rfl⟩
theorem A7(h:b.num<0):b⁻¹.num= -(b.den:Int)∧b⁻¹.den=b.num.natAbs:=by rw[Rat.num_inv,Rat.den_inv,Int.sign_eq_neg_one_of_neg h,if_neg (by omega)];exact⟨by omega,rfl⟩
theorem Oi(a b:Rat)(WS:b≠0)(ha:Le a)(hb:Le b)(mem:Mem):
  mB prog 146 [.str (aN a),.str (aN b)] mem (.tuple [.str (aN (a / b)),.int .i64 0]) mem:=by
 have hG:aO prog 146=some f146:=by kernel_rfl
 refine aB lW (lv:=fun _=>[]) (K:=1) rfl rfl ?_ mem;have lb:=mc hb;obtain⟨a1,a2⟩:=ha;obtain⟨b1,b2⟩:=hb;have hn:b.num≠0:=fun e=>WS (zr.1 e)
 have Yc:(aN b==[48])=false:=by rw[bT];simpa using WS
 have e:a*b⁻¹=a / b:=(Rat.div_def a b).symm;obtain⟨m,hm⟩:∃m,m=b.num.natAbs:=⟨_,rfl⟩
 rw[←hm] at b1;have lm:(aS m).length≤1000000000:=by omega
 have ld:(aS b.den).length≤1000000000:=by omega
 have fi:(aS b⁻¹.num.natAbs).length≤9∧(aS b⁻¹.den).length≤9:=by
  rcases Int.lt_or_gt_of_ne hn with h | h
  ·obtain⟨i1,i2⟩:=A7 h
   rw[i1,i2,Int.natAbs_neg,Int.natAbs_natCast,←hm];exact⟨b2,b1⟩
  ·obtain⟨i1,i2⟩:=A8 h
   rw[i1,i2,Int.natAbs_natCast,←hm];exact⟨b2,b1⟩
 have inv1:=fun h=>A7 (b:=b) h
 have inv2:=fun h=>A8 (b:=b) h
 obtain⟨w,hw⟩:∃w,w=b⁻¹:=⟨_,rfl⟩
 rw[←hw] at fi e inv1 inv2;obtain⟨f1,f2⟩:=fi;rcases Int.lt_or_gt_of_ne hn with h | h
 ·obtain⟨i1,i2⟩:=inv1 h
  have hg:(aN b)[0]? =some 45:=by rw[oJ h];rfl
  have hin:cN (-b.num)=aS m:=by rw[oB (by omega),Int.natAbs_neg,hm]
  have ln:(cN b.num).length≤1000000000:=by have:=fK b.num;rw[←hm] at this;omega
  have ln2:(cN (-(b.den:Int))).length≤1000000000:=by have:=fK (-(b.den:Int));rw[Int.natAbs_neg,Int.natAbs_natCast] at this;omega
  by_cases Yn:m=1
  ·have hj:cN (-(b.den:Int))=aN w:=by unfold aN;rw[if_pos (by rw[i2,←hm,Yn]),i1]
   have hp:=congrArg pq hj;rw[di] at hp;have hp:=hp.symm;have l1:(aS 1).length≤1000000000:=by decide
   have lj:(aN w).length≤1000000000:=by rw[←hj];first | exact ln2 | exact ld
   simp[ad,hG,f146,Yc,ar,a8,bu,bq,ee,dy,aM,di,ig,nl,lb,hg,hin,ln,ld,Yn,hj,hp,l1,lj,a1,a2,f1,f2,e]
  ·have hj:cN (-(b.den:Int))++47::aS m=aN w:=by unfold aN;rw[if_neg (by rw[i2,←hm];exact Yn),i1,i2,←hm]
   simp[ad,hG,f146,Yc,ar,a8,bu,bq,ee,dy,aM,di,ig,nl,lb,hg,hin,ln,ln2,lm,ld,Yn,hj,a1,a2,f1,f2,e]
 ·obtain⟨i1,i2⟩:=inv2 h
  obtain⟨c,r,hc,hd⟩:=rb (q:=b) (by omega);have hg:(aN b)[0]? =some c:=by rw[hc];rfl
  have Ym:=gu hd;have hin:cN b.num=aS m:=by rw[oB (by omega),hm]
  by_cases Yn:m=1
  ·have hj:cN (b.den:Int)=aN w:=by unfold aN;rw[if_pos (by rw[i2,←hm,Yn]),i1]
   have hp:=congrArg pq hj;rw[di] at hp;have hp:=hp.symm;have l1:(aS 1).length≤1000000000:=by decide
   have lj:(aN w).length≤1000000000:=by rw[←hj];first | exact ln2 | exact ld
   simp[ad,hG,f146,Yc,ar,a8,bu,bq,aM,ig,nl,lb,hg,Ym,hin,ld,Yn,hj,l1,a1,a2,f1,f2,e]
  ·have hj:cN (b.den:Int)++47::aS m=aN w:=by unfold aN;rw[if_neg (by rw[i2,←hm];exact Yn),i1,i2,←hm]
   simp[ad,hG,f146,Yc,ar,a8,bu,bq,aM,ig,nl,lb,hg,Ym,hin,lm,ld,Yn,hj,a1,a2,f1,f2,e]
variable{s:List UInt8}
theorem Ro(h:s.idxOf? 47=none):yV s=if okI s then 0 else 2:=by
 unfold yV ef okI;rw[h];cases hn:pq s with
 |none=>simp
 |some n=>
  have:(aS 1).length≤200:=by decide
  simp[this]
variable{i:Nat}
theorem Rm(h:s.idxOf? 47=some i)(h1:okI (s.take i)=false):yV s=2:=by
 unfold yV ef;rw[h];unfold okI at h1;cases hn:pq (s.take i) with
 |none=>simp[hn]
 |some n=>
  rw[hn] at h1;simp only[decide_eq_false_iff_not] at h1;simp only[hn];cases hd:Bn (s.drop (i+1)) with
  |none=>simp[]
  |some d=>
   simp only[Qb];by_cases hc:1<d∧n.natAbs.gcd d=1
   ·rw[dif_pos hc]
    simp only;rw[if_neg (by intro h;exact h1 h.1)]
   ·rw[dif_neg hc]
theorem Rn(h:s.idxOf? 47=some i)(h1:okI (s.drop (i+1))=false):yV s=2:=by
 unfold yV ef;rw[h];unfold okI at h1;cases hn:pq (s.take i) with
 |none=>simp[hn]
 |some n=>
  simp only[hn];cases hd:Bn (s.drop (i+1)) with
  |none=>simp[]
  |some d=>
   rw[KD hd] at h1;simp only[decide_eq_false_iff_not,Int.natAbs_natCast] at h1;simp only[Qb];by_cases hc:1<d∧n.natAbs.gcd d=1
   ·rw[dif_pos hc]
    simp only;rw[if_neg (by intro h;exact h1 h.2)]
   ·rw[dif_neg hc]
theorem PI{d:Int}(h:s.idxOf? 47=some i)(hn:pq (s.take i)=some n)(hd:pq (s.drop (i+1))=some d)(hn2:(aS n.natAbs).length≤200)(hd2:(aS d.natAbs).length≤200):
  yV s=if 1<d∧n.natAbs.gcd d.natAbs=1 then 0 else 2:=by
 unfold yV ef;rw[h];simp only[hn];by_cases h0:0≤d
 ·rw[TN hd h0]
  simp only[Qb];have e:d.toNat=d.natAbs:=by omega
  rw[e];by_cases hc:1<d∧n.natAbs.gcd d.natAbs=1
  ·rw[if_pos hc,dif_pos ⟨by omega,hc.2⟩]
   simp only;rw[if_pos ⟨hn2,hd2⟩]
  ·rw[if_neg hc,dif_neg (fun e=>hc ⟨by omega,e.2⟩)]
 ·have:Bn (s.drop (i+1))=none:=by
   cases hx:Bn (s.drop (i+1)) with
   |none=>rfl
   |some u=>
    rw[KD hx] at hd;cases hd;omega
  rw[this];rw[if_neg (fun e=>by omega)]
theorem pz(s:List UInt8)(hl8:s.length≤18)(mem:Mem):
  mB prog 125 [.str s] mem (.int .i64 (yV s)) mem:=by
 have hG:aO prog 125=some f125:=by kernel_rfl
 refine aB lW (lv:=fun _=>[]) (K:=1) rfl rfl ?_ mem;have hl:s.length≤1000000000:=by omega
 have hi:=qL s 47;cases hx:s.idxOf? 47 with
 |none=>
  rw[hx] at hi;simp only at hi;rw[Ro hx];cases ho:okI s with
  |true=>simp[ad,hG,f125,ar,a8,bu,bq,ee,dy,cF,aT,hl,hi,qW,ho]
  |false=>simp[ad,hG,f125,ar,a8,bu,bq,ee,dy,cF,aT,hl,hi,qW,ho]
 |some i=>
  rw[hx] at hi;simp only at hi;have ZH:(0:Int)≤i:=by omega
  obtain⟨a,ha⟩:∃a,a=s.take i:=⟨_,rfl⟩
  obtain⟨b,hb⟩:∃b,b=s.drop (i+1):=⟨_,rfl⟩
  have la:a.length≤1000000000:=by rw[ha,List.length_take];omega
  have lb:b.length≤1000000000:=by rw[hb,List.length_drop];omega
  have la8:a.length≤18:=by rw[ha,List.length_take];omega
  have lb8:b.length≤18:=by rw[hb,List.length_drop];omega
  cases ho:okI a with
  |false=>
   rw[Rm hx (by rw[←ha];exact ho)];simp[ad,hG,f125,ar,a8,bu,bq,ee,dy,cF,aT,hl,hi,ZH,←ha,←hb,la,qW,ho]
  |true=>
   cases ho2:okI b with
   |false=>
    rw[Rn hx (by rw[←hb];exact ho2)];simp[ad,hG,f125,ar,a8,bu,bq,ee,dy,cF,aT,hl,hi,ZH,←ha,←hb,la,lb,qW,ho,ho2]
   |true=>
    have hn:∃n,pq a=some n∧(aS n.natAbs).length≤200:=by
     unfold okI at ho;cases hx:pq a with
     |none=>rw[hx] at ho;cases ho
     |some n=>rw[hx] at ho;exact⟨n,rfl,by simpa using ho⟩
    have hd:∃n,pq b=some n∧(aS n.natAbs).length≤200:=by
     unfold okI at ho2;cases hx:pq b with
     |none=>rw[hx] at ho2;cases ho2
     |some n=>rw[hx] at ho2;exact⟨n,rfl,by simpa using ho2⟩
    obtain⟨n,hn,n2⟩:=hn;obtain⟨d,hd,d2⟩:=hd;rw[PI hx (by rw[←ha];exact hn) (by rw[←hb];exact hd) n2 d2];have h1:pq [49]=some 1:=rfl;have hcmp:Lc d 1≤0↔¬1<d:=by
     unfold Lc;split
     ·constructor<;>intro h<;>omega
     ·split<;>constructor<;>intro h<;>omega
    have ha0:(a==[48])=decide (n=0):=by rw[eR hn,jK]
    by_cases c1:1<d
    ·have c1' :¬Lc d 1≤0:=fun e=>hcmp.1 e c1
     by_cases c2:n=0
     ·have c3:¬n.natAbs.gcd d.natAbs=1:=by subst c2;simp;omega
      rw[if_neg (fun e=>c3 e.2)];simp[ad,hG,f125,ar,a8,bu,bq,ee,dy,cF,aT,hl,hi,ZH,←ha,←hb,la,lb,qW,ho,ho2,hd,h1,c1',ha0,c2]
     ·by_cases c3:n.natAbs.gcd d.natAbs=1
      ·rw[if_pos ⟨c1,c3⟩]
       simp[ad,hG,f125,ar,a8,bu,bq,ee,dy,cF,aT,hl,hi,ZH,←ha,←hb,la,lb,qW,ho,ho2,hn,hd,h1,c1',ha0,c2,la8,lb8,xK,c3]
      ·rw[if_neg (fun e=>c3 e.2)]
       simp[ad,hG,f125,ar,a8,bu,bq,ee,dy,cF,aT,hl,hi,ZH,←ha,←hb,la,lb,qW,ho,ho2,hn,hd,h1,c1',ha0,c2,la8,lb8,xK,c3]
    ·have c1' :Lc d 1≤0:=hcmp.2 c1
     rw[if_neg (fun e=>c1 e.1)];simp[ad,hG,f125,ar,a8,bu,bq,ee,dy,cF,aT,hl,hi,ZH,←ha,←hb,la,lb,qW,ho,ho2,hd,h1,c1']
noncomputable def bd(f:FuncId) (args:List AV):Option AV:=
 match f,args with
 |125,[.str s]=>if s.length≤18 then some (.int .i64 (yV s)) else none
 |120,[.str s,.str t]=>match ef s,ef t with
  |some a,some b=>if (aS a.num.natAbs).length≤9∧(aS a.den).length≤9∧(aS b.num.natAbs).length≤9∧(aS b.den).length≤9 then some (.str (aN (a-b))) else none
  |_,_=>none
 |146,[.str s,.str t]=>match ef s,ef t with
  |some a,some b=>if b≠0∧(aS a.num.natAbs).length≤9∧(aS a.den).length≤9∧(aS b.num.natAbs).length≤9∧(aS b.den).length≤9 then some (.tuple [.str (aN (a / b)),.int .i64 0]) else none
  |_,_=>none
 |f,args=>a8 f args
theorem dX:qS prog (ar bd):=bZ fun f args v h mem=>by
 unfold bd at h;split at h
 ·split at h
  ·rename_i hc;cases h;exact pz _ hc mem
  ·cases h
 ·split at h
  ·rename_i m n hm hn
   split at h
   ·rename_i hc;cases h;rw[aA hm,aA hn];exact OE m n ⟨hc.1,hc.2.1⟩ ⟨hc.2.2.1,hc.2.2.2⟩ mem
   ·cases h
  ·cases h
 ·split at h
  ·rename_i m n hm hn
   split at h
   ·rename_i hc;cases h;rw[aA hm,aA hn];exact Oi m n hc.1 ⟨hc.2.1,hc.2.2.1⟩ ⟨hc.2.2.2.1,hc.2.2.2.2⟩ mem
   ·cases h
  ·cases h
 ·have:=lW.fn _ _ mem ⟨v,none,[]⟩ (by unfold ar;simp only;rw[h])
  simpa [HS.mem] using this
theorem TB(h:yV s=0):∃q,ef s=some q∧s=aN q∧(aS q.num.natAbs).length≤200∧(aS q.den).length≤200:=by
 unfold yV at h;cases hq:ef s with
 |none=>rw[hq] at h;cases h
 |some q=>
  rw[hq] at h;simp only at h;split at h
  ·rename_i hc;exact⟨q,rfl,aA hq,hc.1,hc.2⟩
  ·cases h
end Go.Proofs
