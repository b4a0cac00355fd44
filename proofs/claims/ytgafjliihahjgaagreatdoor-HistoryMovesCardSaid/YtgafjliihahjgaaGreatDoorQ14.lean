/- See Q54. -/
import Derived.Test.YtgafjliihahjgaaGreatDoorQ13
set_option linter.all false
namespace Go.Proofs
open Go.Eng
theorem PD(t:List UInt8):okT false t=(decide (t.length≤200)&&iG t):=by
 cases t with
 |nil=>rfl
 |cons c r=>
  unfold okT iG;simp only[List.length_cons,Bool.or_false,List.all_cons];rw[Bool.eq_iff_iff];simp;cases r with
  |nil=>simp
  |cons x r=>simp;grind
theorem Ru(t:List UInt8):okT true t=(decide (t.length≤200)&&iG t&& !(t.head? ==some 48)):=by
 cases t with
 |nil=>rfl
 |cons c r=>
  unfold okT iG;simp only[List.length_cons,Bool.or_true,Bool.and_true,List.all_cons,List.head?_cons];rw[Bool.eq_iff_iff];simp
  grind
def okI(s:List UInt8):Bool:=match nn s with
 |some n=>decide ((aJ n.natAbs).length≤200)
 |none=>false
theorem MX(r:List UInt8):nn (45::r)=match xk r with
  |some (u+1)=>some (Int.negSucc u)
  |_=>none:=rfl
theorem MY{t:List UInt8}(h:∀r,t≠45::r):nn t=(xk t).map Int.ofNat:=by
 unfold nn;split
 ·rename_i r;exact absurd rfl (h r)
 ·cases xk t<;>rfl
theorem KX{t:List UInt8}(h:iG t=true):xk t=some (jK t):=by unfold xk;rw[if_pos h]
theorem Px{t:List UInt8}(h:iG t=false):xk t=none:=by unfold xk;rw[h];rfl
theorem oH(s:List UInt8):okT (Lib.hasPrefix s [45]) (Lib.trimPrefix s [45])=okI s:=by
 unfold Lib.trimPrefix;have plain:∀t:List UInt8,(∀r,t≠45::r)→okT false t=okI t:=by
  intro t ht;rw[PD];unfold okI;rw[MY ht];cases hc:iG t with
  |true=>
   have:=zl hc;rw[KX hc];show _=decide ((aJ (Int.ofNat (jK t)).natAbs).length≤200)
   rw[show(Int.ofNat (jK t)).natAbs=jK t from rfl,this,Bool.and_true]
  |false=>
   rw[Px hc,Bool.and_false];rfl
 cases s with
 |nil=>rw[show Lib.hasPrefix [] [45]=false from rfl];exact plain [] (by simp)
 |cons c r=>
  by_cases h:c=45
  ·subst h
   rw[show Lib.hasPrefix (45::r) [45]=true by simp[Lib.hasPrefix,List.isPrefixOf]];simp only[if_true,List.length_singleton,List.drop_succ_cons,List.drop_zero];rw[Ru];unfold okI;rw[MX];cases hc:iG r with
   |true=>
    rw[KX hc,Bool.and_true];have hv:=zl hc;cases hvd:jK r with
    |zero=>
     rw[hvd,oG] at hv;rw[←hv];rfl
    |succ u=>
     rw[hvd] at hv;have hh:=HO (u+1) (by omega);rw[hv] at hh;show _=decide ((aJ (Int.negSucc u).natAbs).length≤200)
     rw[show(Int.negSucc u).natAbs=u+1 from rfl,hv];have:(r.head? ==some 48)=false:=by simpa using hh
     rw[this];simp
   |false=>
    rw[Px hc];simp
  ·have h1:Lib.hasPrefix (c::r) [45]=false:=by
    have h' :¬(45:UInt8)=c:=fun e=>h e.symm
    simp[Lib.hasPrefix,List.isPrefixOf,h']
   rw[h1];exact plain (c::r) (by intro r' e;exact h (List.cons.inj e).1)
theorem Rg{r:List UInt8}{n:Int}(h:nn r=some n) (hn:0≤n):xk r=some n.toNat:=by rw[dI h,mE hn,fe];congr 1;omega
theorem HP{r:List UInt8}{n:Nat}(h:xk r=some n):nn r=some (n:Int):=by rw[iH h];exact gE n
theorem ou:∀(s:List UInt8) (c:UInt8),Lib.indexByte s c=match s.idxOf? c with
  |some i=>(i:Int)
  |none=> -1
 | [],_=>rfl
 |b::l,c=>by
  unfold Lib.indexByte;rw[List.idxOf?_cons,ou l c];by_cases h:b=c
  ·subst h;simp
  ·have h' :(b==c)=false:=by simpa using h
   rw[h'];simp only[Bool.false_eq_true,if_false];cases l.idxOf? c with
   |none=>simp
   |some i=>
    have hn:¬(((i:Int)== -1)=true):=by rw[beq_iff_eq];omega
    simp only[Option.map_some];rw[if_neg hn,Int.natCast_add];rfl
def u4(s:List UInt8):Int:=match cV s with
 |some q=>if (aJ q.num.natAbs).length≤200∧(aJ q.den).length≤200 then 0 else 2
 |none=>2
noncomputable def aC(f:FuncId) (args:List AV):Option AV:=
 match f,args with
 |85,[.str s,.str t]=>match cV s,cV t with
  |some a,some b=>if (aJ a.num.natAbs).length≤9∧(aJ a.den).length≤9∧(aJ b.num.natAbs).length≤9∧(aJ b.den).length≤9 then some (.int .i64 (qY a b)) else none
  |_,_=>none
 |111,[.str s,.str t]=>match cV s,cV t with
  |some a,some b=>if (aJ a.num.natAbs).length≤9∧(aJ a.den).length≤9∧(aJ b.num.natAbs).length≤9∧(aJ b.den).length≤9 then some (.str (ah (a+b))) else none
  |_,_=>none
 |74,[.str s,.str t]=>match cV s,cV t with
  |some a,some b=>if (aJ a.num.natAbs).length≤9∧(aJ a.den).length≤9∧(aJ b.num.natAbs).length≤9∧(aJ b.den).length≤9 then some (.str (ah (a*b))) else none
  |_,_=>none
 |f,args=>bQ f args
theorem iE:OracleOk Tryz.prog (af aC):=bq fun f args v h mem=>by
 unfold aC at h;split at h
 ·split at h
  ·rename_i m n hm hn
   split at h
   ·rename_i hc
    cases h;rw[au hm,au hn];exact pP m n ⟨hc.1,hc.2.1⟩ ⟨hc.2.2.1,hc.2.2.2⟩ mem
   ·cases h
  ·cases h
 ·split at h
  ·rename_i m n hm hn
   split at h
   ·rename_i hc
    cases h;rw[au hm,au hn];exact Li m n ⟨hc.1,hc.2.1⟩ ⟨hc.2.2.1,hc.2.2.2⟩ mem
   ·cases h
  ·cases h
 ·split at h
  ·rename_i m n hm hn
   split at h
   ·rename_i hc
    cases h;rw[au hm,au hn];exact LB m n ⟨hc.1,hc.2.1⟩ ⟨hc.2.2.1,hc.2.2.2⟩ mem
   ·cases h
  ·cases h
 ·have:=kB.fn _ _ mem ⟨v,none,[]⟩ (by unfold af;simp only;rw[h])
  simpa [CallRes.mem] using this
theorem LM(a b:Rat) (ha:fine a) (hb:fine b) (mem:Mem):
  ACallsTo Tryz.prog 88 [.str (ah a),.str (ah b)] mem (.str (ah (a-b))) mem:=by
 have hG:aL Tryz.prog 88=some Tryz.f88:=by kernel_rfl
 refine aq iE (lv:=fun _=>[]) (K:=1) rfl rfl ?_ mem;have lb:=iy hb;obtain⟨a1,a2⟩:=ha;obtain⟨b1,b2⟩:=hb;have e:a+ -b=a-b:=(Rat.sub_eq_add_neg a b).symm;simp[aa,hG,Tryz.f88,af,aC,bQ,be,ay,lb,a1,a2,b1,b2,e]
theorem yY{b:Rat}(h:0<b.num):b⁻¹.num=(b.den:Int)∧b⁻¹.den=b.num.natAbs:=by rw[Rat.num_inv,Rat.den_inv,Int.sign_eq_one_of_pos h,if_neg (by omega)];exact⟨Int.one_mul _,rfl⟩
theorem yX{b:Rat}(h:b.num<0):b⁻¹.num= -(b.den:Int)∧b⁻¹.den=b.num.natAbs:=by rw[Rat.num_inv,Rat.den_inv,Int.sign_eq_neg_one_of_neg h,if_neg (by omega)];exact⟨by omega,rfl⟩
theorem Ll(a b:Rat) (hb0:b≠0) (ha:fine a) (hb:fine b) (mem:Mem):
  ACallsTo Tryz.prog 136 [.str (ah a),.str (ah b)] mem (.tuple [.str (ah (a / b)),.int .i64 0]) mem:=by
 have hG:aL Tryz.prog 136=some Tryz.f136:=by kernel_rfl
 refine aq iE (lv:=fun _=>[]) (K:=1) rfl rfl ?_ mem;have lb:=iy hb;obtain⟨a1,a2⟩:=ha;obtain⟨b1,b2⟩:=hb;have hn:b.num≠0:=fun e=>hb0 (xl.1 e)
 have hbz:(ah b==[48])=false:=by rw[bL];simpa using hb0
 have e:a*b⁻¹=a / b:=(Rat.div_def a b).symm;obtain⟨m,hm⟩:∃m,m=b.num.natAbs:=⟨_,rfl⟩
 rw[←hm] at b1;have lm:(aJ m).length≤1000000000:=by omega
 have ld:(aJ b.den).length≤1000000000:=by omega
 have fi:(aJ b⁻¹.num.natAbs).length≤9∧(aJ b⁻¹.den).length≤9:=by
  rcases Int.lt_or_gt_of_ne hn with h | h
  ·obtain⟨i1,i2⟩:=yX h
   rw[i1,i2,Int.natAbs_neg,Int.natAbs_natCast,←hm];exact⟨b2,b1⟩
  ·obtain⟨i1,i2⟩:=yY h
   rw[i1,i2,Int.natAbs_natCast,←hm];exact⟨b2,b1⟩
 have inv1:=fun h=>yX (b:=b) h
 have inv2:=fun h=>yY (b:=b) h
 obtain⟨w,hw⟩:∃w,w=b⁻¹:=⟨_,rfl⟩
 rw[←hw] at fi e inv1 inv2;obtain⟨f1,f2⟩:=fi;rcases Int.lt_or_gt_of_ne hn with h | h
 ·obtain⟨i1,i2⟩:=inv1 h
  have hg:(ah b)[0]? =some 45:=by rw[mK h];rfl
  have hin:bT (-b.num)=aJ m:=by rw[mE (by omega),Int.natAbs_neg,hm]
  have ln:(bT b.num).length≤1000000000:=by have:=ef b.num;rw[←hm] at this;omega
  have ln2:(bT (-(b.den:Int))).length≤1000000000:=by have:=ef (-(b.den:Int));rw[Int.natAbs_neg,Int.natAbs_natCast] at this;omega
  by_cases hm1:m=1
  ·have hj:bT (-(b.den:Int))=ah w:=by unfold ah;rw[if_pos (by rw[i2,←hm,hm1]),i1]
   have hp:=congrArg nn hj;rw[cz] at hp;have hp:=hp.symm;have l1:(aJ 1).length≤1000000000:=by decide
   have lj:(ah w).length≤1000000000:=by rw[←hj];first | exact ln2 | exact ld
   simp[aa,hG,Tryz.f136,hbz,af,aC,bQ,be,cI,cq,ay,cz,fe,gE,lb,hg,hin,ln,ld,hm1,hj,hp,l1,lj,a1,a2,f1,f2,e]
  ·have hj:bT (-(b.den:Int))++47::aJ m=ah w:=by unfold ah;rw[if_neg (by rw[i2,←hm];exact hm1),i1,i2,←hm]
   simp[aa,hG,Tryz.f136,hbz,af,aC,bQ,be,cI,cq,ay,cz,fe,gE,lb,hg,hin,ln,ln2,lm,ld,hm1,hj,a1,a2,f1,f2,e]
 ·obtain⟨i1,i2⟩:=inv2 h
  obtain⟨c,r,hc,hd⟩:=oM (q:=b) (by omega);have hg:(ah b)[0]? =some c:=by rw[hc];rfl
  have hc45:=fJ hd;have hin:bT b.num=aJ m:=by rw[mE (by omega),hm]
  by_cases hm1:m=1
  ·have hj:bT (b.den:Int)=ah w:=by unfold ah;rw[if_pos (by rw[i2,←hm,hm1]),i1]
   have hp:=congrArg nn hj;rw[cz] at hp;have hp:=hp.symm;have l1:(aJ 1).length≤1000000000:=by decide
   have lj:(ah w).length≤1000000000:=by rw[←hj];first | exact ln2 | exact ld
   simp[aa,hG,Tryz.f136,hbz,af,aC,bQ,be,ay,fe,gE,lb,hg,hc45,hin,ld,hm1,hj,l1,a1,a2,f1,f2,e]
  ·have hj:bT (b.den:Int)++47::aJ m=ah w:=by unfold ah;rw[if_neg (by rw[i2,←hm];exact hm1),i1,i2,←hm]
   simp[aa,hG,Tryz.f136,hbz,af,aC,bQ,be,ay,fe,gE,lb,hg,hc45,hin,lm,ld,hm1,hj,a1,a2,f1,f2,e]
theorem OW{s:List UInt8}(h:s.idxOf? 47=none):u4 s=if okI s then 0 else 2:=by
 unfold u4 cV okI;rw[h];cases hn:nn s with
 |none=>simp
 |some n=>
  have:(aJ 1).length≤200:=by decide
  simp[this]
theorem OU{s:List UInt8}{i:Nat}(h:s.idxOf? 47=some i) (h1:okI (s.take i)=false):u4 s=2:=by
 unfold u4 cV;rw[h];unfold okI at h1;cases hn:nn (s.take i) with
 |none=>simp[hn]
 |some n=>
  rw[hn] at h1;simp only[decide_eq_false_iff_not] at h1;simp only[hn];cases hd:xk (s.drop (i+1)) with
  |none=>simp[]
  |some d=>
   simp only[Nh];by_cases hc:1<d∧n.natAbs.gcd d=1
   ·rw[dif_pos hc]
    simp only;rw[if_neg (by intro h;exact h1 h.1)]
   ·rw[dif_neg hc]
theorem OV{s:List UInt8}{i:Nat}(h:s.idxOf? 47=some i) (h1:okI (s.drop (i+1))=false):u4 s=2:=by
 unfold u4 cV;rw[h];unfold okI at h1;cases hn:nn (s.take i) with
 |none=>simp[hn]
 |some n=>
  simp only[hn];cases hd:xk (s.drop (i+1)) with
  |none=>simp[]
  |some d=>
   rw[HP hd] at h1;simp only[decide_eq_false_iff_not,Int.natAbs_natCast] at h1;simp only[Nh];by_cases hc:1<d∧n.natAbs.gcd d=1
   ·rw[dif_pos hc]
    simp only;rw[if_neg (by intro h;exact h1 h.2)]
   ·rw[dif_neg hc]
theorem ML{s:List UInt8}{i:Nat}{n d:Int}(h:s.idxOf? 47=some i) (hn:nn (s.take i)=some n) (hd:nn (s.drop (i+1))=some d) (hn2:(aJ n.natAbs).length≤200) (hd2:(aJ d.natAbs).length≤200):
  u4 s=if 1<d∧n.natAbs.gcd d.natAbs=1 then 0 else 2:=by
 unfold u4 cV;rw[h];simp only[hn];by_cases h0:0≤d
 ·rw[Rg hd h0]
  simp only[Nh];have e:d.toNat=d.natAbs:=by omega
  rw[e];by_cases hc:1<d∧n.natAbs.gcd d.natAbs=1
  ·rw[if_pos hc,dif_pos ⟨by omega,hc.2⟩]
   simp only;rw[if_pos ⟨hn2,hd2⟩]
  ·rw[if_neg hc,dif_neg (fun e=>hc ⟨by omega,e.2⟩)]
 ·have:xk (s.drop (i+1))=none:=by
   cases hx:xk (s.drop (i+1)) with
   |none=>rfl
   |some u=>
    rw[HP hx] at hd;cases hd;omega
  rw[this];rw[if_neg (fun e=>by omega)]
set_option maxHeartbeats 1600000 in
theorem nt(s:List UInt8) (hl8:s.length≤18) (mem:Mem):
  ACallsTo Tryz.prog 55 [.str s] mem (.int .i64 (u4 s)) mem:=by
 have hG:aL Tryz.prog 55=some Tryz.f55:=by kernel_rfl
 refine aq iE (lv:=fun _=>[]) (K:=1) rfl rfl ?_ mem;have hl:s.length≤1000000000:=by omega
 have hi:=ou s 47;cases hx:s.idxOf? 47 with
 |none=>
  rw[hx] at hi;simp only at hi;rw[OW hx];cases ho:okI s with
  |true=>simp[aa,hG,Tryz.f55,af,aC,bQ,be,cI,cq,bP,aO,hl,hi,oH,ho]
  |false=>simp[aa,hG,Tryz.f55,af,aC,bQ,be,cI,cq,bP,aO,hl,hi,oH,ho]
 |some i=>
  rw[hx] at hi;simp only at hi;have hi0:(0:Int)≤i:=by omega
  obtain⟨a,ha⟩:∃a,a=s.take i:=⟨_,rfl⟩
  obtain⟨b,hb⟩:∃b,b=s.drop (i+1):=⟨_,rfl⟩
  have la:a.length≤1000000000:=by rw[ha,List.length_take];omega
  have lb:b.length≤1000000000:=by rw[hb,List.length_drop];omega
  have la8:a.length≤18:=by rw[ha,List.length_take];omega
  have lb8:b.length≤18:=by rw[hb,List.length_drop];omega
  cases ho:okI a with
  |false=>
   rw[OU hx (by rw[←ha];exact ho)];simp[aa,hG,Tryz.f55,af,aC,bQ,be,cI,cq,bP,aO,hl,hi,hi0,←ha,←hb,la,oH,ho]
  |true=>
   cases ho2:okI b with
   |false=>
    rw[OV hx (by rw[←hb];exact ho2)];simp[aa,hG,Tryz.f55,af,aC,bQ,be,cI,cq,bP,aO,hl,hi,hi0,←ha,←hb,la,lb,oH,ho,ho2]
   |true=>
    have hn:∃n,nn a=some n∧(aJ n.natAbs).length≤200:=by
     unfold okI at ho;cases hx:nn a with
     |none=>rw[hx] at ho;cases ho
     |some n=>rw[hx] at ho;exact⟨n,rfl,by simpa using ho⟩
    have hd:∃n,nn b=some n∧(aJ n.natAbs).length≤200:=by
     unfold okI at ho2;cases hx:nn b with
     |none=>rw[hx] at ho2;cases ho2
     |some n=>rw[hx] at ho2;exact⟨n,rfl,by simpa using ho2⟩
    obtain⟨n,hn,n2⟩:=hn;obtain⟨d,hd,d2⟩:=hd;rw[ML hx (by rw[←ha];exact hn) (by rw[←hb];exact hd) n2 d2];have h1:nn [49]=some 1:=rfl;have hcmp:Ho d 1≤0↔¬1<d:=by
     unfold Ho;split
     ·constructor<;>intro h<;>omega
     ·split<;>constructor<;>intro h<;>omega
    have ha0:(a==[48])=decide (n=0):=by rw[dI hn,iX]
    by_cases c1:1<d
    ·have c1' :¬Ho d 1≤0:=fun e=>hcmp.1 e c1
     by_cases c2:n=0
     ·have c3:¬n.natAbs.gcd d.natAbs=1:=by subst c2;simp;omega
      rw[if_neg (fun e=>c3 e.2)];simp[aa,hG,Tryz.f55,af,aC,bQ,be,cI,cq,bP,aO,hl,hi,hi0,←ha,←hb,la,lb,oH,ho,ho2,hd,h1,c1',ha0,c2]
     ·by_cases c3:n.natAbs.gcd d.natAbs=1
      ·rw[if_pos ⟨c1,c3⟩]
       simp[aa,hG,Tryz.f55,af,aC,bQ,be,cI,cq,bP,aO,hl,hi,hi0,←ha,←hb,la,lb,oH,ho,ho2,hn,hd,h1,c1',ha0,c2,la8,lb8,oD,c3]
      ·rw[if_neg (fun e=>c3 e.2)]
       simp[aa,hG,Tryz.f55,af,aC,bQ,be,cI,cq,bP,aO,hl,hi,hi0,←ha,←hb,la,lb,oH,ho,ho2,hn,hd,h1,c1',ha0,c2,la8,lb8,oD,c3]
    ·have c1' :Ho d 1≤0:=hcmp.2 c1
     rw[if_neg (fun e=>c1 e.1)];simp[aa,hG,Tryz.f55,af,aC,bQ,be,cI,cq,bP,aO,hl,hi,hi0,←ha,←hb,la,lb,oH,ho,ho2,hd,h1,c1']
noncomputable def aA(f:FuncId) (args:List AV):Option AV:=
 match f,args with
 |55,[.str s]=>if s.length≤18 then some (.int .i64 (u4 s)) else none
 |88,[.str s,.str t]=>match cV s,cV t with
  |some a,some b=>if (aJ a.num.natAbs).length≤9∧(aJ a.den).length≤9∧(aJ b.num.natAbs).length≤9∧(aJ b.den).length≤9 then some (.str (ah (a-b))) else none
  |_,_=>none
 |136,[.str s,.str t]=>match cV s,cV t with
  |some a,some b=>if b≠0∧(aJ a.num.natAbs).length≤9∧(aJ a.den).length≤9∧(aJ b.num.natAbs).length≤9∧(aJ b.den).length≤9 then some (.tuple [.str (ah (a / b)),.int .i64 0]) else none
  |_,_=>none
 |f,args=>aC f args
theorem bK:OracleOk Tryz.prog (af aA):=bq fun f args v h mem=>by
 unfold aA at h;split at h
 ·split at h
  ·rename_i hc;cases h;exact nt _ hc mem
  ·cases h
 ·split at h
  ·rename_i m n hm hn
   split at h
   ·rename_i hc;cases h;rw[au hm,au hn];exact LM m n ⟨hc.1,hc.2.1⟩ ⟨hc.2.2.1,hc.2.2.2⟩ mem
   ·cases h
  ·cases h
 ·split at h
  ·rename_i m n hm hn
   split at h
   ·rename_i hc;cases h;rw[au hm,au hn];exact Ll m n hc.1 ⟨hc.2.1,hc.2.2.1⟩ ⟨hc.2.2.2.1,hc.2.2.2.2⟩ mem
   ·cases h
  ·cases h
 ·have:=iE.fn _ _ mem ⟨v,none,[]⟩ (by unfold af;simp only;rw[h])
  simpa [CallRes.mem] using this
theorem Q6{s:List UInt8}(h:u4 s=0):∃q,cV s=some q∧s=ah q∧(aJ q.num.natAbs).length≤200∧(aJ q.den).length≤200:=by
 unfold u4 at h;cases hq:cV s with
 |none=>rw[hq] at h;cases h
 |some q=>
  rw[hq] at h;simp only at h;split at h
  ·rename_i hc;exact⟨q,rfl,au hq,hc.1,hc.2⟩
  ·cases h
end Go.Proofs
