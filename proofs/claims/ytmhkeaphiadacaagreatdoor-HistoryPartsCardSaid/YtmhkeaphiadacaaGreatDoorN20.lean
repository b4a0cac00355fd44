/- See N58. -/
import Derived.Test.YtmhkeaphiadacaaGreatDoorN19
set_option linter.all false
namespace Go.Proofs
open Go.Eng
theorem NI(t:List UInt8):okT false t=(decide (t.length≤200)&&iz t):=by
 cases t with
 |nil=>rfl
 |cons c r=>
  unfold okT iz
  simp only[List.length_cons,Bool.or_false,List.all_cons]
  rw[Bool.eq_iff_iff]
  simp
  cases r with
  |nil=>simp
  |cons x r=>simp;grind
theorem PA(t:List UInt8):okT true t=(decide (t.length≤200)&&iz t&& !(t.head? ==some 48)):=by
 cases t with
 |nil=>rfl
 |cons c r=>
  unfold okT iz
  simp only[List.length_cons,Bool.or_true,Bool.and_true,List.all_cons,List.head?_cons]
  rw[Bool.eq_iff_iff]
  simp
  grind
def okI(s:List UInt8):Bool:=match nQ s with
 |some n=>decide ((aK n.natAbs).length≤200)
 |none=>false
theorem LP(r:List UInt8):nQ (45::r)=match yQ r with
  |some (u+1)=>some (Int.negSucc u)
  |_=>none:=rfl
theorem LQ{t:List UInt8}(h:∀r,t≠45::r):nQ t=(yQ t).map Int.ofNat:=by
 unfold nQ
 split
 ·rename_i r;exact absurd rfl (h r)
 ·cases yQ t<;>rfl
theorem J9{t:List UInt8}(h:iz t=true):yQ t=some (jA t):=by unfold yQ;rw[if_pos h]
theorem NF{t:List UInt8}(h:iz t=false):yQ t=none:=by unfold yQ;rw[h];rfl
theorem oV(s:List UInt8):okT (Lib.hasPrefix s [45]) (Lib.trimPrefix s [45])=okI s:=by
 unfold Lib.trimPrefix
 have plain:∀t:List UInt8,(∀r,t≠45::r)→okT false t=okI t:=by
  intro t ht
  rw[NI]
  unfold okI
  rw[LQ ht]
  cases hc:iz t with
  |true=>
   have:=yP hc
   rw[J9 hc]
   show _=decide ((aK (Int.ofNat (jA t)).natAbs).length≤200)
   rw[show(Int.ofNat (jA t)).natAbs=jA t from rfl,this,Bool.and_true]
  |false=>
   rw[NF hc,Bool.and_false];rfl
 cases s with
 |nil=>rw[show Lib.hasPrefix [] [45]=false from rfl];exact plain [] (by simp)
 |cons c r=>
  by_cases h:c=45
  ·subst h
   rw[show Lib.hasPrefix (45::r) [45]=true by simp[Lib.hasPrefix,List.isPrefixOf]]
   simp only[if_true,List.length_singleton,List.drop_succ_cons,List.drop_zero]
   rw[PA]
   unfold okI
   rw[LP]
   cases hc:iz r with
   |true=>
    rw[J9 hc,Bool.and_true]
    have hv:=yP hc
    cases hvd:jA r with
    |zero=>
     rw[hvd,oU] at hv
     rw[←hv];rfl
    |succ u=>
     rw[hvd] at hv
     have hh:=Hb (u+1) (by omega)
     rw[hv] at hh
     show _=decide ((aK (Int.negSucc u).natAbs).length≤200)
     rw[show(Int.negSucc u).natAbs=u+1 from rfl,hv]
     have:(r.head? ==some 48)=false:=by simpa using hh
     rw[this];simp
   |false=>
    rw[NF hc];simp
  ·have h1:Lib.hasPrefix (c::r) [45]=false:=by
    have h' :¬(45:UInt8)=c:=fun e=>h e.symm
    simp[Lib.hasPrefix,List.isPrefixOf,h']
   rw[h1]
   exact plain (c::r) (by intro r' e;exact h (List.cons.inj e).1)
theorem Pp{r:List UInt8}{n:Int}(h:nQ r=some n) (hn:0≤n):yQ r=some n.toNat:=by
 rw[dH h,ne hn,fR]
 congr 1;omega
theorem Hc{r:List UInt8}{n:Nat}(h:yQ r=some n):nQ r=some (n:Int):=by
 rw[jp h];exact gO n
theorem oK:∀(s:List UInt8) (c:UInt8),Lib.indexByte s c=match s.idxOf? c with
  |some i=>(i:Int)
  |none=> -1
 | [],_=>rfl
 |b::l,c=>by
  unfold Lib.indexByte
  rw[List.idxOf?_cons,oK l c]
  by_cases h:b=c
  ·subst h;simp
  ·have h' :(b==c)=false:=by simpa using h
   rw[h']
   simp only[Bool.false_eq_true,if_false]
   cases l.idxOf? c with
   |none=>simp
   |some i=>
    have hn:¬(((i:Int)== -1)=true):=by rw[beq_iff_eq];omega
    simp only[Option.map_some]
    rw[if_neg hn,Int.natCast_add];rfl
def vZ(s:List UInt8):Int:=match dE s with
 |some q=>if (aK q.num.natAbs).length≤200∧(aK q.den).length≤200 then 0 else 2
 |none=>2
noncomputable def bn(f:FuncId) (args:List AV):Option AV:=
 match f,args with
 |117,[.str s,.str t]=>match dE s,dE t with
  |some a,some b=>if (aK a.num.natAbs).length≤9∧(aK a.den).length≤9∧(aK b.num.natAbs).length≤9∧(aK b.den).length≤9 then some (.int .i64 (yk a b)) else none
  |_,_=>none
 |176,[.str s,.str t]=>match dE s,dE t with
  |some a,some b=>if (aK a.num.natAbs).length≤9∧(aK a.den).length≤9∧(aK b.num.natAbs).length≤9∧(aK b.den).length≤9 then some (.str (aN (a+b))) else none
  |_,_=>none
 |123,[.str s,.str t]=>match dE s,dE t with
  |some a,some b=>if (aK a.num.natAbs).length≤9∧(aK a.den).length≤9∧(aK b.num.natAbs).length≤9∧(aK b.den).length≤9 then some (.str (aN (a*b))) else none
  |_,_=>none
 |f,args=>bO f args
theorem kh:OracleOk Tryz.prog (ao bn):=bN fun f args v h mem=>by
 unfold bn at h
 split at h
 ·split at h
  ·rename_i m n hm hn
   split at h
   ·rename_i hc
    cases h
    rw[au hm,au hn]
    exact pX m n ⟨hc.1,hc.2.1⟩ ⟨hc.2.2.1,hc.2.2.2⟩ mem
   ·cases h
  ·cases h
 ·split at h
  ·rename_i m n hm hn
   split at h
   ·rename_i hc
    cases h
    rw[au hm,au hn]
    exact Ko m n ⟨hc.1,hc.2.1⟩ ⟨hc.2.2.1,hc.2.2.2⟩ mem
   ·cases h
  ·cases h
 ·split at h
  ·rename_i m n hm hn
   split at h
   ·rename_i hc
    cases h
    rw[au hm,au hn]
    exact KD m n ⟨hc.1,hc.2.1⟩ ⟨hc.2.2.1,hc.2.2.2⟩ mem
   ·cases h
  ·cases h
 ·have:=kg.fn _ _ mem ⟨v,none,[]⟩ (by unfold ao;simp only;rw[h])
  simpa [CallRes.mem] using this
theorem KK(a b:Rat) (ha:HH a) (hb:HH b) (mem:Mem):
  ACallsTo Tryz.prog 120 [.str (aN a),.str (aN b)] mem (.str (aN (a-b))) mem:=by
 have hG:aI Tryz.prog 120=some Tryz.f120:=by kernel_rfl
 refine aw kh (lv:=fun _=>[]) (K:=1) rfl rfl ?_ mem
 have lb:=kx hb
 obtain⟨a1,a2⟩:=ha
 obtain⟨b1,b2⟩:=hb
 have e:a+ -b=a-b:=(Rat.sub_eq_add_neg a b).symm
 simp[ab,hG,Tryz.f120,ao,bn,bO,bI,aR,lb,a1,a2,b1,b2,e]
theorem yC{b:Rat}(h:0<b.num):b⁻¹.num=(b.den:Int)∧b⁻¹.den=b.num.natAbs:=by
 rw[Rat.num_inv,Rat.den_inv,Int.sign_eq_one_of_pos h,if_neg (by omega)]
 exact⟨Int.one_mul _,rfl⟩
theorem yB{b:Rat}(h:b.num<0):b⁻¹.num= -(b.den:Int)∧b⁻¹.den=b.num.natAbs:=by
 rw[Rat.num_inv,Rat.den_inv,Int.sign_eq_neg_one_of_neg h,if_neg (by omega)]
 exact⟨by omega,rfl⟩
theorem Ks(a b:Rat) (hb0:b≠0) (ha:HH a) (hb:HH b) (mem:Mem):
  ACallsTo Tryz.prog 146 [.str (aN a),.str (aN b)] mem (.tuple [.str (aN (a / b)),.int .i64 0]) mem:=by
 have hG:aI Tryz.prog 146=some Tryz.f146:=by kernel_rfl
 refine aw kh (lv:=fun _=>[]) (K:=1) rfl rfl ?_ mem
 have lb:=kx hb
 obtain⟨a1,a2⟩:=ha
 obtain⟨b1,b2⟩:=hb
 have hn:b.num≠0:=fun e=>hb0 (wH.1 e)
 have hbz:(aN b==[48])=false:=by rw[bA];simpa using hb0
 have e:a*b⁻¹=a / b:=(Rat.div_def a b).symm
 obtain⟨m,hm⟩:∃m,m=b.num.natAbs:=⟨_,rfl⟩
 rw[←hm] at b1
 have lm:(aK m).length≤1000000000:=by omega
 have ld:(aK b.den).length≤1000000000:=by omega
 have fi:(aK b⁻¹.num.natAbs).length≤9∧(aK b⁻¹.den).length≤9:=by
  rcases Int.lt_or_gt_of_ne hn with h | h
  ·obtain⟨i1,i2⟩:=yB h
   rw[i1,i2,Int.natAbs_neg,Int.natAbs_natCast,←hm];exact⟨b2,b1⟩
  ·obtain⟨i1,i2⟩:=yC h
   rw[i1,i2,Int.natAbs_natCast,←hm];exact⟨b2,b1⟩
 have inv1:=fun h=>yB (b:=b) h
 have inv2:=fun h=>yC (b:=b) h
 obtain⟨w,hw⟩:∃w,w=b⁻¹:=⟨_,rfl⟩
 rw[←hw] at fi e inv1 inv2
 obtain⟨f1,f2⟩:=fi
 rcases Int.lt_or_gt_of_ne hn with h | h
 ·obtain⟨i1,i2⟩:=inv1 h
  have hg:(aN b)[0]? =some 45:=by rw[nj h];rfl
  have hin:cd (-b.num)=aK m:=by rw[ne (by omega),Int.natAbs_neg,hm]
  have ln:(cd b.num).length≤1000000000:=by have:=ez b.num;rw[←hm] at this;omega
  have ln2:(cd (-(b.den:Int))).length≤1000000000:=by
   have:=ez (-(b.den:Int))
   rw[Int.natAbs_neg,Int.natAbs_natCast] at this;omega
  by_cases hm1:m=1
  ·have hj:cd (-(b.den:Int))=aN w:=by
    unfold aN;rw[if_pos (by rw[i2,←hm,hm1]),i1]
   have hp:=congrArg nQ hj
   rw[bZ] at hp
   have hp:=hp.symm
   have l1:(aK 1).length≤1000000000:=by decide
   have lj:(aN w).length≤1000000000:=by rw[←hj];first | exact ln2 | exact ld
   simp[ab,hG,Tryz.f146,hbz,ao,bn,bO,bI,dx,cJ,aR,bZ,fR,gO,lb,hg,hin,ln,ln2,lm,ld,hm1,hj,hp,l1,lj,a1,a2,f1,f2,e]
  ·have hj:cd (-(b.den:Int))++47::aK m=aN w:=by
    unfold aN;rw[if_neg (by rw[i2,←hm];exact hm1),i1,i2,←hm]
   simp[ab,hG,Tryz.f146,hbz,ao,bn,bO,bI,dx,cJ,aR,bZ,fR,gO,lb,hg,hin,ln,ln2,lm,ld,hm1,hj,a1,a2,f1,f2,e]
 ·obtain⟨i1,i2⟩:=inv2 h
  obtain⟨c,r,hc,hd⟩:=pc (q:=b) (by omega)
  have hg:(aN b)[0]? =some c:=by rw[hc];rfl
  have hc45:=fp hd
  have hin:cd b.num=aK m:=by rw[ne (by omega),hm]
  by_cases hm1:m=1
  ·have hj:cd (b.den:Int)=aN w:=by
    unfold aN;rw[if_pos (by rw[i2,←hm,hm1]),i1]
   have hp:=congrArg nQ hj
   rw[bZ] at hp
   have hp:=hp.symm
   have l1:(aK 1).length≤1000000000:=by decide
   have lj:(aN w).length≤1000000000:=by rw[←hj];first | exact ln2 | exact ld
   simp[ab,hG,Tryz.f146,hbz,ao,bn,bO,bI,aR,bZ,fR,gO,lb,hg,hc45,hin,lm,ld,hm1,hj,hp,l1,lj,a1,a2,f1,f2,e]
  ·have hj:cd (b.den:Int)++47::aK m=aN w:=by
    unfold aN;rw[if_neg (by rw[i2,←hm];exact hm1),i1,i2,←hm]
   simp[ab,hG,Tryz.f146,hbz,ao,bn,bO,bI,aR,bZ,fR,gO,lb,hg,hc45,hin,lm,ld,hm1,hj,a1,a2,f1,f2,e]
theorem M9{s:List UInt8}(h:s.idxOf? 47=none):vZ s=if okI s then 0 else 2:=by
 unfold vZ dE okI
 rw[h]
 cases hn:nQ s with
 |none=>simp
 |some n=>
  have:(aK 1).length≤200:=by decide
  simp[this]
theorem M7{s:List UInt8}{i:Nat}(h:s.idxOf? 47=some i) (h1:okI (s.take i)=false):vZ s=2:=by
 unfold vZ dE
 rw[h]
 unfold okI at h1
 cases hn:nQ (s.take i) with
 |none=>simp[hn]
 |some n=>
  rw[hn] at h1
  simp only[decide_eq_false_iff_not] at h1
  simp only[hn]
  cases hd:yQ (s.drop (i+1)) with
  |none=>simp[hd]
  |some d=>
   simp only[hd,L5]
   by_cases hc:1<d∧n.natAbs.gcd d=1
   ·rw[dif_pos hc]
    simp only
    rw[if_neg (by intro h;exact h1 h.1)]
   ·rw[dif_neg hc]
theorem M8{s:List UInt8}{i:Nat}(h:s.idxOf? 47=some i) (h1:okI (s.drop (i+1))=false):vZ s=2:=by
 unfold vZ dE
 rw[h]
 unfold okI at h1
 cases hn:nQ (s.take i) with
 |none=>simp[hn]
 |some n=>
  simp only[hn]
  cases hd:yQ (s.drop (i+1)) with
  |none=>simp[hd]
  |some d=>
   rw[Hc hd] at h1
   simp only[decide_eq_false_iff_not,Int.natAbs_natCast] at h1
   simp only[hd,L5]
   by_cases hc:1<d∧n.natAbs.gcd d=1
   ·rw[dif_pos hc]
    simp only
    rw[if_neg (by intro h;exact h1 h.2)]
   ·rw[dif_neg hc]
theorem LD{s:List UInt8}{i:Nat}{n d:Int}(h:s.idxOf? 47=some i) (hn:nQ (s.take i)=some n) (hd:nQ (s.drop (i+1))=some d) (hn2:(aK n.natAbs).length≤200) (hd2:(aK d.natAbs).length≤200):
  vZ s=if 1<d∧n.natAbs.gcd d.natAbs=1 then 0 else 2:=by
 unfold vZ dE
 rw[h]
 simp only[hn]
 by_cases h0:0≤d
 ·rw[Pp hd h0]
  simp only[L5]
  have e:d.toNat=d.natAbs:=by omega
  rw[e]
  by_cases hc:1<d∧n.natAbs.gcd d.natAbs=1
  ·rw[if_pos hc,dif_pos ⟨by omega,hc.2⟩]
   simp only
   rw[if_pos ⟨hn2,hd2⟩]
  ·rw[if_neg hc,dif_neg (fun e=>hc ⟨by omega,e.2⟩)]
 ·have:yQ (s.drop (i+1))=none:=by
   cases hx:yQ (s.drop (i+1)) with
   |none=>rfl
   |some u=>
    rw[Hc hx] at hd
    cases hd;omega
  rw[this]
  rw[if_neg (fun e=>by omega)]
set_option maxHeartbeats 1600000 in
theorem nS(s:List UInt8) (hl8:s.length≤18) (mem:Mem):
  ACallsTo Tryz.prog 125 [.str s] mem (.int .i64 (vZ s)) mem:=by
 have hG:aI Tryz.prog 125=some Tryz.f125:=by kernel_rfl
 refine aw kh (lv:=fun _=>[]) (K:=1) rfl rfl ?_ mem
 have hl:s.length≤1000000000:=by omega
 have hi:=oK s 47
 cases hx:s.idxOf? 47 with
 |none=>
  rw[hx] at hi
  simp only at hi
  rw[M9 hx]
  cases ho:okI s with
  |true=>simp[ab,hG,Tryz.f125,ao,bn,bO,bI,dx,cJ,bX,aL,hl,hi,oV,ho]
  |false=>simp[ab,hG,Tryz.f125,ao,bn,bO,bI,dx,cJ,bX,aL,hl,hi,oV,ho]
 |some i=>
  rw[hx] at hi
  simp only at hi
  have hi0:(0:Int)≤i:=by omega
  obtain⟨a,ha⟩:∃a,a=s.take i:=⟨_,rfl⟩
  obtain⟨b,hb⟩:∃b,b=s.drop (i+1):=⟨_,rfl⟩
  have la:a.length≤1000000000:=by rw[ha,List.length_take];omega
  have lb:b.length≤1000000000:=by rw[hb,List.length_drop];omega
  have la8:a.length≤18:=by rw[ha,List.length_take];omega
  have lb8:b.length≤18:=by rw[hb,List.length_drop];omega
  cases ho:okI a with
  |false=>
   rw[M7 hx (by rw[←ha];exact ho)]
   simp[ab,hG,Tryz.f125,ao,bn,bO,bI,dx,cJ,bX,aL,hl,hi,hi0,←ha,←hb,la,lb,oV,ho]
  |true=>
   cases ho2:okI b with
   |false=>
    rw[M8 hx (by rw[←hb];exact ho2)]
    simp[ab,hG,Tryz.f125,ao,bn,bO,bI,dx,cJ,bX,aL,hl,hi,hi0,←ha,←hb,la,lb,oV,ho,ho2]
   |true=>
    have hn:∃n,nQ a=some n∧(aK n.natAbs).length≤200:=by
     unfold okI at ho
     cases hx:nQ a with
     |none=>rw[hx] at ho;cases ho
     |some n=>rw[hx] at ho;exact⟨n,rfl,by simpa using ho⟩
    have hd:∃n,nQ b=some n∧(aK n.natAbs).length≤200:=by
     unfold okI at ho2
     cases hx:nQ b with
     |none=>rw[hx] at ho2;cases ho2
     |some n=>rw[hx] at ho2;exact⟨n,rfl,by simpa using ho2⟩
    obtain⟨n,hn,n2⟩:=hn
    obtain⟨d,hd,d2⟩:=hd
    rw[LD hx (by rw[←ha];exact hn) (by rw[←hb];exact hd) n2 d2]
    have h1:nQ [49]=some 1:=rfl
    have hcmp:HG d 1≤0↔¬1<d:=by
     unfold HG
     split
     ·constructor<;>intro h<;>omega
     ·split<;>constructor<;>intro h<;>omega
    have ha0:(a==[48])=decide (n=0):=by rw[dH hn,iU]
    by_cases c1:1<d
    ·have c1' :¬HG d 1≤0:=fun e=>hcmp.1 e c1
     by_cases c2:n=0
     ·have c3:¬n.natAbs.gcd d.natAbs=1:=by subst c2;simp;omega
      rw[if_neg (fun e=>c3 e.2)]
      simp[ab,hG,Tryz.f125,ao,bn,bO,bI,dx,cJ,bX,aL,hl,hi,hi0,←ha,←hb,la,lb,oV,ho,ho2,hd,h1,c1',ha0,c2]
     ·by_cases c3:n.natAbs.gcd d.natAbs=1
      ·rw[if_pos ⟨c1,c3⟩]
       simp[ab,hG,Tryz.f125,ao,bn,bO,bI,dx,cJ,bX,aL,hl,hi,hi0,←ha,←hb,la,lb,oV,ho,ho2,hn,hd,h1,c1',ha0,c2,la8,lb8,uX,c3]
      ·rw[if_neg (fun e=>c3 e.2)]
       simp[ab,hG,Tryz.f125,ao,bn,bO,bI,dx,cJ,bX,aL,hl,hi,hi0,←ha,←hb,la,lb,oV,ho,ho2,hn,hd,h1,c1',ha0,c2,la8,lb8,uX,c3]
    ·have c1' :HG d 1≤0:=hcmp.2 c1
     rw[if_neg (fun e=>c1 e.1)]
     simp[ab,hG,Tryz.f125,ao,bn,bO,bI,dx,cJ,bX,aL,hl,hi,hi0,←ha,←hb,la,lb,oV,ho,ho2,hd,h1,c1']
noncomputable def bh(f:FuncId) (args:List AV):Option AV:=
 match f,args with
 |125,[.str s]=>if s.length≤18 then some (.int .i64 (vZ s)) else none
 |120,[.str s,.str t]=>match dE s,dE t with
  |some a,some b=>if (aK a.num.natAbs).length≤9∧(aK a.den).length≤9∧(aK b.num.natAbs).length≤9∧(aK b.den).length≤9 then some (.str (aN (a-b))) else none
  |_,_=>none
 |146,[.str s,.str t]=>match dE s,dE t with
  |some a,some b=>if b≠0∧(aK a.num.natAbs).length≤9∧(aK a.den).length≤9∧(aK b.num.natAbs).length≤9∧(aK b.den).length≤9 then some (.tuple [.str (aN (a / b)),.int .i64 0]) else none
  |_,_=>none
 |f,args=>bn f args
theorem dF:OracleOk Tryz.prog (ao bh):=bN fun f args v h mem=>by
 unfold bh at h
 split at h
 ·split at h
  ·rename_i hc;cases h;exact nS _ hc mem
  ·cases h
 ·split at h
  ·rename_i m n hm hn
   split at h
   ·rename_i hc;cases h;rw[au hm,au hn];exact KK m n ⟨hc.1,hc.2.1⟩ ⟨hc.2.2.1,hc.2.2.2⟩ mem
   ·cases h
  ·cases h
 ·split at h
  ·rename_i m n hm hn
   split at h
   ·rename_i hc;cases h;rw[au hm,au hn];exact Ks m n hc.1 ⟨hc.2.1,hc.2.2.1⟩ ⟨hc.2.2.2.1,hc.2.2.2.2⟩ mem
   ·cases h
  ·cases h
 ·have:=kh.fn _ _ mem ⟨v,none,[]⟩ (by unfold ao;simp only;rw[h])
  simpa [CallRes.mem] using this
theorem Pe{s:List UInt8}(h:vZ s=0):∃q,dE s=some q∧s=aN q∧(aK q.num.natAbs).length≤200∧(aK q.den).length≤200:=by
 unfold vZ at h
 cases hq:dE s with
 |none=>rw[hq] at h;cases h
 |some q=>
  rw[hq] at h
  simp only at h
  split at h
  ·rename_i hc;exact⟨q,rfl,au hq,hc.1,hc.2⟩
  ·cases h
end Go.Proofs
