/- See M58. -/
import Derived.Test.YtmhkeaphiadacaaGreatDoorM19
set_option linter.all false
namespace Go.Proofs
open Go.Eng
theorem No(t:List UInt8):okT false t=(decide (t.length≤200)&&ir t):=by
 cases t with
 |nil=>rfl
 |cons c r=>
  unfold okT ir
  simp only[List.length_cons,Bool.or_false,List.all_cons]
  rw[Bool.eq_iff_iff]
  simp
  cases r with
  |nil=>simp
  |cons x r=>simp;grind
theorem Ou(t:List UInt8):okT true t=(decide (t.length≤200)&&ir t&& !(t.head? ==some 48)):=by
 cases t with
 |nil=>rfl
 |cons c r=>
  unfold okT ir
  simp only[List.length_cons,Bool.or_true,Bool.and_true,List.all_cons,List.head?_cons]
  rw[Bool.eq_iff_iff]
  simp
  grind
def okI(s:List UInt8):Bool:=match nE s with
 |some n=>decide ((aI n.natAbs).length≤200)
 |none=>false
theorem Ly(r:List UInt8):nE (45::r)=match wL r with
  |some (u+1)=>some (Int.negSucc u)
  |_=>none:=rfl
theorem Kx{t:List UInt8}(h:∀r,t≠45::r):nE t=(wL t).map Int.ofNat:=by
 unfold nE
 split
 ·rename_i r;exact absurd rfl (h r)
 ·cases wL t<;>rfl
theorem Jk{t:List UInt8}(h:ir t=true):wL t=some (jv t):=by unfold wL;rw[if_pos h]
theorem Mu{t:List UInt8}(h:ir t=false):wL t=none:=by unfold wL;rw[h];rfl
theorem oC(s:List UInt8):okT (Lib.hasPrefix s [45]) (Lib.trimPrefix s [45])=okI s:=by
 unfold Lib.trimPrefix
 have plain:∀t:List UInt8,(∀r,t≠45::r)→okT false t=okI t:=by
  intro t ht
  rw[No]
  unfold okI
  rw[Kx ht]
  cases hc:ir t with
  |true=>
   have:=yF hc
   rw[Jk hc]
   show _=decide ((aI (Int.ofNat (jv t)).natAbs).length≤200)
   rw[show(Int.ofNat (jv t)).natAbs=jv t from rfl,this,Bool.and_true]
  |false=>
   rw[Mu hc,Bool.and_false];rfl
 cases s with
 |nil=>rw[show Lib.hasPrefix [] [45]=false from rfl];exact plain [] (by simp)
 |cons c r=>
  by_cases h:c=45
  ·subst h
   rw[show Lib.hasPrefix (45::r) [45]=true by simp[Lib.hasPrefix,List.isPrefixOf]]
   simp only[if_true,List.length_singleton,List.drop_succ_cons,List.drop_zero]
   rw[Ou]
   unfold okI
   rw[Ly]
   cases hc:ir r with
   |true=>
    rw[Jk hc,Bool.and_true]
    have hv:=yF hc
    cases hvd:jv r with
    |zero=>
     rw[hvd,nV] at hv
     rw[←hv];rfl
    |succ u=>
     rw[hvd] at hv
     have hh:=CM (u+1) (by omega)
     rw[hv] at hh
     show _=decide ((aI (Int.negSucc u).natAbs).length≤200)
     rw[show(Int.negSucc u).natAbs=u+1 from rfl,hv]
     have:(r.head? ==some 48)=false:=by simpa using hh
     rw[this];simp
   |false=>
    rw[Mu hc];simp
  ·have h1:Lib.hasPrefix (c::r) [45]=false:=by
    have h' :¬(45:UInt8)=c:=fun e=>h e.symm
    simp[Lib.hasPrefix,List.isPrefixOf,h']
   rw[h1]
   exact plain (c::r) (by intro r' e;exact h (List.cons.inj e).1)
theorem Ot{r:List UInt8}{n:Int}(h:nE r=some n) (hn:0≤n):wL r=some n.toNat:=by
 rw[dG h,mP hn,fH]
 congr 1;omega
theorem EW{r:List UInt8}{n:Nat}(h:wL r=some n):nE r=some (n:Int):=by
 rw[iW h];exact gC n
theorem nJ:∀(s:List UInt8) (c:UInt8),Lib.indexByte s c=match s.idxOf? c with
  |some i=>(i:Int)
  |none=> -1
 | [],_=>rfl
 |b::l,c=>by
  unfold Lib.indexByte
  rw[List.idxOf?_cons,nJ l c]
  by_cases h:b=c
  ·subst h;simp
  ·have h' :(b==c)=false:=by simpa using h
   rw[h']
   simp only[Bool.false_eq_true,if_false]
   cases l.idxOf? c with
   |none=>simp
   |some i=>
    have hn:¬(((i:Int)== -1)=true):=by rw[beq_iff_eq];omega
    simp only[Option.map_some]
    rw[if_neg hn,Int.natCast_add];rfl
def uS(s:List UInt8):Int:=match dz s with
 |some q=>if (aI q.num.natAbs).length≤200∧(aI q.den).length≤200 then 0 else 2
 |none=>2
noncomputable def bj(f:FuncId) (args:List AV):Option AV:=
 match f,args with
 |117,[.str s,.str t]=>match dz s,dz t with
  |some a,some b=>if (aI a.num.natAbs).length≤9∧(aI a.den).length≤9∧(aI b.num.natAbs).length≤9∧(aI b.den).length≤9 then some (.int .i64 (xV a b)) else none
  |_,_=>none
 |176,[.str s,.str t]=>match dz s,dz t with
  |some a,some b=>if (aI a.num.natAbs).length≤9∧(aI a.den).length≤9∧(aI b.num.natAbs).length≤9∧(aI b.den).length≤9 then some (.str (aK (a+b))) else none
  |_,_=>none
 |123,[.str s,.str t]=>match dz s,dz t with
  |some a,some b=>if (aI a.num.natAbs).length≤9∧(aI a.den).length≤9∧(aI b.num.natAbs).length≤9∧(aI b.den).length≤9 then some (.str (aK (a*b))) else none
  |_,_=>none
 |f,args=>bK f args
theorem jJ:OracleOk Tryz.prog (ao bj):=bI fun f args v h mem=>by
 unfold bj at h
 split at h
 ·split at h
  ·rename_i m n hm hn
   split at h
   ·rename_i hc
    cases h
    rw[ap hm,ap hn]
    exact pM m n ⟨hc.1,hc.2.1⟩ ⟨hc.2.2.1,hc.2.2.2⟩ mem
   ·cases h
  ·cases h
 ·split at h
  ·rename_i m n hm hn
   split at h
   ·rename_i hc
    cases h
    rw[ap hm,ap hn]
    exact K0 m n ⟨hc.1,hc.2.1⟩ ⟨hc.2.2.1,hc.2.2.2⟩ mem
   ·cases h
  ·cases h
 ·split at h
  ·rename_i m n hm hn
   split at h
   ·rename_i hc
    cases h
    rw[ap hm,ap hn]
    exact Kj m n ⟨hc.1,hc.2.1⟩ ⟨hc.2.2.1,hc.2.2.2⟩ mem
   ·cases h
  ·cases h
 ·have:=jB.fn _ _ mem ⟨v,none,[]⟩ (by unfold ao;simp only;rw[h])
  simpa [CallRes.mem] using this
theorem Lr(a b:Rat) (ha:Hb a) (hb:Hb b) (mem:Mem):
  ACallsTo Tryz.prog 120 [.str (aK a),.str (aK b)] mem (.str (aK (a-b))) mem:=by
 have hG:aF Tryz.prog 120=some Tryz.f120:=by kernel_rfl
 refine aq jJ (lv:=fun _=>[]) (K:=1) rfl rfl ?_ mem
 have lb:=jE hb
 obtain⟨a1,a2⟩:=ha
 obtain⟨b1,b2⟩:=hb
 have e:a+ -b=a-b:=(Rat.sub_eq_add_neg a b).symm
 simp[ad,hG,Tryz.f120,ao,bj,bK,bB,aM,lb,a1,a2,b1,b2,e]
theorem wR{b:Rat}(h:0<b.num):b⁻¹.num=(b.den:Int)∧b⁻¹.den=b.num.natAbs:=by
 rw[Rat.num_inv,Rat.den_inv,Int.sign_eq_one_of_pos h,if_neg (by omega)]
 exact⟨Int.one_mul _,rfl⟩
theorem yA{b:Rat}(h:b.num<0):b⁻¹.num= -(b.den:Int)∧b⁻¹.den=b.num.natAbs:=by
 rw[Rat.num_inv,Rat.den_inv,Int.sign_eq_neg_one_of_neg h,if_neg (by omega)]
 exact⟨by omega,rfl⟩
theorem KU(a b:Rat) (hb0:b≠0) (ha:Hb a) (hb:Hb b) (mem:Mem):
  ACallsTo Tryz.prog 146 [.str (aK a),.str (aK b)] mem (.tuple [.str (aK (a / b)),.int .i64 0]) mem:=by
 have hG:aF Tryz.prog 146=some Tryz.f146:=by kernel_rfl
 refine aq jJ (lv:=fun _=>[]) (K:=1) rfl rfl ?_ mem
 have lb:=jE hb
 obtain⟨a1,a2⟩:=ha
 obtain⟨b1,b2⟩:=hb
 have hn:b.num≠0:=fun e=>hb0 (vQ.1 e)
 have hbz:(aK b==[48])=false:=by rw[bq];simpa using hb0
 have e:a*b⁻¹=a / b:=(Rat.div_def a b).symm
 obtain⟨m,hm⟩:∃m,m=b.num.natAbs:=⟨_,rfl⟩
 rw[←hm] at b1
 have lm:(aI m).length≤1000000000:=by omega
 have ld:(aI b.den).length≤1000000000:=by omega
 have fi:(aI b⁻¹.num.natAbs).length≤9∧(aI b⁻¹.den).length≤9:=by
  rcases Int.lt_or_gt_of_ne hn with h | h
  ·obtain⟨i1,i2⟩:=yA h
   rw[i1,i2,Int.natAbs_neg,Int.natAbs_natCast,←hm];exact⟨b2,b1⟩
  ·obtain⟨i1,i2⟩:=wR h
   rw[i1,i2,Int.natAbs_natCast,←hm];exact⟨b2,b1⟩
 have inv1:=fun h=>yA (b:=b) h
 have inv2:=fun h=>wR (b:=b) h
 obtain⟨w,hw⟩:∃w,w=b⁻¹:=⟨_,rfl⟩
 rw[←hw] at fi e inv1 inv2
 obtain⟨f1,f2⟩:=fi
 rcases Int.lt_or_gt_of_ne hn with h | h
 ·obtain⟨i1,i2⟩:=inv1 h
  have hg:(aK b)[0]? =some 45:=by rw[ne h];rfl
  have hin:bW (-b.num)=aI m:=by rw[mP (by omega),Int.natAbs_neg,hm]
  have ln:(bW b.num).length≤1000000000:=by have:=ei b.num;rw[←hm] at this;omega
  have ln2:(bW (-(b.den:Int))).length≤1000000000:=by
   have:=ei (-(b.den:Int))
   rw[Int.natAbs_neg,Int.natAbs_natCast] at this;omega
  by_cases hm1:m=1
  ·have hj:bW (-(b.den:Int))=aK w:=by
    unfold aK;rw[if_pos (by rw[i2,←hm,hm1]),i1]
   have hp:=congrArg nE hj
   rw[bT] at hp
   have hp:=hp.symm
   have l1:(aI 1).length≤1000000000:=by decide
   have lj:(aK w).length≤1000000000:=by rw[←hj];first | exact ln2 | exact ld
   simp[ad,hG,Tryz.f146,hbz,ao,bj,bK,bB,dn,cI,aM,bT,fH,gC,lb,hg,hin,ln,ln2,lm,ld,hm1,hj,hp,l1,lj,a1,a2,f1,f2,e]
  ·have hj:bW (-(b.den:Int))++47::aI m=aK w:=by
    unfold aK;rw[if_neg (by rw[i2,←hm];exact hm1),i1,i2,←hm]
   simp[ad,hG,Tryz.f146,hbz,ao,bj,bK,bB,dn,cI,aM,bT,fH,gC,lb,hg,hin,ln,ln2,lm,ld,hm1,hj,a1,a2,f1,f2,e]
 ·obtain⟨i1,i2⟩:=inv2 h
  obtain⟨c,r,hc,hd⟩:=nT (q:=b) (by omega)
  have hg:(aK b)[0]? =some c:=by rw[hc];rfl
  have hc45:=ff hd
  have hin:bW b.num=aI m:=by rw[mP (by omega),hm]
  by_cases hm1:m=1
  ·have hj:bW (b.den:Int)=aK w:=by
    unfold aK;rw[if_pos (by rw[i2,←hm,hm1]),i1]
   have hp:=congrArg nE hj
   rw[bT] at hp
   have hp:=hp.symm
   have l1:(aI 1).length≤1000000000:=by decide
   have lj:(aK w).length≤1000000000:=by rw[←hj];first | exact ln2 | exact ld
   simp[ad,hG,Tryz.f146,hbz,ao,bj,bK,bB,aM,bT,fH,gC,lb,hg,hc45,hin,lm,ld,hm1,hj,hp,l1,lj,a1,a2,f1,f2,e]
  ·have hj:bW (b.den:Int)++47::aI m=aK w:=by
    unfold aK;rw[if_neg (by rw[i2,←hm];exact hm1),i1,i2,←hm]
   simp[ad,hG,Tryz.f146,hbz,ao,bj,bK,bB,aM,bT,fH,gC,lb,hg,hc45,hin,lm,ld,hm1,hj,a1,a2,f1,f2,e]
theorem Nw{s:List UInt8}(h:s.idxOf? 47=none):uS s=if okI s then 0 else 2:=by
 unfold uS dz okI
 rw[h]
 cases hn:nE s with
 |none=>simp
 |some n=>
  have:(aI 1).length≤200:=by decide
  simp[this]
theorem Nr{s:List UInt8}{i:Nat}(h:s.idxOf? 47=some i) (h1:okI (s.take i)=false):uS s=2:=by
 unfold uS dz
 rw[h]
 unfold okI at h1
 cases hn:nE (s.take i) with
 |none=>simp[hn]
 |some n=>
  rw[hn] at h1
  simp only[decide_eq_false_iff_not] at h1
  simp only[hn]
  cases hd:wL (s.drop (i+1)) with
  |none=>simp[hd]
  |some d=>
   simp only[hd,Lc]
   by_cases hc:1<d∧n.natAbs.gcd d=1
   ·rw[dif_pos hc]
    simp only
    rw[if_neg (by intro h;exact h1 h.1)]
   ·rw[dif_neg hc]
theorem MU{s:List UInt8}{i:Nat}(h:s.idxOf? 47=some i) (h1:okI (s.drop (i+1))=false):uS s=2:=by
 unfold uS dz
 rw[h]
 unfold okI at h1
 cases hn:nE (s.take i) with
 |none=>simp[hn]
 |some n=>
  simp only[hn]
  cases hd:wL (s.drop (i+1)) with
  |none=>simp[hd]
  |some d=>
   rw[EW hd] at h1
   simp only[decide_eq_false_iff_not,Int.natAbs_natCast] at h1
   simp only[hd,Lc]
   by_cases hc:1<d∧n.natAbs.gcd d=1
   ·rw[dif_pos hc]
    simp only
    rw[if_neg (by intro h;exact h1 h.2)]
   ·rw[dif_neg hc]
theorem Lf{s:List UInt8}{i:Nat}{n d:Int}(h:s.idxOf? 47=some i) (hn:nE (s.take i)=some n) (hd:nE (s.drop (i+1))=some d) (hn2:(aI n.natAbs).length≤200) (hd2:(aI d.natAbs).length≤200):
  uS s=if 1<d∧n.natAbs.gcd d.natAbs=1 then 0 else 2:=by
 unfold uS dz
 rw[h]
 simp only[hn]
 by_cases h0:0≤d
 ·rw[Ot hd h0]
  simp only[Lc]
  have e:d.toNat=d.natAbs:=by omega
  rw[e]
  by_cases hc:1<d∧n.natAbs.gcd d.natAbs=1
  ·rw[if_pos hc,dif_pos ⟨by omega,hc.2⟩]
   simp only
   rw[if_pos ⟨hn2,hd2⟩]
  ·rw[if_neg hc,dif_neg (fun e=>hc ⟨by omega,e.2⟩)]
 ·have:wL (s.drop (i+1))=none:=by
   cases hx:wL (s.drop (i+1)) with
   |none=>rfl
   |some u=>
    rw[EW hx] at hd
    cases hd;omega
  rw[this]
  rw[if_neg (fun e=>by omega)]
set_option maxHeartbeats 1600000 in
theorem ot(s:List UInt8) (hl8:s.length≤18) (mem:Mem):
  ACallsTo Tryz.prog 125 [.str s] mem (.int .i64 (uS s)) mem:=by
 have hG:aF Tryz.prog 125=some Tryz.f125:=by kernel_rfl
 refine aq jJ (lv:=fun _=>[]) (K:=1) rfl rfl ?_ mem
 have hl:s.length≤1000000000:=by omega
 have hi:=nJ s 47
 cases hx:s.idxOf? 47 with
 |none=>
  rw[hx] at hi
  simp only at hi
  rw[Nw hx]
  cases ho:okI s with
  |true=>simp[ad,hG,Tryz.f125,ao,bj,bK,bB,dn,cI,bS,aJ,hl,hi,oC,ho]
  |false=>simp[ad,hG,Tryz.f125,ao,bj,bK,bB,dn,cI,bS,aJ,hl,hi,oC,ho]
 |some i=>
  rw[hx] at hi
  simp only at hi
  have hi0:(0:Int)≤i:=by omega
  obtain⟨a,ha⟩:∃a,a=s.take i:=⟨_,rfl⟩
  obtain⟨b,hb⟩:∃b,b=s.drop (i+1):=⟨_,rfl⟩
  have la:a.length≤1000000000:=by rw[ha,List.length_take];omega
  have lb:b.length≤1000000000:=by rw[hb,List.length_drop];omega
  have la8:a.length≤18:=by rw[ha,List.length_take];omega
  have lb8:b.length≤18:=by rw[hb,List.length_drop];omega
  cases ho:okI a with
  |false=>
   rw[Nr hx (by rw[←ha];exact ho)]
   simp[ad,hG,Tryz.f125,ao,bj,bK,bB,dn,cI,bS,aJ,hl,hi,hi0,←ha,←hb,la,lb,oC,ho]
  |true=>
   cases ho2:okI b with
   |false=>
    rw[MU hx (by rw[←hb];exact ho2)]
    simp[ad,hG,Tryz.f125,ao,bj,bK,bB,dn,cI,bS,aJ,hl,hi,hi0,←ha,←hb,la,lb,oC,ho,ho2]
   |true=>
    have hn:∃n,nE a=some n∧(aI n.natAbs).length≤200:=by
     unfold okI at ho
     cases hx:nE a with
     |none=>rw[hx] at ho;cases ho
     |some n=>rw[hx] at ho;exact⟨n,rfl,by simpa using ho⟩
    have hd:∃n,nE b=some n∧(aI n.natAbs).length≤200:=by
     unfold okI at ho2
     cases hx:nE b with
     |none=>rw[hx] at ho2;cases ho2
     |some n=>rw[hx] at ho2;exact⟨n,rfl,by simpa using ho2⟩
    obtain⟨n,hn,n2⟩:=hn
    obtain⟨d,hd,d2⟩:=hd
    rw[Lf hx (by rw[←ha];exact hn) (by rw[←hb];exact hd) n2 d2]
    have h1:nE [49]=some 1:=rfl
    have hcmp:G9 d 1≤0↔¬1<d:=by
     unfold G9
     split
     ·constructor<;>intro h<;>omega
     ·split<;>constructor<;>intro h<;>omega
    have ha0:(a==[48])=decide (n=0):=by rw[dG hn,iK]
    by_cases c1:1<d
    ·have c1' :¬G9 d 1≤0:=fun e=>hcmp.1 e c1
     by_cases c2:n=0
     ·have c3:¬n.natAbs.gcd d.natAbs=1:=by subst c2;simp;omega
      rw[if_neg (fun e=>c3 e.2)]
      simp[ad,hG,Tryz.f125,ao,bj,bK,bB,dn,cI,bS,aJ,hl,hi,hi0,←ha,←hb,la,lb,oC,ho,ho2,hd,h1,c1',ha0,c2]
     ·by_cases c3:n.natAbs.gcd d.natAbs=1
      ·rw[if_pos ⟨c1,c3⟩]
       simp[ad,hG,Tryz.f125,ao,bj,bK,bB,dn,cI,bS,aJ,hl,hi,hi0,←ha,←hb,la,lb,oC,ho,ho2,hn,hd,h1,c1',ha0,c2,la8,lb8,ut,c3]
      ·rw[if_neg (fun e=>c3 e.2)]
       simp[ad,hG,Tryz.f125,ao,bj,bK,bB,dn,cI,bS,aJ,hl,hi,hi0,←ha,←hb,la,lb,oC,ho,ho2,hn,hd,h1,c1',ha0,c2,la8,lb8,ut,c3]
    ·have c1' :G9 d 1≤0:=hcmp.2 c1
     rw[if_neg (fun e=>c1 e.1)]
     simp[ad,hG,Tryz.f125,ao,bj,bK,bB,dn,cI,bS,aJ,hl,hi,hi0,←ha,←hb,la,lb,oC,ho,ho2,hd,h1,c1']
noncomputable def aZ(f:FuncId) (args:List AV):Option AV:=
 match f,args with
 |125,[.str s]=>if s.length≤18 then some (.int .i64 (uS s)) else none
 |120,[.str s,.str t]=>match dz s,dz t with
  |some a,some b=>if (aI a.num.natAbs).length≤9∧(aI a.den).length≤9∧(aI b.num.natAbs).length≤9∧(aI b.den).length≤9 then some (.str (aK (a-b))) else none
  |_,_=>none
 |146,[.str s,.str t]=>match dz s,dz t with
  |some a,some b=>if b≠0∧(aI a.num.natAbs).length≤9∧(aI a.den).length≤9∧(aI b.num.natAbs).length≤9∧(aI b.den).length≤9 then some (.tuple [.str (aK (a / b)),.int .i64 0]) else none
  |_,_=>none
 |f,args=>bj f args
theorem dA:OracleOk Tryz.prog (ao aZ):=bI fun f args v h mem=>by
 unfold aZ at h
 split at h
 ·split at h
  ·rename_i hc;cases h;exact ot _ hc mem
  ·cases h
 ·split at h
  ·rename_i m n hm hn
   split at h
   ·rename_i hc;cases h;rw[ap hm,ap hn];exact Lr m n ⟨hc.1,hc.2.1⟩ ⟨hc.2.2.1,hc.2.2.2⟩ mem
   ·cases h
  ·cases h
 ·split at h
  ·rename_i m n hm hn
   split at h
   ·rename_i hc;cases h;rw[ap hm,ap hn];exact KU m n hc.1 ⟨hc.2.1,hc.2.2.1⟩ ⟨hc.2.2.2.1,hc.2.2.2.2⟩ mem
   ·cases h
  ·cases h
 ·have:=jJ.fn _ _ mem ⟨v,none,[]⟩ (by unfold ao;simp only;rw[h])
  simpa [CallRes.mem] using this
theorem O7{s:List UInt8}(h:uS s=0):∃q,dz s=some q∧s=aK q∧(aI q.num.natAbs).length≤200∧(aI q.den).length≤200:=by
 unfold uS at h
 cases hq:dz s with
 |none=>rw[hq] at h;cases h
 |some q=>
  rw[hq] at h
  simp only at h
  split at h
  ·rename_i hc;exact⟨q,rfl,ap hq,hc.1,hc.2⟩
  ·cases h
end Go.Proofs
