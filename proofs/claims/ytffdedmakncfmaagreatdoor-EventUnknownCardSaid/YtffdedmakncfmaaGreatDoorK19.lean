/- See K51. -/
import Derived.Test.YtffdedmakncfmaaGreatDoorK18
set_option linter.all false
namespace Go.Proofs
open Go.Eng
theorem N9(t:List UInt8):okT false t=(decide (t.length≤200)&&gm t):=by
 cases t with
 |nil=>rfl
 |cons c r=>
  unfold okT gm
  simp only[List.length_cons,Bool.or_false,List.all_cons]
  rw[Bool.eq_iff_iff]
  simp
  cases r with
  |nil=>simp
  |cons x r=>simp;grind
theorem P7(t:List UInt8):okT true t=(decide (t.length≤200)&&gm t&& !(t.head? ==some 48)):=by
 cases t with
 |nil=>rfl
 |cons c r=>
  unfold okT gm
  simp only[List.length_cons,Bool.or_true,Bool.and_true,List.all_cons,List.head?_cons]
  rw[Bool.eq_iff_iff]
  simp
  grind
def okI(s:List UInt8):Bool:=match jF s with
 |some n=>decide ((au n.natAbs).length≤200)
 |none=>false
theorem L8(r:List UInt8):jF (45::r)=match vN r with
  |some (u+1)=>some (Int.negSucc u)
  |_=>none:=rfl
theorem Ma{t:List UInt8}(h:∀r,t≠45::r):jF t=(vN t).map Int.ofNat:=by
 unfold jF
 split
 ·rename_i r;exact absurd rfl (h r)
 ·cases vN t<;>rfl
theorem Kb{t:List UInt8}(h:gm t=true):vN t=some (fx t):=by unfold vN;rw[if_pos h]
theorem N5{t:List UInt8}(h:gm t=false):vN t=none:=by unfold vN;rw[h];rfl
theorem oM(s:List UInt8):okT (Lib.hasPrefix s [45]) (Lib.trimPrefix s [45])=okI s:=by
 unfold Lib.trimPrefix
 have plain:∀t:List UInt8,(∀r,t≠45::r)→okT false t=okI t:=by
  intro t ht
  rw[N9]
  unfold okI
  rw[Ma ht]
  cases hc:gm t with
  |true=>
   have:=tw hc
   rw[Kb hc]
   show _=decide ((au (Int.ofNat (fx t)).natAbs).length≤200)
   rw[show(Int.ofNat (fx t)).natAbs=fx t from rfl,this,Bool.and_true]
  |false=>
   rw[N5 hc,Bool.and_false];rfl
 cases s with
 |nil=>rw[show Lib.hasPrefix [] [45]=false from rfl];exact plain [] (by simp)
 |cons c r=>
  by_cases h:c=45
  ·subst h
   rw[show Lib.hasPrefix (45::r) [45]=true by simp[Lib.hasPrefix,List.isPrefixOf]]
   simp only[if_true,List.length_singleton,List.drop_succ_cons,List.drop_zero]
   rw[P7]
   unfold okI
   rw[L8]
   cases hc:gm r with
   |true=>
    rw[Kb hc,Bool.and_true]
    have hv:=tw hc
    cases hvd:fx r with
    |zero=>
     rw[hvd,oL] at hv
     rw[←hv];rfl
    |succ u=>
     rw[hvd] at hv
     have hh:=zv (u+1) (by omega)
     rw[hv] at hh
     show _=decide ((au (Int.negSucc u).natAbs).length≤200)
     rw[show(Int.negSucc u).natAbs=u+1 from rfl,hv]
     have:(r.head? ==some 48)=false:=by simpa using hh
     rw[this];simp
   |false=>
    rw[N5 hc];simp
  ·have h1:Lib.hasPrefix (c::r) [45]=false:=by
    have h' :¬(45:UInt8)=c:=fun e=>h e.symm
    simp[Lib.hasPrefix,List.isPrefixOf,h']
   rw[h1]
   exact plain (c::r) (by intro r' e;exact h (List.cons.inj e).1)
theorem PT{r:List UInt8}{n:Int}(h:jF r=some n) (hn:0≤n):vN r=some n.toNat:=by
 rw[cg h,gP hn,cL]
 congr 1;omega
theorem Hb{r:List UInt8}{n:Nat}(h:vN r=some n):jF r=some (n:Int):=by
 rw[fK h];exact cX n
theorem oD:∀(s:List UInt8) (c:UInt8),Lib.indexByte s c=match s.idxOf? c with
  |some i=>(i:Int)
  |none=> -1
 | [],_=>rfl
 |b::l,c=>by
  unfold Lib.indexByte
  rw[List.idxOf?_cons,oD l c]
  by_cases h:b=c
  ·subst h;simp
  ·have h' :(b==c)=false:=by simpa using h
   rw[h']
   simp only[Bool.false_eq_true,if_false]
   cases l.idxOf? c with
   |none=>simp
   |some i=>
    have hn:¬(((i:Int)== -1)=true):=by rw[beq_iff_eq];omega
    simp only[Option.map_some]
    rw[if_neg hn,Int.natCast_add];rfl
def xA(s:List UInt8):Int:=match dU s with
 |some q=>if (au q.num.natAbs).length≤200∧(au q.den).length≤200 then 0 else 2
 |none=>2
noncomputable def aY(f:FuncId) (args:List AV):Option AV:=
 match f,args with
 |111,[.str s,.str t]=>match dU s,dU t with
  |some a,some b=>if (au a.num.natAbs).length≤40000∧(au a.den).length≤40000∧(au b.num.natAbs).length≤40000∧(au b.den).length≤40000 then some (.int .i64 (yS a b)) else none
  |_,_=>none
 |86,[.str s,.str t]=>match dU s,dU t with
  |some a,some b=>if (au a.num.natAbs).length≤40000∧(au a.den).length≤40000∧(au b.num.natAbs).length≤40000∧(au b.den).length≤40000 then some (.str (aB (a+b))) else none
  |_,_=>none
 |47,[.str s,.str t]=>match dU s,dU t with
  |some a,some b=>if (au a.num.natAbs).length≤40000∧(au a.den).length≤40000∧(au b.num.natAbs).length≤40000∧(au b.den).length≤40000 then some (.str (aB (a*b))) else none
  |_,_=>none
 |f,args=>bj f args
theorem jR:OracleOk Tryz.prog (ai aY):=bM fun f args v h mem=>by
 unfold aY at h
 split at h
 ·split at h
  ·rename_i m n hm hn
   split at h
   ·rename_i hc
    cases h
    rw[aD hm,aD hn]
    exact qi m n ⟨hc.1,hc.2.1⟩ ⟨hc.2.2.1,hc.2.2.2⟩ mem
   ·cases h
  ·cases h
 ·split at h
  ·rename_i m n hm hn
   split at h
   ·rename_i hc
    cases h
    rw[aD hm,aD hn]
    exact Kx m n ⟨hc.1,hc.2.1⟩ ⟨hc.2.2.1,hc.2.2.2⟩ mem
   ·cases h
  ·cases h
 ·split at h
  ·rename_i m n hm hn
   split at h
   ·rename_i hc
    cases h
    rw[aD hm,aD hn]
    exact KM m n ⟨hc.1,hc.2.1⟩ ⟨hc.2.2.1,hc.2.2.2⟩ mem
   ·cases h
  ·cases h
 ·have:=iw.fn _ _ mem ⟨v,none,[]⟩ (by unfold ai;simp only;rw[h])
  simpa [CallRes.mem] using this
theorem KV(a b:Rat) (ha:ky a) (hb:ky b) (mem:Mem):
  ACallsTo Tryz.prog 88 [.str (aB a),.str (aB b)] mem (.str (aB (a-b))) mem:=by
 have hG:aN Tryz.prog 88=some Tryz.f88:=by kernel_rfl
 refine aq jR (lv:=fun _=>[]) (K:=1) rfl rfl ?_ mem
 have lb:=ft hb
 obtain⟨a1,a2⟩:=ha
 obtain⟨b1,b2⟩:=hb
 have e:a+ -b=a-b:=(Rat.sub_eq_add_neg a b).symm
 simp[aa,hG,Tryz.f88,ai,aY,bj,aX,aC,lb,a1,a2,b1,b2,e]
theorem zb{b:Rat}(h:0<b.num):b⁻¹.num=(b.den:Int)∧b⁻¹.den=b.num.natAbs:=by
 rw[Rat.num_inv,Rat.den_inv,Int.sign_eq_one_of_pos h,if_neg (by omega)]
 exact⟨Int.one_mul _,rfl⟩
theorem za{b:Rat}(h:b.num<0):b⁻¹.num= -(b.den:Int)∧b⁻¹.den=b.num.natAbs:=by
 rw[Rat.num_inv,Rat.den_inv,Int.sign_eq_neg_one_of_neg h,if_neg (by omega)]
 exact⟨by omega,rfl⟩
theorem KB(a b:Rat) (hb0:b≠0) (ha:ky a) (hb:ky b) (mem:Mem):
  ACallsTo Tryz.prog 87 [.str (aB a),.str (aB b)] mem (.tuple [.str (aB (a / b)),.int .i64 0]) mem:=by
 have hG:aN Tryz.prog 87=some Tryz.f87:=by kernel_rfl
 refine aq jR (lv:=fun _=>[]) (K:=1) rfl rfl ?_ mem
 have lb:=ft hb
 obtain⟨a1,a2⟩:=ha
 obtain⟨b1,b2⟩:=hb
 have hn:b.num≠0:=fun e=>hb0 (pW.1 e)
 have hbz:(aB b==[48])=false:=by rw[aW];simpa using hb0
 have e:a*b⁻¹=a / b:=(Rat.div_def a b).symm
 obtain⟨m,hm⟩:∃m,m=b.num.natAbs:=⟨_,rfl⟩
 rw[←hm] at b1
 have lm:(au m).length≤1000000000:=by omega
 have ld:(au b.den).length≤1000000000:=by omega
 have fi:(au b⁻¹.num.natAbs).length≤40000∧(au b⁻¹.den).length≤40000:=by
  rcases Int.lt_or_gt_of_ne hn with h | h
  ·obtain⟨i1,i2⟩:=za h
   rw[i1,i2,Int.natAbs_neg,Int.natAbs_natCast,←hm];exact⟨b2,b1⟩
  ·obtain⟨i1,i2⟩:=zb h
   rw[i1,i2,Int.natAbs_natCast,←hm];exact⟨b2,b1⟩
 have inv1:=fun h=>za (b:=b) h
 have inv2:=fun h=>zb (b:=b) h
 obtain⟨w,hw⟩:∃w,w=b⁻¹:=⟨_,rfl⟩
 rw[←hw] at fi e inv1 inv2
 obtain⟨f1,f2⟩:=fi
 rcases Int.lt_or_gt_of_ne hn with h | h
 ·obtain⟨i1,i2⟩:=inv1 h
  have hg:(aB b)[0]? =some 45:=by rw[jx h];rfl
  have hin:bE (-b.num)=au m:=by rw[gP (by omega),Int.natAbs_neg,hm]
  have ln:(bE b.num).length≤1000000000:=by have:=cm b.num;rw[←hm] at this;omega
  have ln2:(bE (-(b.den:Int))).length≤1000000000:=by
   have:=cm (-(b.den:Int))
   rw[Int.natAbs_neg,Int.natAbs_natCast] at this;omega
  by_cases hm1:m=1
  ·have hj:bE (-(b.den:Int))=aB w:=by
    unfold aB;rw[if_pos (by rw[i2,←hm,hm1]),i1]
   have hp:=congrArg jF hj
   rw[aL] at hp
   have hp:=hp.symm
   have l1:(au 1).length≤1000000000:=by decide
   have lj:(aB w).length≤1000000000:=by rw[←hj];first | exact ln2 | exact ld
   simp[aa,hG,Tryz.f87,hbz,ai,aY,bj,aX,bO,aF,aC,aL,cL,cX,lb,hg,hin,ln,ld,hm1,hj,hp,l1,lj,a1,a2,f1,f2,e]
  ·have hj:bE (-(b.den:Int))++47::au m=aB w:=by
    unfold aB;rw[if_neg (by rw[i2,←hm];exact hm1),i1,i2,←hm]
   simp[aa,hG,Tryz.f87,hbz,ai,aY,bj,aX,bO,aF,aC,aL,cL,cX,lb,hg,hin,ln,ln2,lm,ld,hm1,hj,a1,a2,f1,f2,e]
 ·obtain⟨i1,i2⟩:=inv2 h
  obtain⟨c,r,hc,hd⟩:=kY (q:=b) (by omega)
  have hg:(aB b)[0]? =some c:=by rw[hc];rfl
  have hc45:=eh hd
  have hin:bE b.num=au m:=by rw[gP (by omega),hm]
  by_cases hm1:m=1
  ·have hj:bE (b.den:Int)=aB w:=by
    unfold aB;rw[if_pos (by rw[i2,←hm,hm1]),i1]
   have hp:=congrArg jF hj
   rw[aL] at hp
   have hp:=hp.symm
   have l1:(au 1).length≤1000000000:=by decide
   have lj:(aB w).length≤1000000000:=by rw[←hj];first | exact ln2 | exact ld
   simp[aa,hG,Tryz.f87,hbz,ai,aY,bj,aX,aC,cL,cX,lb,hg,hc45,hin,ld,hm1,hj,l1,a1,a2,f1,f2,e]
  ·have hj:bE (b.den:Int)++47::au m=aB w:=by
    unfold aB;rw[if_neg (by rw[i2,←hm];exact hm1),i1,i2,←hm]
   simp[aa,hG,Tryz.f87,hbz,ai,aY,bj,aX,aC,cL,cX,lb,hg,hc45,hin,lm,ld,hm1,hj,a1,a2,f1,f2,e]
theorem Nv{s:List UInt8}(h:s.idxOf? 47=none):xA s=if okI s then 0 else 2:=by
 unfold xA dU okI
 rw[h]
 cases hn:jF s with
 |none=>simp
 |some n=>
  have:(au 1).length≤200:=by decide
  simp[this]
theorem Nt{s:List UInt8}{i:Nat}(h:s.idxOf? 47=some i) (h1:okI (s.take i)=false):xA s=2:=by
 unfold xA dU
 rw[h]
 unfold okI at h1
 cases hn:jF (s.take i) with
 |none=>simp[hn]
 |some n=>
  rw[hn] at h1
  simp only[decide_eq_false_iff_not] at h1
  simp only[hn]
  cases hd:vN (s.drop (i+1)) with
  |none=>simp[]
  |some d=>
   simp only[Mn]
   by_cases hc:1<d∧n.natAbs.gcd d=1
   ·rw[dif_pos hc]
    simp only
    rw[if_neg (by intro h;exact h1 h.1)]
   ·rw[dif_neg hc]
theorem Nu{s:List UInt8}{i:Nat}(h:s.idxOf? 47=some i) (h1:okI (s.drop (i+1))=false):xA s=2:=by
 unfold xA dU
 rw[h]
 unfold okI at h1
 cases hn:jF (s.take i) with
 |none=>simp[hn]
 |some n=>
  simp only[hn]
  cases hd:vN (s.drop (i+1)) with
  |none=>simp[]
  |some d=>
   rw[Hb hd] at h1
   simp only[decide_eq_false_iff_not,Int.natAbs_natCast] at h1
   simp only[Mn]
   by_cases hc:1<d∧n.natAbs.gcd d=1
   ·rw[dif_pos hc]
    simp only
    rw[if_neg (by intro h;exact h1 h.2)]
   ·rw[dif_neg hc]
theorem LP{s:List UInt8}{i:Nat}{n d:Int}(h:s.idxOf? 47=some i) (hn:jF (s.take i)=some n) (hd:jF (s.drop (i+1))=some d) (hn2:(au n.natAbs).length≤200) (hd2:(au d.natAbs).length≤200):
  xA s=if 1<d∧n.natAbs.gcd d.natAbs=1 then 0 else 2:=by
 unfold xA dU
 rw[h]
 simp only[hn]
 by_cases h0:0≤d
 ·rw[PT hd h0]
  simp only[Mn]
  have e:d.toNat=d.natAbs:=by omega
  rw[e]
  by_cases hc:1<d∧n.natAbs.gcd d.natAbs=1
  ·rw[if_pos hc,dif_pos ⟨by omega,hc.2⟩]
   simp only
   rw[if_pos ⟨hn2,hd2⟩]
  ·rw[if_neg hc,dif_neg (fun e=>hc ⟨by omega,e.2⟩)]
 ·have:vN (s.drop (i+1))=none:=by
   cases hx:vN (s.drop (i+1)) with
   |none=>rfl
   |some u=>
    rw[Hb hx] at hd
    cases hd;omega
  rw[this]
  rw[if_neg (fun e=>by omega)]
set_option maxHeartbeats 1600000 in
theorem mW(s:List UInt8) (hl:s.length≤1000000000) (mem:Mem):
  ACallsTo Tryz.prog 61 [.str s] mem (.int .i64 (xA s)) mem:=by
 have hG:aN Tryz.prog 61=some Tryz.f61:=by kernel_rfl
 refine aq jR (lv:=fun _=>[]) (K:=1) rfl rfl ?_ mem
 have hi:=oD s 47
 cases hx:s.idxOf? 47 with
 |none=>
  rw[hx] at hi
  simp only at hi
  rw[Nv hx]
  cases ho:okI s with
  |true=>simp[aa,hG,Tryz.f61,ai,aY,bj,aX,bO,aF,aH,ao,hl,hi,oM,ho]
  |false=>simp[aa,hG,Tryz.f61,ai,aY,bj,aX,bO,aF,aH,ao,hl,hi,oM,ho]
 |some i=>
  rw[hx] at hi
  simp only at hi
  have hi0:(0:Int)≤i:=by omega
  obtain⟨a,ha⟩:∃a,a=s.take i:=⟨_,rfl⟩
  obtain⟨b,hb⟩:∃b,b=s.drop (i+1):=⟨_,rfl⟩
  have la:a.length≤1000000000:=by rw[ha,List.length_take];omega
  have lb:b.length≤1000000000:=by rw[hb,List.length_drop];omega
  cases ho:okI a with
  |false=>
   rw[Nt hx (by rw[←ha];exact ho)]
   simp[aa,hG,Tryz.f61,ai,aY,bj,aX,bO,aF,aH,ao,hl,hi,hi0,←ha,←hb,la,oM,ho]
  |true=>
   cases ho2:okI b with
   |false=>
    rw[Nu hx (by rw[←hb];exact ho2)]
    simp[aa,hG,Tryz.f61,ai,aY,bj,aX,bO,aF,aH,ao,hl,hi,hi0,←ha,←hb,la,lb,oM,ho,ho2]
   |true=>
    have hn:∃n,jF a=some n∧(au n.natAbs).length≤200:=by
     unfold okI at ho
     cases hx:jF a with
     |none=>rw[hx] at ho;cases ho
     |some n=>rw[hx] at ho;exact⟨n,rfl,by simpa using ho⟩
    have hd:∃n,jF b=some n∧(au n.natAbs).length≤200:=by
     unfold okI at ho2
     cases hx:jF b with
     |none=>rw[hx] at ho2;cases ho2
     |some n=>rw[hx] at ho2;exact⟨n,rfl,by simpa using ho2⟩
    obtain⟨n,hn,n2⟩:=hn
    obtain⟨d,hd,d2⟩:=hd
    rw[LP hx (by rw[←ha];exact hn) (by rw[←hb];exact hd) n2 d2]
    have h1:jF [49]=some 1:=rfl
    have hcmp:HG d 1≤0↔¬1<d:=by
     unfold HG
     split
     ·constructor<;>intro h<;>omega
     ·split<;>constructor<;>intro h<;>omega
    have ha0:(a==[48])=decide (n=0):=by rw[cg hn,iM]
    have n3:(au n.natAbs).length≤100000:=by omega
    have d3:(au d.natAbs).length≤100000:=by omega
    by_cases c1:1<d
    ·have c1' :¬HG d 1≤0:=fun e=>hcmp.1 e c1
     by_cases c2:n=0
     ·have c3:¬n.natAbs.gcd d.natAbs=1:=by subst c2;simp;omega
      rw[if_neg (fun e=>c3 e.2)]
      simp[aa,hG,Tryz.f61,ai,aY,bj,aX,bO,aF,aH,ao,hl,hi,hi0,←ha,←hb,la,lb,oM,ho,ho2,hd,h1,c1',ha0,c2]
     ·by_cases c3:n.natAbs.gcd d.natAbs=1
      ·rw[if_pos ⟨c1,c3⟩]
       simp[aa,hG,Tryz.f61,ai,aY,bj,aX,bO,aF,aH,ao,hl,hi,hi0,←ha,←hb,la,lb,oM,ho,ho2,hn,hd,h1,c1',ha0,c2,n3,d3,jX,c3]
      ·rw[if_neg (fun e=>c3 e.2)]
       simp[aa,hG,Tryz.f61,ai,aY,bj,aX,bO,aF,aH,ao,hl,hi,hi0,←ha,←hb,la,lb,oM,ho,ho2,hn,hd,h1,c1',ha0,c2,n3,d3,jX,c3]
    ·have c1' :HG d 1≤0:=hcmp.2 c1
     rw[if_neg (fun e=>c1 e.1)]
     simp[aa,hG,Tryz.f61,ai,aY,bj,aX,bO,aF,aH,ao,hl,hi,hi0,←ha,←hb,la,lb,oM,ho,ho2,hd,h1,c1']
noncomputable def aP(f:FuncId) (args:List AV):Option AV:=
 match f,args with
 |61,[.str s]=>if s.length≤1000000000 then some (.int .i64 (xA s)) else none
 |88,[.str s,.str t]=>match dU s,dU t with
  |some a,some b=>if (au a.num.natAbs).length≤40000∧(au a.den).length≤40000∧(au b.num.natAbs).length≤40000∧(au b.den).length≤40000 then some (.str (aB (a-b))) else none
  |_,_=>none
 |87,[.str s,.str t]=>match dU s,dU t with
  |some a,some b=>if b≠0∧(au a.num.natAbs).length≤40000∧(au a.den).length≤40000∧(au b.num.natAbs).length≤40000∧(au b.den).length≤40000 then some (.tuple [.str (aB (a / b)),.int .i64 0]) else none
  |_,_=>none
 |f,args=>aY f args
theorem cA:OracleOk Tryz.prog (ai aP):=bM fun f args v h mem=>by
 unfold aP at h
 split at h
 ·split at h
  ·rename_i hc;cases h;exact mW _ hc mem
  ·cases h
 ·split at h
  ·rename_i m n hm hn
   split at h
   ·rename_i hc;cases h;rw[aD hm,aD hn];exact KV m n ⟨hc.1,hc.2.1⟩ ⟨hc.2.2.1,hc.2.2.2⟩ mem
   ·cases h
  ·cases h
 ·split at h
  ·rename_i m n hm hn
   split at h
   ·rename_i hc;cases h;rw[aD hm,aD hn];exact KB m n hc.1 ⟨hc.2.1,hc.2.2.1⟩ ⟨hc.2.2.2.1,hc.2.2.2.2⟩ mem
   ·cases h
  ·cases h
 ·have:=jR.fn _ _ mem ⟨v,none,[]⟩ (by unfold ai;simp only;rw[h])
  simpa [CallRes.mem] using this
theorem PI{s:List UInt8}(h:xA s=0):∃q,dU s=some q∧s=aB q∧(au q.num.natAbs).length≤200∧(au q.den).length≤200:=by
 unfold xA at h
 cases hq:dU s with
 |none=>rw[hq] at h;cases h
 |some q=>
  rw[hq] at h
  simp only at h
  split at h
  ·rename_i hc;exact⟨q,rfl,aD hq,hc.1,hc.2⟩
  ·cases h
end Go.Proofs
