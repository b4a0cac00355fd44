/- See F54. -/
import Derived.Test.YtgafjliihahjgaaGreatDoorF08
set_option linter.all false
set_option maxRecDepth 100000
set_option maxHeartbeats 40000000
namespace Go.Proofs
open Go.Eng
open Tryz
theorem UT(t:List UInt8):okT false t=(decide (t.length≤200)&&jL t):=by
 cases t with
 |nil=>rfl
 |cons c r=>
  unfold okT jL;simp only[List.length_cons,Bool.or_false,List.all_cons];rw[Bool.eq_iff_iff];simp;cases r with
  |nil=>simp
  |cons x r=>simp;grind
theorem W0(t:List UInt8):okT true t=(decide (t.length≤200)&&jL t&& !(t.head? ==some 48)):=by
 cases t with
 |nil=>rfl
 |cons c r=>
  unfold okT jL;simp only[List.length_cons,Bool.or_true,Bool.and_true,List.all_cons,List.head?_cons];rw[Bool.eq_iff_iff];simp
  grind
def okI(s:List UInt8):Bool:=match pD s with
 |some n=>decide ((aR n.natAbs).length≤200)
 |none=>false
theorem RP(r:List UInt8):pD (45::r)=match An r with
  |some (u+1)=>some (Int.negSucc u)
  |_=>none:=rfl
variable{t:List UInt8}
theorem RQ(h:∀r,t≠45::r):pD t=(An t).map Int.ofNat:=by
 unfold pD;split
 next r=>exact absurd rfl (h r)
 ·cases An t<;>rfl
theorem PU(h:jL t=true):An t=some (lC t):=by unfold An;rw[if_pos h]
theorem UN(h:jL t=false):An t=none:=by unfold An;rw[h];rfl
theorem rz(s:List UInt8):okT (Lib.hasPrefix s [45]) (Lib.trimPrefix s [45])=okI s:=by
 unfold Lib.trimPrefix;have Z:∀t:List UInt8,(∀r,t≠45::r)→okT false t=okI t:=by
  intro t V;rw[UT];unfold okI;rw[RQ V];cases hc:jL t with
  |true=>
   have:=Cp hc;rw[PU hc];show _=decide ((aR (Int.ofNat (lC t)).natAbs).length≤200)
   rw[show(Int.ofNat (lC t)).natAbs=lC t from rfl,this,Bool.and_true]
  |false=>
   rw[UN hc,Bool.and_false];rfl
 cases s with
 |nil=>rw[show Lib.hasPrefix [] [45]=false from rfl];exact Z [] (by simp)
 |cons c r=>
  by_cases h:c=45
  ·subst h
   rw[show Lib.hasPrefix (45::r) [45]=true by simp[Lib.hasPrefix,List.isPrefixOf]];simp only[if_true,List.length_singleton,List.drop_succ_cons,List.drop_zero];rw[W0];unfold okI;rw[RP];cases hc:jL r with
   |true=>
    rw[PU hc,Bool.and_true];have X:=Cp hc;cases hvd:lC r with
    |zero=>
     rw[hvd,rv] at X;rw[←X];rfl
    |succ u=>
     rw[hvd] at X;have W:=Mb (u+1) (by omega);rw[X] at W;show _=decide ((aR (Int.negSucc u).natAbs).length≤200)
     rw[show(Int.negSucc u).natAbs=u+1 from rfl,X];have:(r.head? ==some 48)=false:=by simpa using W
     rw[this];simp
   |false=>
    rw[UN hc];simp
  ·have S:Lib.hasPrefix (c::r) [45]=false:=by
    have O :¬(45:UInt8)=c:=fun e=>h e.symm
    simp[Lib.hasPrefix,List.isPrefixOf,O]
   rw[S];exact Z (c::r) (by intro M e;exact h (List.cons.inj e).1)
variable{n:Int}{r:List UInt8}
theorem WL(h:pD r=some n)(A:0≤n):An r=some n.toNat:=by rw[fg h,oL A,gg];congr 1;omega
theorem Mc{n:Nat}(h:An r=some n):pD r=some (n:Int):=by rw[jN h];exact iM n
theorem qX:∀(s:List UInt8)(c:UInt8),Lib.indexByte s c=match s.idxOf? c with
  |some i=>(i:Int)
  |none=> -1
 | [],_=>rfl
 |b::l,c=>by
  unfold Lib.indexByte;rw[List.idxOf?_cons,qX l c];by_cases h:b=c
  ·subst h;simp
  ·have Z :(b==c)=false:=by simpa using h
   rw[Z];simp only[Bool.false_eq_true,if_false];cases l.idxOf? c with
   |none=>simp
   |some i=>
    have X:¬(((i:Int)== -1)=true):=by rw[beq_iff_eq];omega
    simp only[Option.map_some];rw[if_neg X,Int.natCast_add];rfl
def xv(s:List UInt8):Int:=match dC s with
 |some q=>if (aR q.num.natAbs).length≤200∧(aR q.den).length≤200 then 0 else 2
 |none=>2
noncomputable def az(f:FuncId)(args:List AV):Option AV:=
 match f,args with
 |85,[.str s,.str t]=>match dC s,dC t with
  |some a,some b=>if (aR a.num.natAbs).length≤9∧(aR a.den).length≤9∧(aR b.num.natAbs).length≤9∧(aR b.den).length≤9 then some (.int .i64 (jQ a b)) else none
  |_,_=>none
 |111,[.str s,.str t]=>match dC s,dC t with
  |some a,some b=>if (aR a.num.natAbs).length≤9∧(aR a.den).length≤9∧(aR b.num.natAbs).length≤9∧(aR b.den).length≤9 then some (.str (ak (a+b))) else none
  |_,_=>none
 |74,[.str s,.str t]=>match dC s,dC t with
  |some a,some b=>if (aR a.num.natAbs).length≤9∧(aR a.den).length≤9∧(aR b.num.natAbs).length≤9∧(aR b.den).length≤9 then some (.str (ak (a*b))) else none
  |_,_=>none
 |f,args=>bB f args
theorem jJ:HS prog (af az):=bH fun f W v h mem=>by
 unfold az at h;split at h
 ·split at h
  ·rename_i m n Z X
   split at h
   ·rename_i hc
    cases h;rw[aw Z,aw X];exact sQ m n ⟨hc.1,hc.2.1⟩ ⟨hc.2.2.1,hc.2.2.2⟩ mem
   ·cases h
  ·cases h
 ·split at h
  ·rename_i m n Z X
   split at h
   ·rename_i hc
    cases h;rw[aw Z,aw X];exact Qk m n ⟨hc.1,hc.2.1⟩ ⟨hc.2.2.1,hc.2.2.2⟩ mem
   ·cases h
  ·cases h
 ·split at h
  ·rename_i m n Z X
   split at h
   ·rename_i hc
    cases h;rw[aw Z,aw X];exact QE m n ⟨hc.1,hc.2.1⟩ ⟨hc.2.2.1,hc.2.2.2⟩ mem
   ·cases h
  ·cases h
 ·have:=mD.fn _ _ mem ⟨v,none,[]⟩ (by unfold af;simp only;rw[h])
  simpa [aeQ.mem] using this
theorem QN(a b:Rat)(G:aeZ a)(A:aeZ b)(mem:Mem):
  kO prog 88 [.str (ak a),.str (ak b)] mem (.str (ak (a-b))) mem:=by
 have Z:aK prog 88=some f88:=by kernel_rfl
 refine aA jJ ?_ mem;have X:=jA A;obtain⟨W,V⟩:=G;obtain⟨S,O⟩:=A;have e:a+ -b=a-b:=(Rat.sub_eq_add_neg a b).symm;simp[aa,Z,f88,af,az,bB,aX,ao,X,W,V,S,O,e]
variable{b:Rat}
theorem B8(h:0<b.num):b⁻¹.num=(b.den:Int)∧b⁻¹.den=b.num.natAbs:=by rw[Rat.num_inv,Rat.den_inv,Int.sign_eq_one_of_pos h,if_neg (by omega)];exact⟨Int.one_mul _,rfl⟩
theorem B7(h:b.num<0):b⁻¹.num= -(b.den:Int)∧b⁻¹.den=b.num.natAbs:=by rw[Rat.num_inv,Rat.den_inv,Int.sign_eq_neg_one_of_neg h,if_neg (by omega)];exact⟨by omega,rfl⟩
theorem Qn(a b:Rat)(A:b≠0)(ha:aeZ a)(G:aeZ b)(mem:Mem):
  kO prog 136 [.str (ak a),.str (ak b)] mem (.tuple [.str (ak (a / b)),.int .i64 0]) mem:=by
 have u:aK prog 136=some f136:=by kernel_rfl
 refine aA jJ ?_ mem;have j:=jA G;obtain⟨Y,R⟩:=ha;obtain⟨I,b2⟩:=G;have hn:b.num≠0:=fun e=>A (Ao.1 e)
 have O:(ak b==[48])=false:=by rw[cg];simpa using A
 have e:a*b⁻¹=a / b:=(Rat.div_def a b).symm;obtain⟨m,X⟩:=xE b.num.natAbs;rw[←X] at I;have lm:(aR m).length≤1000000000:=by omega
 have F:(aR b.den).length≤1000000000:=by omega
 have fi:(aR b⁻¹.num.natAbs).length≤9∧(aR b⁻¹.den).length≤9:=by
  rcases Int.lt_or_gt_of_ne hn with h | h
  ·obtain⟨M,W⟩:=B7 h
   rw[M,W,Int.natAbs_neg,Int.natAbs_natCast,←X];exact⟨b2,I⟩
  ·obtain⟨M,W⟩:=B8 h
   rw[M,W,Int.natAbs_natCast,←X];exact⟨b2,I⟩
 have D:=fun h=>B7 (b:=b) h
 have C:=fun h=>B8 (b:=b) h
 obtain⟨w,hw⟩:=xE (b⁻¹);rw[←hw] at fi e D C;obtain⟨f1,f2⟩:=fi;rcases Int.lt_or_gt_of_ne hn with h | h
 ·obtain⟨M,W⟩:=D h
  have B:(ak b)[0]? =some 45:=by rw[oT h];rfl
  have V:cC (-b.num)=aR m:=by rw[oL (by omega),Int.natAbs_neg,X]
  have ln:(cC b.num).length≤1000000000:=by have:=fH b.num;rw[←X] at this;omega
  have J:(cC (-(b.den:Int))).length≤1000000000:=by have:=fH (-(b.den:Int));rw[Int.natAbs_neg,Int.natAbs_natCast] at this;omega
  by_cases Z:m=1
  ·have S:cC (-(b.den:Int))=ak w:=by unfold ak;rw[if_pos (by rw[W,←X,Z]),M]
   have K:=congrArg pD S;rw[cY] at K;have K:=K.symm;have H:(aR 1).length≤1000000000:=by decide
   have lj:(ak w).length≤1000000000:=by rw[←S];first | exact J | exact F
   simp[aa,u,f136,O,af,az,bB,aX,dx,cU,ao,cY,gg,iM,j,B,V,ln,F,Z,S,K,H,lj,Y,R,f1,f2,e]
  ·have S:cC (-(b.den:Int))++47::aR m=ak w:=by unfold ak;rw[if_neg (by rw[W,←X];exact Z),M,W,←X]
   simp[aa,u,f136,O,af,az,bB,aX,dx,cU,ao,cY,gg,iM,j,B,V,ln,J,lm,F,Z,S,Y,R,f1,f2,e]
 ·obtain⟨M,W⟩:=C h
  obtain⟨c,r,hc,hd⟩:=rG (q:=b) (by omega);have B:(ak b)[0]? =some c:=by rw[hc];rfl
  have z:=gH hd;have V:cC b.num=aR m:=by rw[oL (by omega),X]
  by_cases Z:m=1
  ·have S:cC (b.den:Int)=ak w:=by unfold ak;rw[if_pos (by rw[W,←X,Z]),M]
   have K:=congrArg pD S;rw[cY] at K;have K:=K.symm;have H:(aR 1).length≤1000000000:=by decide
   have lj:(ak w).length≤1000000000:=by rw[←S];first | exact J | exact F
   simp[aa,u,f136,O,af,az,bB,aX,ao,gg,iM,j,B,z,V,F,Z,S,H,Y,R,f1,f2,e]
  ·have S:cC (b.den:Int)++47::aR m=ak w:=by unfold ak;rw[if_neg (by rw[W,←X];exact Z),M,W,←X]
   simp[aa,u,f136,O,af,az,bB,aX,ao,gg,iM,j,B,z,V,lm,F,Z,S,Y,R,f1,f2,e]
variable{s:List UInt8}
theorem T7(h:s.idxOf? 47=none):xv s=if okI s then 0 else 2:=by
 unfold xv dC okI;rw[h];cases hn:pD s with
 |none=>simp
 |some n=>
  have:(aR 1).length≤200:=by decide
  simp[this]
variable{i:Nat}
theorem T2(h:s.idxOf? 47=some i)(A:okI (s.take i)=false):xv s=2:=by
 unfold xv dC;rw[h];unfold okI at A;cases hn:pD (s.take i) with
 |none=>simp[hn]
 |some n=>
  rw[hn] at A;simp only[decide_eq_false_iff_not] at A;simp only[hn];cases hd:An (s.drop (i+1)) with
  |none=>simp[]
  |some d=>
   simp only[R8];by_cases hc:1<d∧n.natAbs.gcd d=1
   ·rw[dif_pos hc]
    simp only;rw[if_neg (by intro h;exact A h.1)]
   ·rw[dif_neg hc]
theorem T3(h:s.idxOf? 47=some i)(A:okI (s.drop (i+1))=false):xv s=2:=by
 unfold xv dC;rw[h];unfold okI at A;cases hn:pD (s.take i) with
 |none=>simp[hn]
 |some n=>
  simp only[hn];cases hd:An (s.drop (i+1)) with
  |none=>simp[]
  |some d=>
   rw[Mc hd] at A;simp only[decide_eq_false_iff_not,Int.natAbs_natCast] at A;simp only[R8];by_cases hc:1<d∧n.natAbs.gcd d=1
   ·rw[dif_pos hc]
    simp only;rw[if_neg (by intro h;exact A h.2)]
   ·rw[dif_neg hc]
theorem RD{d:Int}(h:s.idxOf? 47=some i)(I:pD (s.take i)=some n)(A:pD (s.drop (i+1))=some d)(G:(aR n.natAbs).length≤200)(H:(aR d.natAbs).length≤200):
  xv s=if 1<d∧n.natAbs.gcd d.natAbs=1 then 0 else 2:=by
 unfold xv dC;rw[h];simp only[I];by_cases Z:0≤d
 ·rw[WL A Z]
  simp only[R8];have e:d.toNat=d.natAbs:=by omega
  rw[e];by_cases hc:1<d∧n.natAbs.gcd d.natAbs=1
  ·rw[if_pos hc,dif_pos ⟨by omega,hc.2⟩]
   simp only;rw[if_pos ⟨G,H⟩]
  ·rw[if_neg hc,dif_neg (fun e=>hc ⟨by omega,e.2⟩)]
 ·have:An (s.drop (i+1))=none:=by
   cases hx:An (s.drop (i+1)) with
   |none=>rfl
   |some u=>
    rw[Mc hx] at A;cases A;omega
  rw[this];rw[if_neg (fun e=>by omega)]
theorem pI(s:List UInt8)(A:s.length≤18)(mem:Mem):
  kO prog 55 [.str s] mem (.int .i64 (xv s)) mem:=by
 have O:aK prog 55=some f55:=by kernel_rfl
 refine aA jJ ?_ mem;have M:s.length≤1000000000:=by omega
 have X:=qX s 47;cases hx:s.idxOf? 47 with
 |none=>
  rw[hx] at X;simp only at X;rw[T7 hx];cases ho:okI s with
  |true=>simp[aa,O,f55,af,az,bB,aX,dx,cU,cv,aY,M,X,rz,ho]
  |false=>simp[aa,O,f55,af,az,bB,aX,dx,cU,cv,aY,M,X,rz,ho]
 |some i=>
  rw[hx] at X;simp only at X;have Z:(0:Int)≤i:=by omega
  obtain⟨a,V⟩:=xE (s.take i);obtain⟨b,S⟩:=xE (s.drop (i+1));have F:a.length≤1000000000:=by rw[V,List.length_take];omega
  have B:b.length≤1000000000:=by rw[S,List.length_drop];omega
  have z:a.length≤18:=by rw[V,List.length_take];omega
  have u:b.length≤18:=by rw[S,List.length_drop];omega
  cases ho:okI a with
  |false=>
   rw[T2 hx (by rw[←V];exact ho)];simp[aa,O,f55,af,az,bB,aX,dx,cU,cv,aY,M,X,Z,←V,←S,F,rz,ho]
  |true=>
   cases ho2:okI b with
   |false=>
    rw[T3 hx (by rw[←S];exact ho2)];simp[aa,O,f55,af,az,bB,aX,dx,cU,cv,aY,M,X,Z,←V,←S,F,B,rz,ho,ho2]
   |true=>
    have D:∃n,pD a=some n∧(aR n.natAbs).length≤200:=by
     unfold okI at ho;cases hx:pD a with
     |none=>rw[hx] at ho;cases ho
     |some n=>rw[hx] at ho;exact⟨n,rfl,by simpa using ho⟩
    have K:∃n,pD b=some n∧(aR n.natAbs).length≤200:=by
     unfold okI at ho2;cases hx:pD b with
     |none=>rw[hx] at ho2;cases ho2
     |some n=>rw[hx] at ho2;exact⟨n,rfl,by simpa using ho2⟩
    obtain⟨n,D,I⟩:=D;obtain⟨d,K,d2⟩:=K;rw[RD hx (by rw[←V];exact D) (by rw[←S];exact K) I d2];have j:pD [49]=some 1:=rfl;have m:Lz d 1≤0↔¬1<d:=by
     unfold Lz;split
     ·constructor<;>intro h<;>omega
     ·split<;>constructor<;>intro h<;>omega
    have J:(a==[48])=decide (n=0):=by rw[fg D,kj]
    by_cases Y:1<d
    ·have W :¬Lz d 1≤0:=fun e=>m.1 e Y
     by_cases R:n=0
     ·have C:¬n.natAbs.gcd d.natAbs=1:=by subst R;simp;omega
      rw[if_neg (fun e=>C e.2)];simp[aa,O,f55,af,az,bB,aX,dx,cU,cv,aY,M,X,Z,←V,←S,F,B,rz,ho,ho2,K,j,W,J,R]
     ·by_cases C:n.natAbs.gcd d.natAbs=1
      ·rw[if_pos ⟨Y,C⟩]
       simp[aa,O,f55,af,az,bB,aX,dx,cU,cv,aY,M,X,Z,←V,←S,F,B,rz,ho,ho2,D,K,j,W,J,R,z,u,rq,C]
      ·rw[if_neg (fun e=>C e.2)]
       simp[aa,O,f55,af,az,bB,aX,dx,cU,cv,aY,M,X,Z,←V,←S,F,B,rz,ho,ho2,D,K,j,W,J,R,z,u,rq,C]
    ·have W :Lz d 1≤0:=m.2 Y
     rw[if_neg (fun e=>Y e.1)];simp[aa,O,f55,af,az,bB,aX,dx,cU,cv,aY,M,X,Z,←V,←S,F,B,rz,ho,ho2,K,j,W]
noncomputable def aj(f:FuncId)(args:List AV):Option AV:=
 match f,args with
 |55,[.str s]=>if s.length≤18 then some (.int .i64 (xv s)) else none
 |88,[.str s,.str t]=>match dC s,dC t with
  |some a,some b=>if (aR a.num.natAbs).length≤9∧(aR a.den).length≤9∧(aR b.num.natAbs).length≤9∧(aR b.den).length≤9 then some (.str (ak (a-b))) else none
  |_,_=>none
 |136,[.str s,.str t]=>match dC s,dC t with
  |some a,some b=>if b≠0∧(aR a.num.natAbs).length≤9∧(aR a.den).length≤9∧(aR b.num.natAbs).length≤9∧(aR b.den).length≤9 then some (.tuple [.str (ak (a / b)),.int .i64 0]) else none
  |_,_=>none
 |f,args=>az f args
theorem bj:HS prog (af aj):=bH fun f W v h mem=>by
 unfold aj at h;split at h
 ·split at h
  next hc=>cases h;exact pI _ hc mem
  ·cases h
 ·split at h
  ·rename_i m n Z X
   split at h
   next hc=>cases h;rw[aw Z,aw X];exact QN m n ⟨hc.1,hc.2.1⟩ ⟨hc.2.2.1,hc.2.2.2⟩ mem
   ·cases h
  ·cases h
 ·split at h
  ·rename_i m n Z X
   split at h
   next hc=>cases h;rw[aw Z,aw X];exact Qn m n hc.1 ⟨hc.2.1,hc.2.2.1⟩ ⟨hc.2.2.2.1,hc.2.2.2.2⟩ mem
   ·cases h
  ·cases h
 ·have:=jJ.fn _ _ mem ⟨v,none,[]⟩ (by unfold af;simp only;rw[h])
  simpa [aeQ.mem] using this
theorem Ww(h:xv s=0):∃q,dC s=some q∧s=ak q∧(aR q.num.natAbs).length≤200∧(aR q.den).length≤200:=by
 unfold xv at h;cases hq:dC s with
 |none=>rw[hq] at h;cases h
 |some q=>
  rw[hq] at h;simp only at h;split at h
  next hc=>exact⟨q,rfl,aw hq,hc.1,hc.2⟩
  ·cases h
end Go.Proofs
