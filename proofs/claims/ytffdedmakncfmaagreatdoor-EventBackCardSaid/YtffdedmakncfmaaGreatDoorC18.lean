/- See C54. -/
import Derived.Test.YtffdedmakncfmaaGreatDoorC17
set_option linter.all false
set_option maxRecDepth 100000
set_option maxHeartbeats 40000000
namespace Go.Proofs
open Go.Eng
open Tryz
theorem UL(t:List UInt8):okT false t=(decide (t.length≤200)&&jw t):=by
 cases t with
 |nil=>rfl
 |cons c r=>
  unfold okT jw;simp only[List.length_cons,Bool.or_false,List.all_cons];rw[Bool.eq_iff_iff];simp;cases r with
  |nil=>simp
  |cons x r=>simp;grind
theorem WX(t:List UInt8):okT true t=(decide (t.length≤200)&&jw t&& !(t.head? ==some 48)):=by
 cases t with
 |nil=>rfl
 |cons c r=>
  unfold okT jw;simp only[List.length_cons,Bool.or_true,Bool.and_true,List.all_cons,List.head?_cons];rw[Bool.eq_iff_iff];simp
  grind
def okI(s:List UInt8):Bool:=match jP s with
 |some n=>decide ((ai n.natAbs).length≤200)
 |none=>false
theorem Sl(r:List UInt8):jP (45::r)=match xX r with
  |some (u+1)=>some (Int.negSucc u)
  |_=>none:=rfl
variable{t:List UInt8}
theorem So(h:∀r,t≠45::r):jP t=(xX t).map Int.ofNat:=by
 unfold jP;split
 next r=>exact absurd rfl (h r)
 ·cases xX t<;>rfl
theorem Qm(h:jw t=true):xX t=some (eF t):=by unfold xX;rw[if_pos h]
theorem UG(h:jw t=false):xX t=none:=by unfold xX;rw[h];rfl
theorem sT(s:List UInt8):okT (Lib.hasPrefix s [45]) (Lib.trimPrefix s [45])=okI s:=by
 unfold Lib.trimPrefix;have Z:∀t:List UInt8,(∀r,t≠45::r)→okT false t=okI t:=by
  intro t U;rw[UL];unfold okI;rw[So U];cases hc:jw t with
  |true=>
   have:=xC hc;rw[Qm hc];show _=decide ((ai (Int.ofNat (eF t)).natAbs).length≤200)
   rw[show(Int.ofNat (eF t)).natAbs=eF t from rfl,this,Bool.and_true]
  |false=>
   rw[UG hc,Bool.and_false];rfl
 cases s with
 |nil=>rw[show Lib.hasPrefix [] [45]=false from rfl];exact Z [] (by simp)
 |cons c r=>
  by_cases h:c=45
  ·subst h
   rw[show Lib.hasPrefix (45::r) [45]=true by simp[Lib.hasPrefix,List.isPrefixOf]];simp only[if_true,List.length_singleton,List.drop_succ_cons,List.drop_zero];rw[WX];unfold okI;rw[Sl];cases hc:jw r with
   |true=>
    rw[Qm hc,Bool.and_true];have X:=xC hc;cases hvd:eF r with
    |zero=>
     rw[hvd,jH] at X;rw[←X];rfl
    |succ u=>
     rw[hvd] at X;have V:=Dv (u+1) (by omega);rw[X] at V;show _=decide ((ai (Int.negSucc u).natAbs).length≤200)
     rw[show(Int.negSucc u).natAbs=u+1 from rfl,X];have:(r.head? ==some 48)=false:=by simpa using V
     rw[this];simp
   |false=>
    rw[UG hc];simp
  ·have S:Lib.hasPrefix (c::r) [45]=false:=by
    have R :¬(45:UInt8)=c:=fun e=>h e.symm
    simp[Lib.hasPrefix,List.isPrefixOf,R]
   rw[S];exact Z (c::r) (by intro Q e;exact h (List.cons.inj e).1)
variable{n:Int}{r:List UInt8}
theorem WK(h:jP r=some n)(y:0≤n):xX r=some n.toNat:=by rw[bS h,gj y,bk];congr 1;omega
theorem Mv{n:Nat}(h:xX r=some n):jP r=some (n:Int):=by rw[gw h];exact cn n
theorem me:∀(s:List UInt8) (c:UInt8),Lib.indexByte s c=match s.idxOf? c with
  |some i=>(i:Int)
  |none=> -1
 | [],_=>rfl
 |b::l,c=>by
  unfold Lib.indexByte;rw[List.idxOf?_cons,me l c];by_cases h:b=c
  ·subst h;simp
  ·have Z :(b==c)=false:=by simpa using h
   rw[Z];simp only[Bool.false_eq_true,if_false];cases l.idxOf? c with
   |none=>simp
   |some i=>
    have X:¬(((i:Int)== -1)=true):=by rw[beq_iff_eq];omega
    simp only[Option.map_some];rw[if_neg X,Int.natCast_add];rfl
def AW(s:List UInt8):Int:=match dY s with
 |some q=>if (ai q.num.natAbs).length≤200∧(ai q.den).length≤200 then 0 else 2
 |none=>2
noncomputable def bw(f:FuncId)(args:List AV):Option AV:=
 match f,args with
 |111,[.str s,.str t]=>match dY s,dY t with
  |some a,some b=>if (ai a.num.natAbs).length≤40000∧(ai a.den).length≤40000∧(ai b.num.natAbs).length≤40000∧(ai b.den).length≤40000 then some (.int .i64 (CO a b)) else none
  |_,_=>none
 |86,[.str s,.str t]=>match dY s,dY t with
  |some a,some b=>if (ai a.num.natAbs).length≤40000∧(ai a.den).length≤40000∧(ai b.num.natAbs).length≤40000∧(ai b.den).length≤40000 then some (.str (ax (a+b))) else none
  |_,_=>none
 |47,[.str s,.str t]=>match dY s,dY t with
  |some a,some b=>if (ai a.num.natAbs).length≤40000∧(ai a.den).length≤40000∧(ai b.num.natAbs).length≤40000∧(ai b.den).length≤40000 then some (.str (ax (a*b))) else none
  |_,_=>none
 |f,args=>bL f args
theorem mT:qS prog (ag bw):=bF fun f U v h mem=>by
 unfold bw at h;split at h
 ·split at h
  ·rename_i m n X V
   split at h
   ·rename_i Z
    cases h;rw[az X,az V];exact uq m n ⟨Z.1,Z.2.1⟩ ⟨Z.2.2.1,Z.2.2.2⟩ mem
   ·cases h
  ·cases h
 ·split at h
  ·rename_i m n X V
   split at h
   ·rename_i Z
    cases h;rw[az X,az V];exact QL m n ⟨Z.1,Z.2.1⟩ ⟨Z.2.2.1,Z.2.2.2⟩ mem
   ·cases h
  ·cases h
 ·split at h
  ·rename_i m n X V
   split at h
   ·rename_i Z
    cases h;rw[az X,az V];exact Q6 m n ⟨Z.1,Z.2.1⟩ ⟨Z.2.2.1,Z.2.2.2⟩ mem
   ·cases h
  ·cases h
 ·have:=kD.fn _ _ mem ⟨v,none,[]⟩ (by unfold ag;simp only;rw[h])
  simpa [y9.mem] using this
theorem Rm(a b:Rat)(H:kx a)(y:kx b)(mem:Mem):
  kO prog 88 [.str (ax a),.str (ax b)] mem (.str (ax (a-b))) mem:=by
 have Z:aS prog 88=some f88:=by kernel_rfl
 refine ao mT ?_ mem;have X:=eH y;obtain⟨V,U⟩:=H;obtain⟨S,R⟩:=y;have e:a+ -b=a-b:=(Rat.sub_eq_add_neg a b).symm;simp[aa,Z,f88,ag,bw,bL,bD,ay,X,V,U,S,R,e]
variable{b:Rat}
theorem vU(h:0<b.num):b⁻¹.num=(b.den:Int)∧b⁻¹.den=b.num.natAbs:=by rw[Rat.num_inv,Rat.den_inv,Int.sign_eq_one_of_pos h,if_neg (by omega)];exact⟨Int.one_mul _,rfl⟩
theorem Db(h:b.num<0):b⁻¹.num= -(b.den:Int)∧b⁻¹.den=b.num.natAbs:=by rw[Rat.num_inv,Rat.den_inv,Int.sign_eq_neg_one_of_neg h,if_neg (by omega)];exact⟨by omega,rfl⟩
theorem QP(a b:Rat)(y:b≠0)(ha:kx a)(H:kx b)(mem:Mem):
  kO prog 87 [.str (ax a),.str (ax b)] mem (.tuple [.str (ax (a / b)),.int .i64 0]) mem:=by
 have D:aS prog 87=some f87:=by kernel_rfl
 refine ao mT ?_ mem;have C:=eH H;obtain⟨B,u⟩:=ha;obtain⟨o,Y⟩:=H;have W:b.num≠0:=fun e=>y (ni.1 e)
 have R:(ax b==[48])=false:=by rw[aY];simpa using y
 have e:a*b⁻¹=a / b:=(Rat.div_def a b).symm;obtain⟨m,X⟩:=xE b.num.natAbs;rw[←X] at o;have J:(ai m).length≤1000000000:=by omega
 have M:(ai b.den).length≤1000000000:=by omega
 have I:(ai b⁻¹.num.natAbs).length≤40000∧(ai b⁻¹.den).length≤40000:=by
  rcases Int.lt_or_gt_of_ne W with h | h
  ·obtain⟨Q,V⟩:=Db h
   rw[Q,V,Int.natAbs_neg,Int.natAbs_natCast,←X];exact⟨Y,o⟩
  ·obtain⟨Q,V⟩:=vU h
   rw[Q,V,Int.natAbs_natCast,←X];exact⟨Y,o⟩
 have L:=fun h=>Db (b:=b) h
 have K:=fun h=>vU (b:=b) h
 obtain⟨w,hw⟩:=xE (b⁻¹);rw[←hw] at I e L K;obtain⟨f1,f2⟩:=I;rcases Int.lt_or_gt_of_ne W with h | h
 ·obtain⟨Q,V⟩:=L h
  have G:(ax b)[0]? =some 45:=by rw[jd h];rfl
  have U:bB (-b.num)=ai m:=by rw[gj (by omega),Int.natAbs_neg,X]
  have ln:(bB b.num).length≤1000000000:=by have:=cR b.num;rw[←X] at this;omega
  have N:(bB (-(b.den:Int))).length≤1000000000:=by have:=cR (-(b.den:Int));rw[Int.natAbs_neg,Int.natAbs_natCast] at this;omega
  by_cases Z:m=1
  ·have S:bB (-(b.den:Int))=ax w:=by unfold ax;rw[if_pos (by rw[V,←X,Z]),Q]
   have O:=congrArg jP S;rw[aB] at O;have O:=O.symm;have j:(ai 1).length≤1000000000:=by decide
   have lj:(ax w).length≤1000000000:=by rw[←S];first | exact N | exact M
   simp[aa,D,f87,R,ag,bw,bL,bD,ct,aM,ay,aB,bk,cn,C,G,U,ln,M,Z,S,O,j,lj,B,u,f1,f2,e]
  ·have S:bB (-(b.den:Int))++47::ai m=ax w:=by unfold ax;rw[if_neg (by rw[V,←X];exact Z),Q,V,←X]
   simp[aa,D,f87,R,ag,bw,bL,bD,ct,aM,ay,aB,bk,cn,C,G,U,ln,N,J,M,Z,S,B,u,f1,f2,e]
 ·obtain⟨Q,V⟩:=K h
  obtain⟨c,r,hc,hd⟩:=kP (q:=b) (by omega);have G:(ax b)[0]? =some c:=by rw[hc];rfl
  have F:=eP hd;have U:bB b.num=ai m:=by rw[gj (by omega),X]
  by_cases Z:m=1
  ·have S:bB (b.den:Int)=ax w:=by unfold ax;rw[if_pos (by rw[V,←X,Z]),Q]
   have O:=congrArg jP S;rw[aB] at O;have O:=O.symm;have j:(ai 1).length≤1000000000:=by decide
   have lj:(ax w).length≤1000000000:=by rw[←S];first | exact N | exact M
   simp[aa,D,f87,R,ag,bw,bL,bD,ay,bk,cn,C,G,F,U,M,Z,S,j,B,u,f1,f2,e]
  ·have S:bB (b.den:Int)++47::ai m=ax w:=by unfold ax;rw[if_neg (by rw[V,←X];exact Z),Q,V,←X]
   simp[aa,D,f87,R,ag,bw,bL,bD,ay,bk,cn,C,G,F,U,J,M,Z,S,B,u,f1,f2,e]
variable{s:List UInt8}
theorem TX(h:s.idxOf? 47=none):AW s=if okI s then 0 else 2:=by
 unfold AW dY okI;rw[h];cases hn:jP s with
 |none=>simp
 |some n=>
  have:(ai 1).length≤200:=by decide
  simp[this]
variable{i:Nat}
theorem TV(h:s.idxOf? 47=some i)(h1:okI (s.take i)=false):AW s=2:=by
 unfold AW dY;rw[h];unfold okI at h1;cases hn:jP (s.take i) with
 |none=>simp[hn]
 |some n=>
  rw[hn] at h1;simp only[decide_eq_false_iff_not] at h1;simp only[hn];cases hd:xX (s.drop (i+1)) with
  |none=>simp[]
  |some d=>
   simp only[SE];by_cases Z:1<d∧n.natAbs.gcd d=1
   ·rw[dif_pos Z]
    simp only;rw[if_neg (by intro h;exact h1 h.1)]
   ·rw[dif_neg Z]
theorem TW(h:s.idxOf? 47=some i)(h1:okI (s.drop (i+1))=false):AW s=2:=by
 unfold AW dY;rw[h];unfold okI at h1;cases hn:jP (s.take i) with
 |none=>simp[hn]
 |some n=>
  simp only[hn];cases hd:xX (s.drop (i+1)) with
  |none=>simp[]
  |some d=>
   rw[Mv hd] at h1;simp only[decide_eq_false_iff_not,Int.natAbs_natCast] at h1;simp only[SE];by_cases Z:1<d∧n.natAbs.gcd d=1
   ·rw[dif_pos Z]
    simp only;rw[if_neg (by intro h;exact h1 h.2)]
   ·rw[dif_neg Z]
theorem R9{d:Int}(h:s.idxOf? 47=some i)(H:jP (s.take i)=some n)(hd:jP (s.drop (i+1))=some d)(y:(ai n.natAbs).length≤200)(hd2:(ai d.natAbs).length≤200):
  AW s=if 1<d∧n.natAbs.gcd d.natAbs=1 then 0 else 2:=by
 unfold AW dY;rw[h];simp only[H];by_cases X:0≤d
 ·rw[WK hd X]
  simp only[SE];have e:d.toNat=d.natAbs:=by omega
  rw[e];by_cases Z:1<d∧n.natAbs.gcd d.natAbs=1
  ·rw[if_pos Z,dif_pos ⟨by omega,Z.2⟩]
   simp only;rw[if_pos ⟨y,hd2⟩]
  ·rw[if_neg Z,dif_neg (fun e=>Z ⟨by omega,e.2⟩)]
 ·have:xX (s.drop (i+1))=none:=by
   cases hx:xX (s.drop (i+1)) with
   |none=>rfl
   |some u=>
    rw[Mv hx] at hd;cases hd;omega
  rw[this];rw[if_neg (fun e=>by omega)]
theorem mL(s:List UInt8)(y:s.length≤1000000000)(mem:Mem):
  kO prog 61 [.str s] mem (.int .i64 (AW s)) mem:=by
 have R:aS prog 61=some f61:=by kernel_rfl
 refine ao mT ?_ mem;have X:=me s 47;cases hx:s.idxOf? 47 with
 |none=>
  rw[hx] at X;simp only at X;rw[TX hx];cases ho:okI s with
  |true=>simp[aa,R,f61,ag,bw,bL,bD,ct,aM,aN,aq,y,X,sT,ho]
  |false=>simp[aa,R,f61,ag,bw,bL,bD,ct,aM,aN,aq,y,X,sT,ho]
 |some i=>
  rw[hx] at X;simp only at X;have Z:(0:Int)≤i:=by omega
  obtain⟨a,U⟩:=xE (s.take i);obtain⟨b,S⟩:=xE (s.drop (i+1));have N:a.length≤1000000000:=by rw[U,List.length_take];omega
  have K:b.length≤1000000000:=by rw[S,List.length_drop];omega
  cases ho:okI a with
  |false=>
   rw[TV hx (by rw[←U];exact ho)];simp[aa,R,f61,ag,bw,bL,bD,ct,aM,aN,aq,y,X,Z,←U,←S,N,sT,ho]
  |true=>
   cases ho2:okI b with
   |false=>
    rw[TW hx (by rw[←S];exact ho2)];simp[aa,R,f61,ag,bw,bL,bD,ct,aM,aN,aq,y,X,Z,←U,←S,N,K,sT,ho,ho2]
   |true=>
    have M:∃n,jP a=some n∧(ai n.natAbs).length≤200:=by
     unfold okI at ho;cases hx:jP a with
     |none=>rw[hx] at ho;cases ho
     |some n=>rw[hx] at ho;exact⟨n,rfl,by simpa using ho⟩
    have Q:∃n,jP b=some n∧(ai n.natAbs).length≤200:=by
     unfold okI at ho2;cases hx:jP b with
     |none=>rw[hx] at ho2;cases ho2
     |some n=>rw[hx] at ho2;exact⟨n,rfl,by simpa using ho2⟩
    obtain⟨n,M,u⟩:=M;obtain⟨d,Q,d2⟩:=Q;rw[R9 hx (by rw[←U];exact M) (by rw[←S];exact Q) u d2];have F:jP [49]=some 1:=rfl;have G:M6 d 1≤0↔¬1<d:=by
     unfold M6;split
     ·constructor<;>intro h<;>omega
     ·split<;>constructor<;>intro h<;>omega
    have O:(a==[48])=decide (n=0):=by rw[bS M,gi]
    have B:(ai n.natAbs).length≤100000:=by omega
    have d3:(ai d.natAbs).length≤100000:=by omega
    by_cases D:1<d
    ·have V :¬M6 d 1≤0:=fun e=>G.1 e D
     by_cases C:n=0
     ·have L:¬n.natAbs.gcd d.natAbs=1:=by subst C;simp;omega
      rw[if_neg (fun e=>L e.2)];simp[aa,R,f61,ag,bw,bL,bD,ct,aM,aN,aq,y,X,Z,←U,←S,N,K,sT,ho,ho2,Q,F,V,O,C]
     ·by_cases L:n.natAbs.gcd d.natAbs=1
      ·rw[if_pos ⟨D,L⟩]
       simp[aa,R,f61,ag,bw,bL,bD,ct,aM,aN,aq,y,X,Z,←U,←S,N,K,sT,ho,ho2,M,Q,F,V,O,C,B,d3,gd,L]
      ·rw[if_neg (fun e=>L e.2)]
       simp[aa,R,f61,ag,bw,bL,bD,ct,aM,aN,aq,y,X,Z,←U,←S,N,K,sT,ho,ho2,M,Q,F,V,O,C,B,d3,gd,L]
    ·have V :M6 d 1≤0:=G.2 D
     rw[if_neg (fun e=>D e.1)];simp[aa,R,f61,ag,bw,bL,bD,ct,aM,aN,aq,y,X,Z,←U,←S,N,K,sT,ho,ho2,Q,F,V]
noncomputable def bn(f:FuncId)(args:List AV):Option AV:=
 match f,args with
 |61,[.str s]=>if s.length≤1000000000 then some (.int .i64 (AW s)) else none
 |88,[.str s,.str t]=>match dY s,dY t with
  |some a,some b=>if (ai a.num.natAbs).length≤40000∧(ai a.den).length≤40000∧(ai b.num.natAbs).length≤40000∧(ai b.den).length≤40000 then some (.str (ax (a-b))) else none
  |_,_=>none
 |87,[.str s,.str t]=>match dY s,dY t with
  |some a,some b=>if b≠0∧(ai a.num.natAbs).length≤40000∧(ai a.den).length≤40000∧(ai b.num.natAbs).length≤40000∧(ai b.den).length≤40000 then some (.tuple [.str (ax (a / b)),.int .i64 0]) else none
  |_,_=>none
 |f,args=>bw f args
theorem cP:qS prog (ag bn):=bF fun f U v h mem=>by
 unfold bn at h;split at h
 ·split at h
  next Z=>cases h;exact mL _ Z mem
  ·cases h
 ·split at h
  ·rename_i m n X V
   split at h
   next Z=>cases h;rw[az X,az V];exact Rm m n ⟨Z.1,Z.2.1⟩ ⟨Z.2.2.1,Z.2.2.2⟩ mem
   ·cases h
  ·cases h
 ·split at h
  ·rename_i m n X V
   split at h
   next Z=>cases h;rw[az X,az V];exact QP m n Z.1 ⟨Z.2.1,Z.2.2.1⟩ ⟨Z.2.2.2.1,Z.2.2.2.2⟩ mem
   ·cases h
  ·cases h
 ·have:=mT.fn _ _ mem ⟨v,none,[]⟩ (by unfold ag;simp only;rw[h])
  simpa [y9.mem] using this
theorem Wx(h:AW s=0):∃q,dY s=some q∧s=ax q∧(ai q.num.natAbs).length≤200∧(ai q.den).length≤200:=by
 unfold AW at h;cases hq:dY s with
 |none=>rw[hq] at h;cases h
 |some q=>
  rw[hq] at h;simp only at h;split at h
  next Z=>exact⟨q,rfl,az hq,Z.1,Z.2⟩
  ·cases h
end Go.Proofs
