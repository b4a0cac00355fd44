/- See B54. -/
import Derived.Test.YtffdedmakncfmaaGreatDoorB17
set_option linter.all false
set_option maxRecDepth 100000
set_option maxHeartbeats 40000000
namespace Go.Proofs
open Go.Eng
open Tryz
theorem Tk(t:List UInt8):okT false t=(decide (t.length≤200)&&iQ t):=by
 cases t with
 |nil=>rfl
 |cons c r=>
  unfold okT iQ;simp only[List.length_cons,Bool.or_false,List.all_cons];rw[Bool.eq_iff_iff];simp;cases r with
  |nil=>simp
  |cons x r=>simp;grind
theorem Vj(t:List UInt8):okT true t=(decide (t.length≤200)&&iQ t&& !(t.head? ==some 48)):=by
 cases t with
 |nil=>rfl
 |cons c r=>
  unfold okT iQ;simp only[List.length_cons,Bool.or_true,Bool.and_true,List.all_cons,List.head?_cons];rw[Bool.eq_iff_iff];simp
  grind
def okI(s:List UInt8):Bool:=match jj s with
 |some n=>decide ((ai n.natAbs).length≤200)
 |none=>false
theorem QR(r:List UInt8):jj (45::r)=match wY r with
  |some (u+1)=>some (Int.negSucc u)
  |_=>none:=rfl
variable{t:List UInt8}
theorem QS(h:∀r,t≠45::r):jj t=(wY t).map Int.ofNat:=by
 unfold jj;split
 next r=>exact absurd rfl (h r)
 ·cases wY t<;>rfl
theorem O2(h:iQ t=true):wY t=some (ej t):=by unfold wY;rw[if_pos h]
theorem Tf(h:iQ t=false):wY t=none:=by unfold wY;rw[h];rfl
theorem rL(s:List UInt8):okT (Lib.hasPrefix s [45]) (Lib.trimPrefix s [45])=okI s:=by
 unfold Lib.trimPrefix;have Z:∀t:List UInt8,(∀r,t≠45::r)→okT false t=okI t:=by
  intro t U;rw[Tk];unfold okI;rw[QS U];cases hc:iQ t with
  |true=>
   have:=wG hc;rw[O2 hc];show _=decide ((ai (Int.ofNat (ej t)).natAbs).length≤200)
   rw[show(Int.ofNat (ej t)).natAbs=ej t from rfl,this,Bool.and_true]
  |false=>
   rw[Tf hc,Bool.and_false];rfl
 cases s with
 |nil=>rw[show Lib.hasPrefix [] [45]=false from rfl];exact Z [] (by simp)
 |cons c r=>
  by_cases h:c=45
  ·subst h
   rw[show Lib.hasPrefix (45::r) [45]=true by simp[Lib.hasPrefix,List.isPrefixOf]];simp only[if_true,List.length_singleton,List.drop_succ_cons,List.drop_zero];rw[Vj];unfold okI;rw[QR];cases hc:iQ r with
   |true=>
    rw[O2 hc,Bool.and_true];have X:=wG hc;cases hvd:ej r with
    |zero=>
     rw[hvd,jb] at X;rw[←X];rfl
    |succ u=>
     rw[hvd] at X;have V:=Cz (u+1) (by omega);rw[X] at V;show _=decide ((ai (Int.negSucc u).natAbs).length≤200)
     rw[show(Int.negSucc u).natAbs=u+1 from rfl,X];have:(r.head? ==some 48)=false:=by simpa using V
     rw[this];simp
   |false=>
    rw[Tf hc];simp
  ·have S:Lib.hasPrefix (c::r) [45]=false:=by
    have R :¬(45:UInt8)=c:=fun e=>h e.symm
    simp[Lib.hasPrefix,List.isPrefixOf,R]
   rw[S];exact Z (c::r) (by intro Q e;exact h (List.cons.inj e).1)
variable{n:Int}{r:List UInt8}
theorem U6(h:jj r=some n)(y:0≤n):wY r=some n.toNat:=by rw[bN h,fL y,bk];congr 1;omega
theorem Lu{n:Nat}(h:wY r=some n):jj r=some (n:Int):=by rw[fS h];exact cm n
theorem k8:∀(s:List UInt8) (c:UInt8),Lib.indexByte s c=match s.idxOf? c with
  |some i=>(i:Int)
  |none=> -1
 | [],_=>rfl
 |b::l,c=>by
  unfold Lib.indexByte;rw[List.idxOf?_cons,k8 l c];by_cases h:b=c
  ·subst h;simp
  ·have Z :(b==c)=false:=by simpa using h
   rw[Z];simp only[Bool.false_eq_true,if_false];cases l.idxOf? c with
   |none=>simp
   |some i=>
    have X:¬(((i:Int)== -1)=true):=by rw[beq_iff_eq];omega
    simp only[Option.map_some];rw[if_neg X,Int.natCast_add];rfl
def Ay(s:List UInt8):Int:=match ef s with
 |some q=>if (ai q.num.natAbs).length≤200∧(ai q.den).length≤200 then 0 else 2
 |none=>2
noncomputable def bd(f:FuncId)(args:List AV):Option AV:=
 match f,args with
 |111,[.str s,.str t]=>match ef s,ef t with
  |some a,some b=>if (ai a.num.natAbs).length≤40000∧(ai a.den).length≤40000∧(ai b.num.natAbs).length≤40000∧(ai b.den).length≤40000 then some (.int .i64 (we a b)) else none
  |_,_=>none
 |86,[.str s,.str t]=>match ef s,ef t with
  |some a,some b=>if (ai a.num.natAbs).length≤40000∧(ai a.den).length≤40000∧(ai b.num.natAbs).length≤40000∧(ai b.den).length≤40000 then some (.str (aB (a+b))) else none
  |_,_=>none
 |47,[.str s,.str t]=>match ef s,ef t with
  |some a,some b=>if (ai a.num.natAbs).length≤40000∧(ai a.den).length≤40000∧(ai b.num.natAbs).length≤40000∧(ai b.den).length≤40000 then some (.str (aB (a*b))) else none
  |_,_=>none
 |f,args=>bJ f args
theorem jQ:qS prog (af bd):=bH fun f U v h mem=>by
 unfold bd at h;split at h
 ·split at h
  ·rename_i m n X V
   split at h
   ·rename_i Z
    cases h;rw[aC X,aC V];exact sY m n ⟨Z.1,Z.2.1⟩ ⟨Z.2.2.1,Z.2.2.2⟩ mem
   ·cases h
  ·cases h
 ·split at h
  ·rename_i m n X V
   split at h
   ·rename_i Z
    cases h;rw[aC X,aC V];exact Pp m n ⟨Z.1,Z.2.1⟩ ⟨Z.2.2.1,Z.2.2.2⟩ mem
   ·cases h
  ·cases h
 ·split at h
  ·rename_i m n X V
   split at h
   ·rename_i Z
    cases h;rw[aC X,aC V];exact PF m n ⟨Z.1,Z.2.1⟩ ⟨Z.2.2.1,Z.2.2.2⟩ mem
   ·cases h
  ·cases h
 ·have:=jP.fn _ _ mem ⟨v,none,[]⟩ (by unfold af;simp only;rw[h])
  simpa [y9.mem] using this
theorem PX(a b:Rat)(H:iK a)(y:iK b)(mem:Mem):
  kO prog 88 [.str (aB a),.str (aB b)] mem (.str (aB (a-b))) mem:=by
 have Z:aT prog 88=some f88:=by kernel_rfl
 refine ao jQ ?_ mem;have X:=fJ y;obtain⟨V,U⟩:=H;obtain⟨S,R⟩:=y;have e:a+ -b=a-b:=(Rat.sub_eq_add_neg a b).symm;simp[aa,Z,f88,af,bd,bJ,bD,az,X,V,U,S,R,e]
variable{b:Rat}
theorem uF(h:0<b.num):b⁻¹.num=(b.den:Int)∧b⁻¹.den=b.num.natAbs:=by rw[Rat.num_inv,Rat.den_inv,Int.sign_eq_one_of_pos h,if_neg (by omega)];exact⟨Int.one_mul _,rfl⟩
theorem Ce(h:b.num<0):b⁻¹.num= -(b.den:Int)∧b⁻¹.den=b.num.natAbs:=by rw[Rat.num_inv,Rat.den_inv,Int.sign_eq_neg_one_of_neg h,if_neg (by omega)];exact⟨by omega,rfl⟩
theorem Pt(a b:Rat)(y:b≠0)(ha:iK a)(H:iK b)(mem:Mem):
  kO prog 87 [.str (aB a),.str (aB b)] mem (.tuple [.str (aB (a / b)),.int .i64 0]) mem:=by
 have F:aT prog 87=some f87:=by kernel_rfl
 refine ao jQ ?_ mem;have D:=fJ H;obtain⟨C,B⟩:=ha;obtain⟨u,j⟩:=H;have Y:b.num≠0:=fun e=>y (mu.1 e)
 have S:(aB b==[48])=false:=by rw[aV];simpa using y
 have e:a*b⁻¹=a / b:=(Rat.div_def a b).symm;obtain⟨m,Z⟩:=xE b.num.natAbs;rw[←Z] at u;have W:(ai m).length≤1000000000:=by omega
 have M:(ai b.den).length≤1000000000:=by omega
 have J:(ai b⁻¹.num.natAbs).length≤40000∧(ai b⁻¹.den).length≤40000:=by
  rcases Int.lt_or_gt_of_ne Y with h | h
  ·obtain⟨R,X⟩:=Ce h
   rw[R,X,Int.natAbs_neg,Int.natAbs_natCast,←Z];exact⟨j,u⟩
  ·obtain⟨R,X⟩:=uF h
   rw[R,X,Int.natAbs_natCast,←Z];exact⟨j,u⟩
 have L:=fun h=>Ce (b:=b) h
 have K:=fun h=>uF (b:=b) h
 obtain⟨w,hw⟩:=xE (b⁻¹);rw[←hw] at J e L K;obtain⟨f1,f2⟩:=J;rcases Int.lt_or_gt_of_ne Y with h | h
 ·obtain⟨R,X⟩:=L h
  have G:(aB b)[0]? =some 45:=by rw[iz h];rfl
  have V:bB (-b.num)=ai m:=by rw[fL (by omega),Int.natAbs_neg,Z]
  have I:(bB b.num).length≤1000000000:=by have:=cQ b.num;rw[←Z] at this;omega
  have N:(bB (-(b.den:Int))).length≤1000000000:=by have:=cQ (-(b.den:Int));rw[Int.natAbs_neg,Int.natAbs_natCast] at this;omega
  by_cases Q:m=1
  ·have U:bB (-(b.den:Int))=aB w:=by unfold aB;rw[if_pos (by rw[X,←Z,Q]),R]
   have O:=congrArg jj U;rw[aA] at O;have O:=O.symm;have o:(ai 1).length≤1000000000:=by decide
   have lj:(aB w).length≤1000000000:=by rw[←U];first | exact N | exact M
   simp[aa,F,f87,S,af,bd,bJ,bD,cq,aO,az,aA,bk,cm,D,G,V,I,M,Q,U,O,o,lj,C,B,f1,f2,e]
  ·have U:bB (-(b.den:Int))++47::ai m=aB w:=by unfold aB;rw[if_neg (by rw[X,←Z];exact Q),R,X,←Z]
   simp[aa,F,f87,S,af,bd,bJ,bD,cq,aO,az,aA,bk,cm,D,G,V,I,N,W,M,Q,U,C,B,f1,f2,e]
 ·obtain⟨R,X⟩:=K h
  obtain⟨c,r,hc,hd⟩:=kc (q:=b) (by omega);have G:(aB b)[0]? =some c:=by rw[hc];rfl
  have ZF:=eG hd;have V:bB b.num=ai m:=by rw[fL (by omega),Z]
  by_cases Q:m=1
  ·have U:bB (b.den:Int)=aB w:=by unfold aB;rw[if_pos (by rw[X,←Z,Q]),R]
   have O:=congrArg jj U;rw[aA] at O;have O:=O.symm;have o:(ai 1).length≤1000000000:=by decide
   have lj:(aB w).length≤1000000000:=by rw[←U];first | exact N | exact M
   simp[aa,F,f87,S,af,bd,bJ,bD,az,bk,cm,D,G,ZF,V,M,Q,U,o,C,B,f1,f2,e]
  ·have U:bB (b.den:Int)++47::ai m=aB w:=by unfold aB;rw[if_neg (by rw[X,←Z];exact Q),R,X,←Z]
   simp[aa,F,f87,S,af,bd,bJ,bD,az,bk,cm,D,G,ZF,V,W,M,Q,U,C,B,f1,f2,e]
variable{s:List UInt8}
theorem Sh(h:s.idxOf? 47=none):Ay s=if okI s then 0 else 2:=by
 unfold Ay ef okI;rw[h];cases hn:jj s with
 |none=>simp
 |some n=>
  have:(ai 1).length≤200:=by decide
  simp[this]
variable{i:Nat}
theorem Sf(h:s.idxOf? 47=some i)(h1:okI (s.take i)=false):Ay s=2:=by
 unfold Ay ef;rw[h];unfold okI at h1;cases hn:jj (s.take i) with
 |none=>simp[hn]
 |some n=>
  rw[hn] at h1;simp only[decide_eq_false_iff_not] at h1;simp only[hn];cases hd:wY (s.drop (i+1)) with
  |none=>simp[]
  |some d=>
   simp only[Q6];by_cases Z:1<d∧n.natAbs.gcd d=1
   ·rw[dif_pos Z]
    simp only;rw[if_neg (by intro h;exact h1 h.1)]
   ·rw[dif_neg Z]
theorem Sg(h:s.idxOf? 47=some i)(h1:okI (s.drop (i+1))=false):Ay s=2:=by
 unfold Ay ef;rw[h];unfold okI at h1;cases hn:jj (s.take i) with
 |none=>simp[hn]
 |some n=>
  simp only[hn];cases hd:wY (s.drop (i+1)) with
  |none=>simp[]
  |some d=>
   rw[Lu hd] at h1;simp only[decide_eq_false_iff_not,Int.natAbs_natCast] at h1;simp only[Q6];by_cases Z:1<d∧n.natAbs.gcd d=1
   ·rw[dif_pos Z]
    simp only;rw[if_neg (by intro h;exact h1 h.2)]
   ·rw[dif_neg Z]
theorem QH{d:Int}(h:s.idxOf? 47=some i)(y:jj (s.take i)=some n)(hd:jj (s.drop (i+1))=some d)(H:(ai n.natAbs).length≤200)(hd2:(ai d.natAbs).length≤200):
  Ay s=if 1<d∧n.natAbs.gcd d.natAbs=1 then 0 else 2:=by
 unfold Ay ef;rw[h];simp only[y];by_cases X:0≤d
 ·rw[U6 hd X]
  simp only[Q6];have e:d.toNat=d.natAbs:=by omega
  rw[e];by_cases Z:1<d∧n.natAbs.gcd d.natAbs=1
  ·rw[if_pos Z,dif_pos ⟨by omega,Z.2⟩]
   simp only;rw[if_pos ⟨H,hd2⟩]
  ·rw[if_neg Z,dif_neg (fun e=>Z ⟨by omega,e.2⟩)]
 ·have:wY (s.drop (i+1))=none:=by
   cases hx:wY (s.drop (i+1)) with
   |none=>rfl
   |some u=>
    rw[Lu hx] at hd;cases hd;omega
  rw[this];rw[if_neg (fun e=>by omega)]
theorem qj(s:List UInt8)(y:s.length≤1000000000)(mem:Mem):
  kO prog 61 [.str s] mem (.int .i64 (Ay s)) mem:=by
 have S:aT prog 61=some f61:=by kernel_rfl
 refine ao jQ ?_ mem;have Z:=k8 s 47;cases hx:s.idxOf? 47 with
 |none=>
  rw[hx] at Z;simp only at Z;rw[Sh hx];cases ho:okI s with
  |true=>simp[aa,S,f61,af,bd,bJ,bD,cq,aO,aQ,ak,y,Z,rL,ho]
  |false=>simp[aa,S,f61,af,bd,bJ,bD,cq,aO,aQ,ak,y,Z,rL,ho]
 |some i=>
  rw[hx] at Z;simp only at Z;have Q:(0:Int)≤i:=by omega
  obtain⟨a,V⟩:=xE (s.take i);obtain⟨b,U⟩:=xE (s.drop (i+1));have O:a.length≤1000000000:=by rw[V,List.length_take];omega
  have L:b.length≤1000000000:=by rw[U,List.length_drop];omega
  cases ho:okI a with
  |false=>
   rw[Sf hx (by rw[←V];exact ho)];simp[aa,S,f61,af,bd,bJ,bD,cq,aO,aQ,ak,y,Z,Q,←V,←U,O,rL,ho]
  |true=>
   cases ho2:okI b with
   |false=>
    rw[Sg hx (by rw[←U];exact ho2)];simp[aa,S,f61,af,bd,bJ,bD,cq,aO,aQ,ak,y,Z,Q,←V,←U,O,L,rL,ho,ho2]
   |true=>
    have N:∃n,jj a=some n∧(ai n.natAbs).length≤200:=by
     unfold okI at ho;cases hx:jj a with
     |none=>rw[hx] at ho;cases ho
     |some n=>rw[hx] at ho;exact⟨n,rfl,by simpa using ho⟩
    have R:∃n,jj b=some n∧(ai n.natAbs).length≤200:=by
     unfold okI at ho2;cases hx:jj b with
     |none=>rw[hx] at ho2;cases ho2
     |some n=>rw[hx] at ho2;exact⟨n,rfl,by simpa using ho2⟩
    obtain⟨n,N,u⟩:=N;obtain⟨d,R,d2⟩:=R;rw[QH hx (by rw[←V];exact N) (by rw[←U];exact R) u d2];have K:jj [49]=some 1:=rfl;have C:KK d 1≤0↔¬1<d:=by
     unfold KK;split
     ·constructor<;>intro h<;>omega
     ·split<;>constructor<;>intro h<;>omega
    have D:(a==[48])=decide (n=0):=by rw[bN N,fK]
    have B:(ai n.natAbs).length≤100000:=by omega
    have d3:(ai d.natAbs).length≤100000:=by omega
    by_cases G:1<d
    ·have X :¬KK d 1≤0:=fun e=>C.1 e G
     by_cases F:n=0
     ·have M:¬n.natAbs.gcd d.natAbs=1:=by subst F;simp;omega
      rw[if_neg (fun e=>M e.2)];simp[aa,S,f61,af,bd,bJ,bD,cq,aO,aQ,ak,y,Z,Q,←V,←U,O,L,rL,ho,ho2,R,K,X,D,F]
     ·by_cases M:n.natAbs.gcd d.natAbs=1
      ·rw[if_pos ⟨G,M⟩]
       simp[aa,S,f61,af,bd,bJ,bD,cq,aO,aQ,ak,y,Z,Q,←V,←U,O,L,rL,ho,ho2,N,R,K,X,D,F,B,d3,fF,M]
      ·rw[if_neg (fun e=>M e.2)]
       simp[aa,S,f61,af,bd,bJ,bD,cq,aO,aQ,ak,y,Z,Q,←V,←U,O,L,rL,ho,ho2,N,R,K,X,D,F,B,d3,fF,M]
    ·have X :KK d 1≤0:=C.2 G
     rw[if_neg (fun e=>G e.1)];simp[aa,S,f61,af,bd,bJ,bD,cq,aO,aQ,ak,y,Z,Q,←V,←U,O,L,rL,ho,ho2,R,K,X]
noncomputable def be(f:FuncId)(args:List AV):Option AV:=
 match f,args with
 |61,[.str s]=>if s.length≤1000000000 then some (.int .i64 (Ay s)) else none
 |88,[.str s,.str t]=>match ef s,ef t with
  |some a,some b=>if (ai a.num.natAbs).length≤40000∧(ai a.den).length≤40000∧(ai b.num.natAbs).length≤40000∧(ai b.den).length≤40000 then some (.str (aB (a-b))) else none
  |_,_=>none
 |87,[.str s,.str t]=>match ef s,ef t with
  |some a,some b=>if b≠0∧(ai a.num.natAbs).length≤40000∧(ai a.den).length≤40000∧(ai b.num.natAbs).length≤40000∧(ai b.den).length≤40000 then some (.tuple [.str (aB (a / b)),.int .i64 0]) else none
  |_,_=>none
 |f,args=>bd f args
theorem cO:qS prog (af be):=bH fun f U v h mem=>by
 unfold be at h;split at h
 ·split at h
  next Z=>cases h;exact qj _ Z mem
  ·cases h
 ·split at h
  ·rename_i m n X V
   split at h
   next Z=>cases h;rw[aC X,aC V];exact PX m n ⟨Z.1,Z.2.1⟩ ⟨Z.2.2.1,Z.2.2.2⟩ mem
   ·cases h
  ·cases h
 ·split at h
  ·rename_i m n X V
   split at h
   next Z=>cases h;rw[aC X,aC V];exact Pt m n Z.1 ⟨Z.2.1,Z.2.2.1⟩ ⟨Z.2.2.2.1,Z.2.2.2.2⟩ mem
   ·cases h
  ·cases h
 ·have:=jQ.fn _ _ mem ⟨v,none,[]⟩ (by unfold af;simp only;rw[h])
  simpa [y9.mem] using this
theorem UY(h:Ay s=0):∃q,ef s=some q∧s=aB q∧(ai q.num.natAbs).length≤200∧(ai q.den).length≤200:=by
 unfold Ay at h;cases hq:ef s with
 |none=>rw[hq] at h;cases h
 |some q=>
  rw[hq] at h;simp only at h;split at h
  next Z=>exact⟨q,rfl,aC hq,Z.1,Z.2⟩
  ·cases h
end Go.Proofs
