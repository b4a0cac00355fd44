/- See C54. -/
import Derived.Test.YtffdedmakncfmaaGreatDoorC07
import Derived.Lib.ItoaLen
set_option linter.all false
namespace Go.Proofs
open Go.Eng
open Tryz
theorem Rl(n:Int)(mem:Mem):kO prog 137 [.str (bB n)] mem (.int .i64 (kf n)) mem:=by
 have Z:aS prog 137=some f137:=by kernel_rfl
 refine ao dU ?_ mem;by_cases X:n=0
 ·simp[aa,Z,f137,gi,kf,X]
 ·by_cases V:n<0
  ·simp[aa,Z,f137,ag,aq,gi,aJ,V,X,kf]
  ·simp[aa,Z,f137,ag,aq,gi,aJ,V,X,kf]
theorem Vx(n:Int)(y:dL n=true)(mem:Mem):kO prog 114 [.int .i64 n] mem (.str (bB n)) mem:=by
 have Z:aS prog 114=some f114:=by kernel_rfl
 refine ao dU ?_ mem;simp[aa,Z,f114,ag,aq,y]
theorem GY(r c:Bool):XF (bh prog) 229 r c .nilIface .nilIface=if r||c then some true else none:=RZ (by kernel_rfl) r c
theorem NC(n:Int)(m:Int)(y:m≤18)(H:(bB n).length≤1000000000)(mem:Mem):kO prog 139 [.str (bB n),.int .i64 m] mem (if (bB n).length≤m then .tuple [.int .i64 n,.bool true] else .tuple [.int .i64 0,.bool false]) mem:=by
 have X:aS prog 139=some f139:=by kernel_rfl
 refine cK dU (lv:=fun _=>[]) (K:=1) rfl (by split<;>rfl) ?_ mem;by_cases h:((bB n).length:Int)≤m
 ·have Z:¬m<((bB n).length:Int):=by omega
  have h3:(bB n).length≤18:=by omega
  simp[aa,X,f139,ag,aq,h,Z,h3,oC,GY]
 ·have Z:m<((bB n).length:Int):=by omega
  simp[aa,X,f139,h,Z]
noncomputable def aN(f:FuncId)(args:List AV):Option AV:=
 match f,args with
 |137,[.str s]=>match jP s with
  |some n=>some (.int .i64 (kf n))
  |none=>none
 |_,_=>aq f args
theorem rY:qS prog (ag aN):=by
 have X:=dU;refine bF fun f Z v h mem=>?_
 unfold aN at h;split at h
 ·split at h
  next n V=>cases h;rw[bS V];exact Rl n mem
  ·cases h
 ·have:=X.fn f Z mem ⟨v,none,[]⟩ (by unfold ag;simp only;rw[h])
  simpa [y9.mem] using this
theorem Tg(n:Int)(y:(bB n).length≤1000000000)(mem:Mem):kO prog 135 [.str (bB n)] mem (.str (bB (-n))) mem:=by
 have Z:aS prog 135=some f135:=by kernel_rfl
 refine ao rY ?_ mem;by_cases V:n=0
 ·subst V
  simp[aa,Z,f135,ag,aN,aB,kf]
 ·by_cases X:n<0
  ·have R:1≤(bB n).length:=sK n
   have h3:((1:Int)≤(bB n).length):=by omega
   have U:List.take ((bB n).length-1) (List.drop 1 (bB n))=bB (-n):=by rw[List.take_of_length_le (by simp),Hy X]
   simp[aa,Z,f135,ag,aN,aB,kf,X,h3];rw[←List.drop_one];exact U
  ·have S:1+(bB n).length≤9223372036854775807:=by omega
   simp[aa,Z,f135,ag,aN,aB,kf,V,X,S,fm,kK (show 0<n by omega)]
theorem Ea(a b:Int)(mem:Mem):kO prog 108 [.str (bB a),.str (bB b)] mem (.int .i64 (M6 a b)) mem:=by
 have X:aS prog 108=some f108:=by kernel_rfl
 refine ao rY ?_ mem;rw[XL];have R:∀n,-1≤kf n∧kf n≤1:=by intro n;unfold kf;repeat' split<;>omega
 by_cases V:kf a=kf b
 ·by_cases U:(ai a.natAbs).length=(ai b.natAbs).length
  ·have Q:IntKind.i64.wrap (kf b*kq a.natAbs b.natAbs)=kf b*kq a.natAbs b.natAbs:=by
    have U:=R b;have Z: -1≤kq a.natAbs b.natAbs∧kq a.natAbs b.natAbs≤1:=by unfold kq;repeat' split<;>omega
    have h3: -1≤kf b*kq a.natAbs b.natAbs∧kf b*kq a.natAbs b.natAbs≤1:=by
     generalize kf b=x at*;generalize kq a.natAbs b.natAbs=y at*;have O:x= -1∨x=0∨x=1:=by omega
     rcases O with rfl | rfl | rfl<;>omega
    exact af
   simp[aa,X,f108,ag,aN,aq,aB,aD,V,U,yO U,Q]
  ·have N:IntKind.i64.wrap (- kf b)= - kf b:=by have:=R b;exact af
   have S:¬((ai a.natAbs).length:Int)=(ai b.natAbs).length:=by omega
   by_cases Z:(ai a.natAbs).length<(ai b.natAbs).length
   ·simp[aa,X,f108,ag,aN,aq,aB,aD,V,U,S,Z,N]
   ·simp[aa,X,f108,ag,aN,aq,aB,aD,V,U,S,Z]
 ·by_cases Z:kf a<kf b
  ·simp[aa,X,f108,ag,aN,aB,V,Z]
  ·simp[aa,X,f108,ag,aN,aB,V,Z]
variable{K:Nat}{O:afF}{b:Code}{lv:Code→List Nat}
section
variable (s:List UInt8)(hs:s.length≤1000000000)
include s hs
theorem BS(H:Env)(d:Bool)(h3:ad H 3=.str s)(y:ad H 32=.int .i64 s.length)(I:ah f107=[b]):
  ∀(k i:Nat),i≤s.length→s.length≤i+k→∃X,ga [33] (ae b) H 0 (aW (bh prog) lv O K 47 0 true b) (k+1) ⟨aA [33] (ae b) H ((33,.int .i64 i)::H),[],d⟩=
   some (if (s.drop i).all isD then .exit 0 else .ret,⟨X,[],d⟩)∧((s.drop i).all isD=false→ad X 2=.int .i64 2):=by
 simp[ah,aE,f107] at I;have R:∀k,∃X,ga [33] (ae b) H 0 (aW (bh prog) lv O K 47 0 true b) (k+1) ⟨aA [33] (ae b) H ((33,.int .i64 s.length)::H),[],d⟩=
   some (if (s.drop s.length).all isD then .exit 0 else .ret,⟨X,[],d⟩)∧((s.drop s.length).all isD=false→ad X 2=.int .i64 2):=by
  intro k;subst I;simp[ga,y]
 intro k;induction k with
 |zero=>
  intro i M L;have V :i=s.length:=by omega
  subst V;exact R 0
 |succ k ih=>
  intro i M L;by_cases V :i=s.length
  ·subst V;exact R (k+1)
  have G:i<s.length:=by omega
  have F :(i:Int)<s.length:=by omega
  obtain⟨c,Q⟩:∃c,s[i]? =some c:=⟨s[i],by simp[G]⟩
  have N:s.drop i=c::s.drop (i+1):=by rw[List.drop_eq_getElem_cons G];congr 1;have:=List.getElem?_eq_getElem G;rw[Q] at this;exact(Option.some.inj this).symm
  have C:IntKind.i64.wrap ((i:Int)+1)=((i+1:Nat):Int):=by rw[af];omega
  obtain⟨X,D,B⟩:=ih (i+1) (by omega) (by omega);subst I;unfold ga;by_cases u:c.toNat<48
  ·have S:isD c=false:=by unfold isD;simp;omega
   have Z :((c.toNat:Int)<48):=by omega
   simp[h3,y,F,Q,Z,N,S]
  ·have Z :¬((c.toNat:Int)<48):=by omega
   by_cases o:57<c.toNat
   ·have S:isD c=false:=by unfold isD;simp;omega
    have U :(57<(c.toNat:Int)):=by omega
    simp[h3,y,F,Q,Z,U,N,S]
   ·have S:isD c=true:=by unfold isD;simp;omega
    have U :¬(57<(c.toNat:Int)):=by omega
    refine⟨X,?_,?_⟩
    ·simp[h3,y,F,Q,Z,U,N,S,C]
     simp at D;exact D
    ·rw[N];simpa [S] using B
theorem Au(I:s.length<K)(H:ah f107=[b])(y:lv b=[33]):
  ∃F:Env→Bool→Env,∀Z d,(ad Z 3=.str s∧ad Z 32=.int .i64 s.length∧ad Z 33=.int .i64 0)→
   aW (bh prog) lv O K 47 0 true (.loop b) ⟨Z,[],d⟩=some (if s.all isD then .exit 0 else .ret,⟨F Z d,[],d⟩)∧(s.all isD=false→ad (F Z d) 2=.int .i64 2):=by
 refine qJ (p:=fun Z _=>ad Z 3=.str s∧ad Z 32=.int .i64 s.length∧ad Z 33=.int .i64 0) (q:=fun Z d X =>aW (bh prog) lv O K 47 0 true (.loop b) ⟨Z,[],d⟩=some (if s.all isD then .exit 0 else .ret,⟨X,[],d⟩)∧(s.all isD=false→ad X 2=.int .i64 2)) ?_;rintro Z d ⟨h3,h32,h33⟩;obtain⟨U,V,S⟩:=BS (O:=O) (K:=K) (lv:=lv) s hs Z d h3 h32 H (K-1) 0 (by omega) (by omega);refine⟨U,?_,by simpa using S⟩;rw[aT,y];have R:aA [33] (ae b) Z ((33,.int .i64 (0:Nat))::Z)=aA [33] (ae b) Z Z:=by simp[aA,h33]
 rw[R,show K-1+1=K by omega] at V;simpa using V
end
def okT(mn:Bool)(t:List UInt8):Bool:=match t with
 | []=>false
 |c::r=>decide (r.length<200)&& !(c==48&&(decide (0<r.length)||mn))&&(c::r).all isD
theorem ZO{c:UInt8}:((c.toNat:Int)=48)↔c=48:=by
 constructor
 ·intro e
  apply UInt8.toNat_inj.1;have:c.toNat=48:=by omega
  rw[this];rfl
 ·rintro rfl;rfl
theorem H6(s:List UInt8)(hs:s.length≤1000000000)(mem:Mem):kO prog 107 [.str s] mem (.int .i64 (if okT (Lib.hasPrefix s [45]) (Lib.trimPrefix s [45]) then 0 else 2)) mem:=by
 have X:aS prog 107=some f107:=by kernel_rfl
 refine cK dU (lv:=fun _=>[33]) (K:=s.length+1) rfl rfl ?_ mem;have M:(Lib.trimPrefix s [45]).length≤s.length:=by unfold Lib.trimPrefix;split<;>simp
 cases htp:Lib.trimPrefix s [45] with
 |nil=>simp[aa,X,f107,ag,aq,htp,okT]
 |cons c r=>
  rw[htp] at M;simp only[List.length_cons] at M;obtain⟨b,Q⟩:∃b,ah f107=[b]:=⟨_,rfl⟩
  obtain⟨F,S⟩:=Au (O:=ag aq) (K:=s.length+1) (lv:=fun _=>[33]) (c::r) (by simp;omega) (by simp;omega) Q rfl;simp[ah,aE,f107] at Q;subst Q;simp only[List.length_cons] at S;by_cases R:r.length<200
  ·have Z :¬(200<(r.length:Int)+1):=by omega
   by_cases N:c=48
   ·subst N
    by_cases h3:0<r.length
    ·have V :1<(r.length:Int)+1:=by omega
     simp[aa,X,f107,ag,aq,htp,okT,R,Z,h3,V]
    ·have V :¬1<(r.length:Int)+1:=by omega
     have L:r=[]:=List.eq_nil_of_length_eq_zero (by omega);subst L;cases hmn:Lib.hasPrefix s [45] with
     |true=>simp[aa,X,f107,ag,aq,htp,okT,hmn]
     |false=>
      have G:isD 48=true:=by decide
      simp[aa,X,f107,ag,aq,htp,okT,hmn,S,G]
   ·have U :¬((c.toNat:Int)=48):=fun e=>N (ZO.1 e)
    cases UV:(c::r).all isD with
    |true=>simp[aa,X,f107,ag,aq,htp,okT,R,Z,N,U,S,UV]
    |false=>simp[aa,X,f107,ag,aq,htp,okT,R,Z,U,S,UV]
  ·have Z :(200<(r.length:Int)+1):=by omega
   simp[aa,X,f107,ag,aq,htp,okT,R,Z]
theorem Q7(q:Rat)(y:(ax q).length≤1000000000)(mem:Mem):kO prog 46 [.str (ax q)] mem (.str (ax (-q))) mem:=by
 have X:aS prog 46=some f46:=by kernel_rfl
 refine ao (aw _) ?_ mem;by_cases Z:q=0
 ·subst Z
  simp[aa,X,f46,aY]
 ·have N:¬q.num=0:=fun e=>Z (ni.1 e)
  by_cases S:q.num<0
  ·have e:=jd S
   have V:(45::ax (-q)==[48])=false:=by rw[←e,aY];simpa using Z
   rw[e];have h3:(1:Int)≤((ax (-q)).length:Int)+1:=by omega
   simp[aa,X,f46,V,h3]
  ·have e:=nq (q:=q) (by omega)
   obtain⟨c,r,U,R⟩:=kP (q:=q) (by omega);have V:(c::r==[48])=false:=by rw[←U,aY];simpa using Z
   have Q:=eP R;rw[e,U];rw[U] at y;simp only[List.length_cons] at y;have h3:1+(r.length+1)≤9223372036854775807:=by omega
   simp[aa,X,f46,V,Q,h3,fm]
theorem BN(q:Rat)(mem:Mem):kO prog 228 [.str (ax q)] mem (.int .i64 (fL q)) mem:=by
 have X:aS prog 228=some f228:=by kernel_rfl
 refine ao (aw _) ?_ mem;by_cases Z:q=0
 ·subst Z
  have:fL 0=0:=rfl;simp[aa,X,f228,aY,this]
 ·have R:¬q.num=0:=fun e=>Z (ni.1 e)
  by_cases V:q.num<0
  ·have e:=jd V
   have U:(45::ax (-q)==[48])=false:=by rw[←e,aY];simpa using Z
   have h3:0<((ax (-q)).length:Int)+1:=by omega
   rw[e];simp[aa,X,f228,U,fL,kf,V,h3]
  ·obtain⟨c,r,S,Q⟩:=kP (q:=q) (by omega)
   have U:(c::r==[48])=false:=by rw[←S,aY];simpa using Z
   have N:=eP Q;have h3:0<(r.length:Int)+1:=by omega
   rw[S];simp[aa,X,f228,U,N,h3,fL,kf,V,R]
theorem QY(n:Int)(d:Nat)(y:(bB n).length≤1000000000)(hd:(ai d).length≤1000000000)(mem:Mem):kO prog 136 [.str (bB n),.str (ai d)] mem (.str (if d=1 then bB n else bB n++47::ai d)) mem:=by
 have Z:aS prog 136=some f136:=by kernel_rfl
 refine ao (aw _) ?_ mem;by_cases h:d=1
 ·subst h
  have:ai 1=[49]:=rfl;simp[aa,Z,f136,this]
 ·have X:(ai d==[49])=false:=by rw[beq_eq_false_iff_ne];intro e;exact h (Bs (e.trans (show [49]=ai 1 from rfl)))
  have V:(bB n).length+1≤9223372036854775807:=by omega
  have U:(bB n).length+1+(ai d).length≤9223372036854775807:=by omega
  simp[aa,Z,f136,X,h,V,U,fm]
theorem NA(q:Rat)(y:(ax q).length≤1000000000)(mem:Mem):kO prog 91 [.str (ax q)] mem (.tuple [.str (bB q.num),.str (ai q.den)]) mem:=by
 have V:aS prog 91=some f91:=by kernel_rfl
 refine ao dU ?_ mem;have Z:=EU q;by_cases h:q.den=1
 ·have X:ai 1=[49]:=rfl
  have e:ax q=bB q.num:=by unfold ax;rw[if_pos h]
  rw[if_pos h,e] at Z;rw[e] at y;rw[e];simp[aa,V,f91,ag,aq,y,Z,h,X]
 ·have e:ax q=bB q.num++47::ai q.den:=by unfold ax;rw[if_neg h]
  rw[if_neg h] at Z;have U:(0:Int)≤(bB q.num).length:=by omega
  have X:List.drop ((bB q.num).length+1) (bB q.num++47::ai q.den)=ai q.den:=by rw[List.drop_append];simp
  have S:List.take (bB q.num).length (bB q.num++47::ai q.den)=bB q.num:=List.take_left' rfl;rw[e] at y Z;rw[e];simp only[List.length_append,List.length_cons] at y;simp[aa,V,f91,ag,aq,y,Z,X]
variable{b2:Code}
theorem AA(s rest:List UInt8)(J:Nat)(hs:s.length≤1000000000)(W:rest=[]∨∃r,rest=47::r)(H:Env)(d:Bool)(h0:ad H 0=.str s)(Y:ad H 7=.int .i64 J)(I:ah f89=[b,b2]):
  ∀(y:List UInt8) (i j acc k:Nat),s.drop i=y++rest→y.all isD=true→i=J+j→i≤s.length→acc<10 ^ j→j≤9→y.length≤k→
   ∃Z,(j+y.length≤9→ga [5,2,3] (ae b) H 0 (aW (bh prog) lv O K 73 0 true b) (k+1) ⟨aA [5,2,3] (ae b) H ((5,.int .i64 i)::(2,.int .i64 acc)::H),[],d⟩=some (.exit 0,⟨Z,[],d⟩)∧
     ad Z 5=.int .i64 ((i+y.length:Nat):Int)∧ad Z 2=.int .i64 (wI acc y)∧ad Z 0=.str s∧ad Z 6=ad H 6∧ad Z 3=ad H 3)∧
    (9<j+y.length→ga [5,2,3] (ae b) H 0 (aW (bh prog) lv O K 73 0 true b) (k+1) ⟨aA [5,2,3] (ae b) H ((5,.int .i64 i)::(2,.int .i64 acc)::H),[],d⟩=some (.ret,⟨Z,[],d⟩)∧
     ad Z 2=.int .i64 0∧ad Z 3=.int .i64 0∧ad Z 4=.bool false):=by
 simp[ah,aE,f89] at I;obtain⟨I,_⟩:=I;intro y;induction y with
 |nil=>
  intro i j acc k X _ u hi o m _;subst I;rcases W with rfl | ⟨r,rfl⟩
  ·have G':i=s.length:=by have:=congrArg List.length X;simp at this;omega
   subst G';have S:¬(9<j):=by omega
   simp[ga,h0,S,m,dD]
  ·have FS:i<s.length:=by have:=congrArg List.length X;simp at this;omega
   have R :(i:Int)<s.length:=by omega
   have Q:s[i]? =some 47:=by have:=congrArg List.head? X;rw[List.head?_drop] at this;simpa using this
   have S:¬(9<j):=by omega
   simp[ga,h0,R,Q,S,m,dD]
 |cons c y ih=>
  intro i j acc k X B u hi o m hk;simp only[List.all_cons,Bool.and_eq_true] at B;have FS:i<s.length:=by have:=congrArg List.length X;simp at this;omega
  have R :(i:Int)<s.length:=by omega
  have Q:s[i]? =some c:=by have:=congrArg List.head? X;rw[List.head?_drop] at this;simpa using this
  have hc1:=uC B.1;have hc2:48≤c.toNat∧c.toNat≤57:=by have:=B.1;unfold isD at this;simpa using this
  have V:¬((c.toNat:Int)=47):=by omega
  have U:IntKind.i64.wrap ((i:Int)-J)=j:=by rw[af];omega
  obtain⟨k,rfl⟩:∃k',k=k' +1:=⟨k-1,by simp at hk;omega⟩
  by_cases hj9:j=9
  ·subst hj9
   subst I;have S:¬(9+(y.length+1)≤9):=by omega
   simp[ga,h0,Y,R,Q,V,U,S]
  ·have N:¬((j:Int)=9):=by omega
   have hp:10 ^ j≤100000000:=Nat.le_trans (Nat.pow_le_pow_right (by omega) (show j≤8 by omega)) (by decide);obtain⟨v,hv⟩:=xE (α:=Nat) (c.toNat-48);obtain⟨a2,ha2⟩:=xE (α:=Nat) (10*acc+v);obtain⟨i2,M⟩:=xE (α:=Nat) (i+1);have L:IntKind.i64.wrap (10*(acc:Int))=10*(acc:Int):=af;have G:IntKind.u8.wrap ((c.toNat:Int)-48)=(v:Int):=by rw[HY (by omega) (by omega)];omega
   have F:IntKind.i64.wrap (v:Int)=(v:Int):=af;have D:IntKind.i64.wrap (10*(acc:Int)+(v:Int))=(a2:Int):=by rw[af];omega
   have C:IntKind.i64.wrap ((i:Int)+1)=(i2:Int):=by rw[af];omega
   have aaY :a2<10 ^ (j+1):=by rw[Nat.pow_succ];omega
   have hd' :s.drop i2=y++rest:=by rw[M,←List.drop_drop,X];simp
   obtain⟨Z,e1,e2⟩:=ih i2 (j+1) a2 k hd' B.2 (by omega) (by omega) aaY (by omega) (by simp at hk;omega);subst I;refine⟨Z,fun hle=>?_,fun hgt=>?_⟩
   ·obtain⟨f1,f2,f3,f4,f5⟩:=e1 (by simp at hle;omega)
    refine⟨?_,by rw[f2,M,List.length_cons,show i+1+y.length=i+(y.length+1) by omega],by rw[f3,eD,ha2,hv],f4,f5⟩;rw[ga];simp[h0,Y,R,Q,V,U,N,L,G,F,D,C];simp at f1;exact f1
   ·obtain⟨f1,f2⟩:=e2 (by simp at hgt;omega)
    refine⟨?_,f2⟩;rw[ga];simp[h0,Y,R,Q,V,U,N,L,G,F,D,C];simp at f1;exact f1
variable{b1:Code}
theorem AB(s:List UInt8)(J:Nat)(hs:s.length≤1000000000)(H:Env)(d:Bool)(h0:ad H 0=.str s)(W:ad H 7=.int .i64 J)(I:ah f89=[b1,b]):
  ∀(y:List UInt8) (i j acc k:Nat),s.drop i=y→y.all isD=true→i=J+j→i≤s.length→acc<10 ^ j→j≤9→y.length≤k→
   ∃Z,(j+y.length≤9→ga [5,3,2] (ae b) H 0 (aW (bh prog) lv O K 73 0 true b) (k+1) ⟨aA [5,3,2] (ae b) H ((5,.int .i64 i)::(3,.int .i64 acc)::H),[],d⟩=some (.exit 2,⟨Z,[],d⟩)∧
     ad Z 5=.int .i64 ((i+y.length:Nat):Int)∧ad Z 3=.int .i64 (wI acc y)∧ad Z 0=.str s∧ad Z 2=ad H 2)∧
    (9<j+y.length→ga [5,3,2] (ae b) H 0 (aW (bh prog) lv O K 73 0 true b) (k+1) ⟨aA [5,3,2] (ae b) H ((5,.int .i64 i)::(3,.int .i64 acc)::H),[],d⟩=some (.ret,⟨Z,[],d⟩)∧
     ad Z 2=.int .i64 0∧ad Z 3=.int .i64 0∧ad Z 4=.bool false):=by
 simp[ah,aE,f89] at I;obtain⟨_,I⟩:=I;intro y;induction y with
 |nil=>
  intro i j acc k V _ F hi D hj _;subst I;have G':i=s.length:=by have:=congrArg List.length V;simp at this;omega
  subst G';have C:¬(9<j):=by omega
  simp[ga,h0,C,hj,dD]
 |cons c y ih=>
  intro i j acc k V G F hi D hj hk;simp only[List.all_cons,Bool.and_eq_true] at G;have FS:i<s.length:=by have:=congrArg List.length V;simp at this;omega
  have B :(i:Int)<s.length:=by omega
  have hc:s[i]? =some c:=by have:=congrArg List.head? V;rw[List.head?_drop] at this;simpa using this
  have hc1:=uC G.1;have hc2:48≤c.toNat∧c.toNat≤57:=by have:=G.1;unfold isD at this;simpa using this
  have X:IntKind.i64.wrap ((i:Int)-J)=j:=by rw[af];omega
  obtain⟨k,rfl⟩:∃k',k=k' +1:=⟨k-1,by simp at hk;omega⟩
  by_cases u:j=9
  ·subst u
   subst I;have C:¬(9+(y.length+1)≤9):=by omega
   simp[ga,h0,W,B,X,C]
  ·have U:¬((j:Int)=9):=by omega
   have hp:10 ^ j≤100000000:=Nat.le_trans (Nat.pow_le_pow_right (by omega) (show j≤8 by omega)) (by decide);obtain⟨v,hv⟩:=xE (α:=Nat) (c.toNat-48);obtain⟨o,m⟩:=xE (α:=Nat) (10*acc+v);obtain⟨Y,S⟩:=xE (α:=Nat) (i+1);have R:IntKind.i64.wrap (10*(acc:Int))=10*(acc:Int):=af;have Q:IntKind.u8.wrap ((c.toNat:Int)-48)=(v:Int):=by rw[HY (by omega) (by omega)];omega
   have N:IntKind.i64.wrap (v:Int)=(v:Int):=af;have M:IntKind.i64.wrap (10*(acc:Int)+(v:Int))=(o:Int):=by rw[af];omega
   have L:IntKind.i64.wrap ((i:Int)+1)=(Y:Int):=by rw[af];omega
   have aaY :o<10 ^ (j+1):=by rw[Nat.pow_succ];omega
   have hd' :s.drop Y=y:=by rw[S,←List.drop_drop,V];simp
   obtain⟨Z,e1,e2⟩:=ih Y (j+1) o k hd' G.2 (by omega) (by omega) aaY (by omega) (by simp at hk;omega);subst I;refine⟨Z,fun hle=>?_,fun hgt=>?_⟩
   ·obtain⟨f1,f2,f3,f4,f5⟩:=e1 (by simp at hle;omega)
    refine⟨?_,by rw[f2,S,List.length_cons,show i+1+y.length=i+(y.length+1) by omega],by rw[f3,eD,m,hv],f4,f5⟩;rw[ga];simp[h0,W,B,hc,X,U,R,Q,N,M,L];simp at f1;exact f1
   ·obtain⟨f1,f2⟩:=e2 (by simp at hgt;omega)
    refine⟨?_,f2⟩;rw[ga];simp[h0,W,B,hc,X,U,R,Q,N,M,L];simp at f1;exact f1
theorem uv(s rest y:List UInt8)(H:Nat)(hs:s.length≤1000000000)(J:rest=[]∨∃r,rest=47::r)(hd:s.drop H=y++rest)(W:H≤s.length)(Y:y.all isD=true)(hK:s.length<K)(hb:ah f89=[b,b2])(I:lv b=[5,2,3]):
  ∃F:Env→Bool→Env,∀Z d,(ad Z 0=.str s∧ad Z 7=.int .i64 H∧ad Z 5=.int .i64 H∧ad Z 2=.int .i64 0)→
   (y.length≤9→aW (bh prog) lv O K 73 0 true (.loop b) ⟨Z,[],d⟩=some (.exit 0,⟨F Z d,[],d⟩)∧
     ad (F Z d) 5=.int .i64 ((H+y.length:Nat):Int)∧ad (F Z d) 2=.int .i64 (wI 0 y)∧ad (F Z d) 0=.str s∧ad (F Z d) 6=ad Z 6∧ad (F Z d) 3=ad Z 3)∧
    (9<y.length→aW (bh prog) lv O K 73 0 true (.loop b) ⟨Z,[],d⟩=some (.ret,⟨F Z d,[],d⟩)∧
     ad (F Z d) 2=.int .i64 0∧ad (F Z d) 3=.int .i64 0∧ad (F Z d) 4=.bool false):=by
 refine qJ (p:=fun Z _=>ad Z 0=.str s∧ad Z 7=.int .i64 H∧ad Z 5=.int .i64 H∧ad Z 2=.int .i64 0)
  (q:=fun Z d X =>(y.length≤9→aW (bh prog) lv O K 73 0 true (.loop b) ⟨Z,[],d⟩=some (.exit 0,⟨X,[],d⟩)∧
     ad X 5=.int .i64 ((H+y.length:Nat):Int)∧ad X 2=.int .i64 (wI 0 y)∧ad X 0=.str s∧ad X 6=ad Z 6∧ad X 3=ad Z 3)∧
    (9<y.length→aW (bh prog) lv O K 73 0 true (.loop b) ⟨Z,[],d⟩=some (.ret,⟨X,[],d⟩)∧
     ad X 2=.int .i64 0∧ad X 3=.int .i64 0∧ad X 4=.bool false)) ?_
 rintro Z d ⟨h0,h7,h5,h2⟩;have V:y.length≤K-1:=by have:=congrArg List.length hd;simp at this;omega
 obtain⟨R,U,S⟩:=AA (O:=O) (K:=K) (lv:=lv) s rest H hs J Z d h0 h7 hb y H 0 0 (K-1) hd Y (by omega) W (by simp) (by omega) V;have Q:aA [5,2,3] (ae b) Z ((5,.int .i64 (H:Int))::(2,.int .i64 ((0:Nat):Int))::Z)=aA [5,2,3] (ae b) Z Z:=by simp[aA,h5,h2]
 rw[Q,show K-1+1=K by omega] at U S;rw[Nat.zero_add] at U S;refine⟨R,?_,?_⟩
 ·rw[aT,I];exact U
 ·rw[aT,I];exact S
theorem uw(s y:List UInt8)(H:Nat)(hs:s.length≤1000000000)(hd:s.drop H=y)(J:H≤s.length)(W:y.all isD=true)(hK:s.length<K)(Y:ah f89=[b1,b])(I:lv b=[5,3,2]):
  ∃F:Env→Bool→Env,∀Z d,(ad Z 0=.str s∧ad Z 7=.int .i64 H∧ad Z 5=.int .i64 H∧ad Z 3=.int .i64 0)→
   (y.length≤9→aW (bh prog) lv O K 73 0 true (.loop b) ⟨Z,[],d⟩=some (.exit 2,⟨F Z d,[],d⟩)∧
     ad (F Z d) 3=.int .i64 (wI 0 y)∧ad (F Z d) 2=ad Z 2)∧
    (9<y.length→aW (bh prog) lv O K 73 0 true (.loop b) ⟨Z,[],d⟩=some (.ret,⟨F Z d,[],d⟩)∧
     ad (F Z d) 2=.int .i64 0∧ad (F Z d) 3=.int .i64 0∧ad (F Z d) 4=.bool false):=by
 refine qJ (p:=fun Z _=>ad Z 0=.str s∧ad Z 7=.int .i64 H∧ad Z 5=.int .i64 H∧ad Z 3=.int .i64 0)
  (q:=fun Z d X =>(y.length≤9→aW (bh prog) lv O K 73 0 true (.loop b) ⟨Z,[],d⟩=some (.exit 2,⟨X,[],d⟩)∧
     ad X 3=.int .i64 (wI 0 y)∧ad X 2=ad Z 2)∧
    (9<y.length→aW (bh prog) lv O K 73 0 true (.loop b) ⟨Z,[],d⟩=some (.ret,⟨X,[],d⟩)∧
     ad X 2=.int .i64 0∧ad X 3=.int .i64 0∧ad X 4=.bool false)) ?_
 rintro Z d ⟨h0,h7,h5,h3⟩;have V:y.length≤K-1:=by have:=congrArg List.length hd;simp at this;omega
 obtain⟨R,U,S⟩:=AB (O:=O) (K:=K) (lv:=lv) s H hs Z d h0 h7 Y y H 0 0 (K-1) hd W (by omega) J (by simp) (by omega) V;have Q:aA [5,3,2] (ae b) Z ((5,.int .i64 (H:Int))::(3,.int .i64 ((0:Nat):Int))::Z)=aA [5,3,2] (ae b) Z Z:=by simp[aA,h5,h3]
 rw[Q,show K-1+1=K by omega] at U S;rw[Nat.zero_add] at U S;refine⟨R,fun h=>?_,?_⟩
 ·obtain⟨f1,_,f3,_,f5⟩:=U h
  rw[aT,I];exact⟨f1,f3,f5⟩
 ·rw[aT,I];exact S
def eL(c:Code):List Nat:=if (ae c).contains 17 then [5,2,3] else [5,3,2]
theorem y7(q:Rat):∃Z,ax q=(if q.num<0 then [45] else [])++(ai q.num.natAbs++Z)∧(Z=if q.den=1 then [] else 47::ai q.den):=by
 refine⟨if q.den=1 then [] else 47::ai q.den,?_,rfl⟩;have h:bB q.num=(if q.num<0 then [45] else [])++ai q.num.natAbs:=by
  cases hn:q.num with
  |ofNat u=>rw[if_neg (by simp)];rfl
  |negSucc u=>rw[if_pos (Int.negSucc_lt_zero u)];rfl
 unfold ax;rw[h];split<;>simp
section
variable (q:Rat)(hl:(ax q).length≤1000000000)
include q hl
theorem Al(hq:0≤q.num)(mem:Mem):kO prog 89 [.str (ax q)] mem
  (if (ai q.num.natAbs).length≤9∧(q.den=1∨(ai q.den).length≤9) then .tuple [.int .i64 q.num,.int .i64 q.den,.bool true] else .tuple [.int .i64 0,.int .i64 0,.bool false]) mem:=by
 have m:aS prog 89=some f89:=by kernel_rfl
 refine cK (aw _) (lv:=eL) (K:=(ax q).length+1) rfl (by split<;>rfl) ?_ mem;obtain⟨S,j,V⟩:=y7 q;rw[if_neg (by omega),List.nil_append] at j;obtain⟨b1,b2,M⟩:∃b1 b2,ah f89=[b1,b2]∧eL b1=[5,2,3]∧eL b2=[5,3,2]:=⟨_,_,rfl,by decide,by decide⟩
 obtain⟨F,y⟩:=uv (O:=cF) (K:=(ax q).length+1) (lv:=eL) (ax q) S (ai q.num.natAbs) 0 hl
  (by rw[V];split;exact .inl rfl;exact .inr ⟨_,rfl⟩) (by rw[List.drop_zero];exact j) (by omega) (du _) (by omega) M.1 M.2.1
 obtain⟨c,r,L,hc⟩:=kP hq;have J:(ax q)[0]? =some c:=by rw[L];rfl
 have U:=eP hc;have X:0<(ax q).length:=by rw[L];simp only[List.length_cons];omega
 have Y:∀h:0<(ax q).length,(ax q)[0]'h=c:=fun h=>by have:=List.getElem?_eq_getElem h;rw[J] at this;exact(Option.some.inj this).symm
 have G':(ax q).length=(ai q.num.natAbs).length+S.length:=by rw[j,List.length_append]
 have G:wI 0 (ai q.num.natAbs)=q.num.natAbs:=dz _;have D:((q.num.natAbs:Nat):Int)=q.num:=by omega
 have C:=M.1;simp[ah,aE,f89] at C;obtain⟨rfl,rfl⟩:=C;by_cases B:(ai q.num.natAbs).length≤9
 ·have Z:=fun R d h=>(y R d h).1 B
  by_cases u:q.den=1
  ·rw[if_pos u] at V
   have W:((ai q.num.natAbs).length:Int)=((ax q).length:Int):=by rw[G',V];simp
   rw[Nat.zero_add] at Z;simp[aa,m,f89,Y,U,X,Z,G,D,W,u,B]
  ·rw[if_neg u] at V
   have aaP:(ax q).length=(ai q.num.natAbs).length+((ai q.den).length+1):=by rw[G',V,List.length_cons]
   have W:¬((ai q.num.natAbs).length:Int)=((ax q).length:Int):=by omega
   obtain⟨bg,I⟩:=xE (α:=Nat) ((ai q.num.natAbs).length+1);have hw:IntKind.i64.wrap (((ai q.num.natAbs).length:Int)+1)=(bg:Int):=by rw[af];omega
   obtain⟨F2,o⟩:=uw (O:=cF) (K:=(ax q).length+1) (lv:=eL) (ax q) (ai q.den) bg hl
    (by rw[j,V,I,List.drop_append];simp) (by omega) (du _) (by omega) M.1 M.2.2
   have H:wI 0 (ai q.den)=q.den:=dz _;rw[Nat.zero_add] at Z;by_cases Q:(ai q.den).length≤9
   ·have N:=fun R d h=>(o R d h).1 Q
    simp[aa,m,f89,Y,U,X,Z,G,D,W,u,B,hw,N,H,Q]
   ·have N:=fun R d h=>(o R d h).2 (by omega)
    simp[aa,m,f89,Y,U,X,Z,W,u,B,hw,N,Q]
 ·have Z:=fun R d h=>(y R d h).2 (by omega)
  simp[aa,m,f89,Y,U,X,Z,B]
theorem Ak(hq:q.num<0)(mem:Mem):kO prog 89 [.str (ax q)] mem
  (if (ai q.num.natAbs).length≤9∧(q.den=1∨(ai q.den).length≤9) then .tuple [.int .i64 q.num,.int .i64 q.den,.bool true] else .tuple [.int .i64 0,.int .i64 0,.bool false]) mem:=by
 have j:aS prog 89=some f89:=by kernel_rfl
 refine cK (aw _) (lv:=eL) (K:=(ax q).length+1) rfl (by split<;>rfl) ?_ mem;obtain⟨S,R,X⟩:=y7 q;rw[if_pos hq,List.singleton_append] at R;obtain⟨b1,b2,G⟩:∃b1 b2,ah f89=[b1,b2]∧eL b1=[5,2,3]∧eL b2=[5,3,2]:=⟨_,_,rfl,by decide,by decide⟩
 obtain⟨F,H⟩:=uv (O:=cF) (K:=(ax q).length+1) (lv:=eL) (ax q) S (ai q.num.natAbs) 1 hl
  (by rw[X];split;exact .inl rfl;exact .inr ⟨_,rfl⟩) (by rw[R];rfl) (by rw[R];simp) (du _) (by omega) G.1 G.2.1
 have Z:0<(ax q).length:=by rw[R];simp
 have Y:∀h:0<(ax q).length,(ax q)[0]'h=45:=fun h=>by
  have y:=List.getElem?_eq_getElem h;have h2:(ax q)[0]? =some 45:=by rw[R];rfl
  rw[h2] at y;exact(Option.some.inj y).symm
 have G':(ax q).length=1+((ai q.num.natAbs).length+S.length):=by rw[R,List.length_cons,List.length_append,Nat.add_comm]
 have D:wI 0 (ai q.num.natAbs)=q.num.natAbs:=dz _;have hub:q.num.natAbs<10 ^ (ai q.num.natAbs).length:=bZ _;have C:=G.1;simp[ah,aE,f89] at C;obtain⟨rfl,rfl⟩:=C;by_cases L:(ai q.num.natAbs).length≤9
 ·have V:=fun Q d h=>(H Q d h).1 L
  obtain⟨B,U⟩:=xE (α:=Nat) (1+(ai q.num.natAbs).length);rw[←U] at V;have afG:10 ^ (ai q.num.natAbs).length≤1000000000:=Nat.le_trans (Nat.pow_le_pow_right (by omega) L) (by decide);have u:IntKind.i64.wrap (-((q.num.natAbs:Nat):Int))=q.num:=by rw[af];omega
  by_cases o:q.den=1
  ·rw[if_pos o] at X
   have W:(B:Int)=((ax q).length:Int):=by rw[G',X,U];simp
   simp[aa,j,f89,Y,Z,V,D,u,W,o,L]
  ·rw[if_neg o] at X
   have aaP:(ax q).length=B+((ai q.den).length+1):=by rw[G',X,List.length_cons,U];omega
   have W:¬(B:Int)=((ax q).length:Int):=by omega
   obtain⟨bg,J⟩:=xE (α:=Nat) (B+1);have hw:IntKind.i64.wrap ((B:Int)+1)=(bg:Int):=by rw[af];omega
   obtain⟨F2,m⟩:=uw (O:=cF) (K:=(ax q).length+1) (lv:=eL) (ax q) (ai q.den) bg hl
    (by rw[R,X,J,U,show 1+(ai q.num.natAbs).length+1=((ai q.num.natAbs).length+1)+1 by omega,List.drop_succ_cons,List.drop_append];simp) (by omega) (du _) (by omega) G.1 G.2.2
   have I:wI 0 (ai q.den)=q.den:=dz _;by_cases N:(ai q.den).length≤9
   ·have M:=fun Q d h=>(m Q d h).1 N
    simp[aa,j,f89,Y,Z,V,D,u,W,o,L,hw,M,I,N]
   ·have M:=fun Q d h=>(m Q d h).2 (by omega)
    simp[aa,j,f89,Y,Z,V,W,o,L,hw,M,N]
 ·have V:=fun Q d h=>(H Q d h).2 (by omega)
  simp[aa,j,f89,Y,Z,V,L]
theorem IA(mem:Mem):kO prog 89 [.str (ax q)] mem
  (if (ai q.num.natAbs).length≤9∧(q.den=1∨(ai q.den).length≤9) then .tuple [.int .i64 q.num,.int .i64 q.den,.bool true] else .tuple [.int .i64 0,.int .i64 0,.bool false]) mem:=by
 by_cases Z:0≤q.num
 ·exact Al q hl Z mem
 ·exact Ak q hl (by omega) mem
end
def euc:Nat→Int→Int→Int
 |0,x,_=>x
 |k+1,x,y=>if y=0 then x else euc k y (x.tmod y)
theorem tQ:∀(k:Nat) (x y:Int),y.natAbs<k→(euc k x y).natAbs=x.natAbs.gcd y.natAbs
 |0,_,_,h=>by omega
 |k+1,x,y,h=>by
  unfold euc;by_cases Z:y=0
  ·subst Z;rw[if_pos rfl];simp
  ·rw[if_neg Z]
   have X:(x.tmod y).natAbs<k:=by rw[Int.natAbs_tmod];have:=Nat.mod_lt x.natAbs (show 0<y.natAbs by omega);omega
   rw[tQ k y (x.tmod y) X,Int.natAbs_tmod,Nat.gcd_comm x.natAbs,Nat.gcd_rec y.natAbs x.natAbs,Nat.gcd_comm]
theorem Cp(H:Env)(d:Bool)(I:ah f90=[b]):
  ∀(k:Nat) (x y:Int),y.natAbs<k→∃Z,ga [5,6] (ae b) H 0 (aW (bh prog) lv O K 35 0 true b) k ⟨aA [5,6] (ae b) H ((5,.int .i64 x)::(6,.int .i64 y)::H),[],d⟩=
   some (.exit 0,⟨Z,[],d⟩)∧ad Z 5=.int .i64 (euc k x y)∧ad Z 0=ad H 0∧ad Z 1=ad H 1∧ad Z 4=ad H 4:=by
 simp[ah,aE,f90] at I;intro k;induction k with
 |zero=>intro x y h;omega
 |succ k ih=>
  intro x y Q;by_cases X:y=0
  ·subst I
   subst X;simp[ga,euc]
  ·have U:(x.tmod y).natAbs<k:=by rw[Int.natAbs_tmod];have:=Nat.mod_lt x.natAbs (show 0<y.natAbs by omega);omega
   obtain⟨Z,V,S,R⟩:=ih y (x.tmod y) U;subst I;refine⟨Z,?_,by rw[S,euc,if_neg X],R⟩;rw[ga];simp[X];simp at V;exact V
theorem AE(H:ah f90=[b])(y:lv b=[5,6])(n:Int)(m:Nat)(I:m<K):
  ∃F:Env→Bool→Env,∀Z d,(ad Z 5=.int .i64 n∧ad Z 6=.int .i64 m)→
   aW (bh prog) lv O K 35 0 true (.loop b) ⟨Z,[],d⟩=some (.exit 0,⟨F Z d,[],d⟩)∧ad (F Z d) 5=.int .i64 (euc K n m)∧
    ad (F Z d) 0=ad Z 0∧ad (F Z d) 1=ad Z 1∧ad (F Z d) 4=ad Z 4:=by
 refine qJ (p:=fun Z _=>ad Z 5=.int .i64 n∧ad Z 6=.int .i64 m) (q:=fun Z d X =>aW (bh prog) lv O K 35 0 true (.loop b) ⟨Z,[],d⟩=some (.exit 0,⟨X,[],d⟩)∧ad X 5=.int .i64 (euc K n m)∧
    ad X 0=ad Z 0∧ad X 1=ad Z 1∧ad X 4=ad Z 4) ?_
 rintro Z d ⟨h5,h6⟩;obtain⟨U,V,S⟩:=Cp (O:=O) (K:=K) (lv:=lv) Z d H K n m (by simpa using I);have R:aA [5,6] (ae b) Z ((5,.int .i64 n)::(6,.int .i64 (m:Int))::Z)=aA [5,6] (ae b) Z Z:=by simp[aA,h5,h6]
 rw[R] at V;exact⟨U,by rw[aT,y];exact V,S⟩
theorem II(n:Int)(m:Nat)(hn:n.natAbs≤4611686018427387904)(y:m≠0)(hm:m≤4611686018427387904)(mem:Mem):kO prog 90 [.int .i64 n,.int .i64 m] mem (.str (ax (Rat.normalize n m y))) mem:=by
 have I:aS prog 90=some f90:=by kernel_rfl
 refine cK dU (lv:=fun _=>[5,6]) (K:=m+1) rfl rfl ?_ mem;obtain⟨b,hb⟩:∃b,ah f90=[b]:=⟨_,rfl⟩
 obtain⟨F,D⟩:=AE (O:=ag aq) (K:=m+1) (lv:=fun _=>[5,6]) hb rfl n m (by omega);simp[ah,aE,f90] at hb;subst hb;have hg:=tQ (m+1) n m (by simp);generalize euc (m+1) n m=g at D hg;rw[Int.natAbs_natCast] at hg;have C:n.natAbs.gcd m∣m:=Nat.gcd_dvd_right _ _;have hgn:n.natAbs.gcd m∣n.natAbs:=Nat.gcd_dvd_left _ _;have hgp:0<n.natAbs.gcd m:=Nat.gcd_pos_of_pos_right _ (by omega);have hgm:n.natAbs.gcd m≤m:=Nat.le_of_dvd (by omega) C;obtain⟨N,aen,Z⟩:∃N,ax (Rat.normalize n m y)=N∧N=if m / n.natAbs.gcd m=1 then bB (n / (n.natAbs.gcd m:Nat)) else bB (n / (n.natAbs.gcd m:Nat))++47::ai (m / n.natAbs.gcd m):=
  ⟨_,rfl,by rw[Rat.normalize_eq];rfl⟩
 rw[aen];generalize n.natAbs.gcd m=G at*;have M:(G:Int)∣n:=Int.ofNat_dvd_left.2 hgn;have hdm:(G:Int)∣(m:Int):=Int.ofNat_dvd.2 C;obtain⟨p,H⟩:=xE (α:=Int) (n / (G:Int));obtain⟨e,he⟩:=xE (α:=Nat) (m / G);rw[←H,←he] at Z;have V:IntKind.i64.wrap (n.tdiv (G:Int))=p:=by
  rw[Int.tdiv_eq_ediv_of_dvd M,←H];have:p.natAbs≤n.natAbs:=by rw[H,←Int.tdiv_eq_ediv_of_dvd M,Int.natAbs_tdiv];exact Nat.div_le_self _ _
  exact af
 have hq2:IntKind.i64.wrap ((m:Int).tdiv (G:Int))=(e:Int):=by
  have h1:(m:Int).tdiv (G:Int)=(e:Int):=by rw[he,←Int.ofNat_tdiv]
  have h2:e≤m:=by rw[he];exact Nat.div_le_self _ _
  rw[h1];exact af
 have U :IntKind.i64.wrap ((m:Int) / (G:Int))=(e:Int):=by rw[←Int.tdiv_eq_ediv_of_dvd hdm];exact hq2
 have S:¬G=0:=by omega
 have hpn: -4611686018427387904≤p∧p≤4611686018427387904:=by
  have:p.natAbs≤n.natAbs:=by rw[H,←Int.tdiv_eq_ediv_of_dvd M,Int.natAbs_tdiv];exact Nat.div_le_self _ _
  omega
 have hem:e≤4611686018427387904:=by
  have h2:e≤m:=by rw[he];exact Nat.div_le_self _ _
  omega
 have R:dL p=true:=by simp only[dL,Bool.and_eq_true,decide_eq_true_eq];omega
 have B:dL (e:Int)=true:=by simp only[dL,Bool.and_eq_true,decide_eq_true_eq];omega
 have u:bB (e:Int)=ai e:=rfl;have o:(g<0→IntKind.i64.wrap (-g)=(G:Int))∧(¬g<0→g=(G:Int)):=⟨fun h=>by rw[af];omega,fun h=>by omega⟩;have hlp:(bB p).length≤21:=by rw[Ur];exact Lib.itoa_length_le p (by omega) (by omega)
 have hle:(ai e).length≤19:=aI (by omega) (Nat.lt_of_le_of_lt hem (by decide));have j:(bB p).length+1≤9223372036854775807:=by omega
 have Y:(bB p).length+1+(ai e).length≤9223372036854775807:=by omega
 by_cases Q:g<0
 ·have W:=o.1 Q
  by_cases X:e=1
  ·simp[aa,I,f90,ag,aq,D,Q,W,S,V,U,X,R,Z]
  ·have L :¬(e:Int)=1:=by omega
   simp[aa,I,f90,ag,aq,D,Q,W,S,V,U,X,L,R,B,u,Z,j,Y,fm]
 ·have W:=o.2 Q
  have J:¬(G:Int)<0:=by omega
  by_cases X:e=1
  ·simp[aa,I,f90,ag,aq,D,J,W,S,V,U,X,R,Z]
  ·have L :¬(e:Int)=1:=by omega
   simp[aa,I,f90,ag,aq,D,J,W,S,V,U,X,L,R,B,u,Z,j,Y,fm]
end Go.Proofs
