/- See F54. -/
import Derived.Test.YtgafjliihahjgaaGreatDoorF07
import Derived.Lib.ItoaLen
set_option linter.all false
set_option maxRecDepth 100000
set_option maxHeartbeats 40000000
namespace Go.Proofs
open Go.Eng
open Tryz
theorem QM(n:Int)(mem:Mem):kO prog 143 [.str (cC n)] mem (.int .i64 (mJ n)) mem:=by
 have Z:aK prog 143=some f143:=by kernel_rfl
 refine aA dZ ?_ mem;by_cases X:n=0
 ·simp[aa,Z,f143,kj,mJ,X]
 ·by_cases W:n<0
  ·simp[aa,Z,f143,af,aY,kj,mY,W,X,mJ]
  ·simp[aa,Z,f143,af,aY,kj,mY,W,X,mJ]
theorem Pp(n:Int)(A:dU n=true)(mem:Mem):kO prog 98 [.int .i64 n] mem (.str (cC n)) mem:=by
 have Z:aK prog 98=some f98:=by kernel_rfl
 refine aA dZ ?_ mem;simp[aa,Z,f98,af,aY,A]
theorem Gg(r c:Bool):Vx (aN prog) 240 r c .nilIface .nilIface=if r||c then some true else none:=Rw (by kernel_rfl) r c
theorem Nn(n:Int)(m:Int)(A:m≤18)(G:(cC n).length≤1000000000)(mem:Mem):kO prog 146 [.str (cC n),.int .i64 m] mem (if (cC n).length≤m then .tuple [.int .i64 n,.bool true] else .tuple [.int .i64 0,.bool false]) mem:=by
 have X:aK prog 146=some f146:=by kernel_rfl
 refine cV dZ (lv:=fun _=>[]) (K:=1) rfl (by split<;>rfl) ?_ mem;by_cases h:((cC n).length:Int)≤m
 ·have Z:¬m<((cC n).length:Int):=by omega
  have h3:(cC n).length≤18:=by omega
  simp[aa,X,f146,af,aY,h,Z,h3,nu,Gg]
 ·have Z:m<((cC n).length:Int):=by omega
  simp[aa,X,f146,h,Z]
noncomputable def cv(f:FuncId)(args:List AV):Option AV:=
 match f,args with
 |143,[.str s]=>match pD s with
  |some n=>some (.int .i64 (mJ n))
  |none=>none
 |_,_=>aY f args
theorem qD:HS prog (af cv):=by
 have X:=dZ;refine bH fun f Z v h mem=>?_
 unfold cv at h;split at h
 ·split at h
  next n W=>cases h;rw[fg W];exact QM n mem
  ·cases h
 ·have:=X.fn f Z mem ⟨v,none,[]⟩ (by unfold af;simp only;rw[h])
  simpa [aeQ.mem] using this
theorem Sy(n:Int)(A:(cC n).length≤1000000000)(mem:Mem):kO prog 170 [.str (cC n)] mem (.str (cC (-n))) mem:=by
 have Z:aK prog 170=some f170:=by kernel_rfl
 refine aA qD ?_ mem;by_cases W:n=0
 ·subst W
  simp[aa,Z,f170,af,cv,cY,mJ]
 ·by_cases X:n<0
  ·have O:1≤(cC n).length:=qY n
   have h3:((1:Int)≤(cC n).length):=by omega
   have V:List.take ((cC n).length-1) (List.drop 1 (cC n))=cC (-n):=by rw[List.take_of_length_le (by simp),GS X]
   simp[aa,Z,f170,af,cv,cY,mJ,X,h3];rw[←List.drop_one];exact V
  ·have S:1+(cC n).length≤9223372036854775807:=by omega
   simp[aa,Z,f170,af,cv,cY,mJ,W,X,S,gv,qZ (show 0<n by omega)]
theorem CW(a b:Int)(mem:Mem):kO prog 95 [.str (cC a),.str (cC b)] mem (.int .i64 (Lz a b)) mem:=by
 have X:aK prog 95=some f95:=by kernel_rfl
 refine aA qD ?_ mem;rw[XQ];have O:∀n,-1≤mJ n∧mJ n≤1:=by intro n;unfold mJ;repeat' split<;>omega
 by_cases W:mJ a=mJ b
 ·by_cases V:(aR a.natAbs).length=(aR b.natAbs).length
  ·have hc:IntKind.i64.wrap (mJ b*LA a.natAbs b.natAbs)=mJ b*LA a.natAbs b.natAbs:=by
    have V:=O b;have Z: -1≤LA a.natAbs b.natAbs∧LA a.natAbs b.natAbs≤1:=by unfold LA;repeat' split<;>omega
    have h3: -1≤mJ b*LA a.natAbs b.natAbs∧mJ b*LA a.natAbs b.natAbs≤1:=by
     generalize mJ b=x at*;generalize LA a.natAbs b.natAbs=y at*;have M:x= -1∨x=0∨x=1:=by omega
     rcases M with rfl | rfl | rfl<;>omega
    exact aq
   simp[aa,X,f95,af,cv,aY,cY,ly,W,V,xx V,hc]
  ·have K:IntKind.i64.wrap (- mJ b)= - mJ b:=by have:=O b;exact aq
   have S:¬((aR a.natAbs).length:Int)=(aR b.natAbs).length:=by omega
   by_cases Z:(aR a.natAbs).length<(aR b.natAbs).length
   ·simp[aa,X,f95,af,cv,aY,cY,ly,W,V,S,Z,K]
   ·simp[aa,X,f95,af,cv,aY,cY,ly,W,V,S,Z]
 ·by_cases Z:mJ a<mJ b
  ·simp[aa,X,f95,af,cv,cY,W,Z]
  ·simp[aa,X,f95,af,cv,cY,W,Z]
variable{K:Nat}{O:aeT}{b:Code}{lv:Code→List Nat}
section
variable (s:List UInt8)(hs:s.length≤1000000000)
include s hs
theorem A6(G:Env)(d:Bool)(h3:ad G 3=.str s)(A:ad G 32=.int .i64 s.length)(H:ai f94=[b]):
  ∀(k i:Nat),i≤s.length→s.length≤i+k→∃X,er [33] (ab b) G 0 (aM (aN prog) lv O K 47 0 true b) (k+1) ⟨aD [33] (ab b) G ((33,.int .i64 i)::G),[],d⟩=
   some (if (s.drop i).all isD then .exit 0 else .ret,⟨X,[],d⟩)∧((s.drop i).all isD=false→ad X 2=.int .i64 2):=by
 simp[ai,aG,f94] at H;have J:∀k,∃X,er [33] (ab b) G 0 (aM (aN prog) lv O K 47 0 true b) (k+1) ⟨aD [33] (ab b) G ((33,.int .i64 s.length)::G),[],d⟩=
   some (if (s.drop s.length).all isD then .exit 0 else .ret,⟨X,[],d⟩)∧((s.drop s.length).all isD=false→ad X 2=.int .i64 2):=by
  intro k;subst H;simp[er,A]
 intro k;induction k with
 |zero=>
  intro i D C;have W :i=s.length:=by omega
  subst W;exact J 0
 |succ k ih=>
  intro i D C;by_cases W :i=s.length
  ·subst W;exact J (k+1)
  have B:i<s.length:=by omega
  have V :(i:Int)<s.length:=by omega
  obtain⟨c,hc⟩:∃c,s[i]? =some c:=⟨s[i],by simp[B]⟩
  have F:s.drop i=c::s.drop (i+1):=by rw[List.drop_eq_getElem_cons B];congr 1;have:=List.getElem?_eq_getElem B;rw[hc] at this;exact(Option.some.inj this).symm
  have u:IntKind.i64.wrap ((i:Int)+1)=((i+1:Nat):Int):=by rw[aq];omega
  obtain⟨X,z,m⟩:=ih (i+1) (by omega) (by omega);subst H;unfold er;by_cases j:c.toNat<48
  ·have M:isD c=false:=by unfold isD;simp;omega
   have Z :((c.toNat:Int)<48):=by omega
   simp[h3,A,V,hc,Z,F,M]
  ·have Z :¬((c.toNat:Int)<48):=by omega
   by_cases Y:57<c.toNat
   ·have M:isD c=false:=by unfold isD;simp;omega
    have S :(57<(c.toNat:Int)):=by omega
    simp[h3,A,V,hc,Z,S,F,M]
   ·have M:isD c=true:=by unfold isD;simp;omega
    have S :¬(57<(c.toNat:Int)):=by omega
    refine⟨X,?_,?_⟩
    ·simp[h3,A,V,hc,Z,S,F,M,u]
     simp at z;exact z
    ·rw[F];simpa [M] using m
theorem zu(H:s.length<K)(G:ai f94=[b])(A:lv b=[33]):
  ∃F:Env→Bool→Env,∀Z d,(ad Z 3=.str s∧ad Z 32=.int .i64 s.length∧ad Z 33=.int .i64 0)→
   aM (aN prog) lv O K 47 0 true (.loop b) ⟨Z,[],d⟩=some (if s.all isD then .exit 0 else .ret,⟨F Z d,[],d⟩)∧(s.all isD=false→ad (F Z d) 2=.int .i64 2):=by
 refine uQ (p:=fun Z _=>ad Z 3=.str s∧ad Z 32=.int .i64 s.length∧ad Z 33=.int .i64 0) (q:=fun Z d X =>aM (aN prog) lv O K 47 0 true (.loop b) ⟨Z,[],d⟩=some (if s.all isD then .exit 0 else .ret,⟨X,[],d⟩)∧(s.all isD=false→ad X 2=.int .i64 2)) ?_;rintro Z d ⟨h3,h32,h33⟩;obtain⟨V,W,S⟩:=A6 (O:=O) (K:=K) (lv:=lv) s hs Z d h3 h32 G (K-1) 0 (by omega) (by omega);refine⟨V,?_,by simpa using S⟩;rw[aQ,A];have M:aD [33] (ab b) Z ((33,.int .i64 (0:Nat))::Z)=aD [33] (ab b) Z Z:=by simp[aD,h33]
 rw[M,show K-1+1=K by omega] at W;simpa using W
end
def okT(A:Bool)(t:List UInt8):Bool:=match t with
 | []=>false
 |c::r=>decide (r.length<200)&& !(c==48&&(decide (0<r.length)||A))&&(c::r).all isD
theorem ZQ{c:UInt8}:((c.toNat:Int)=48)↔c=48:=by
 constructor
 ·intro e
  apply UInt8.toNat_inj.1;have:c.toNat=48:=by omega
  rw[this];rfl
 ·rintro rfl;rfl
theorem Hv(s:List UInt8)(hs:s.length≤1000000000)(mem:Mem):kO prog 94 [.str s] mem (.int .i64 (if okT (Lib.hasPrefix s [45]) (Lib.trimPrefix s [45]) then 0 else 2)) mem:=by
 have X:aK prog 94=some f94:=by kernel_rfl
 refine cV dZ (lv:=fun _=>[33]) (K:=s.length+1) rfl rfl ?_ mem;have C:(Lib.trimPrefix s [45]).length≤s.length:=by unfold Lib.trimPrefix;split<;>simp
 cases htp:Lib.trimPrefix s [45] with
 |nil=>simp[aa,X,f94,af,aY,htp,okT]
 |cons c r=>
  rw[htp] at C;simp only[List.length_cons] at C;obtain⟨b,J⟩:∃b,ai f94=[b]:=⟨_,rfl⟩
  obtain⟨F,S⟩:=zu (O:=af aY) (K:=s.length+1) (lv:=fun _=>[33]) (c::r) (by simp;omega) (by simp;omega) J rfl;simp[ai,aG,f94] at J;subst J;simp only[List.length_cons] at S;by_cases M:r.length<200
  ·have Z :¬(200<(r.length:Int)+1):=by omega
   by_cases D:c=48
   ·subst D
    by_cases h3:0<r.length
    ·have W :1<(r.length:Int)+1:=by omega
     simp[aa,X,f94,af,aY,htp,okT,M,Z,h3,W]
    ·have W :¬1<(r.length:Int)+1:=by omega
     have B:r=[]:=List.eq_nil_of_length_eq_zero (by omega);subst B;cases hmn:Lib.hasPrefix s [45] with
     |true=>simp[aa,X,f94,af,aY,htp,okT,hmn]
     |false=>
      have z:isD 48=true:=by decide
      simp[aa,X,f94,af,aY,htp,okT,hmn,S,z]
   ·have V :¬((c.toNat:Int)=48):=fun e=>D (ZQ.1 e)
    cases PP:(c::r).all isD with
    |true=>simp[aa,X,f94,af,aY,htp,okT,M,Z,D,V,S,PP]
    |false=>simp[aa,X,f94,af,aY,htp,okT,M,Z,V,S,PP]
  ·have Z :(200<(r.length:Int)+1):=by omega
   simp[aa,X,f94,af,aY,htp,okT,M,Z]
theorem QF(q:Rat)(A:(ak q).length≤1000000000)(mem:Mem):kO prog 137 [.str (ak q)] mem (.str (ak (-q))) mem:=by
 have X:aK prog 137=some f137:=by kernel_rfl
 refine aA (al _) ?_ mem;by_cases Z:q=0
 ·subst Z
  simp[aa,X,f137,cg]
 ·have J:¬q.num=0:=fun e=>Z (Ao.1 e)
  by_cases S:q.num<0
  ·have e:=oT S
   have W:(45::ak (-q)==[48])=false:=by rw[←e,cg];simpa using Z
   rw[e];have h3:(1:Int)≤((ak (-q)).length:Int)+1:=by omega
   simp[aa,X,f137,W,h3]
  ·have e:=rH (q:=q) (by omega)
   obtain⟨c,r,V,hc⟩:=rG (q:=q) (by omega);have W:(c::r==[48])=false:=by rw[←V,cg];simpa using Z
   have M:=gH hc;rw[e,V];rw[V] at A;simp only[List.length_cons] at A;have h3:1+(r.length+1)≤9223372036854775807:=by omega
   simp[aa,X,f137,W,M,h3,gv]
theorem AW(q:Rat)(mem:Mem):kO prog 89 [.str (ak q)] mem (.int .i64 (jV q)) mem:=by
 have X:aK prog 89=some f89:=by kernel_rfl
 refine aA (al _) ?_ mem;by_cases Z:q=0
 ·subst Z
  have:jV 0=0:=rfl;simp[aa,X,f89,cg,this]
 ·have M:¬q.num=0:=fun e=>Z (Ao.1 e)
  by_cases W:q.num<0
  ·have e:=oT W
   have V:(45::ak (-q)==[48])=false:=by rw[←e,cg];simpa using Z
   have h3:0<((ak (-q)).length:Int)+1:=by omega
   rw[e];simp[aa,X,f89,V,jV,mJ,W,h3]
  ·obtain⟨c,r,S,hc⟩:=rG (q:=q) (by omega)
   have V:(c::r==[48])=false:=by rw[←S,cg];simpa using Z
   have J:=gH hc;have h3:0<(r.length:Int)+1:=by omega
   rw[S];simp[aa,X,f89,V,J,h3,jV,mJ,W,M]
theorem QA(n:Int)(d:Nat)(A:(cC n).length≤1000000000)(G:(aR d).length≤1000000000)(mem:Mem):kO prog 172 [.str (cC n),.str (aR d)] mem (.str (if d=1 then cC n else cC n++47::aR d)) mem:=by
 have Z:aK prog 172=some f172:=by kernel_rfl
 refine aA (al _) ?_ mem;by_cases h:d=1
 ·subst h
  have:aR 1=[49]:=rfl;simp[aa,Z,f172,this]
 ·have X:(aR d==[49])=false:=by rw[beq_eq_false_iff_ne];intro e;exact h (PT (e.trans (show [49]=aR 1 from rfl)))
  have W:(cC n).length+1≤9223372036854775807:=by omega
  have V:(cC n).length+1+(aR d).length≤9223372036854775807:=by omega
  simp[aa,Z,f172,X,h,W,V,gv]
theorem Nl(q:Rat)(A:(ak q).length≤1000000000)(mem:Mem):kO prog 117 [.str (ak q)] mem (.tuple [.str (cC q.num),.str (aR q.den)]) mem:=by
 have W:aK prog 117=some f117:=by kernel_rfl
 refine aA dZ ?_ mem;have Z:=DJ q;by_cases h:q.den=1
 ·have X:aR 1=[49]:=rfl
  have e:ak q=cC q.num:=by unfold ak;rw[if_pos h]
  rw[if_pos h,e] at Z;rw[e] at A;rw[e];simp[aa,W,f117,af,aY,A,Z,h,X]
 ·have e:ak q=cC q.num++47::aR q.den:=by unfold ak;rw[if_neg h]
  rw[if_neg h] at Z;have V:(0:Int)≤(cC q.num).length:=by omega
  have X:List.drop ((cC q.num).length+1) (cC q.num++47::aR q.den)=aR q.den:=by rw[List.drop_append];simp
  have S:List.take (cC q.num).length (cC q.num++47::aR q.den)=cC q.num:=List.take_left' rfl;rw[e] at A Z;rw[e];simp only[List.length_append,List.length_cons] at A;simp[aa,W,f117,af,aY,A,Z,X]
variable{b2:Code}
theorem zz(s rest:List UInt8)(H:Nat)(hs:s.length≤1000000000)(I:rest=[]∨∃r,rest=47::r)(A:Env)(d:Bool)(h0:ad A 0=.str s)(R:ad A 7=.int .i64 H)(G:ai f115=[b,b2]):
  ∀(ds:List UInt8) (i j acc k:Nat),s.drop i=ds++rest→ds.all isD=true→i=H+j→i≤s.length→acc<10 ^ j→j≤9→ds.length≤k→
   ∃Z,(j+ds.length≤9→er [5,2,3] (ab b) A 0 (aM (aN prog) lv O K 73 0 true b) (k+1) ⟨aD [5,2,3] (ab b) A ((5,.int .i64 i)::(2,.int .i64 acc)::A),[],d⟩=some (.exit 0,⟨Z,[],d⟩)∧
     ad Z 5=.int .i64 ((i+ds.length:Nat):Int)∧ad Z 2=.int .i64 (xR acc ds)∧ad Z 0=.str s∧ad Z 6=ad A 6∧ad Z 3=ad A 3)∧
    (9<j+ds.length→er [5,2,3] (ab b) A 0 (aM (aN prog) lv O K 73 0 true b) (k+1) ⟨aD [5,2,3] (ab b) A ((5,.int .i64 i)::(2,.int .i64 acc)::A),[],d⟩=some (.ret,⟨Z,[],d⟩)∧
     ad Z 2=.int .i64 0∧ad Z 3=.int .i64 0∧ad Z 4=.bool false):=by
 simp[ai,aG,f115] at G;obtain⟨G,_⟩:=G;intro ds;induction ds with
 |nil=>
  intro i j acc k W _ Y hi abv hj _;subst G;rcases I with rfl | ⟨r,rfl⟩
  ·have H':i=s.length:=by have:=congrArg List.length W;simp at this;omega
   subst H';have M:¬(9<j):=by omega
   simp[er,h0,M,hj,gy]
  ·have FS:i<s.length:=by have:=congrArg List.length W;simp at this;omega
   have X :(i:Int)<s.length:=by omega
   have hc:s[i]? =some 47:=by have:=congrArg List.head? W;rw[List.head?_drop] at this;simpa using this
   have M:¬(9<j):=by omega
   simp[er,h0,X,hc,M,hj,gy]
 |cons c ds ih=>
  intro i j acc k W m Y hi abv hj hk;simp only[List.all_cons,Bool.and_eq_true] at m;have FS:i<s.length:=by have:=congrArg List.length W;simp at this;omega
  have X :(i:Int)<s.length:=by omega
  have hc:s[i]? =some c:=by have:=congrArg List.head? W;rw[List.head?_drop] at this;simpa using this
  have hc1:=yA m.1;have hc2:48≤c.toNat∧c.toNat≤57:=by have:=m.1;unfold isD at this;simpa using this
  have V:¬((c.toNat:Int)=47):=by omega
  have S:IntKind.i64.wrap ((i:Int)-H)=j:=by rw[aq];omega
  obtain⟨k,rfl⟩:∃k',k=k' +1:=⟨k-1,by simp at hk;omega⟩
  by_cases hj9:j=9
  ·subst hj9
   subst G;have M:¬(9+(ds.length+1)≤9):=by omega
   simp[er,h0,R,X,hc,V,S,M]
  ·have J:¬((j:Int)=9):=by omega
   have hp:10 ^ j≤100000000:=Nat.le_trans (Nat.pow_le_pow_right (by omega) (show j≤8 by omega)) (by decide);obtain⟨v,hv⟩:=xE (α:=Nat) (c.toNat-48);obtain⟨a2,ha2⟩:=xE (α:=Nat) (10*acc+v);obtain⟨i2,F⟩:=xE (α:=Nat) (i+1);have D:IntKind.i64.wrap (10*(acc:Int))=10*(acc:Int):=aq;have C:IntKind.u8.wrap ((c.toNat:Int)-48)=(v:Int):=by rw[Hp (by omega) (by omega)];omega
   have B:IntKind.i64.wrap (v:Int)=(v:Int):=aq;have z:IntKind.i64.wrap (10*(acc:Int)+(v:Int))=(a2:Int):=by rw[aq];omega
   have u:IntKind.i64.wrap ((i:Int)+1)=(i2:Int):=by rw[aq];omega
   have aaO :a2<10 ^ (j+1):=by rw[Nat.pow_succ];omega
   have hd' :s.drop i2=ds++rest:=by rw[F,←List.drop_drop,W];simp
   obtain⟨Z,e1,e2⟩:=ih i2 (j+1) a2 k hd' m.2 (by omega) (by omega) aaO (by omega) (by simp at hk;omega);subst G;refine⟨Z,fun hle=>?_,fun hgt=>?_⟩
   ·obtain⟨f1,f2,f3,f4,f5⟩:=e1 (by simp at hle;omega)
    refine⟨?_,by rw[f2,F,List.length_cons,show i+1+ds.length=i+(ds.length+1) by omega],by rw[f3,fS,ha2,hv],f4,f5⟩;rw[er];simp[h0,R,X,hc,V,S,J,D,C,B,z,u];simp at f1;exact f1
   ·obtain⟨f1,f2⟩:=e2 (by simp at hgt;omega)
    refine⟨?_,f2⟩;rw[er];simp[h0,R,X,hc,V,S,J,D,C,B,z,u];simp at f1;exact f1
variable{b1:Code}
theorem zC(s:List UInt8)(H:Nat)(hs:s.length≤1000000000)(A:Env)(d:Bool)(h0:ad A 0=.str s)(I:ad A 7=.int .i64 H)(G:ai f115=[b1,b]):
  ∀(ds:List UInt8) (i j acc k:Nat),s.drop i=ds→ds.all isD=true→i=H+j→i≤s.length→acc<10 ^ j→j≤9→ds.length≤k→
   ∃Z,(j+ds.length≤9→er [5,3,2] (ab b) A 0 (aM (aN prog) lv O K 73 0 true b) (k+1) ⟨aD [5,3,2] (ab b) A ((5,.int .i64 i)::(3,.int .i64 acc)::A),[],d⟩=some (.exit 2,⟨Z,[],d⟩)∧
     ad Z 5=.int .i64 ((i+ds.length:Nat):Int)∧ad Z 3=.int .i64 (xR acc ds)∧ad Z 0=.str s∧ad Z 2=ad A 2)∧
    (9<j+ds.length→er [5,3,2] (ab b) A 0 (aM (aN prog) lv O K 73 0 true b) (k+1) ⟨aD [5,3,2] (ab b) A ((5,.int .i64 i)::(3,.int .i64 acc)::A),[],d⟩=some (.ret,⟨Z,[],d⟩)∧
     ad Z 2=.int .i64 0∧ad Z 3=.int .i64 0∧ad Z 4=.bool false):=by
 simp[ai,aG,f115] at G;obtain⟨_,G⟩:=G;intro ds;induction ds with
 |nil=>
  intro i j acc k V _ u hi m hj _;subst G;have H':i=s.length:=by have:=congrArg List.length V;simp at this;omega
  subst H';have Y:¬(9<j):=by omega
  simp[er,h0,Y,hj,gy]
 |cons c ds ih=>
  intro i j acc k V z u hi m hj hk;simp only[List.all_cons,Bool.and_eq_true] at z;have FS:i<s.length:=by have:=congrArg List.length V;simp at this;omega
  have X :(i:Int)<s.length:=by omega
  have hc:s[i]? =some c:=by have:=congrArg List.head? V;rw[List.head?_drop] at this;simpa using this
  have hc1:=yA z.1;have hc2:48≤c.toNat∧c.toNat≤57:=by have:=z.1;unfold isD at this;simpa using this
  have W:IntKind.i64.wrap ((i:Int)-H)=j:=by rw[aq];omega
  obtain⟨k,rfl⟩:∃k',k=k' +1:=⟨k-1,by simp at hk;omega⟩
  by_cases R:j=9
  ·subst R
   subst G;have Y:¬(9+(ds.length+1)≤9):=by omega
   simp[er,h0,I,X,W,Y]
  ·have S:¬((j:Int)=9):=by omega
   have hp:10 ^ j≤100000000:=Nat.le_trans (Nat.pow_le_pow_right (by omega) (show j≤8 by omega)) (by decide);obtain⟨v,hv⟩:=xE (α:=Nat) (c.toNat-48);obtain⟨a2,ha2⟩:=xE (α:=Nat) (10*acc+v);obtain⟨i2,M⟩:=xE (α:=Nat) (i+1);have J:IntKind.i64.wrap (10*(acc:Int))=10*(acc:Int):=aq;have F:IntKind.u8.wrap ((c.toNat:Int)-48)=(v:Int):=by rw[Hp (by omega) (by omega)];omega
   have D:IntKind.i64.wrap (v:Int)=(v:Int):=aq;have C:IntKind.i64.wrap (10*(acc:Int)+(v:Int))=(a2:Int):=by rw[aq];omega
   have B:IntKind.i64.wrap ((i:Int)+1)=(i2:Int):=by rw[aq];omega
   have aaO :a2<10 ^ (j+1):=by rw[Nat.pow_succ];omega
   have hd' :s.drop i2=ds:=by rw[M,←List.drop_drop,V];simp
   obtain⟨Z,e1,e2⟩:=ih i2 (j+1) a2 k hd' z.2 (by omega) (by omega) aaO (by omega) (by simp at hk;omega);subst G;refine⟨Z,fun hle=>?_,fun hgt=>?_⟩
   ·obtain⟨f1,f2,f3,f4,f5⟩:=e1 (by simp at hle;omega)
    refine⟨?_,by rw[f2,M,List.length_cons,show i+1+ds.length=i+(ds.length+1) by omega],by rw[f3,fS,ha2,hv],f4,f5⟩;rw[er];simp[h0,I,X,hc,W,S,J,F,D,C,B];simp at f1;exact f1
   ·obtain⟨f1,f2⟩:=e2 (by simp at hgt;omega)
    refine⟨?_,f2⟩;rw[er];simp[h0,I,X,hc,W,S,J,F,D,C,B];simp at f1;exact f1
theorem tf(s rest ds:List UInt8)(A:Nat)(hs:s.length≤1000000000)(H:rest=[]∨∃r,rest=47::r)(R:s.drop A=ds++rest)(I:A≤s.length)(Y:ds.all isD=true)(hK:s.length<K)(hb:ai f115=[b,b2])(G:lv b=[5,2,3]):
  ∃F:Env→Bool→Env,∀Z d,(ad Z 0=.str s∧ad Z 7=.int .i64 A∧ad Z 5=.int .i64 A∧ad Z 2=.int .i64 0)→
   (ds.length≤9→aM (aN prog) lv O K 73 0 true (.loop b) ⟨Z,[],d⟩=some (.exit 0,⟨F Z d,[],d⟩)∧
     ad (F Z d) 5=.int .i64 ((A+ds.length:Nat):Int)∧ad (F Z d) 2=.int .i64 (xR 0 ds)∧ad (F Z d) 0=.str s∧ad (F Z d) 6=ad Z 6∧ad (F Z d) 3=ad Z 3)∧
    (9<ds.length→aM (aN prog) lv O K 73 0 true (.loop b) ⟨Z,[],d⟩=some (.ret,⟨F Z d,[],d⟩)∧
     ad (F Z d) 2=.int .i64 0∧ad (F Z d) 3=.int .i64 0∧ad (F Z d) 4=.bool false):=by
 refine uQ (p:=fun Z _=>ad Z 0=.str s∧ad Z 7=.int .i64 A∧ad Z 5=.int .i64 A∧ad Z 2=.int .i64 0)
  (q:=fun Z d X =>(ds.length≤9→aM (aN prog) lv O K 73 0 true (.loop b) ⟨Z,[],d⟩=some (.exit 0,⟨X,[],d⟩)∧
     ad X 5=.int .i64 ((A+ds.length:Nat):Int)∧ad X 2=.int .i64 (xR 0 ds)∧ad X 0=.str s∧ad X 6=ad Z 6∧ad X 3=ad Z 3)∧
    (9<ds.length→aM (aN prog) lv O K 73 0 true (.loop b) ⟨Z,[],d⟩=some (.ret,⟨X,[],d⟩)∧
     ad X 2=.int .i64 0∧ad X 3=.int .i64 0∧ad X 4=.bool false)) ?_
 rintro Z d ⟨h0,h7,h5,h2⟩;have W:ds.length≤K-1:=by have:=congrArg List.length R;simp at this;omega
 obtain⟨M,V,S⟩:=zz (O:=O) (K:=K) (lv:=lv) s rest A hs H Z d h0 h7 hb ds A 0 0 (K-1) R Y (by omega) I (by simp) (by omega) W;have J:aD [5,2,3] (ab b) Z ((5,.int .i64 (A:Int))::(2,.int .i64 ((0:Nat):Int))::Z)=aD [5,2,3] (ab b) Z Z:=by simp[aD,h5,h2]
 rw[J,show K-1+1=K by omega] at V S;rw[Nat.zero_add] at V S;refine⟨M,?_,?_⟩
 ·rw[aQ,G];exact V
 ·rw[aQ,G];exact S
theorem tg(s ds:List UInt8)(A:Nat)(hs:s.length≤1000000000)(I:s.drop A=ds)(H:A≤s.length)(R:ds.all isD=true)(hK:s.length<K)(Y:ai f115=[b1,b])(G:lv b=[5,3,2]):
  ∃F:Env→Bool→Env,∀Z d,(ad Z 0=.str s∧ad Z 7=.int .i64 A∧ad Z 5=.int .i64 A∧ad Z 3=.int .i64 0)→
   (ds.length≤9→aM (aN prog) lv O K 73 0 true (.loop b) ⟨Z,[],d⟩=some (.exit 2,⟨F Z d,[],d⟩)∧
     ad (F Z d) 3=.int .i64 (xR 0 ds)∧ad (F Z d) 2=ad Z 2)∧
    (9<ds.length→aM (aN prog) lv O K 73 0 true (.loop b) ⟨Z,[],d⟩=some (.ret,⟨F Z d,[],d⟩)∧
     ad (F Z d) 2=.int .i64 0∧ad (F Z d) 3=.int .i64 0∧ad (F Z d) 4=.bool false):=by
 refine uQ (p:=fun Z _=>ad Z 0=.str s∧ad Z 7=.int .i64 A∧ad Z 5=.int .i64 A∧ad Z 3=.int .i64 0)
  (q:=fun Z d X =>(ds.length≤9→aM (aN prog) lv O K 73 0 true (.loop b) ⟨Z,[],d⟩=some (.exit 2,⟨X,[],d⟩)∧
     ad X 3=.int .i64 (xR 0 ds)∧ad X 2=ad Z 2)∧
    (9<ds.length→aM (aN prog) lv O K 73 0 true (.loop b) ⟨Z,[],d⟩=some (.ret,⟨X,[],d⟩)∧
     ad X 2=.int .i64 0∧ad X 3=.int .i64 0∧ad X 4=.bool false)) ?_
 rintro Z d ⟨h0,h7,h5,h3⟩;have W:ds.length≤K-1:=by have:=congrArg List.length I;simp at this;omega
 obtain⟨M,V,S⟩:=zC (O:=O) (K:=K) (lv:=lv) s A hs Z d h0 h7 Y ds A 0 0 (K-1) I R (by omega) H (by simp) (by omega) W;have J:aD [5,3,2] (ab b) Z ((5,.int .i64 (A:Int))::(3,.int .i64 ((0:Nat):Int))::Z)=aD [5,3,2] (ab b) Z Z:=by simp[aD,h5,h3]
 rw[J,show K-1+1=K by omega] at V S;rw[Nat.zero_add] at V S;refine⟨M,fun h=>?_,?_⟩
 ·obtain⟨f1,_,f3,_,f5⟩:=V h
  rw[aQ,G];exact⟨f1,f3,f5⟩
 ·rw[aQ,G];exact S
def eZ(c:Code):List Nat:=if (ab c).contains 17 then [5,2,3] else [5,3,2]
theorem xL(q:Rat):∃Z,ak q=(if q.num<0 then [45] else [])++(aR q.num.natAbs++Z)∧(Z=if q.den=1 then [] else 47::aR q.den):=by
 refine⟨if q.den=1 then [] else 47::aR q.den,?_,rfl⟩;have h:cC q.num=(if q.num<0 then [45] else [])++aR q.num.natAbs:=by
  cases hn:q.num with
  |ofNat u=>rw[if_neg (by simp)];rfl
  |negSucc u=>rw[if_pos (Int.negSucc_lt_zero u)];rfl
 unfold ak;rw[h];split<;>simp
theorem zn(q:Rat)(hl:(ak q).length≤1000000000)(hq:0≤q.num)(mem:Mem):kO prog 115 [.str (ak q)] mem
  (if (aR q.num.natAbs).length≤9∧(q.den=1∨(aR q.den).length≤9) then .tuple [.int .i64 q.num,.int .i64 q.den,.bool true] else .tuple [.int .i64 0,.int .i64 0,.bool false]) mem:=by
 have Y:aK prog 115=some f115:=by kernel_rfl
 refine cV (al _) (lv:=eZ) (K:=(ak q).length+1) rfl (by split<;>rfl) ?_ mem;obtain⟨V,R,X⟩:=xL q;rw[if_neg (by omega),List.nil_append] at R;obtain⟨b1,b2,D⟩:∃b1 b2,ai f115=[b1,b2]∧eZ b1=[5,2,3]∧eZ b2=[5,3,2]:=⟨_,_,rfl,by decide,by decide⟩
 obtain⟨F,hF⟩:=tf (O:=bM) (K:=(ak q).length+1) (lv:=eZ) (ak q) V (aR q.num.natAbs) 0 hl
  (by rw[X];split;exact .inl rfl;exact .inr ⟨_,rfl⟩) (by rw[List.drop_zero];exact R) (by omega) (gw _) (by omega) D.1 D.2.1
 obtain⟨c,r,C,hc⟩:=rG hq;have A:(ak q)[0]? =some c:=by rw[C];rfl
 have W:=gH hc;have I:0<(ak q).length:=by rw[C];simp only[List.length_cons];omega
 have H:∀h:0<(ak q).length,(ak q)[0]'h=c:=fun h=>by have:=List.getElem?_eq_getElem h;rw[A] at this;exact(Option.some.inj this).symm
 have H':(ak q).length=(aR q.num.natAbs).length+V.length:=by rw[R,List.length_append]
 have B:xR 0 (aR q.num.natAbs)=q.num.natAbs:=gh _;have z:((q.num.natAbs:Nat):Int)=q.num:=by omega
 have u:=D.1;simp[ai,aG,f115] at u;obtain⟨rfl,rfl⟩:=u;by_cases m:(aR q.num.natAbs).length≤9
 ·have Z:=fun S d h=>(hF S d h).1 m
  by_cases j:q.den=1
  ·rw[if_pos j] at X
   have G:((aR q.num.natAbs).length:Int)=((ak q).length:Int):=by rw[H',X];simp
   rw[Nat.zero_add] at Z;simp[aa,Y,f115,H,W,I,Z,B,z,G,j,m]
  ·rw[if_neg j] at X
   have acY:(ak q).length=(aR q.num.natAbs).length+((aR q.den).length+1):=by rw[H',X,List.length_cons]
   have G:¬((aR q.num.natAbs).length:Int)=((ak q).length:Int):=by omega
   obtain⟨bg,hbg⟩:=xE (α:=Nat) ((aR q.num.natAbs).length+1);have hw:IntKind.i64.wrap (((aR q.num.natAbs).length:Int)+1)=(bg:Int):=by rw[aq];omega
   obtain⟨F2,Z5⟩:=tg (O:=bM) (K:=(ak q).length+1) (lv:=eZ) (ak q) (aR q.den) bg hl
    (by rw[R,X,hbg,List.drop_append];simp) (by omega) (gw _) (by omega) D.1 D.2.2
   have abq:xR 0 (aR q.den)=q.den:=gh _;rw[Nat.zero_add] at Z;by_cases M:(aR q.den).length≤9
   ·have J:=fun S d h=>(Z5 S d h).1 M
    simp[aa,Y,f115,H,W,I,Z,B,z,G,j,m,hw,J,abq,M]
   ·have J:=fun S d h=>(Z5 S d h).2 (by omega)
    simp[aa,Y,f115,H,W,I,Z,G,j,m,hw,J,M]
 ·have Z:=fun S d h=>(hF S d h).2 (by omega)
  simp[aa,Y,f115,H,W,I,Z,m]
theorem zm(q:Rat)(hl:(ak q).length≤1000000000)(hq:q.num<0)(mem:Mem):kO prog 115 [.str (ak q)] mem
  (if (aR q.num.natAbs).length≤9∧(q.den=1∨(aR q.den).length≤9) then .tuple [.int .i64 q.num,.int .i64 q.den,.bool true] else .tuple [.int .i64 0,.int .i64 0,.bool false]) mem:=by
 have R:aK prog 115=some f115:=by kernel_rfl
 refine cV (al _) (lv:=eZ) (K:=(ak q).length+1) rfl (by split<;>rfl) ?_ mem;obtain⟨V,S,Z⟩:=xL q;rw[if_pos hq,List.singleton_append] at S;obtain⟨b1,b2,B⟩:∃b1 b2,ai f115=[b1,b2]∧eZ b1=[5,2,3]∧eZ b2=[5,3,2]:=⟨_,_,rfl,by decide,by decide⟩
 obtain⟨F,hF⟩:=tf (O:=bM) (K:=(ak q).length+1) (lv:=eZ) (ak q) V (aR q.num.natAbs) 1 hl
  (by rw[Z];split;exact .inl rfl;exact .inr ⟨_,rfl⟩) (by rw[S];rfl) (by rw[S];simp) (gw _) (by omega) B.1 B.2.1
 have I:0<(ak q).length:=by rw[S];simp
 have H:∀h:0<(ak q).length,(ak q)[0]'h=45:=fun h=>by
  have h1:=List.getElem?_eq_getElem h;have h2:(ak q)[0]? =some 45:=by rw[S];rfl
  rw[h2] at h1;exact(Option.some.inj h1).symm
 have H':(ak q).length=1+((aR q.num.natAbs).length+V.length):=by rw[S,List.length_cons,List.length_append,Nat.add_comm]
 have z:xR 0 (aR q.num.natAbs)=q.num.natAbs:=gh _;have hub:q.num.natAbs<10 ^ (aR q.num.natAbs).length:=fh _;have u:=B.1;simp[ai,aG,f115] at u;obtain⟨rfl,rfl⟩:=u;by_cases C:(aR q.num.natAbs).length≤9
 ·have X:=fun M d h=>(hF M d h).1 C
  obtain⟨m,W⟩:=xE (α:=Nat) (1+(aR q.num.natAbs).length);rw[←W] at X;have aeJ:10 ^ (aR q.num.natAbs).length≤1000000000:=Nat.le_trans (Nat.pow_le_pow_right (by omega) C) (by decide);have j:IntKind.i64.wrap (-((q.num.natAbs:Nat):Int))=q.num:=by rw[aq];omega
  by_cases Y:q.den=1
  ·rw[if_pos Y] at Z
   have G:(m:Int)=((ak q).length:Int):=by rw[H',Z,W];simp
   simp[aa,R,f115,H,I,X,z,j,G,Y,C]
  ·rw[if_neg Y] at Z
   have acY:(ak q).length=m+((aR q.den).length+1):=by rw[H',Z,List.length_cons,W];omega
   have G:¬(m:Int)=((ak q).length:Int):=by omega
   obtain⟨bg,A⟩:=xE (α:=Nat) (m+1);have hw:IntKind.i64.wrap ((m:Int)+1)=(bg:Int):=by rw[aq];omega
   obtain⟨F2,Z5⟩:=tg (O:=bM) (K:=(ak q).length+1) (lv:=eZ) (ak q) (aR q.den) bg hl
    (by rw[S,Z,A,W,show 1+(aR q.num.natAbs).length+1=((aR q.num.natAbs).length+1)+1 by omega,List.drop_succ_cons,List.drop_append];simp) (by omega) (gw _) (by omega) B.1 B.2.2
   have abq:xR 0 (aR q.den)=q.den:=gh _;by_cases J:(aR q.den).length≤9
   ·have D:=fun M d h=>(Z5 M d h).1 J
    simp[aa,R,f115,H,I,X,z,j,G,Y,C,hw,D,abq,J]
   ·have D:=fun M d h=>(Z5 M d h).2 (by omega)
    simp[aa,R,f115,H,I,X,G,Y,C,hw,D,J]
 ·have X:=fun M d h=>(hF M d h).2 (by omega)
  simp[aa,R,f115,H,I,X,C]
theorem Ig(q:Rat)(A:(ak q).length≤1000000000)(mem:Mem):kO prog 115 [.str (ak q)] mem
  (if (aR q.num.natAbs).length≤9∧(q.den=1∨(aR q.den).length≤9) then .tuple [.int .i64 q.num,.int .i64 q.den,.bool true] else .tuple [.int .i64 0,.int .i64 0,.bool false]) mem:=by
 by_cases hq:0≤q.num
 ·exact zn q A hq mem
 ·exact zm q A (by omega) mem
def euc:Nat→Int→Int→Int
 |0,x,_=>x
 |k+1,x,y=>if y=0 then x else euc k y (x.tmod y)
theorem sn:∀(k:Nat)(x y:Int),y.natAbs<k→(euc k x y).natAbs=x.natAbs.gcd y.natAbs
 |0,_,_,h=>by omega
 |k+1,x,y,h=>by
  unfold euc;by_cases Z:y=0
  ·subst Z;rw[if_pos rfl];simp
  ·rw[if_neg Z]
   have X:(x.tmod y).natAbs<k:=by rw[Int.natAbs_tmod];have:=Nat.mod_lt x.natAbs (show 0<y.natAbs by omega);omega
   rw[sn k y (x.tmod y) X,Int.natAbs_tmod,Nat.gcd_comm x.natAbs,Nat.gcd_rec y.natAbs x.natAbs,Nat.gcd_comm]
theorem BB(A:Env)(d:Bool)(G:ai f116=[b]):
  ∀(k:Nat) (x y:Int),y.natAbs<k→∃Z,er [5,6] (ab b) A 0 (aM (aN prog) lv O K 35 0 true b) k ⟨aD [5,6] (ab b) A ((5,.int .i64 x)::(6,.int .i64 y)::A),[],d⟩=
   some (.exit 0,⟨Z,[],d⟩)∧ad Z 5=.int .i64 (euc k x y)∧ad Z 0=ad A 0∧ad Z 1=ad A 1∧ad Z 4=ad A 4:=by
 simp[ai,aG,f116] at G;intro k;induction k with
 |zero=>intro x y h;omega
 |succ k ih=>
  intro x y J;by_cases X:y=0
  ·subst G
   subst X;simp[er,euc]
  ·have V:(x.tmod y).natAbs<k:=by rw[Int.natAbs_tmod];have:=Nat.mod_lt x.natAbs (show 0<y.natAbs by omega);omega
   obtain⟨Z,W,S,M⟩:=ih y (x.tmod y) V;subst G;refine⟨Z,?_,by rw[S,euc,if_neg X],M⟩;rw[er];simp[X];simp at W;exact W
theorem zE(G:ai f116=[b])(A:lv b=[5,6])(n:Int)(m:Nat)(H:m<K):
  ∃F:Env→Bool→Env,∀Z d,(ad Z 5=.int .i64 n∧ad Z 6=.int .i64 m)→
   aM (aN prog) lv O K 35 0 true (.loop b) ⟨Z,[],d⟩=some (.exit 0,⟨F Z d,[],d⟩)∧ad (F Z d) 5=.int .i64 (euc K n m)∧
    ad (F Z d) 0=ad Z 0∧ad (F Z d) 1=ad Z 1∧ad (F Z d) 4=ad Z 4:=by
 refine uQ (p:=fun Z _=>ad Z 5=.int .i64 n∧ad Z 6=.int .i64 m) (q:=fun Z d X =>aM (aN prog) lv O K 35 0 true (.loop b) ⟨Z,[],d⟩=some (.exit 0,⟨X,[],d⟩)∧ad X 5=.int .i64 (euc K n m)∧
    ad X 0=ad Z 0∧ad X 1=ad Z 1∧ad X 4=ad Z 4) ?_
 rintro Z d ⟨h5,h6⟩;obtain⟨V,W,S⟩:=BB (O:=O) (K:=K) (lv:=lv) Z d G K n m (by simpa using H);have M:aD [5,6] (ab b) Z ((5,.int .i64 n)::(6,.int .i64 (m:Int))::Z)=aD [5,6] (ab b) Z Z:=by simp[aD,h5,h6]
 rw[M] at W;exact⟨V,by rw[aQ,A];exact W,S⟩
theorem Ik(n:Int)(m:Nat)(hn:n.natAbs≤4611686018427387904)(A:m≠0)(hm:m≤4611686018427387904)(mem:Mem):kO prog 116 [.int .i64 n,.int .i64 m] mem (.str (ak (Rat.normalize n m A))) mem:=by
 have hG:aK prog 116=some f116:=by kernel_rfl
 refine cV dZ (lv:=fun _=>[5,6]) (K:=m+1) rfl rfl ?_ mem;obtain⟨b,hb⟩:∃b,ai f116=[b]:=⟨_,rfl⟩
 obtain⟨F,z⟩:=zE (O:=af aY) (K:=m+1) (lv:=fun _=>[5,6]) hb rfl n m (by omega);simp[ai,aG,f116] at hb;subst hb;have hg:=sn (m+1) n m (by simp);generalize euc (m+1) n m=g at z hg;rw[Int.natAbs_natCast] at hg;have u:n.natAbs.gcd m∣m:=Nat.gcd_dvd_right _ _;have hgn:n.natAbs.gcd m∣n.natAbs:=Nat.gcd_dvd_left _ _;have hgp:0<n.natAbs.gcd m:=Nat.gcd_pos_of_pos_right _ (by omega);have hgm:n.natAbs.gcd m≤m:=Nat.le_of_dvd (by omega) u;obtain⟨D,adR,Z⟩:∃D,ak (Rat.normalize n m A)=D∧D=if m / n.natAbs.gcd m=1 then cC (n / (n.natAbs.gcd m:Nat)) else cC (n / (n.natAbs.gcd m:Nat))++47::aR (m / n.natAbs.gcd m):=
  ⟨_,rfl,by rw[Rat.normalize_eq];rfl⟩
 rw[adR];generalize n.natAbs.gcd m=G at*;have C:(G:Int)∣n:=Int.ofNat_dvd_left.2 hgn;have hdm:(G:Int)∣(m:Int):=Int.ofNat_dvd.2 u;obtain⟨p,hp⟩:=xE (α:=Int) (n / (G:Int));obtain⟨e,he⟩:=xE (α:=Nat) (m / G);rw[←hp,←he] at Z;have W:IntKind.i64.wrap (n.tdiv (G:Int))=p:=by
  rw[Int.tdiv_eq_ediv_of_dvd C,←hp];have:p.natAbs≤n.natAbs:=by rw[hp,←Int.tdiv_eq_ediv_of_dvd C,Int.natAbs_tdiv];exact Nat.div_le_self _ _
  exact aq
 have hq2:IntKind.i64.wrap ((m:Int).tdiv (G:Int))=(e:Int):=by
  have h1:(m:Int).tdiv (G:Int)=(e:Int):=by rw[he,←Int.ofNat_tdiv]
  have h2:e≤m:=by rw[he];exact Nat.div_le_self _ _
  rw[h1];exact aq
 have V :IntKind.i64.wrap ((m:Int) / (G:Int))=(e:Int):=by rw[←Int.tdiv_eq_ediv_of_dvd hdm];exact hq2
 have S:¬G=0:=by omega
 have hpn: -4611686018427387904≤p∧p≤4611686018427387904:=by
  have:p.natAbs≤n.natAbs:=by rw[hp,←Int.tdiv_eq_ediv_of_dvd C,Int.natAbs_tdiv];exact Nat.div_le_self _ _
  omega
 have hem:e≤4611686018427387904:=by
  have h2:e≤m:=by rw[he];exact Nat.div_le_self _ _
  omega
 have M:dU p=true:=by simp only[dU,Bool.and_eq_true,decide_eq_true_eq];omega
 have j:dU (e:Int)=true:=by simp only[dU,Bool.and_eq_true,decide_eq_true_eq];omega
 have Y:cC (e:Int)=aR e:=rfl;have R:(g<0→IntKind.i64.wrap (-g)=(G:Int))∧(¬g<0→g=(G:Int)):=⟨fun h=>by rw[aq];omega,fun h=>by omega⟩;have hlp:(cC p).length≤21:=by rw[Uv];exact Lib.itoa_length_le p (by omega) (by omega)
 have hle:(aR e).length≤19:=bD (by omega) (Nat.lt_of_le_of_lt hem (by decide));have I:(cC p).length+1≤9223372036854775807:=by omega
 have H:(cC p).length+1+(aR e).length≤9223372036854775807:=by omega
 by_cases J:g<0
 ·have hw:=R.1 J
  by_cases X:e=1
  ·simp[aa,hG,f116,af,aY,z,J,hw,S,W,V,X,M,Z]
  ·have B :¬(e:Int)=1:=by omega
   simp[aa,hG,f116,af,aY,z,J,hw,S,W,V,X,B,M,j,Y,Z,I,H,gv]
 ·have hw:=R.2 J
  have ab2:¬(G:Int)<0:=by omega
  by_cases X:e=1
  ·simp[aa,hG,f116,af,aY,z,ab2,hw,S,W,V,X,M,Z]
  ·have B :¬(e:Int)=1:=by omega
   simp[aa,hG,f116,af,aY,z,ab2,hw,S,W,V,X,B,M,j,Y,Z,I,H,gv]
theorem fG{α:Type}{p q:α→Prop}{r:Prop}(A:r)(h:∃s,p s∧q s):∃s,p s∧q s∧r:=let ⟨s,a,b⟩:=h;⟨s,a,b,A⟩
theorem yH(n:Int):(aR n.natAbs).length≤(cC n).length:=by
 cases n with
 |ofNat u=>exact Nat.le_refl _
 |negSucc u=>simp[cC]
theorem xB{n:Int}{k:Nat}(h:(cC n).length≤k):n.natAbs<10 ^ k:=by have Z:=fh n.natAbs;have X:=yH n;have h3:10 ^ (aR n.natAbs).length≤10 ^ k:=Nat.pow_le_pow_right (by omega) (by omega);omega
noncomputable def cU(f:FuncId)(args:List AV):Option AV:=
 match f,args with
 |146,[.str s,.int .i64 m]=>match pD s with
  |some n=>if m≤18∧s.length≤1000000000 then some (if (s.length:Int)≤m then .tuple [.int .i64 n,.bool true] else .tuple [.int .i64 0,.bool false]) else none
  |none=>none
 |98,[.int .i64 n]=>if dU n then some (.str (cC n)) else none
 |170,[.str s]=>match pD s with
  |some n=>if s.length≤1000000000 then some (.str (cC (-n))) else none
  |none=>none
 |95,[.str s,.str t]=>match pD s,pD t with
  |some m,some n=>some (.int .i64 (Lz m n))
  |_,_=>none
 |f,args=>cv f args
theorem yd:HS prog (af cU):=bH fun f X v h mem=>by
 unfold cU at h;split at h
 ·split at h
  ·rename_i n Z
   split at h
   ·rename_i hc
    cases h;rw[fg Z] at hc ⊢;exact Nn n _ hc.1 hc.2 mem
   ·cases h
  ·cases h
 ·split at h
  next hc=>cases h;exact Pp _ hc mem
  ·cases h
 ·split at h
  ·rename_i n Z
   split at h
   ·rename_i hc
    cases h;rw[fg Z] at hc ⊢;exact Sy n hc mem
   ·cases h
  ·cases h
 ·split at h
  ·rename_i m n W Z
   cases h;rw[fg W,fg Z];exact CW m n mem
  ·cases h
 ·have:=qD.fn _ _ mem ⟨v,none,[]⟩ (by unfold af;simp only;rw[h])
  simpa [aeQ.mem] using this
end Go.Proofs
namespace Go.Eng
open Classical in
theorem jW{β:Type}[Inhabited β]{p:Env→Bool→Prop}{q:Env→Bool→β→Prop}(h:∀e d,p e d→∃x,q e d x):∃F:Env→Bool→β,∀e d,p e d→q e d (F e d):=
 ⟨fun e d=>if Z:p e d then Classical.choose (h e d Z) else default,fun e d Z=>by simp only[dif_pos Z];exact Classical.choose_spec (h e d Z)⟩
theorem kG{α:Type}{f:XS→Option (Exit×XS)}{lv wr:List Nat}{H:Env}{m1:Nat}(S:α→XS)(m:α→Nat)(Inv:α→Prop)(A:Exit) (G :Bool)(Q:Env→Mem→Prop)(he:A≠ .normal)
  (h:∀a,Inv a→(∃W V,f (S a)=some (.normal,V)∧ic lv wr H m1 V =S W ∧Inv W ∧m W <m a)∨(∃X Z,f (S a)=some (A,⟨X,Z,G⟩)∧Q X Z)):
  ∀k a,Inv a→m a<k→∃X Z,er lv wr H m1 f k (S a)=some (A,⟨X,Z,G⟩)∧Q X Z
 |0,a,_,hk=>by omega
 |k+1,a,ha,hk=>by
  unfold er;rcases h a ha with⟨W,V,O,M,h3,K⟩ | ⟨X,Z,O,h3⟩
  ·rw[O]
   simp only[M];exact kG S m Inv A G Q he h k W h3 (by omega)
  ·rw[O]
   refine⟨X,Z,?_,h3⟩;cases A<;>first | rfl | exact absurd rfl he
theorem kV{β:Type}[Inhabited β]{T:TypeId→Option TyI}{lv:Code→List Nat}{O:aeT}{K N m0:Nat}{tp:Bool}{b:Code}{L:List Nat}(H:lv b=L){mem:Mem}{e:Exit}(G:Env→Prop)(A:Env→Env→Mem→β→Prop)(h:∀Z d,G Z→∃W X,er L (ab b) Z mem.length (aM T lv O K N m0 tp b) K ⟨aD L (ab b) Z Z,mem,d⟩=some (e,⟨W,X,d⟩)∧∃x,A Z W X x):
  ∃F:Env→Bool→Env×Mem×β,∀Z d,G Z→aM T lv O K N m0 tp (.loop b) ⟨Z,mem,d⟩=some (e,⟨(F Z d).1,(F Z d).2.1,d⟩)∧A Z (F Z d).1 (F Z d).2.1 (F Z d).2.2:=by
 refine jW (β:=Env×Mem×β) (p:=fun Z _=>G Z) (q:=fun Z d x=>aM T lv O K N m0 tp (.loop b) ⟨Z,mem,d⟩=some (e,⟨x.1,x.2.1,d⟩)∧A Z x.1 x.2.1 x.2.2) ?_;intro Z d V;obtain⟨W,X,S,x,M⟩:=h Z d V;exact⟨(W,X,x),by rw[aQ,H];exact S,M⟩
end Go.Eng
namespace Go.Proofs
open Go.Eng
open Tryz
def xd(c:Code):List Nat:=if (ab c).contains 9 then [9,10] else [5,7]
theorem Dk{O:aeT}{K:Nat}(n m:Int)(G:m.natAbs<K){b0 b:Code}(A:ai f96=[b0,b]):
  ∃F:Env→Bool→Env,∀Z d,(ad Z 5=.int .i64 n∧ad Z 7=.int .i64 m)→
   aM (aN prog) xd O K 56 0 true (.loop b0) ⟨Z,[],d⟩=some (.exit 0,⟨F Z d,[],d⟩)∧(∃g:Int,ad (F Z d) 5=.int .i64 g∧g.natAbs=n.natAbs.gcd m.natAbs):=by
 have X:xd b0=[5,7]:=by simp[ai,aG,f96] at A;obtain⟨rfl,rfl⟩:=A;decide
 refine cD X (fun Z=>ad Z 5=.int .i64 n∧ad Z 7=.int .i64 m) (fun _ V =>∃g:Int,ad V 5=.int .i64 g∧g.natAbs=n.natAbs.gcd m.natAbs) ?_;rintro Z d ⟨h5,h7⟩;have S:aD [5,7] (ab b0) Z ((5,.int .i64 n)::(7,.int .i64 m)::Z)=aD [5,7] (ab b0) Z Z:=by simp[aD,h5,h7]
 rw[←S];refine dh (α:=Int×Int) (fun s=>⟨aD [5,7] (ab b0) Z ((5,.int .i64 s.1)::(7,.int .i64 s.2)::Z),[],d⟩) (fun s=>s.2.natAbs) (fun s=>s.1.natAbs.gcd s.2.natAbs=n.natAbs.gcd m.natAbs) (.exit 0) _ d _ (by simp) ?_ K (n,m) rfl G;rintro ⟨x,y⟩ hg;simp only at hg ⊢;simp[ai,aG,f96] at A;obtain⟨rfl,rfl⟩:=A;by_cases W:y=0
 ·right
  subst W;simp only[Int.natAbs_zero,Nat.gcd_zero_right] at hg;simp[hg]
 ·left
  have M:(x.tmod y).natAbs<y.natAbs:=by rw[Int.natAbs_tmod];exact Nat.mod_lt _ (by omega)
  refine⟨(y,x.tmod y),?_⟩;refine fG (show y.natAbs.gcd (x.tmod y).natAbs=n.natAbs.gcd m.natAbs∧_ from⟨by rw[Int.natAbs_tmod,←hg,Nat.gcd_comm x.natAbs,Nat.gcd_rec y.natAbs x.natAbs,Nat.gcd_comm],M⟩) ?_;simp[W]
theorem Qw(a b:Int)(A:(cC a).length≤18)(H:(cC b).length≤18)(mem:Mem):
  kO prog 96 [.str (cC a),.str (cC b)] mem (.str (aR (a.natAbs.gcd b.natAbs))) mem:=by
 have u:aK prog 96=some f96:=by kernel_rfl
 refine cV yd (lv:=xd) (K:=2*b.natAbs+2) rfl rfl ?_ mem;obtain⟨D,C,Z⟩:∃D C,ai f96=[D,C]:=⟨_,_,rfl⟩
 have V:(cC a).length≤1000000000:=by omega
 have S:(cC b).length≤1000000000:=by omega
 have m:((cC a).length:Int)≤18:=by omega
 have j:((cC b).length:Int)≤18:=by omega
 have Y:=xB A;have R:=xB H;obtain⟨F,B⟩:=Dk (O:=af cU) (K:=2*b.natAbs+2) a b (by omega) Z;obtain⟨G,W⟩:=jW (β:=Int) (p:=fun X _=>ad X 5=.int .i64 a∧ad X 7=.int .i64 b) (q:=fun X d g=>ad (F X d) 5=.int .i64 g∧g.natAbs=a.natAbs.gcd b.natAbs) (fun X d h=>(B X d h).2);have M:a.natAbs.gcd b.natAbs<10 ^ 18:=by
  by_cases I:a.natAbs=0
  ·rw[I,Nat.gcd_zero_left];exact R
  ·exact Nat.lt_of_le_of_lt (Nat.gcd_le_left _ (by omega)) Y
 obtain⟨g,hg⟩:=xE (a.natAbs.gcd b.natAbs);rw[←hg] at M W ⊢;have w1:∀z:Int,z.natAbs=g→IntKind.i64.wrap (-z)= -z:=fun z hz=>aq
 have w2:∀z:Int,z.natAbs=g→(if z< -z then -z else z)=(g:Int):=fun z hz=>by split<;>omega
 have hf:dU (g:Int)=true:=by unfold dU;simp;omega
 have J:cC (g:Int)=aR g:=rfl;simp[ai,aG,f96] at Z;obtain⟨rfl,rfl⟩:=Z;simp[aa,u,f96,af,cU,cY,V,S,m,j,B,W,w1,w2,hf,J]
noncomputable def dx(f:FuncId)(args:List AV):Option AV:=
 match f,args with
 |96,[.str s,.str t]=>match pD s,pD t with
  |some m,some n=>if s.length≤18∧t.length≤18 then some (.str (aR (m.natAbs.gcd n.natAbs))) else none
  |_,_=>none
 |94,[.str s]=>if s.length≤1000000000 then some (.int .i64 (if okT (Lib.hasPrefix s [45]) (Lib.trimPrefix s [45]) then 0 else 2)) else none
 |f,args=>cU f args
theorem Ko:HS prog (af dx):=bH fun f Z v h mem=>by
 unfold dx at h;split at h
 ·split at h
  ·rename_i m n X W
   split at h
   ·rename_i hc
    cases h;rw[fg X,fg W] at hc ⊢;exact Qw m n hc.1 hc.2 mem
   ·cases h
  ·cases h
 ·split at h
  ·rename_i V
   cases h;exact Hv _ V mem
  ·cases h
 ·have:=yd.fn _ _ mem ⟨v,none,[]⟩ (by unfold af;simp only;rw[h])
  simpa [aeQ.mem] using this
noncomputable def aX(f:FuncId)(args:List AV):Option AV:=
 match f,args with
 |115,[.str s]=>match dC s with
  |some q=>if s.length≤1000000000 then some (if (aR q.num.natAbs).length≤9∧(q.den=1∨(aR q.den).length≤9) then .tuple [.int .i64 q.num,.int .i64 q.den,.bool true] else .tuple [.int .i64 0,.int .i64 0,.bool false]) else none
  |none=>none
 |116,[.int .i64 n,.int .i64 d]=>if d.toNat≠0∧n.natAbs≤4611686018427387904∧0≤d∧d.toNat≤4611686018427387904 then some (.str (ak (mkRat n d.toNat))) else none
 |117,[.str s]=>match dC s with
  |some q=>if s.length≤1000000000 then some (.tuple [.str (cC q.num),.str (aR q.den)]) else none
  |none=>none
 |172,[.str s,.str t]=>match pD s,An t with
  |some n,some d=>if s.length≤1000000000∧t.length≤1000000000 then some (.str (if d=1 then cC n else cC n++47::aR d)) else none
  |_,_=>none
 |137,[.str s]=>match dC s with
  |some q=>if s.length≤1000000000 then some (.str (ak (-q))) else none
  |none=>none
 |89,[.str s]=>match dC s with
  |some q=>some (.int .i64 (jV q))
  |none=>none
 |f,args=>dx f args
theorem mB:HS prog (af aX):=bH fun f X v h mem=>by
 unfold aX at h;split at h
 ·split at h
  ·rename_i q hq
   split at h
   ·rename_i Z
    cases h;rw[aw hq] at Z ⊢;exact Ig q Z mem
   ·cases h
  ·cases h
 ·split at h
  ·rename_i hc
   obtain⟨W,V,S,O⟩:=hc;cases h;have:=Ik _ _ V W O mem;rw[Int.toNat_of_nonneg S] at this;rw[Rat.mkRat_def,dif_neg W];exact this
  ·cases h
 ·split at h
  ·rename_i q hq
   split at h
   ·rename_i Z
    cases h;rw[aw hq] at Z ⊢;exact Nl q Z mem
   ·cases h
  ·cases h
 ·split at h
  ·rename_i m n M K
   split at h
   ·rename_i hc
    cases h;rw[fg M,jN K] at hc ⊢;exact QA m n hc.1 hc.2 mem
   ·cases h
  ·cases h
 ·split at h
  ·rename_i q hq
   split at h
   ·rename_i Z
    cases h;rw[aw hq] at Z ⊢;exact QF q Z mem
   ·cases h
  ·cases h
 ·split at h
  ·rename_i q hq
   cases h;rw[aw hq];exact AW q mem
  ·cases h
 ·have:=Ko.fn _ _ mem ⟨v,none,[]⟩ (by unfold af;simp only;rw[h])
  simpa [aeQ.mem] using this
theorem iM(u:Nat):pD (aR u)=some (u:Int):=cY (u:Int)
def aeZ(q:Rat):Prop:=(aR q.num.natAbs).length≤9∧(aR q.den).length≤9
variable{q:Rat}
theorem jA(h:aeZ q):(ak q).length≤1000000000:=by
 have:=fH q.num;have Z:=h.1;have X:=h.2;unfold ak;split
 ·omega
 ·simp only[List.length_append,List.length_cons];omega
theorem xK(n:Int){d:Nat}(A:d≠0):ak (mkRat n d)=if d / n.natAbs.gcd d=1 then cC (n / (n.natAbs.gcd d:Nat)) else cC (n / (n.natAbs.gcd d:Nat))++47::aR (d / n.natAbs.gcd d):=by unfold ak;rw[Rat.num_mkRat,Rat.den_mkRat,if_neg A,if_neg A,Nat.gcd_comm d]
theorem rq(n:Nat):(aR n==[49])=decide (n=1):=by
 rw[Bool.eq_iff_iff,beq_iff_eq,decide_eq_true_eq];constructor
 ·intro e;exact PT (e.trans (show [49]=aR 1 from rfl))
 ·rintro rfl;rfl
noncomputable def bB(f:FuncId)(args:List AV):Option AV:=aX f args
theorem mD:HS prog (af bB):=mB
def jQ(a b:Rat):Int:=Lz (a.num*b.den) (b.num*a.den)
theorem BQ{a b:Rat}:jQ a b<0↔a<b:=by
 rw[Rat.lt_iff];unfold jQ Lz;split
 ·simp[*]
 ·split<;>simp[*]
theorem oI{a b:Rat}:jQ a b≤0↔a≤b:=by
 rw[Rat.le_iff];unfold jQ Lz;split
 ·constructor<;>intro h<;>omega
 ·split<;>constructor<;>intro h<;>omega
theorem G9(a b:Rat):(ak a==ak b)=decide (a=b):=by rw[Bool.eq_iff_iff,beq_iff_eq,decide_eq_true_eq];exact⟨eO,fun h=>by rw[h]⟩
def qk(q:Rat):Prop:=(aR q.num.natAbs).length≤9∧(q.den=1∨(aR q.den).length≤9)
theorem R6(h:qk q):q.num.natAbs<10 ^ 9∧q.den<10 ^ 9:=by
 have Z:=fh q.num.natAbs;have X:=fh q.den;have h3:10 ^ (aR q.num.natAbs).length≤10 ^ 9:=Nat.pow_le_pow_right (by omega) h.1;refine⟨by omega,?_⟩;rcases h.2 with h4 | h4
 ·omega
 ·have W:10 ^ (aR q.den).length≤10 ^ 9:=Nat.pow_le_pow_right (by omega) h4
  omega
theorem R7(h:aeZ q):qk q:=⟨h.1,.inr h.2⟩
theorem fI{α:Type}(h:qk q)(x y:α):(if (aR q.num.natAbs).length≤9∧(q.den=1∨(aR q.den).length≤9) then x else y)=x:=if_pos h
theorem sQ(a b:Rat)(A:aeZ a)(G:aeZ b)(mem:Mem):
  kO prog 85 [.str (ak a),.str (ak b)] mem (.int .i64 (jQ a b)) mem:=by
 have O:aK prog 85=some f85:=by kernel_rfl
 refine aA mD ?_ mem;have J:=jA A;have F:=jA G;by_cases V:a=b
 ·subst V
  have:jQ a a=0:=by unfold jQ Lz;simp
  simp[aa,O,f85,this]
 ·have Z:=G9 a b
  rw[decide_eq_false V] at Z;obtain⟨X,D⟩:=xE (a.num*(b.den:Int));obtain⟨Y,C⟩:=xE (b.num*(a.den:Int));have hc:jQ a b=Lz X Y:=by unfold jQ;rw[←D,←C]
  have M:=R7 A;have K:=R7 G
  ·skip
   obtain⟨B,z⟩:=R6 M;obtain⟨u,m⟩:=R6 K;have j:X.natAbs<10 ^ 9*10 ^ 9:=by rw[D];exact fC B (by simpa using m)
   have R:Y.natAbs<10 ^ 9*10 ^ 9:=by rw[C];exact fC u (by simpa using z)
   have w1:IntKind.i64.wrap (a.num*(b.den:Int))=X:=by rw[←D];exact aq
   have w2:IntKind.i64.wrap (b.num*(a.den:Int))=Y:=by rw[←C];exact aq
   rw[hc];unfold Lz;by_cases W:X<Y
   ·simp[aa,O,f85,Z,af,bB,aX,ao,J,F,fI M,fI K,w1,w2,W]
   ·by_cases S:Y<X
    ·simp[aa,O,f85,Z,af,bB,aX,ao,J,F,fI M,fI K,w1,w2,W,S]
    ·simp[aa,O,f85,Z,af,bB,aX,ao,J,F,fI M,fI K,w1,w2,W,S]
theorem yL(q:Rat):(ak q==[49])=decide (q=1):=by
 have:=G9 q 1
 rwa [show ak 1=[49] from rfl] at this
theorem Qk(a b:Rat)(A:aeZ a)(G:aeZ b)(mem:Mem):
  kO prog 111 [.str (ak a),.str (ak b)] mem (.str (ak (a+b))) mem:=by
 have O:aK prog 111=some f111:=by kernel_rfl
 refine aA mD ?_ mem;have u:=jA A;have m:=jA G;by_cases Z:a=0
 ·subst Z
  have:ak 0=[48]:=rfl;simp[aa,O,f111,this,Rat.zero_add]
 by_cases J:b=0
 ·subst J
  have:ak 0=[48]:=rfl;simp[aa,O,f111,this,cg,Z,Rat.add_zero]
 have pa:=a.den_pos;have pb:=b.den_pos;have W:a.den*b.den≠0:=Nat.mul_ne_zero a.den_nz b.den_nz;have V:=Rat.add_def' a b;obtain⟨X,M⟩:=xE (a.num*(b.den:Int));obtain⟨Y,K⟩:=xE (b.num*(a.den:Int));obtain⟨D,S⟩:=xE (a.den*b.den);rw[←M,←K,←S] at V;rw[←S] at W;rw[V];have F:=R7 A;have C:=R7 G
 ·skip
  obtain⟨j,B⟩:=R6 F;obtain⟨R,z⟩:=R6 C;have x1:X.natAbs<10 ^ 9*10 ^ 9:=by rw[M];exact fC j (by simpa using z)
  have y1:Y.natAbs<10 ^ 9*10 ^ 9:=by rw[K];exact fC R (by simpa using B)
  have d1:D<10 ^ 9*10 ^ 9:=by rw[S];exact Nat.mul_lt_mul'' B z
  have w1:IntKind.i64.wrap (a.num*(b.den:Int))=X:=by rw[←M];exact aq
  have w2:IntKind.i64.wrap (b.num*(a.den:Int))=Y:=by rw[←K];exact aq
  have w3:IntKind.i64.wrap (X+Y)=X+Y:=aq;have w4:IntKind.i64.wrap ((a.den:Int)*(b.den:Int))=(D:Int):=by rw[←Int.natCast_mul,←S];exact aq
  have I:(X+Y).natAbs≤4611686018427387904:=by omega
  have H:D≤4611686018427387904:=by omega
  simp[aa,O,f111,cg,Z,J,af,bB,aX,ao,u,m,fI F,fI C,w1,w2,w3,w4,W,I,H]
theorem QE(a b:Rat)(A:aeZ a)(G:aeZ b)(mem:Mem):
  kO prog 74 [.str (ak a),.str (ak b)] mem (.str (ak (a*b))) mem:=by
 have V:aK prog 74=some f74:=by kernel_rfl
 refine aA mD ?_ mem;have m:=jA A;have j:=jA G;have C:ak 0=[48]:=rfl;have B:ak 1=[49]:=rfl;by_cases Z:a=0
 ·subst Z
  simp[aa,V,f74,C,Rat.zero_mul]
 by_cases J:b=0
 ·subst J
  simp[aa,V,f74,C,cg,Z,Rat.mul_zero]
 by_cases W:a=1
 ·subst W
  simp[aa,V,f74,B,cg,J,Rat.one_mul]
 by_cases S:b=1
 ·subst S
  simp[aa,V,f74,B,cg,yL,Z,W,Rat.mul_one]
 have pa:=a.den_pos;have pb:=b.den_pos;have O:a.den*b.den≠0:=Nat.mul_ne_zero a.den_nz b.den_nz;have M:=Rat.mul_def' a b;obtain⟨X,F⟩:=xE (a.num*b.num);obtain⟨D,K⟩:=xE (a.den*b.den);rw[←F,←K] at M;rw[←K] at O;rw[M];have z:=R7 A;have u:=R7 G
 ·skip
  obtain⟨Y,R⟩:=R6 z;obtain⟨I,H⟩:=R6 u;have x1:X.natAbs<10 ^ 9*10 ^ 9:=by rw[F];exact fC Y I
  have d1:D<10 ^ 9*10 ^ 9:=by rw[K];exact Nat.mul_lt_mul'' R H
  have w1:IntKind.i64.wrap (a.num*b.num)=X:=by rw[←F];exact aq
  have w4:IntKind.i64.wrap ((a.den:Int)*(b.den:Int))=(D:Int):=by rw[←Int.natCast_mul,←K];exact aq
  have c1:X.natAbs≤4611686018427387904:=by omega
  have c2:D≤4611686018427387904:=by omega
  simp[aa,V,f74,cg,yL,Z,J,W,S,af,bB,aX,ao,m,j,fI z,fI u,w1,w4,O,c1,c2]
end Go.Proofs
