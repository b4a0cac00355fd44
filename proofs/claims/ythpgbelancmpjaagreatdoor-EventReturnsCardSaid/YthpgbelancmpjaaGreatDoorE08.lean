/- See E54. -/
import Derived.Test.YthpgbelancmpjaaGreatDoorE07
import Derived.Lib.ItoaLen
set_option linter.all false
namespace Go.Proofs
open Go.Eng
open Tryz
theorem OY(n:Int)(mem:Mem):kO prog 207 [.str (bL n)] mem (.int .i64 (k9 n)) mem:=by
 have Z:aT prog 207=some f207:=by kernel_rfl
 refine ak cW ?_ mem;by_cases X:n=0
 ·simp[aa,Z,f207,j8,k9,X]
 ·by_cases V:n<0
  ·simp[aa,Z,f207,ag,an,j8,ju,V,X,k9]
  ·simp[aa,Z,f207,ag,an,j8,ju,V,X,k9]
theorem Tl(n:Int)(H:dG n=true)(mem:Mem):kO prog 143 [.int .i64 n] mem (.str (bL n)) mem:=by
 have Z:aT prog 143=some f143:=by kernel_rfl
 refine ak cW ?_ mem;simp[aa,Z,f143,ag,an,H]
theorem QH(n:Int)(mem:Mem):kO prog 199 [.str (bL n)] mem (.str (au n.natAbs)) mem:=by
 have Z:aT prog 199=some f199:=by kernel_rfl
 refine ak cW ?_ mem;simp[aa,Z,f199,ag,an,gy]
theorem Fj(r c:Bool):Vy (aV prog) 272 r c .nilIface .nilIface=if r||c then some true else none:=PD (by kernel_rfl) r c
theorem LC(n:Int)(m:Int)(H:m≤18)(I:(bL n).length≤1000000000)(mem:Mem):kO prog 209 [.str (bL n),.int .i64 m] mem (if (bL n).length≤m then .tuple [.int .i64 n,.bool true] else .tuple [.int .i64 0,.bool false]) mem:=by
 have X:aT prog 209=some f209:=by kernel_rfl
 refine cE cW (lv:=fun _=>[]) (K:=1) rfl (by split<;>rfl) ?_ mem;by_cases h:((bL n).length:Int)≤m
 ·have Z:¬m<((bL n).length:Int):=by omega
  have h3:(bL n).length≤18:=by omega
  simp[aa,X,f209,ag,an,h,Z,h3,gk,Fj]
 ·have Z:m<((bL n).length:Int):=by omega
  simp[aa,X,f209,h,Z]
noncomputable def aP(f:FuncId)(args:List AV):Option AV:=
 match f,args with
 |207,[.str s]=>match lh s with
  |some n=>some (.int .i64 (k9 n))
  |none=>none
 |_,_=>an f args
theorem qL:qS prog (ag aP):=by
 have X:=cW;refine bM fun f Z v h mem=>?_
 unfold aP at h;split at h
 ·split at h
  next n V=>cases h;rw[cL V];exact OY n mem
  ·cases h
 ·have:=X.fn f Z mem ⟨v,none,[]⟩ (by unfold ag;simp only;rw[h])
  simpa [aee.mem] using this
theorem QJ(n:Int)(H:(bL n).length≤1000000000)(mem:Mem):kO prog 205 [.str (bL n)] mem (.str (bL (-n))) mem:=by
 have Z:aT prog 205=some f205:=by kernel_rfl
 refine ak qL ?_ mem;by_cases V:n=0
 ·subst V
  simp[aa,Z,f205,ag,aP,aU,k9]
 ·by_cases X:n<0
  ·have R:1≤(bL n).length:=re n
   have h3:((1:Int)≤(bL n).length):=by omega
   have U:List.take ((bL n).length-1) (List.drop 1 (bL n))=bL (-n):=by rw[List.take_of_length_le (by simp),FU X]
   simp[aa,Z,f205,ag,aP,aU,k9,X,h3];rw[←List.drop_one];exact U
  ·have S:1+(bL n).length≤9223372036854775807:=by omega
   simp[aa,Z,f205,ag,aP,aU,k9,V,X,S,gb,lQ (show 0<n by omega)]
theorem Cv(a b:Int)(mem:Mem):kO prog 139 [.str (bL a),.str (bL b)] mem (.int .i64 (JZ a b)) mem:=by
 have X:aT prog 139=some f139:=by kernel_rfl
 refine ak qL ?_ mem;rw[VF];have R:∀n,-1≤k9 n∧k9 n≤1:=by intro n;unfold k9;repeat' split<;>omega
 by_cases V:k9 a=k9 b
 ·by_cases U:(au a.natAbs).length=(au b.natAbs).length
  ·have O:IntKind.i64.wrap (k9 b*jG a.natAbs b.natAbs)=k9 b*jG a.natAbs b.natAbs:=by
    have U:=R b;have Z: -1≤jG a.natAbs b.natAbs∧jG a.natAbs b.natAbs≤1:=by unfold jG;repeat' split<;>omega
    have h3: -1≤k9 b*jG a.natAbs b.natAbs∧k9 b*jG a.natAbs b.natAbs≤1:=by
     generalize k9 b=x at*;generalize jG a.natAbs b.natAbs=y at*;have N:x= -1∨x=0∨x=1:=by omega
     rcases N with rfl | rfl | rfl<;>omega
    exact af
   simp[aa,X,f139,ag,aP,an,aU,gy,V,U,xu U,O]
  ·have M:IntKind.i64.wrap (- k9 b)= - k9 b:=by have:=R b;exact af
   have S:¬((au a.natAbs).length:Int)=(au b.natAbs).length:=by omega
   by_cases Z:(au a.natAbs).length<(au b.natAbs).length
   ·simp[aa,X,f139,ag,aP,an,aU,gy,V,U,S,Z,M]
   ·simp[aa,X,f139,ag,aP,an,aU,gy,V,U,S,Z]
 ·by_cases Z:k9 a<k9 b
  ·simp[aa,X,f139,ag,aP,aU,V,Z]
  ·simp[aa,X,f139,ag,aP,aU,V,Z]
variable{K:Nat}{O:y9}{b:Code}{lv:Code→List Nat}
section
variable (s:List UInt8)(hs:s.length≤1000000000)
include s hs
theorem Ax(I:Env)(d:Bool)(h3:ad I 3=.str s)(H:ad I 32=.int .i64 s.length)(J:ah f138=[b]):
  ∀(k i:Nat),i≤s.length→s.length≤i+k→∃Z,fy [33] (ae b) I 0 (aS (aV prog) lv O K 47 0 true b) (k+1) ⟨aw [33] (ae b) I ((33,.int .i64 i)::I),[],d⟩=
   some (if (s.drop i).all isD then .exit 0 else .ret,⟨Z,[],d⟩)∧((s.drop i).all isD=false→ad Z 2=.int .i64 2):=by
 simp[ah,aG,f138] at J;have S:∀k,∃Z,fy [33] (ae b) I 0 (aS (aV prog) lv O K 47 0 true b) (k+1) ⟨aw [33] (ae b) I ((33,.int .i64 s.length)::I),[],d⟩=
   some (if (s.drop s.length).all isD then .exit 0 else .ret,⟨Z,[],d⟩)∧((s.drop s.length).all isD=false→ad Z 2=.int .i64 2):=by
  intro k;subst J;simp[fy,H]
 intro k;induction k with
 |zero=>
  intro i L G;have X :i=s.length:=by omega
  subst X;exact S 0
 |succ k ih=>
  intro i L G;by_cases X :i=s.length
  ·subst X;exact S (k+1)
  have F:i<s.length:=by omega
  have D :(i:Int)<s.length:=by omega
  obtain⟨c,R⟩:∃c,s[i]? =some c:=⟨s[i],by simp[F]⟩
  have N:s.drop i=c::s.drop (i+1):=by rw[List.drop_eq_getElem_cons F];congr 1;have:=List.getElem?_eq_getElem F;rw[R] at this;exact(Option.some.inj this).symm
  have B:IntKind.i64.wrap ((i:Int)+1)=((i+1:Nat):Int):=by rw[af];omega
  obtain⟨Z,C,A⟩:=ih (i+1) (by omega) (by omega);subst J;unfold fy;by_cases u:c.toNat<48
  ·have U:isD c=false:=by unfold isD;simp;omega
   have M :((c.toNat:Int)<48):=by omega
   simp[h3,H,D,R,M,N,U]
  ·have M :¬((c.toNat:Int)<48):=by omega
   by_cases o:57<c.toNat
   ·have U:isD c=false:=by unfold isD;simp;omega
    have V :(57<(c.toNat:Int)):=by omega
    simp[h3,H,D,R,M,V,N,U]
   ·have U:isD c=true:=by unfold isD;simp;omega
    have V :¬(57<(c.toNat:Int)):=by omega
    refine⟨Z,?_,?_⟩
    ·simp[h3,H,D,R,M,V,N,U,B]
     simp at C;exact C
    ·rw[N];simpa [U] using A
theorem zf(J:s.length<K)(H:ah f138=[b])(I:lv b=[33]):
  ∃F:Env→Bool→Env,∀Z d,(ad Z 3=.str s∧ad Z 32=.int .i64 s.length∧ad Z 33=.int .i64 0)→
   aS (aV prog) lv O K 47 0 true (.loop b) ⟨Z,[],d⟩=some (if s.all isD then .exit 0 else .ret,⟨F Z d,[],d⟩)∧(s.all isD=false→ad (F Z d) 2=.int .i64 2):=by
 refine rO (p:=fun Z _=>ad Z 3=.str s∧ad Z 32=.int .i64 s.length∧ad Z 33=.int .i64 0) (q:=fun Z d X =>aS (aV prog) lv O K 47 0 true (.loop b) ⟨Z,[],d⟩=some (if s.all isD then .exit 0 else .ret,⟨X,[],d⟩)∧(s.all isD=false→ad X 2=.int .i64 2)) ?_;rintro Z d ⟨h3,h32,h33⟩;obtain⟨U,V,S⟩:=Ax (O:=O) (K:=K) (lv:=lv) s hs Z d h3 h32 H (K-1) 0 (by omega) (by omega);refine⟨U,?_,by simpa using S⟩;rw[bh,I];have R:aw [33] (ae b) Z ((33,.int .i64 (0:Nat))::Z)=aw [33] (ae b) Z Z:=by simp[aw,h33]
 rw[R,show K-1+1=K by omega] at V;simpa using V
end
def okT(mn:Bool)(t:List UInt8):Bool:=match t with
 | []=>false
 |c::r=>decide (r.length<200)&& !(c==48&&(decide (0<r.length)||mn))&&(c::r).all isD
theorem Xq{c:UInt8}:((c.toNat:Int)=48)↔c=48:=by
 constructor
 ·intro e
  apply UInt8.toNat_inj.1;have:c.toNat=48:=by omega
  rw[this];rfl
 ·rintro rfl;rfl
theorem Gv(s:List UInt8)(H:s.length≤1000000000)(mem:Mem):kO prog 138 [.str s] mem (.int .i64 (if okT (Lib.hasPrefix s [45]) (Lib.trimPrefix s [45]) then 0 else 2)) mem:=by
 have Z:aT prog 138=some f138:=by kernel_rfl
 refine cE cW (lv:=fun _=>[33]) (K:=s.length+1) rfl rfl ?_ mem;have L:(Lib.trimPrefix s [45]).length≤s.length:=by unfold Lib.trimPrefix;split<;>simp
 cases htp:Lib.trimPrefix s [45] with
 |nil=>simp[aa,Z,f138,ag,an,htp,okT]
 |cons c r=>
  rw[htp] at L;simp only[List.length_cons] at L;obtain⟨b,N⟩:∃b,ah f138=[b]:=⟨_,rfl⟩
  obtain⟨F,S⟩:=zf (O:=ag an) (K:=s.length+1) (lv:=fun _=>[33]) (c::r) (by simp;omega) (by simp;omega) N rfl;simp[ah,aG,f138] at N;subst N;simp only[List.length_cons] at S;by_cases R:r.length<200
  ·have X :¬(200<(r.length:Int)+1):=by omega
   by_cases M:c=48
   ·subst M
    by_cases h3:0<r.length
    ·have V :1<(r.length:Int)+1:=by omega
     simp[aa,Z,f138,ag,an,htp,okT,R,X,h3,V]
    ·have V :¬1<(r.length:Int)+1:=by omega
     have G:r=[]:=List.eq_nil_of_length_eq_zero (by omega);subst G;cases hmn:Lib.hasPrefix s [45] with
     |true=>simp[aa,Z,f138,ag,an,htp,okT,hmn]
     |false=>
      have D:isD 48=true:=by decide
      simp[aa,Z,f138,ag,an,htp,okT,hmn,S,D]
   ·have U :¬((c.toNat:Int)=48):=fun e=>M (Xq.1 e)
    cases P':(c::r).all isD with
    |true=>simp[aa,Z,f138,ag,an,htp,okT,R,X,M,U,S,P']
    |false=>simp[aa,Z,f138,ag,an,htp,okT,R,X,U,S,P']
  ·have X :(200<(r.length:Int)+1):=by omega
   simp[aa,Z,f138,ag,an,htp,okT,R,X]
theorem OR(q:Rat)(H:(aj q).length≤1000000000)(mem:Mem):kO prog 81 [.str (aj q)] mem (.str (aj (-q))) mem:=by
 have X:aT prog 81=some f81:=by kernel_rfl
 refine ak (az _) ?_ mem;by_cases Z:q=0
 ·subst Z
  simp[aa,X,f81,bq]
 ·have M:¬q.num=0:=fun e=>Z (sD.1 e)
  by_cases S:q.num<0
  ·have e:=kU S
   have V:(45::aj (-q)==[48])=false:=by rw[←e,bq];simpa using Z
   rw[e];have h3:(1:Int)≤((aj (-q)).length:Int)+1:=by omega
   simp[aa,X,f81,V,h3]
  ·have e:=rH (q:=q) (by omega)
   obtain⟨c,r,U,R⟩:=nh (q:=q) (by omega);have V:(c::r==[48])=false:=by rw[←U,bq];simpa using Z
   have N:=eR R;rw[e,U];rw[U] at H;simp only[List.length_cons] at H;have h3:1+(r.length+1)≤9223372036854775807:=by omega
   simp[aa,X,f81,V,N,h3,gb]
theorem Av(q:Rat)(mem:Mem):kO prog 178 [.str (aj q)] mem (.int .i64 (ky q)) mem:=by
 have X:aT prog 178=some f178:=by kernel_rfl
 refine ak (az _) ?_ mem;by_cases Z:q=0
 ·subst Z
  have:ky 0=0:=rfl;simp[aa,X,f178,bq,this]
 ·have R:¬q.num=0:=fun e=>Z (sD.1 e)
  by_cases V:q.num<0
  ·have e:=kU V
   have U:(45::aj (-q)==[48])=false:=by rw[←e,bq];simpa using Z
   have h3:0<((aj (-q)).length:Int)+1:=by omega
   rw[e];simp[aa,X,f178,U,ky,k9,V,h3]
  ·obtain⟨c,r,S,N⟩:=nh (q:=q) (by omega)
   have U:(c::r==[48])=false:=by rw[←S,bq];simpa using Z
   have M:=eR N;have h3:0<(r.length:Int)+1:=by omega
   rw[S];simp[aa,X,f178,U,M,h3,ky,k9,V,R]
theorem OO(n:Int)(d:Nat)(H:(bL n).length≤1000000000)(hd:(au d).length≤1000000000)(mem:Mem):kO prog 206 [.str (bL n),.str (au d)] mem (.str (if d=1 then bL n else bL n++47::au d)) mem:=by
 have Z:aT prog 206=some f206:=by kernel_rfl
 refine ak (az _) ?_ mem;by_cases h:d=1
 ·subst h
  have:au 1=[49]:=rfl;simp[aa,Z,f206,this]
 ·have X:(au d==[49])=false:=by rw[beq_eq_false_iff_ne];intro e;exact h (F1 (e.trans (show [49]=au 1 from rfl)))
  have V:(bL n).length+1≤9223372036854775807:=by omega
  have U:(bL n).length+1+(au d).length≤9223372036854775807:=by omega
  simp[aa,Z,f206,X,h,V,U,gb]
theorem As(q:Rat)(H:(aj q).length≤1000000000)(mem:Mem):kO prog 131 [.str (aj q)] mem (.tuple [.str (bL q.num),.str (au q.den)]) mem:=by
 have V:aT prog 131=some f131:=by kernel_rfl
 refine ak cW ?_ mem;have Z:=Dh q;by_cases h:q.den=1
 ·have X:au 1=[49]:=rfl
  have e:aj q=bL q.num:=by unfold aj;rw[if_pos h]
  rw[if_pos h,e] at Z;rw[e] at H;rw[e];simp[aa,V,f131,ag,an,H,Z,h,X]
 ·have e:aj q=bL q.num++47::au q.den:=by unfold aj;rw[if_neg h]
  rw[if_neg h] at Z;have U:(0:Int)≤(bL q.num).length:=by omega
  have X:List.drop ((bL q.num).length+1) (bL q.num++47::au q.den)=au q.den:=by rw[List.drop_append];simp
  have S:List.take (bL q.num).length (bL q.num++47::au q.den)=bL q.num:=List.take_left' rfl;rw[e] at H Z;rw[e];simp only[List.length_append,List.length_cons] at H;simp[aa,V,f131,ag,an,H,Z,X]
variable{b2:Code}
theorem zk(s rest:List UInt8)(W:Nat)(hs:s.length≤1000000000)(XK:rest=[]∨∃r,rest=47::r)(I:Env)(d:Bool)(h0:ad I 0=.str s)(Y:ad I 7=.int .i64 W)(J:ah f129=[b,b2]):
  ∀(H:List UInt8) (i j acc k:Nat),s.drop i=H++rest→H.all isD=true→i=W+j→i≤s.length→acc<10 ^ j→j≤9→H.length≤k→
   ∃Z,(j+H.length≤9→fy [5,2,3] (ae b) I 0 (aS (aV prog) lv O K 73 0 true b) (k+1) ⟨aw [5,2,3] (ae b) I ((5,.int .i64 i)::(2,.int .i64 acc)::I),[],d⟩=some (.exit 0,⟨Z,[],d⟩)∧
     ad Z 5=.int .i64 ((i+H.length:Nat):Int)∧ad Z 2=.int .i64 (uL acc H)∧ad Z 0=.str s∧ad Z 6=ad I 6∧ad Z 3=ad I 3)∧
    (9<j+H.length→fy [5,2,3] (ae b) I 0 (aS (aV prog) lv O K 73 0 true b) (k+1) ⟨aw [5,2,3] (ae b) I ((5,.int .i64 i)::(2,.int .i64 acc)::I),[],d⟩=some (.ret,⟨Z,[],d⟩)∧
     ad Z 2=.int .i64 0∧ad Z 3=.int .i64 0∧ad Z 4=.bool false):=by
 simp[ah,aG,f129] at J;obtain⟨J,_⟩:=J;intro H;induction H with
 |nil=>
  intro i j acc k X _ ZN hi u o _;subst J;rcases XK with rfl | ⟨r,rfl⟩
  ·have H':i=s.length:=by have:=congrArg List.length X;simp at this;omega
   subst H';have S:¬(9<j):=by omega
   simp[fy,h0,S,o,dP]
  ·have FS:i<s.length:=by have:=congrArg List.length X;simp at this;omega
   have R :(i:Int)<s.length:=by omega
   have N:s[i]? =some 47:=by have:=congrArg List.head? X;rw[List.head?_drop] at this;simpa using this
   have S:¬(9<j):=by omega
   simp[fy,h0,R,N,S,o,dP]
 |cons c H ih=>
  intro i j acc k X A ZN hi u o hk;simp only[List.all_cons,Bool.and_eq_true] at A;have FS:i<s.length:=by have:=congrArg List.length X;simp at this;omega
  have R :(i:Int)<s.length:=by omega
  have N:s[i]? =some c:=by have:=congrArg List.head? X;rw[List.head?_drop] at this;simpa using this
  have hc1:=sZ A.1;have Z0:48≤c.toNat∧c.toNat≤57:=by have:=A.1;unfold isD at this;simpa using this
  have V:¬((c.toNat:Int)=47):=by omega
  have U:IntKind.i64.wrap ((i:Int)-W)=j:=by rw[af];omega
  obtain⟨k,rfl⟩:∃k',k=k' +1:=⟨k-1,by simp at hk;omega⟩
  by_cases m:j=9
  ·subst m
   subst J;have S:¬(9+(H.length+1)≤9):=by omega
   simp[fy,h0,Y,R,N,V,U,S]
  ·have M:¬((j:Int)=9):=by omega
   have hp:10 ^ j≤100000000:=Nat.le_trans (Nat.pow_le_pow_right (by omega) (show j≤8 by omega)) (by decide);obtain⟨v,hv⟩:=xE (α:=Nat) (c.toNat-48);obtain⟨a2,ZR⟩:=xE (α:=Nat) (10*acc+v);obtain⟨i2,L⟩:=xE (α:=Nat) (i+1);have G:IntKind.i64.wrap (10*(acc:Int))=10*(acc:Int):=af;have F:IntKind.u8.wrap ((c.toNat:Int)-48)=(v:Int):=by rw[xX (by omega) (by omega)];omega
   have D:IntKind.i64.wrap (v:Int)=(v:Int):=af;have C:IntKind.i64.wrap (10*(acc:Int)+(v:Int))=(a2:Int):=by rw[af];omega
   have B:IntKind.i64.wrap ((i:Int)+1)=(i2:Int):=by rw[af];omega
   have aae :a2<10 ^ (j+1):=by rw[Nat.pow_succ];omega
   have hd' :s.drop i2=H++rest:=by rw[L,←List.drop_drop,X];simp
   obtain⟨Z,e1,e2⟩:=ih i2 (j+1) a2 k hd' A.2 (by omega) (by omega) aae (by omega) (by simp at hk;omega);subst J;refine⟨Z,fun XY=>?_,fun hgt=>?_⟩
   ·obtain⟨f1,f2,f3,f4,f5⟩:=e1 (by simp at XY;omega)
    refine⟨?_,by rw[f2,L,List.length_cons,show i+1+H.length=i+(H.length+1) by omega],by rw[f3,ej,ZR,hv],f4,f5⟩;rw[fy];simp[h0,Y,R,N,V,U,M,G,F,D,C,B];simp at f1;exact f1
   ·obtain⟨f1,f2⟩:=e2 (by simp at hgt;omega)
    refine⟨?_,f2⟩;rw[fy];simp[h0,Y,R,N,V,U,M,G,F,D,C,B];simp at f1;exact f1
variable{b1:Code}
theorem zl(s:List UInt8)(W:Nat)(hs:s.length≤1000000000)(I:Env)(d:Bool)(h0:ad I 0=.str s)(Y:ad I 7=.int .i64 W)(J:ah f129=[b1,b]):
  ∀(H:List UInt8) (i j acc k:Nat),s.drop i=H→H.all isD=true→i=W+j→i≤s.length→acc<10 ^ j→j≤9→H.length≤k→
   ∃Z,(j+H.length≤9→fy [5,3,2] (ae b) I 0 (aS (aV prog) lv O K 73 0 true b) (k+1) ⟨aw [5,3,2] (ae b) I ((5,.int .i64 i)::(3,.int .i64 acc)::I),[],d⟩=some (.exit 2,⟨Z,[],d⟩)∧
     ad Z 5=.int .i64 ((i+H.length:Nat):Int)∧ad Z 3=.int .i64 (uL acc H)∧ad Z 0=.str s∧ad Z 2=ad I 2)∧
    (9<j+H.length→fy [5,3,2] (ae b) I 0 (aS (aV prog) lv O K 73 0 true b) (k+1) ⟨aw [5,3,2] (ae b) I ((5,.int .i64 i)::(3,.int .i64 acc)::I),[],d⟩=some (.ret,⟨Z,[],d⟩)∧
     ad Z 2=.int .i64 0∧ad Z 3=.int .i64 0∧ad Z 4=.bool false):=by
 simp[ah,aG,f129] at J;obtain⟨_,J⟩:=J;intro H;induction H with
 |nil=>
  intro i j acc k V _ ZN hi D hj _;subst J;have H':i=s.length:=by have:=congrArg List.length V;simp at this;omega
  subst H';have C:¬(9<j):=by omega
  simp[fy,h0,C,hj,dP]
 |cons c H ih=>
  intro i j acc k V F ZN hi D hj hk;simp only[List.all_cons,Bool.and_eq_true] at F;have FS:i<s.length:=by have:=congrArg List.length V;simp at this;omega
  have B :(i:Int)<s.length:=by omega
  have hc:s[i]? =some c:=by have:=congrArg List.head? V;rw[List.head?_drop] at this;simpa using this
  have hc1:=sZ F.1;have Z0:48≤c.toNat∧c.toNat≤57:=by have:=F.1;unfold isD at this;simpa using this
  have X:IntKind.i64.wrap ((i:Int)-W)=j:=by rw[af];omega
  obtain⟨k,rfl⟩:∃k',k=k' +1:=⟨k-1,by simp at hk;omega⟩
  by_cases A:j=9
  ·subst A
   subst J;have C:¬(9+(H.length+1)≤9):=by omega
   simp[fy,h0,Y,B,X,C]
  ·have U:¬((j:Int)=9):=by omega
   have hp:10 ^ j≤100000000:=Nat.le_trans (Nat.pow_le_pow_right (by omega) (show j≤8 by omega)) (by decide);obtain⟨v,hv⟩:=xE (α:=Nat) (c.toNat-48);obtain⟨u,ZR⟩:=xE (α:=Nat) (10*acc+v);obtain⟨o,S⟩:=xE (α:=Nat) (i+1);have R:IntKind.i64.wrap (10*(acc:Int))=10*(acc:Int):=af;have N:IntKind.u8.wrap ((c.toNat:Int)-48)=(v:Int):=by rw[xX (by omega) (by omega)];omega
   have M:IntKind.i64.wrap (v:Int)=(v:Int):=af;have L:IntKind.i64.wrap (10*(acc:Int)+(v:Int))=(u:Int):=by rw[af];omega
   have G:IntKind.i64.wrap ((i:Int)+1)=(o:Int):=by rw[af];omega
   have m :u<10 ^ (j+1):=by rw[Nat.pow_succ];omega
   have hd' :s.drop o=H:=by rw[S,←List.drop_drop,V];simp
   obtain⟨Z,e1,e2⟩:=ih o (j+1) u k hd' F.2 (by omega) (by omega) m (by omega) (by simp at hk;omega);subst J;refine⟨Z,fun XY=>?_,fun hgt=>?_⟩
   ·obtain⟨f1,f2,f3,f4,f5⟩:=e1 (by simp at XY;omega)
    refine⟨?_,by rw[f2,S,List.length_cons,show i+1+H.length=i+(H.length+1) by omega],by rw[f3,ej,ZR,hv],f4,f5⟩;rw[fy];simp[h0,Y,B,hc,X,U,R,N,M,L,G];simp at f1;exact f1
   ·obtain⟨f1,f2⟩:=e2 (by simp at hgt;omega)
    refine⟨?_,f2⟩;rw[fy];simp[h0,Y,B,hc,X,U,R,N,M,L,G];simp at f1;exact f1
theorem sT(s rest H:List UInt8)(I:Nat)(Y:s.length≤1000000000)(XK:rest=[]∨∃r,rest=47::r)(hd:s.drop I=H++rest)(J:I≤s.length)(P':H.all isD=true)(hK:s.length<K)(hb:ah f129=[b,b2])(W:lv b=[5,2,3]):
  ∃F:Env→Bool→Env,∀Z d,(ad Z 0=.str s∧ad Z 7=.int .i64 I∧ad Z 5=.int .i64 I∧ad Z 2=.int .i64 0)→
   (H.length≤9→aS (aV prog) lv O K 73 0 true (.loop b) ⟨Z,[],d⟩=some (.exit 0,⟨F Z d,[],d⟩)∧
     ad (F Z d) 5=.int .i64 ((I+H.length:Nat):Int)∧ad (F Z d) 2=.int .i64 (uL 0 H)∧ad (F Z d) 0=.str s∧ad (F Z d) 6=ad Z 6∧ad (F Z d) 3=ad Z 3)∧
    (9<H.length→aS (aV prog) lv O K 73 0 true (.loop b) ⟨Z,[],d⟩=some (.ret,⟨F Z d,[],d⟩)∧
     ad (F Z d) 2=.int .i64 0∧ad (F Z d) 3=.int .i64 0∧ad (F Z d) 4=.bool false):=by
 refine rO (p:=fun Z _=>ad Z 0=.str s∧ad Z 7=.int .i64 I∧ad Z 5=.int .i64 I∧ad Z 2=.int .i64 0)
  (q:=fun Z d X =>(H.length≤9→aS (aV prog) lv O K 73 0 true (.loop b) ⟨Z,[],d⟩=some (.exit 0,⟨X,[],d⟩)∧
     ad X 5=.int .i64 ((I+H.length:Nat):Int)∧ad X 2=.int .i64 (uL 0 H)∧ad X 0=.str s∧ad X 6=ad Z 6∧ad X 3=ad Z 3)∧
    (9<H.length→aS (aV prog) lv O K 73 0 true (.loop b) ⟨Z,[],d⟩=some (.ret,⟨X,[],d⟩)∧
     ad X 2=.int .i64 0∧ad X 3=.int .i64 0∧ad X 4=.bool false)) ?_
 rintro Z d ⟨h0,h7,h5,h2⟩;have V:H.length≤K-1:=by have:=congrArg List.length hd;simp at this;omega
 obtain⟨R,U,S⟩:=zk (O:=O) (K:=K) (lv:=lv) s rest I Y XK Z d h0 h7 hb H I 0 0 (K-1) hd P' (by omega) J (by simp) (by omega) V;have N:aw [5,2,3] (ae b) Z ((5,.int .i64 (I:Int))::(2,.int .i64 ((0:Nat):Int))::Z)=aw [5,2,3] (ae b) Z Z:=by simp[aw,h5,h2]
 rw[N,show K-1+1=K by omega] at U S;rw[Nat.zero_add] at U S;refine⟨R,?_,?_⟩
 ·rw[bh,W];exact U
 ·rw[bh,W];exact S
theorem sU(s H:List UInt8)(I:Nat)(Y:s.length≤1000000000)(hd:s.drop I=H)(J:I≤s.length)(P':H.all isD=true)(hK:s.length<K)(hb:ah f129=[b1,b])(W:lv b=[5,3,2]):
  ∃F:Env→Bool→Env,∀Z d,(ad Z 0=.str s∧ad Z 7=.int .i64 I∧ad Z 5=.int .i64 I∧ad Z 3=.int .i64 0)→
   (H.length≤9→aS (aV prog) lv O K 73 0 true (.loop b) ⟨Z,[],d⟩=some (.exit 2,⟨F Z d,[],d⟩)∧
     ad (F Z d) 3=.int .i64 (uL 0 H)∧ad (F Z d) 2=ad Z 2)∧
    (9<H.length→aS (aV prog) lv O K 73 0 true (.loop b) ⟨Z,[],d⟩=some (.ret,⟨F Z d,[],d⟩)∧
     ad (F Z d) 2=.int .i64 0∧ad (F Z d) 3=.int .i64 0∧ad (F Z d) 4=.bool false):=by
 refine rO (p:=fun Z _=>ad Z 0=.str s∧ad Z 7=.int .i64 I∧ad Z 5=.int .i64 I∧ad Z 3=.int .i64 0)
  (q:=fun Z d X =>(H.length≤9→aS (aV prog) lv O K 73 0 true (.loop b) ⟨Z,[],d⟩=some (.exit 2,⟨X,[],d⟩)∧
     ad X 3=.int .i64 (uL 0 H)∧ad X 2=ad Z 2)∧
    (9<H.length→aS (aV prog) lv O K 73 0 true (.loop b) ⟨Z,[],d⟩=some (.ret,⟨X,[],d⟩)∧
     ad X 2=.int .i64 0∧ad X 3=.int .i64 0∧ad X 4=.bool false)) ?_
 rintro Z d ⟨h0,h7,h5,h3⟩;have V:H.length≤K-1:=by have:=congrArg List.length hd;simp at this;omega
 obtain⟨R,U,S⟩:=zl (O:=O) (K:=K) (lv:=lv) s I Y Z d h0 h7 hb H I 0 0 (K-1) hd P' (by omega) J (by simp) (by omega) V;have N:aw [5,3,2] (ae b) Z ((5,.int .i64 (I:Int))::(3,.int .i64 ((0:Nat):Int))::Z)=aw [5,3,2] (ae b) Z Z:=by simp[aw,h5,h3]
 rw[N,show K-1+1=K by omega] at U S;rw[Nat.zero_add] at U S;refine⟨R,fun h=>?_,?_⟩
 ·obtain⟨f1,_,f3,_,f5⟩:=U h
  rw[bh,W];exact⟨f1,f3,f5⟩
 ·rw[bh,W];exact S
def eK(c:Code):List Nat:=if (ae c).contains 17 then [5,2,3] else [5,3,2]
theorem sG(q:Rat):∃Z,aj q=(if q.num<0 then [45] else [])++(au q.num.natAbs++Z)∧(Z=if q.den=1 then [] else 47::au q.den):=by
 refine⟨if q.den=1 then [] else 47::au q.den,?_,rfl⟩;have h:bL q.num=(if q.num<0 then [45] else [])++au q.num.natAbs:=by
  cases hn:q.num with
  |ofNat u=>rw[if_neg (by simp)];rfl
  |negSucc u=>rw[if_pos (Int.negSucc_lt_zero u)];rfl
 unfold aj;rw[h];split<;>simp
section
variable (q:Rat)(hl:(aj q).length≤1000000000)
include q hl
theorem zc(hq:0≤q.num)(mem:Mem):kO prog 129 [.str (aj q)] mem
  (if (au q.num.natAbs).length≤9∧(q.den=1∨(au q.den).length≤9) then .tuple [.int .i64 q.num,.int .i64 q.den,.bool true] else .tuple [.int .i64 0,.int .i64 0,.bool false]) mem:=by
 have B:aT prog 129=some f129:=by kernel_rfl
 refine cE (az _) (lv:=eK) (K:=(aj q).length+1) rfl (by split<;>rfl) ?_ mem;obtain⟨V,A,R⟩:=sG q;rw[if_neg (by omega),List.nil_append] at A;obtain⟨b1,b2,N⟩:∃b1 b2,ah f129=[b1,b2]∧eK b1=[5,2,3]∧eK b2=[5,3,2]:=⟨_,_,rfl,by decide,by decide⟩
 obtain⟨F,I⟩:=sT (O:=cu) (K:=(aj q).length+1) (lv:=eK) (aj q) V (au q.num.natAbs) 0 hl
  (by rw[R];split;exact .inl rfl;exact .inr ⟨_,rfl⟩) (by rw[List.drop_zero];exact A) (by omega) (dC _) (by omega) N.1 N.2.1
 obtain⟨c,r,M,hc⟩:=nh hq;have j:(aj q)[0]? =some c:=by rw[M];rfl
 have u:=eR hc;have X:0<(aj q).length:=by rw[M];simp only[List.length_cons];omega
 have o:∀h:0<(aj q).length,(aj q)[0]'h=c:=fun h=>by have:=List.getElem?_eq_getElem h;rw[j] at this;exact(Option.some.inj this).symm
 have H:(aj q).length=(au q.num.natAbs).length+V.length:=by rw[A,List.length_append]
 have Yx:uL 0 (au q.num.natAbs)=q.num.natAbs:=dJ _;have L:((q.num.natAbs:Nat):Int)=q.num:=by omega
 have G:=N.1;simp[ah,aG,f129] at G;obtain⟨rfl,rfl⟩:=G;by_cases D:(au q.num.natAbs).length≤9
 ·have Z:=fun U d h=>(I U d h).1 D
  by_cases C:q.den=1
  ·rw[if_pos C] at R
   have m:((au q.num.natAbs).length:Int)=((aj q).length:Int):=by rw[H,R];simp
   rw[Nat.zero_add] at Z;simp[aa,B,f129,o,u,X,Z,Yx,L,m,C,D]
  ·rw[if_neg C] at R
   have ZS:(aj q).length=(au q.num.natAbs).length+((au q.den).length+1):=by rw[H,R,List.length_cons]
   have m:¬((au q.num.natAbs).length:Int)=((aj q).length:Int):=by omega
   obtain⟨bg,Y⟩:=xE (α:=Nat) ((au q.num.natAbs).length+1);have hw:IntKind.i64.wrap (((au q.num.natAbs).length:Int)+1)=(bg:Int):=by rw[af];omega
   obtain⟨F2,XZ⟩:=sU (O:=cu) (K:=(aj q).length+1) (lv:=eK) (aj q) (au q.den) bg hl
    (by rw[A,R,Y,List.drop_append];simp) (by omega) (dC _) (by omega) N.1 N.2.2
   have W:uL 0 (au q.den)=q.den:=dJ _;rw[Nat.zero_add] at Z;by_cases J:(au q.den).length≤9
   ·have S:=fun U d h=>(XZ U d h).1 J
    simp[aa,B,f129,o,u,X,Z,Yx,L,m,C,D,hw,S,W,J]
   ·have S:=fun U d h=>(XZ U d h).2 (by omega)
    simp[aa,B,f129,o,u,X,Z,m,C,D,hw,S,J]
 ·have Z:=fun U d h=>(I U d h).2 (by omega)
  simp[aa,B,f129,o,u,X,Z,D]
theorem zb(hq:q.num<0)(mem:Mem):kO prog 129 [.str (aj q)] mem
  (if (au q.num.natAbs).length≤9∧(q.den=1∨(au q.den).length≤9) then .tuple [.int .i64 q.num,.int .i64 q.den,.bool true] else .tuple [.int .i64 0,.int .i64 0,.bool false]) mem:=by
 have A:aT prog 129=some f129:=by kernel_rfl
 refine cE (az _) (lv:=eK) (K:=(aj q).length+1) rfl (by split<;>rfl) ?_ mem;obtain⟨U,S,M⟩:=sG q;rw[if_pos hq,List.singleton_append] at S;obtain⟨b1,b2,G⟩:∃b1 b2,ah f129=[b1,b2]∧eK b1=[5,2,3]∧eK b2=[5,3,2]:=⟨_,_,rfl,by decide,by decide⟩
 obtain⟨F,W⟩:=sT (O:=cu) (K:=(aj q).length+1) (lv:=eK) (aj q) U (au q.num.natAbs) 1 hl
  (by rw[M];split;exact .inl rfl;exact .inr ⟨_,rfl⟩) (by rw[S];rfl) (by rw[S];simp) (dC _) (by omega) G.1 G.2.1
 have Z:0<(aj q).length:=by rw[S];simp
 have u:∀h:0<(aj q).length,(aj q)[0]'h=45:=fun h=>by
  have J:=List.getElem?_eq_getElem h;have h2:(aj q)[0]? =some 45:=by rw[S];rfl
  rw[h2] at J;exact(Option.some.inj J).symm
 have I:(aj q).length=1+((au q.num.natAbs).length+U.length):=by rw[S,List.length_cons,List.length_append,Nat.add_comm]
 have H:uL 0 (au q.num.natAbs)=q.num.natAbs:=dJ _;have hub:q.num.natAbs<10 ^ (au q.num.natAbs).length:=cm _;have D:=G.1;simp[ah,aG,f129] at D;obtain⟨rfl,rfl⟩:=D;by_cases L:(au q.num.natAbs).length≤9
 ·have X:=fun R d h=>(W R d h).1 L
  obtain⟨C,V⟩:=xE (α:=Nat) (1+(au q.num.natAbs).length);rw[←V] at X;have ad8:10 ^ (au q.num.natAbs).length≤1000000000:=Nat.le_trans (Nat.pow_le_pow_right (by omega) L) (by decide);have ZE:IntKind.i64.wrap (-((q.num.natAbs:Nat):Int))=q.num:=by rw[af];omega
  by_cases B:q.den=1
  ·rw[if_pos B] at M
   have o:(C:Int)=((aj q).length:Int):=by rw[I,M,V];simp
   simp[aa,A,f129,u,Z,X,H,ZE,o,B,L]
  ·rw[if_neg B] at M
   have ZS:(aj q).length=C+((au q.den).length+1):=by rw[I,M,List.length_cons,V];omega
   have o:¬(C:Int)=((aj q).length:Int):=by omega
   obtain⟨bg,m⟩:=xE (α:=Nat) (C+1);have hw:IntKind.i64.wrap ((C:Int)+1)=(bg:Int):=by rw[af];omega
   obtain⟨F2,XZ⟩:=sU (O:=cu) (K:=(aj q).length+1) (lv:=eK) (aj q) (au q.den) bg hl
    (by rw[S,M,m,V,show 1+(au q.num.natAbs).length+1=((au q.num.natAbs).length+1)+1 by omega,List.drop_succ_cons,List.drop_append];simp) (by omega) (dC _) (by omega) G.1 G.2.2
   have j:uL 0 (au q.den)=q.den:=dJ _;by_cases Y:(au q.den).length≤9
   ·have N:=fun R d h=>(XZ R d h).1 Y
    simp[aa,A,f129,u,Z,X,H,ZE,o,B,L,hw,N,j,Y]
   ·have N:=fun R d h=>(XZ R d h).2 (by omega)
    simp[aa,A,f129,u,Z,X,o,B,L,hw,N,Y]
 ·have X:=fun R d h=>(W R d h).2 (by omega)
  simp[aa,A,f129,u,Z,X,L]
theorem GW(mem:Mem):kO prog 129 [.str (aj q)] mem
  (if (au q.num.natAbs).length≤9∧(q.den=1∨(au q.den).length≤9) then .tuple [.int .i64 q.num,.int .i64 q.den,.bool true] else .tuple [.int .i64 0,.int .i64 0,.bool false]) mem:=by
 by_cases Z:0≤q.num
 ·exact zc q hl Z mem
 ·exact zb q hl (by omega) mem
end
def euc:Nat→Int→Int→Int
 |0,x,_=>x
 |k+1,x,y=>if y=0 then x else euc k y (x.tmod y)
theorem km:∀(k:Nat) (x y:Int),y.natAbs<k→(euc k x y).natAbs=x.natAbs.gcd y.natAbs
 |0,_,_,h=>by omega
 |k+1,x,y,h=>by
  unfold euc;by_cases Z:y=0
  ·subst Z;rw[if_pos rfl];simp
  ·rw[if_neg Z]
   have X:(x.tmod y).natAbs<k:=by rw[Int.natAbs_tmod];have:=Nat.mod_lt x.natAbs (show 0<y.natAbs by omega);omega
   rw[km k y (x.tmod y) X,Int.natAbs_tmod,Nat.gcd_comm x.natAbs,Nat.gcd_rec y.natAbs x.natAbs,Nat.gcd_comm]
theorem AY(H:Env)(d:Bool)(I:ah f130=[b]):
  ∀(k:Nat) (x y:Int),y.natAbs<k→∃Z,fy [5,6] (ae b) H 0 (aS (aV prog) lv O K 35 0 true b) k ⟨aw [5,6] (ae b) H ((5,.int .i64 x)::(6,.int .i64 y)::H),[],d⟩=
   some (.exit 0,⟨Z,[],d⟩)∧ad Z 5=.int .i64 (euc k x y)∧ad Z 0=ad H 0∧ad Z 1=ad H 1∧ad Z 4=ad H 4:=by
 simp[ah,aG,f130] at I;intro k;induction k with
 |zero=>intro x y h;omega
 |succ k ih=>
  intro x y N;by_cases X:y=0
  ·subst I
   subst X;simp[fy,euc]
  ·have U:(x.tmod y).natAbs<k:=by rw[Int.natAbs_tmod];have:=Nat.mod_lt x.natAbs (show 0<y.natAbs by omega);omega
   obtain⟨Z,V,S,R⟩:=ih y (x.tmod y) U;subst I;refine⟨Z,?_,by rw[S,euc,if_neg X],R⟩;rw[fy];simp[X];simp at V;exact V
theorem zm(H:ah f130=[b])(I:lv b=[5,6])(n:Int)(m:Nat)(J:m<K):
  ∃F:Env→Bool→Env,∀Z d,(ad Z 5=.int .i64 n∧ad Z 6=.int .i64 m)→
   aS (aV prog) lv O K 35 0 true (.loop b) ⟨Z,[],d⟩=some (.exit 0,⟨F Z d,[],d⟩)∧ad (F Z d) 5=.int .i64 (euc K n m)∧
    ad (F Z d) 0=ad Z 0∧ad (F Z d) 1=ad Z 1∧ad (F Z d) 4=ad Z 4:=by
 refine rO (p:=fun Z _=>ad Z 5=.int .i64 n∧ad Z 6=.int .i64 m) (q:=fun Z d X =>aS (aV prog) lv O K 35 0 true (.loop b) ⟨Z,[],d⟩=some (.exit 0,⟨X,[],d⟩)∧ad X 5=.int .i64 (euc K n m)∧
    ad X 0=ad Z 0∧ad X 1=ad Z 1∧ad X 4=ad Z 4) ?_
 rintro Z d ⟨h5,h6⟩;obtain⟨U,V,S⟩:=AY (O:=O) (K:=K) (lv:=lv) Z d H K n m (by simpa using J);have R:aw [5,6] (ae b) Z ((5,.int .i64 n)::(6,.int .i64 (m:Int))::Z)=aw [5,6] (ae b) Z Z:=by simp[aw,h5,h6]
 rw[R] at V;exact⟨U,by rw[bh,I];exact V,S⟩
theorem G0(n:Int)(m:Nat)(hn:n.natAbs≤4611686018427387904)(Yh:m≠0)(hm:m≤4611686018427387904)(mem:Mem):kO prog 130 [.int .i64 n,.int .i64 m] mem (.str (aj (Rat.normalize n m Yh))) mem:=by
 have J:aT prog 130=some f130:=by kernel_rfl
 refine cE cW (lv:=fun _=>[5,6]) (K:=m+1) rfl rfl ?_ mem;obtain⟨b,hb⟩:∃b,ah f130=[b]:=⟨_,rfl⟩
 obtain⟨F,D⟩:=zm (O:=ag an) (K:=m+1) (lv:=fun _=>[5,6]) hb rfl n m (by omega);simp[ah,aG,f130] at hb;subst hb;have hg:=km (m+1) n m (by simp);generalize euc (m+1) n m=g at D hg;rw[Int.natAbs_natCast] at hg;have C:n.natAbs.gcd m∣m:=Nat.gcd_dvd_right _ _;have hgn:n.natAbs.gcd m∣n.natAbs:=Nat.gcd_dvd_left _ _;have hgp:0<n.natAbs.gcd m:=Nat.gcd_pos_of_pos_right _ (by omega);have hgm:n.natAbs.gcd m≤m:=Nat.le_of_dvd (by omega) C;obtain⟨N,adb,Z⟩:∃N,aj (Rat.normalize n m Yh)=N∧N=if m / n.natAbs.gcd m=1 then bL (n / (n.natAbs.gcd m:Nat)) else bL (n / (n.natAbs.gcd m:Nat))++47::au (m / n.natAbs.gcd m):=
  ⟨_,rfl,by rw[Rat.normalize_eq];rfl⟩
 rw[adb];generalize n.natAbs.gcd m=G at*;have M:(G:Int)∣n:=Int.ofNat_dvd_left.2 hgn;have hdm:(G:Int)∣(m:Int):=Int.ofNat_dvd.2 C;obtain⟨p,I⟩:=xE (α:=Int) (n / (G:Int));obtain⟨e,H⟩:=xE (α:=Nat) (m / G);rw[←I,←H] at Z;have V:IntKind.i64.wrap (n.tdiv (G:Int))=p:=by
  rw[Int.tdiv_eq_ediv_of_dvd M,←I];have:p.natAbs≤n.natAbs:=by rw[I,←Int.tdiv_eq_ediv_of_dvd M,Int.natAbs_tdiv];exact Nat.div_le_self _ _
  exact af
 have hq2:IntKind.i64.wrap ((m:Int).tdiv (G:Int))=(e:Int):=by
  have h1:(m:Int).tdiv (G:Int)=(e:Int):=by rw[H,←Int.ofNat_tdiv]
  have h2:e≤m:=by rw[H];exact Nat.div_le_self _ _
  rw[h1];exact af
 have U :IntKind.i64.wrap ((m:Int) / (G:Int))=(e:Int):=by rw[←Int.tdiv_eq_ediv_of_dvd hdm];exact hq2
 have S:¬G=0:=by omega
 have hpn: -4611686018427387904≤p∧p≤4611686018427387904:=by
  have:p.natAbs≤n.natAbs:=by rw[I,←Int.tdiv_eq_ediv_of_dvd M,Int.natAbs_tdiv];exact Nat.div_le_self _ _
  omega
 have hem:e≤4611686018427387904:=by
  have h2:e≤m:=by rw[H];exact Nat.div_le_self _ _
  omega
 have Yk:dG p=true:=by simp only[dG,Bool.and_eq_true,decide_eq_true_eq];omega
 have B:dG (e:Int)=true:=by simp only[dG,Bool.and_eq_true,decide_eq_true_eq];omega
 have A:bL (e:Int)=au e:=rfl;have u:(g<0→IntKind.i64.wrap (-g)=(G:Int))∧(¬g<0→g=(G:Int)):=⟨fun h=>by rw[af];omega,fun h=>by omega⟩;have hlp:(bL p).length≤21:=by rw[RW];exact Lib.itoa_length_le p (by omega) (by omega)
 have XY:(au e).length≤19:=aI (by omega) (Nat.lt_of_le_of_lt hem (by decide));have o:(bL p).length+1≤9223372036854775807:=by omega
 have j:(bL p).length+1+(au e).length≤9223372036854775807:=by omega
 by_cases R:g<0
 ·have Y:=u.1 R
  by_cases X:e=1
  ·simp[aa,J,f130,ag,an,D,R,Y,S,V,U,X,Yk,Z]
  ·have L :¬(e:Int)=1:=by omega
   simp[aa,J,f130,ag,an,D,R,Y,S,V,U,X,L,Yk,B,A,Z,o,j,gb]
 ·have Y:=u.2 R
  have W:¬(G:Int)<0:=by omega
  by_cases X:e=1
  ·simp[aa,J,f130,ag,an,D,W,Y,S,V,U,X,Yk,Z]
  ·have L :¬(e:Int)=1:=by omega
   simp[aa,J,f130,ag,an,D,W,Y,S,V,U,X,L,Yk,B,A,Z,o,j,gb]
end Go.Proofs
