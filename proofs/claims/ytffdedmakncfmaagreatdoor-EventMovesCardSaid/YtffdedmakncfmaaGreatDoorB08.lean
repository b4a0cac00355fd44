/- See B54. -/
import Derived.Test.YtffdedmakncfmaaGreatDoorB07
import Derived.Lib.ItoaLen
set_option linter.all false
namespace Go.Proofs
open Go.Eng
open Tryz
theorem PW(n:Int)(mem:Mem):kO prog 137 [.str (bB n)] mem (.int .i64 (kg n)) mem:=by
 have Z:aT prog 137=some f137:=by kernel_rfl
 refine ao dO ?_ mem;by_cases X:n=0
 ·simp[aa,Z,f137,fK,kg,X]
 ·by_cases V:n<0
  ·simp[aa,Z,f137,af,ak,fK,aL,V,X,kg]
  ·simp[aa,Z,f137,af,ak,fK,aL,V,X,kg]
theorem T0(n:Int)(y:dF n=true)(mem:Mem):kO prog 114 [.int .i64 n] mem (.str (bB n)) mem:=by
 have Z:aT prog 114=some f114:=by kernel_rfl
 refine ao dO ?_ mem;simp[aa,Z,f114,af,ak,y]
theorem F8(r c:Bool):V4 (ba prog) 229 r c .nilIface .nilIface=if r||c then some true else none:=QA (by kernel_rfl) r c
theorem Mz(n:Int)(m:Int)(y:m≤18)(H:(bB n).length≤1000000000)(mem:Mem):kO prog 139 [.str (bB n),.int .i64 m] mem (if (bB n).length≤m then .tuple [.int .i64 n,.bool true] else .tuple [.int .i64 0,.bool false]) mem:=by
 have X:aT prog 139=some f139:=by kernel_rfl
 refine cH dO (lv:=fun _=>[]) (K:=1) rfl (by split<;>rfl) ?_ mem;by_cases h:((bB n).length:Int)≤m
 ·have Z:¬m<((bB n).length:Int):=by omega
  have h3:(bB n).length≤18:=by omega
  simp[aa,X,f139,af,ak,h,Z,h3,mZ,F8]
 ·have Z:m<((bB n).length:Int):=by omega
  simp[aa,X,f139,h,Z]
noncomputable def aQ(f:FuncId)(args:List AV):Option AV:=
 match f,args with
 |137,[.str s]=>match jj s with
  |some n=>some (.int .i64 (kg n))
  |none=>none
 |_,_=>ak f args
theorem qQ:qS prog (af aQ):=by
 have X:=dO;refine bH fun f Z v h mem=>?_
 unfold aQ at h;split at h
 ·split at h
  next n V=>cases h;rw[bN V];exact PW n mem
  ·cases h
 ·have:=X.fn f Z mem ⟨v,none,[]⟩ (by unfold af;simp only;rw[h])
  simpa [y9.mem] using this
theorem RB(n:Int)(y:(bB n).length≤1000000000)(mem:Mem):kO prog 135 [.str (bB n)] mem (.str (bB (-n))) mem:=by
 have Z:aT prog 135=some f135:=by kernel_rfl
 refine ao qQ ?_ mem;by_cases V:n=0
 ·subst V
  simp[aa,Z,f135,af,aQ,aA,kg]
 ·by_cases X:n<0
  ·have R:1≤(bB n).length:=rC n
   have h3:((1:Int)≤(bB n).length):=by omega
   have U:List.take ((bB n).length-1) (List.drop 1 (bB n))=bB (-n):=by rw[List.take_of_length_le (by simp),GH X]
   simp[aa,Z,f135,af,aQ,aA,kg,X,h3];rw[←List.drop_one];exact U
  ·have S:1+(bB n).length≤9223372036854775807:=by omega
   simp[aa,Z,f135,af,aQ,aA,kg,V,X,S,eR,jY (show 0<n by omega)]
theorem Dk(a b:Int)(mem:Mem):kO prog 108 [.str (bB a),.str (bB b)] mem (.int .i64 (KK a b)) mem:=by
 have X:aT prog 108=some f108:=by kernel_rfl
 refine ao qQ ?_ mem;rw[Wa];have R:∀n,-1≤kg n∧kg n≤1:=by intro n;unfold kg;repeat' split<;>omega
 by_cases V:kg a=kg b
 ·by_cases U:(ai a.natAbs).length=(ai b.natAbs).length
  ·have Q:IntKind.i64.wrap (kg b*jH a.natAbs b.natAbs)=kg b*jH a.natAbs b.natAbs:=by
    have U:=R b;have Z: -1≤jH a.natAbs b.natAbs∧jH a.natAbs b.natAbs≤1:=by unfold jH;repeat' split<;>omega
    have h3: -1≤kg b*jH a.natAbs b.natAbs∧kg b*jH a.natAbs b.natAbs≤1:=by
     generalize kg b=x at*;generalize jH a.natAbs b.natAbs=y at*;have O:x= -1∨x=0∨x=1:=by omega
     rcases O with rfl | rfl | rfl<;>omega
    exact ae
   simp[aa,X,f108,af,aQ,ak,aA,aD,V,U,xR U,Q]
  ·have N:IntKind.i64.wrap (- kg b)= - kg b:=by have:=R b;exact ae
   have S:¬((ai a.natAbs).length:Int)=(ai b.natAbs).length:=by omega
   by_cases Z:(ai a.natAbs).length<(ai b.natAbs).length
   ·simp[aa,X,f108,af,aQ,ak,aA,aD,V,U,S,Z,N]
   ·simp[aa,X,f108,af,aQ,ak,aA,aD,V,U,S,Z]
 ·by_cases Z:kg a<kg b
  ·simp[aa,X,f108,af,aQ,aA,V,Z]
  ·simp[aa,X,f108,af,aQ,aA,V,Z]
variable{K:Nat}{O:ae3}{b:Code}{lv:Code→List Nat}
section
variable (s:List UInt8)(hs:s.length≤1000000000)
include s hs
theorem A9(H:Env)(d:Bool)(h3:ab H 3=.str s)(y:ab H 32=.int .i64 s.length)(I:ah f107=[b]):
  ∀(k i:Nat),i≤s.length→s.length≤i+k→∃Z,gi [33] (ad b) H 0 (bh (ba prog) lv O K 47 0 true b) (k+1) ⟨ay [33] (ad b) H ((33,.int .i64 i)::H),[],d⟩=
   some (if (s.drop i).all isD then .exit 0 else .ret,⟨Z,[],d⟩)∧((s.drop i).all isD=false→ab Z 2=.int .i64 2):=by
 simp[ah,aE,f107] at I;have S:∀k,∃Z,gi [33] (ad b) H 0 (bh (ba prog) lv O K 47 0 true b) (k+1) ⟨ay [33] (ad b) H ((33,.int .i64 s.length)::H),[],d⟩=
   some (if (s.drop s.length).all isD then .exit 0 else .ret,⟨Z,[],d⟩)∧((s.drop s.length).all isD=false→ab Z 2=.int .i64 2):=by
  intro k;subst I;simp[gi,y]
 intro k;induction k with
 |zero=>
  intro i M L;have X :i=s.length:=by omega
  subst X;exact S 0
 |succ k ih=>
  intro i M L;by_cases X :i=s.length
  ·subst X;exact S (k+1)
  have G:i<s.length:=by omega
  have F :(i:Int)<s.length:=by omega
  obtain⟨c,R⟩:∃c,s[i]? =some c:=⟨s[i],by simp[G]⟩
  have Q:s.drop i=c::s.drop (i+1):=by rw[List.drop_eq_getElem_cons G];congr 1;have:=List.getElem?_eq_getElem G;rw[R] at this;exact(Option.some.inj this).symm
  have C:IntKind.i64.wrap ((i:Int)+1)=((i+1:Nat):Int):=by rw[ae];omega
  obtain⟨Z,D,B⟩:=ih (i+1) (by omega) (by omega);subst I;unfold gi;by_cases u:c.toNat<48
  ·have U:isD c=false:=by unfold isD;simp;omega
   have N :((c.toNat:Int)<48):=by omega
   simp[h3,y,F,R,N,Q,U]
  ·have N :¬((c.toNat:Int)<48):=by omega
   by_cases o:57<c.toNat
   ·have U:isD c=false:=by unfold isD;simp;omega
    have V :(57<(c.toNat:Int)):=by omega
    simp[h3,y,F,R,N,V,Q,U]
   ·have U:isD c=true:=by unfold isD;simp;omega
    have V :¬(57<(c.toNat:Int)):=by omega
    refine⟨Z,?_,?_⟩
    ·simp[h3,y,F,R,N,V,Q,U,C]
     simp at D;exact D
    ·rw[Q];simpa [U] using B
theorem zD(I:s.length<K)(y:ah f107=[b])(H:lv b=[33]):
  ∃F:Env→Bool→Env,∀Z d,(ab Z 3=.str s∧ab Z 32=.int .i64 s.length∧ab Z 33=.int .i64 0)→
   bh (ba prog) lv O K 47 0 true (.loop b) ⟨Z,[],d⟩=some (if s.all isD then .exit 0 else .ret,⟨F Z d,[],d⟩)∧(s.all isD=false→ab (F Z d) 2=.int .i64 2):=by
 refine pN (p:=fun Z _=>ab Z 3=.str s∧ab Z 32=.int .i64 s.length∧ab Z 33=.int .i64 0) (q:=fun Z d X =>bh (ba prog) lv O K 47 0 true (.loop b) ⟨Z,[],d⟩=some (if s.all isD then .exit 0 else .ret,⟨X,[],d⟩)∧(s.all isD=false→ab X 2=.int .i64 2)) ?_;rintro Z d ⟨h3,h32,h33⟩;obtain⟨U,V,S⟩:=A9 (O:=O) (K:=K) (lv:=lv) s hs Z d h3 h32 y (K-1) 0 (by omega) (by omega);refine⟨U,?_,by simpa using S⟩;rw[bp,H];have R:ay [33] (ad b) Z ((33,.int .i64 (0:Nat))::Z)=ay [33] (ad b) Z Z:=by simp[ay,h33]
 rw[R,show K-1+1=K by omega] at V;simpa using V
end
def okT(mn:Bool)(t:List UInt8):Bool:=match t with
 | []=>false
 |c::r=>decide (r.length<200)&& !(c==48&&(decide (0<r.length)||mn))&&(c::r).all isD
theorem XL{c:UInt8}:((c.toNat:Int)=48)↔c=48:=by
 constructor
 ·intro e
  apply UInt8.toNat_inj.1;have:c.toNat=48:=by omega
  rw[this];rfl
 ·rintro rfl;rfl
theorem Hf(s:List UInt8)(hs:s.length≤1000000000)(mem:Mem):kO prog 107 [.str s] mem (.int .i64 (if okT (Lib.hasPrefix s [45]) (Lib.trimPrefix s [45]) then 0 else 2)) mem:=by
 have Z:aT prog 107=some f107:=by kernel_rfl
 refine cH dO (lv:=fun _=>[33]) (K:=s.length+1) rfl rfl ?_ mem;have M:(Lib.trimPrefix s [45]).length≤s.length:=by unfold Lib.trimPrefix;split<;>simp
 cases htp:Lib.trimPrefix s [45] with
 |nil=>simp[aa,Z,f107,af,ak,htp,okT]
 |cons c r=>
  rw[htp] at M;simp only[List.length_cons] at M;obtain⟨b,Q⟩:∃b,ah f107=[b]:=⟨_,rfl⟩
  obtain⟨F,S⟩:=zD (O:=af ak) (K:=s.length+1) (lv:=fun _=>[33]) (c::r) (by simp;omega) (by simp;omega) Q rfl;simp[ah,aE,f107] at Q;subst Q;simp only[List.length_cons] at S;by_cases R:r.length<200
  ·have X :¬(200<(r.length:Int)+1):=by omega
   by_cases N:c=48
   ·subst N
    by_cases h3:0<r.length
    ·have V :1<(r.length:Int)+1:=by omega
     simp[aa,Z,f107,af,ak,htp,okT,R,X,h3,V]
    ·have V :¬1<(r.length:Int)+1:=by omega
     have L:r=[]:=List.eq_nil_of_length_eq_zero (by omega);subst L;cases hmn:Lib.hasPrefix s [45] with
     |true=>simp[aa,Z,f107,af,ak,htp,okT,hmn]
     |false=>
      have G:isD 48=true:=by decide
      simp[aa,Z,f107,af,ak,htp,okT,hmn,S,G]
   ·have U :¬((c.toNat:Int)=48):=fun e=>N (XL.1 e)
    cases PP:(c::r).all isD with
    |true=>simp[aa,Z,f107,af,ak,htp,okT,R,X,N,U,S,PP]
    |false=>simp[aa,Z,f107,af,ak,htp,okT,R,X,U,S,PP]
  ·have X :(200<(r.length:Int)+1):=by omega
   simp[aa,Z,f107,af,ak,htp,okT,R,X]
theorem PG(q:Rat)(y:(aB q).length≤1000000000)(mem:Mem):kO prog 46 [.str (aB q)] mem (.str (aB (-q))) mem:=by
 have X:aT prog 46=some f46:=by kernel_rfl
 refine ao (ax _) ?_ mem;by_cases Z:q=0
 ·subst Z
  simp[aa,X,f46,aV]
 ·have N:¬q.num=0:=fun e=>Z (mu.1 e)
  by_cases S:q.num<0
  ·have e:=iz S
   have V:(45::aB (-q)==[48])=false:=by rw[←e,aV];simpa using Z
   rw[e];have h3:(1:Int)≤((aB (-q)).length:Int)+1:=by omega
   simp[aa,X,f46,V,h3]
  ·have e:=mz (q:=q) (by omega)
   obtain⟨c,r,U,R⟩:=kc (q:=q) (by omega);have V:(c::r==[48])=false:=by rw[←U,aV];simpa using Z
   have Q:=eG R;rw[e,U];rw[U] at y;simp only[List.length_cons] at y;have h3:1+(r.length+1)≤9223372036854775807:=by omega
   simp[aa,X,f46,V,Q,h3,eR]
theorem A5(q:Rat)(mem:Mem):kO prog 228 [.str (aB q)] mem (.int .i64 (nQ q)) mem:=by
 have X:aT prog 228=some f228:=by kernel_rfl
 refine ao (ax _) ?_ mem;by_cases Z:q=0
 ·subst Z
  have:nQ 0=0:=rfl;simp[aa,X,f228,aV,this]
 ·have R:¬q.num=0:=fun e=>Z (mu.1 e)
  by_cases V:q.num<0
  ·have e:=iz V
   have U:(45::aB (-q)==[48])=false:=by rw[←e,aV];simpa using Z
   have h3:0<((aB (-q)).length:Int)+1:=by omega
   rw[e];simp[aa,X,f228,U,nQ,kg,V,h3]
  ·obtain⟨c,r,S,Q⟩:=kc (q:=q) (by omega)
   have U:(c::r==[48])=false:=by rw[←S,aV];simpa using Z
   have N:=eG Q;have h3:0<(r.length:Int)+1:=by omega
   rw[S];simp[aa,X,f228,U,N,h3,nQ,kg,V,R]
theorem PD(n:Int)(d:Nat)(y:(bB n).length≤1000000000)(hd:(ai d).length≤1000000000)(mem:Mem):kO prog 136 [.str (bB n),.str (ai d)] mem (.str (if d=1 then bB n else bB n++47::ai d)) mem:=by
 have Z:aT prog 136=some f136:=by kernel_rfl
 refine ao (ax _) ?_ mem;by_cases h:d=1
 ·subst h
  have:ai 1=[49]:=rfl;simp[aa,Z,f136,this]
 ·have X:(ai d==[49])=false:=by rw[beq_eq_false_iff_ne];intro e;exact h (AI (e.trans (show [49]=ai 1 from rfl)))
  have V:(bB n).length+1≤9223372036854775807:=by omega
  have U:(bB n).length+1+(ai d).length≤9223372036854775807:=by omega
  simp[aa,Z,f136,X,h,V,U,eR]
theorem Mw(q:Rat)(y:(aB q).length≤1000000000)(mem:Mem):kO prog 91 [.str (aB q)] mem (.tuple [.str (bB q.num),.str (ai q.den)]) mem:=by
 have V:aT prog 91=some f91:=by kernel_rfl
 refine ao dO ?_ mem;have Z:=Ec q;by_cases h:q.den=1
 ·have X:ai 1=[49]:=rfl
  have e:aB q=bB q.num:=by unfold aB;rw[if_pos h]
  rw[if_pos h,e] at Z;rw[e] at y;rw[e];simp[aa,V,f91,af,ak,y,Z,h,X]
 ·have e:aB q=bB q.num++47::ai q.den:=by unfold aB;rw[if_neg h]
  rw[if_neg h] at Z;have U:(0:Int)≤(bB q.num).length:=by omega
  have X:List.drop ((bB q.num).length+1) (bB q.num++47::ai q.den)=ai q.den:=by rw[List.drop_append];simp
  have S:List.take (bB q.num).length (bB q.num++47::ai q.den)=bB q.num:=List.take_left' rfl;rw[e] at y Z;rw[e];simp only[List.length_append,List.length_cons] at y;simp[aa,V,f91,af,ak,y,Z,X]
variable{b2:Code}
theorem zK(s rest:List UInt8)(J:Nat)(hs:s.length≤1000000000)(Yc:rest=[]∨∃r,rest=47::r)(H:Env)(d:Bool)(h0:ab H 0=.str s)(W:ab H 7=.int .i64 J)(I:ah f89=[b,b2]):
  ∀(y:List UInt8) (i j acc k:Nat),s.drop i=y++rest→y.all isD=true→i=J+j→i≤s.length→acc<10 ^ j→j≤9→y.length≤k→
   ∃Z,(j+y.length≤9→gi [5,2,3] (ad b) H 0 (bh (ba prog) lv O K 73 0 true b) (k+1) ⟨ay [5,2,3] (ad b) H ((5,.int .i64 i)::(2,.int .i64 acc)::H),[],d⟩=some (.exit 0,⟨Z,[],d⟩)∧
     ab Z 5=.int .i64 ((i+y.length:Nat):Int)∧ab Z 2=.int .i64 (uZ acc y)∧ab Z 0=.str s∧ab Z 6=ab H 6∧ab Z 3=ab H 3)∧
    (9<j+y.length→gi [5,2,3] (ad b) H 0 (bh (ba prog) lv O K 73 0 true b) (k+1) ⟨ay [5,2,3] (ad b) H ((5,.int .i64 i)::(2,.int .i64 acc)::H),[],d⟩=some (.ret,⟨Z,[],d⟩)∧
     ab Z 2=.int .i64 0∧ab Z 3=.int .i64 0∧ab Z 4=.bool false):=by
 simp[ah,aE,f89] at I;obtain⟨I,_⟩:=I;intro y;induction y with
 |nil=>
  intro i j acc k X _ Z8 hi u o _;subst I;rcases Yc with rfl | ⟨r,rfl⟩
  ·have D':i=s.length:=by have:=congrArg List.length X;simp at this;omega
   subst D';have S:¬(9<j):=by omega
   simp[gi,h0,S,o,dw]
  ·have B':i<s.length:=by have:=congrArg List.length X;simp at this;omega
   have R :(i:Int)<s.length:=by omega
   have Q:s[i]? =some 47:=by have:=congrArg List.head? X;rw[List.head?_drop] at this;simpa using this
   have S:¬(9<j):=by omega
   simp[gi,h0,R,Q,S,o,dw]
 |cons c y ih=>
  intro i j acc k X B Z8 hi u o hk;simp only[List.all_cons,Bool.and_eq_true] at B;have B':i<s.length:=by have:=congrArg List.length X;simp at this;omega
  have R :(i:Int)<s.length:=by omega
  have Q:s[i]? =some c:=by have:=congrArg List.head? X;rw[List.head?_drop] at this;simpa using this
  have hc1:=tw B.1;have Z9:48≤c.toNat∧c.toNat≤57:=by have:=B.1;unfold isD at this;simpa using this
  have V:¬((c.toNat:Int)=47):=by omega
  have U:IntKind.i64.wrap ((i:Int)-J)=j:=by rw[ae];omega
  obtain⟨k,rfl⟩:∃k',k=k' +1:=⟨k-1,by simp at hk;omega⟩
  by_cases m:j=9
  ·subst m
   subst I;have S:¬(9+(y.length+1)≤9):=by omega
   simp[gi,h0,W,R,Q,V,U,S]
  ·have N:¬((j:Int)=9):=by omega
   have hp:10 ^ j≤100000000:=Nat.le_trans (Nat.pow_le_pow_right (by omega) (show j≤8 by omega)) (by decide);obtain⟨v,hv⟩:=xE (α:=Nat) (c.toNat-48);obtain⟨Y,ha2⟩:=xE (α:=Nat) (10*acc+v);obtain⟨i2,M⟩:=xE (α:=Nat) (i+1);have L:IntKind.i64.wrap (10*(acc:Int))=10*(acc:Int):=ae;have G:IntKind.u8.wrap ((c.toNat:Int)-48)=(v:Int):=by rw[G9 (by omega) (by omega)];omega
   have F:IntKind.i64.wrap (v:Int)=(v:Int):=ae;have D:IntKind.i64.wrap (10*(acc:Int)+(v:Int))=(Y:Int):=by rw[ae];omega
   have C:IntKind.i64.wrap ((i:Int)+1)=(i2:Int):=by rw[ae];omega
   have aak :Y<10 ^ (j+1):=by rw[Nat.pow_succ];omega
   have hd' :s.drop i2=y++rest:=by rw[M,←List.drop_drop,X];simp
   obtain⟨Z,e1,e2⟩:=ih i2 (j+1) Y k hd' B.2 (by omega) (by omega) aak (by omega) (by simp at hk;omega);subst I;refine⟨Z,fun Ya=>?_,fun hgt=>?_⟩
   ·obtain⟨f1,f2,f3,f4,f5⟩:=e1 (by simp at Ya;omega)
    refine⟨?_,by rw[f2,M,List.length_cons,show i+1+y.length=i+(y.length+1) by omega],by rw[f3,ei,ha2,hv],f4,f5⟩;rw[gi];simp[h0,W,R,Q,V,U,N,L,G,F,D,C];simp at f1;exact f1
   ·obtain⟨f1,f2⟩:=e2 (by simp at hgt;omega)
    refine⟨?_,f2⟩;rw[gi];simp[h0,W,R,Q,V,U,N,L,G,F,D,C];simp at f1;exact f1
variable{b1:Code}
theorem zL(s:List UInt8)(J:Nat)(hs:s.length≤1000000000)(H:Env)(d:Bool)(h0:ab H 0=.str s)(W:ab H 7=.int .i64 J)(I:ah f89=[b1,b]):
  ∀(y:List UInt8) (i j acc k:Nat),s.drop i=y→y.all isD=true→i=J+j→i≤s.length→acc<10 ^ j→j≤9→y.length≤k→
   ∃Z,(j+y.length≤9→gi [5,3,2] (ad b) H 0 (bh (ba prog) lv O K 73 0 true b) (k+1) ⟨ay [5,3,2] (ad b) H ((5,.int .i64 i)::(3,.int .i64 acc)::H),[],d⟩=some (.exit 2,⟨Z,[],d⟩)∧
     ab Z 5=.int .i64 ((i+y.length:Nat):Int)∧ab Z 3=.int .i64 (uZ acc y)∧ab Z 0=.str s∧ab Z 2=ab H 2)∧
    (9<j+y.length→gi [5,3,2] (ad b) H 0 (bh (ba prog) lv O K 73 0 true b) (k+1) ⟨ay [5,3,2] (ad b) H ((5,.int .i64 i)::(3,.int .i64 acc)::H),[],d⟩=some (.ret,⟨Z,[],d⟩)∧
     ab Z 2=.int .i64 0∧ab Z 3=.int .i64 0∧ab Z 4=.bool false):=by
 simp[ah,aE,f89] at I;obtain⟨_,I⟩:=I;intro y;induction y with
 |nil=>
  intro i j acc k V _ Z8 hi F hj _;subst I;have D':i=s.length:=by have:=congrArg List.length V;simp at this;omega
  subst D';have D:¬(9<j):=by omega
  simp[gi,h0,D,hj,dw]
 |cons c y ih=>
  intro i j acc k V G Z8 hi F hj hk;simp only[List.all_cons,Bool.and_eq_true] at G;have B':i<s.length:=by have:=congrArg List.length V;simp at this;omega
  have C :(i:Int)<s.length:=by omega
  have hc:s[i]? =some c:=by have:=congrArg List.head? V;rw[List.head?_drop] at this;simpa using this
  have hc1:=tw G.1;have Z9:48≤c.toNat∧c.toNat≤57:=by have:=G.1;unfold isD at this;simpa using this
  have X:IntKind.i64.wrap ((i:Int)-J)=j:=by rw[ae];omega
  obtain⟨k,rfl⟩:∃k',k=k' +1:=⟨k-1,by simp at hk;omega⟩
  by_cases B:j=9
  ·subst B
   subst I;have D:¬(9+(y.length+1)≤9):=by omega
   simp[gi,h0,W,C,X,D]
  ·have U:¬((j:Int)=9):=by omega
   have hp:10 ^ j≤100000000:=Nat.le_trans (Nat.pow_le_pow_right (by omega) (show j≤8 by omega)) (by decide);obtain⟨v,hv⟩:=xE (α:=Nat) (c.toNat-48);obtain⟨u,o⟩:=xE (α:=Nat) (10*acc+v);obtain⟨m,S⟩:=xE (α:=Nat) (i+1);have R:IntKind.i64.wrap (10*(acc:Int))=10*(acc:Int):=ae;have Q:IntKind.u8.wrap ((c.toNat:Int)-48)=(v:Int):=by rw[G9 (by omega) (by omega)];omega
   have N:IntKind.i64.wrap (v:Int)=(v:Int):=ae;have M:IntKind.i64.wrap (10*(acc:Int)+(v:Int))=(u:Int):=by rw[ae];omega
   have L:IntKind.i64.wrap ((i:Int)+1)=(m:Int):=by rw[ae];omega
   have Y :u<10 ^ (j+1):=by rw[Nat.pow_succ];omega
   have hd' :s.drop m=y:=by rw[S,←List.drop_drop,V];simp
   obtain⟨Z,e1,e2⟩:=ih m (j+1) u k hd' G.2 (by omega) (by omega) Y (by omega) (by simp at hk;omega);subst I;refine⟨Z,fun Ya=>?_,fun hgt=>?_⟩
   ·obtain⟨f1,f2,f3,f4,f5⟩:=e1 (by simp at Ya;omega)
    refine⟨?_,by rw[f2,S,List.length_cons,show i+1+y.length=i+(y.length+1) by omega],by rw[f3,ei,o,hv],f4,f5⟩;rw[gi];simp[h0,W,C,hc,X,U,R,Q,N,M,L];simp at f1;exact f1
   ·obtain⟨f1,f2⟩:=e2 (by simp at hgt;omega)
    refine⟨?_,f2⟩;rw[gi];simp[h0,W,C,hc,X,U,R,Q,N,M,L];simp at f1;exact f1
theorem td(s rest y:List UInt8)(H:Nat)(hs:s.length≤1000000000)(W:rest=[]∨∃r,rest=47::r)(hd:s.drop H=y++rest)(I:H≤s.length)(Y:y.all isD=true)(hK:s.length<K)(hb:ah f89=[b,b2])(J:lv b=[5,2,3]):
  ∃F:Env→Bool→Env,∀Z d,(ab Z 0=.str s∧ab Z 7=.int .i64 H∧ab Z 5=.int .i64 H∧ab Z 2=.int .i64 0)→
   (y.length≤9→bh (ba prog) lv O K 73 0 true (.loop b) ⟨Z,[],d⟩=some (.exit 0,⟨F Z d,[],d⟩)∧
     ab (F Z d) 5=.int .i64 ((H+y.length:Nat):Int)∧ab (F Z d) 2=.int .i64 (uZ 0 y)∧ab (F Z d) 0=.str s∧ab (F Z d) 6=ab Z 6∧ab (F Z d) 3=ab Z 3)∧
    (9<y.length→bh (ba prog) lv O K 73 0 true (.loop b) ⟨Z,[],d⟩=some (.ret,⟨F Z d,[],d⟩)∧
     ab (F Z d) 2=.int .i64 0∧ab (F Z d) 3=.int .i64 0∧ab (F Z d) 4=.bool false):=by
 refine pN (p:=fun Z _=>ab Z 0=.str s∧ab Z 7=.int .i64 H∧ab Z 5=.int .i64 H∧ab Z 2=.int .i64 0)
  (q:=fun Z d X =>(y.length≤9→bh (ba prog) lv O K 73 0 true (.loop b) ⟨Z,[],d⟩=some (.exit 0,⟨X,[],d⟩)∧
     ab X 5=.int .i64 ((H+y.length:Nat):Int)∧ab X 2=.int .i64 (uZ 0 y)∧ab X 0=.str s∧ab X 6=ab Z 6∧ab X 3=ab Z 3)∧
    (9<y.length→bh (ba prog) lv O K 73 0 true (.loop b) ⟨Z,[],d⟩=some (.ret,⟨X,[],d⟩)∧
     ab X 2=.int .i64 0∧ab X 3=.int .i64 0∧ab X 4=.bool false)) ?_
 rintro Z d ⟨h0,h7,h5,h2⟩;have S:y.length≤K-1:=by have:=congrArg List.length hd;simp at this;omega
 obtain⟨R,V,U⟩:=zK (O:=O) (K:=K) (lv:=lv) s rest H hs W Z d h0 h7 hb y H 0 0 (K-1) hd Y (by omega) I (by simp) (by omega) S;have Q:ay [5,2,3] (ad b) Z ((5,.int .i64 (H:Int))::(2,.int .i64 ((0:Nat):Int))::Z)=ay [5,2,3] (ad b) Z Z:=by simp[ay,h5,h2]
 rw[Q,show K-1+1=K by omega] at V U;rw[Nat.zero_add] at V U;refine⟨R,?_,?_⟩
 ·rw[bp,J];exact V
 ·rw[bp,J];exact U
theorem tf(s y:List UInt8)(H:Nat)(hs:s.length≤1000000000)(hd:s.drop H=y)(I:H≤s.length)(W:y.all isD=true)(hK:s.length<K)(Y:ah f89=[b1,b])(J:lv b=[5,3,2]):
  ∃F:Env→Bool→Env,∀Z d,(ab Z 0=.str s∧ab Z 7=.int .i64 H∧ab Z 5=.int .i64 H∧ab Z 3=.int .i64 0)→
   (y.length≤9→bh (ba prog) lv O K 73 0 true (.loop b) ⟨Z,[],d⟩=some (.exit 2,⟨F Z d,[],d⟩)∧
     ab (F Z d) 3=.int .i64 (uZ 0 y)∧ab (F Z d) 2=ab Z 2)∧
    (9<y.length→bh (ba prog) lv O K 73 0 true (.loop b) ⟨Z,[],d⟩=some (.ret,⟨F Z d,[],d⟩)∧
     ab (F Z d) 2=.int .i64 0∧ab (F Z d) 3=.int .i64 0∧ab (F Z d) 4=.bool false):=by
 refine pN (p:=fun Z _=>ab Z 0=.str s∧ab Z 7=.int .i64 H∧ab Z 5=.int .i64 H∧ab Z 3=.int .i64 0)
  (q:=fun Z d X =>(y.length≤9→bh (ba prog) lv O K 73 0 true (.loop b) ⟨Z,[],d⟩=some (.exit 2,⟨X,[],d⟩)∧
     ab X 3=.int .i64 (uZ 0 y)∧ab X 2=ab Z 2)∧
    (9<y.length→bh (ba prog) lv O K 73 0 true (.loop b) ⟨Z,[],d⟩=some (.ret,⟨X,[],d⟩)∧
     ab X 2=.int .i64 0∧ab X 3=.int .i64 0∧ab X 4=.bool false)) ?_
 rintro Z d ⟨h0,h7,h5,h3⟩;have S:y.length≤K-1:=by have:=congrArg List.length hd;simp at this;omega
 obtain⟨R,V,U⟩:=zL (O:=O) (K:=K) (lv:=lv) s H hs Z d h0 h7 Y y H 0 0 (K-1) hd W (by omega) I (by simp) (by omega) S;have Q:ay [5,3,2] (ad b) Z ((5,.int .i64 (H:Int))::(3,.int .i64 ((0:Nat):Int))::Z)=ay [5,3,2] (ad b) Z Z:=by simp[ay,h5,h3]
 rw[Q,show K-1+1=K by omega] at V U;rw[Nat.zero_add] at V U;refine⟨R,fun h=>?_,?_⟩
 ·obtain⟨f1,_,f3,_,f5⟩:=V h
  rw[bp,J];exact⟨f1,f3,f5⟩
 ·rw[bp,J];exact U
def eD(c:Code):List Nat:=if (ad c).contains 17 then [5,2,3] else [5,3,2]
theorem yg(q:Rat):∃Z,aB q=(if q.num<0 then [45] else [])++(ai q.num.natAbs++Z)∧(Z=if q.den=1 then [] else 47::ai q.den):=by
 refine⟨if q.den=1 then [] else 47::ai q.den,?_,rfl⟩;have h:bB q.num=(if q.num<0 then [45] else [])++ai q.num.natAbs:=by
  cases hn:q.num with
  |ofNat u=>rw[if_neg (by simp)];rfl
  |negSucc u=>rw[if_pos (Int.negSucc_lt_zero u)];rfl
 unfold aB;rw[h];split<;>simp
section
variable (q:Rat)(hl:(aB q).length≤1000000000)
include q hl
theorem zx(hq:0≤q.num)(mem:Mem):kO prog 89 [.str (aB q)] mem
  (if (ai q.num.natAbs).length≤9∧(q.den=1∨(ai q.den).length≤9) then .tuple [.int .i64 q.num,.int .i64 q.den,.bool true] else .tuple [.int .i64 0,.int .i64 0,.bool false]) mem:=by
 have C:aT prog 89=some f89:=by kernel_rfl
 refine cH (ax _) (lv:=eD) (K:=(aB q).length+1) rfl (by split<;>rfl) ?_ mem;obtain⟨V,B,R⟩:=yg q;rw[if_neg (by omega),List.nil_append] at B;obtain⟨b1,b2,Q⟩:∃b1 b2,ah f89=[b1,b2]∧eD b1=[5,2,3]∧eD b2=[5,3,2]:=⟨_,_,rfl,by decide,by decide⟩
 obtain⟨F,I⟩:=td (O:=cN) (K:=(aB q).length+1) (lv:=eD) (aB q) V (ai q.num.natAbs) 0 hl
  (by rw[R];split;exact .inl rfl;exact .inr ⟨_,rfl⟩) (by rw[List.drop_zero];exact B) (by omega) (dn _) (by omega) Q.1 Q.2.1
 obtain⟨c,r,N,hc⟩:=kc hq;have j:(aB q)[0]? =some c:=by rw[N];rfl
 have u:=eG hc;have X:0<(aB q).length:=by rw[N];simp only[List.length_cons];omega
 have o:∀h:0<(aB q).length,(aB q)[0]'h=c:=fun h=>by have:=List.getElem?_eq_getElem h;rw[j] at this;exact(Option.some.inj this).symm
 have H:(aB q).length=(ai q.num.natAbs).length+V.length:=by rw[B,List.length_append]
 have y:uZ 0 (ai q.num.natAbs)=q.num.natAbs:=du _;have M:((q.num.natAbs:Nat):Int)=q.num:=by omega
 have L:=Q.1;simp[ah,aE,f89] at L;obtain⟨rfl,rfl⟩:=L;by_cases G:(ai q.num.natAbs).length≤9
 ·have Z:=fun U d h=>(I U d h).1 G
  by_cases D:q.den=1
  ·rw[if_pos D] at R
   have m:((ai q.num.natAbs).length:Int)=((aB q).length:Int):=by rw[H,R];simp
   rw[Nat.zero_add] at Z;simp[aa,C,f89,o,u,X,Z,y,M,m,D,G]
  ·rw[if_neg D] at R
   have aaf:(aB q).length=(ai q.num.natAbs).length+((ai q.den).length+1):=by rw[H,R,List.length_cons]
   have m:¬((ai q.num.natAbs).length:Int)=((aB q).length:Int):=by omega
   obtain⟨bg,Y⟩:=xE (α:=Nat) ((ai q.num.natAbs).length+1);have hw:IntKind.i64.wrap (((ai q.num.natAbs).length:Int)+1)=(bg:Int):=by rw[ae];omega
   obtain⟨F2,Yp⟩:=tf (O:=cN) (K:=(aB q).length+1) (lv:=eD) (aB q) (ai q.den) bg hl
    (by rw[B,R,Y,List.drop_append];simp) (by omega) (dn _) (by omega) Q.1 Q.2.2
   have W:uZ 0 (ai q.den)=q.den:=du _;rw[Nat.zero_add] at Z;by_cases J:(ai q.den).length≤9
   ·have S:=fun U d h=>(Yp U d h).1 J
    simp[aa,C,f89,o,u,X,Z,y,M,m,D,G,hw,S,W,J]
   ·have S:=fun U d h=>(Yp U d h).2 (by omega)
    simp[aa,C,f89,o,u,X,Z,m,D,G,hw,S,J]
 ·have Z:=fun U d h=>(I U d h).2 (by omega)
  simp[aa,C,f89,o,u,X,Z,G]
theorem zw(hq:q.num<0)(mem:Mem):kO prog 89 [.str (aB q)] mem
  (if (ai q.num.natAbs).length≤9∧(q.den=1∨(ai q.den).length≤9) then .tuple [.int .i64 q.num,.int .i64 q.den,.bool true] else .tuple [.int .i64 0,.int .i64 0,.bool false]) mem:=by
 have B:aT prog 89=some f89:=by kernel_rfl
 refine cH (ax _) (lv:=eD) (K:=(aB q).length+1) rfl (by split<;>rfl) ?_ mem;obtain⟨U,S,N⟩:=yg q;rw[if_pos hq,List.singleton_append] at S;obtain⟨b1,b2,L⟩:∃b1 b2,ah f89=[b1,b2]∧eD b1=[5,2,3]∧eD b2=[5,3,2]:=⟨_,_,rfl,by decide,by decide⟩
 obtain⟨F,W⟩:=td (O:=cN) (K:=(aB q).length+1) (lv:=eD) (aB q) U (ai q.num.natAbs) 1 hl
  (by rw[N];split;exact .inl rfl;exact .inr ⟨_,rfl⟩) (by rw[S];rfl) (by rw[S];simp) (dn _) (by omega) L.1 L.2.1
 have Z:0<(aB q).length:=by rw[S];simp
 have u:∀h:0<(aB q).length,(aB q)[0]'h=45:=fun h=>by
  have J:=List.getElem?_eq_getElem h;have h2:(aB q)[0]? =some 45:=by rw[S];rfl
  rw[h2] at J;exact(Option.some.inj J).symm
 have I:(aB q).length=1+((ai q.num.natAbs).length+U.length):=by rw[S,List.length_cons,List.length_append,Nat.add_comm]
 have H:uZ 0 (ai q.num.natAbs)=q.num.natAbs:=du _;have hub:q.num.natAbs<10 ^ (ai q.num.natAbs).length:=bY _;have G:=L.1;simp[ah,aE,f89] at G;obtain⟨rfl,rfl⟩:=G;by_cases M:(ai q.num.natAbs).length≤9
 ·have X:=fun R d h=>(W R d h).1 M
  obtain⟨D,V⟩:=xE (α:=Nat) (1+(ai q.num.natAbs).length);rw[←V] at X;have aeV:10 ^ (ai q.num.natAbs).length≤1000000000:=Nat.le_trans (Nat.pow_le_pow_right (by omega) M) (by decide);have y:IntKind.i64.wrap (-((q.num.natAbs:Nat):Int))=q.num:=by rw[ae];omega
  by_cases C:q.den=1
  ·rw[if_pos C] at N
   have o:(D:Int)=((aB q).length:Int):=by rw[I,N,V];simp
   simp[aa,B,f89,u,Z,X,H,y,o,C,M]
  ·rw[if_neg C] at N
   have aaf:(aB q).length=D+((ai q.den).length+1):=by rw[I,N,List.length_cons,V];omega
   have o:¬(D:Int)=((aB q).length:Int):=by omega
   obtain⟨bg,m⟩:=xE (α:=Nat) (D+1);have hw:IntKind.i64.wrap ((D:Int)+1)=(bg:Int):=by rw[ae];omega
   obtain⟨F2,Yp⟩:=tf (O:=cN) (K:=(aB q).length+1) (lv:=eD) (aB q) (ai q.den) bg hl
    (by rw[S,N,m,V,show 1+(ai q.num.natAbs).length+1=((ai q.num.natAbs).length+1)+1 by omega,List.drop_succ_cons,List.drop_append];simp) (by omega) (dn _) (by omega) L.1 L.2.2
   have j:uZ 0 (ai q.den)=q.den:=du _;by_cases Y:(ai q.den).length≤9
   ·have Q:=fun R d h=>(Yp R d h).1 Y
    simp[aa,B,f89,u,Z,X,H,y,o,C,M,hw,Q,j,Y]
   ·have Q:=fun R d h=>(Yp R d h).2 (by omega)
    simp[aa,B,f89,u,Z,X,o,C,M,hw,Q,Y]
 ·have X:=fun R d h=>(W R d h).2 (by omega)
  simp[aa,B,f89,u,Z,X,M]
theorem HH(mem:Mem):kO prog 89 [.str (aB q)] mem
  (if (ai q.num.natAbs).length≤9∧(q.den=1∨(ai q.den).length≤9) then .tuple [.int .i64 q.num,.int .i64 q.den,.bool true] else .tuple [.int .i64 0,.int .i64 0,.bool false]) mem:=by
 by_cases Z:0≤q.num
 ·exact zx q hl Z mem
 ·exact zw q hl (by omega) mem
end
def euc:Nat→Int→Int→Int
 |0,x,_=>x
 |k+1,x,y=>if y=0 then x else euc k y (x.tmod y)
theorem sD:∀(k:Nat) (x y:Int),y.natAbs<k→(euc k x y).natAbs=x.natAbs.gcd y.natAbs
 |0,_,_,h=>by omega
 |k+1,x,y,h=>by
  unfold euc;by_cases Z:y=0
  ·subst Z;rw[if_pos rfl];simp
  ·rw[if_neg Z]
   have X:(x.tmod y).natAbs<k:=by rw[Int.natAbs_tmod];have:=Nat.mod_lt x.natAbs (show 0<y.natAbs by omega);omega
   rw[sD k y (x.tmod y) X,Int.natAbs_tmod,Nat.gcd_comm x.natAbs,Nat.gcd_rec y.natAbs x.natAbs,Nat.gcd_comm]
theorem BC(H:Env)(d:Bool)(I:ah f90=[b]):
  ∀(k:Nat) (x y:Int),y.natAbs<k→∃Z,gi [5,6] (ad b) H 0 (bh (ba prog) lv O K 35 0 true b) k ⟨ay [5,6] (ad b) H ((5,.int .i64 x)::(6,.int .i64 y)::H),[],d⟩=
   some (.exit 0,⟨Z,[],d⟩)∧ab Z 5=.int .i64 (euc k x y)∧ab Z 0=ab H 0∧ab Z 1=ab H 1∧ab Z 4=ab H 4:=by
 simp[ah,aE,f90] at I;intro k;induction k with
 |zero=>intro x y h;omega
 |succ k ih=>
  intro x y Q;by_cases X:y=0
  ·subst I
   subst X;simp[gi,euc]
  ·have U:(x.tmod y).natAbs<k:=by rw[Int.natAbs_tmod];have:=Nat.mod_lt x.natAbs (show 0<y.natAbs by omega);omega
   obtain⟨Z,V,S,R⟩:=ih y (x.tmod y) U;subst I;refine⟨Z,?_,by rw[S,euc,if_neg X],R⟩;rw[gi];simp[X];simp at V;exact V
theorem zN(y:ah f90=[b])(H:lv b=[5,6])(n:Int)(m:Nat)(I:m<K):
  ∃F:Env→Bool→Env,∀Z d,(ab Z 5=.int .i64 n∧ab Z 6=.int .i64 m)→
   bh (ba prog) lv O K 35 0 true (.loop b) ⟨Z,[],d⟩=some (.exit 0,⟨F Z d,[],d⟩)∧ab (F Z d) 5=.int .i64 (euc K n m)∧
    ab (F Z d) 0=ab Z 0∧ab (F Z d) 1=ab Z 1∧ab (F Z d) 4=ab Z 4:=by
 refine pN (p:=fun Z _=>ab Z 5=.int .i64 n∧ab Z 6=.int .i64 m) (q:=fun Z d X =>bh (ba prog) lv O K 35 0 true (.loop b) ⟨Z,[],d⟩=some (.exit 0,⟨X,[],d⟩)∧ab X 5=.int .i64 (euc K n m)∧
    ab X 0=ab Z 0∧ab X 1=ab Z 1∧ab X 4=ab Z 4) ?_
 rintro Z d ⟨h5,h6⟩;obtain⟨U,V,S⟩:=BC (O:=O) (K:=K) (lv:=lv) Z d y K n m (by simpa using I);have R:ay [5,6] (ad b) Z ((5,.int .i64 n)::(6,.int .i64 (m:Int))::Z)=ay [5,6] (ad b) Z Z:=by simp[ay,h5,h6]
 rw[R] at V;exact⟨U,by rw[bp,H];exact V,S⟩
theorem HO(n:Int)(m:Nat)(hn:n.natAbs≤4611686018427387904)(Yn:m≠0)(hm:m≤4611686018427387904)(mem:Mem):kO prog 90 [.int .i64 n,.int .i64 m] mem (.str (aB (Rat.normalize n m Yn))) mem:=by
 have J:aT prog 90=some f90:=by kernel_rfl
 refine cH dO (lv:=fun _=>[5,6]) (K:=m+1) rfl rfl ?_ mem;obtain⟨b,hb⟩:∃b,ah f90=[b]:=⟨_,rfl⟩
 obtain⟨F,L⟩:=zN (O:=af ak) (K:=m+1) (lv:=fun _=>[5,6]) hb rfl n m (by omega);simp[ah,aE,f90] at hb;subst hb;have hg:=sD (m+1) n m (by simp);generalize euc (m+1) n m=g at L hg;rw[Int.natAbs_natCast] at hg;have D:n.natAbs.gcd m∣m:=Nat.gcd_dvd_right _ _;have hgn:n.natAbs.gcd m∣n.natAbs:=Nat.gcd_dvd_left _ _;have hgp:0<n.natAbs.gcd m:=Nat.gcd_pos_of_pos_right _ (by omega);have hgm:n.natAbs.gcd m≤m:=Nat.le_of_dvd (by omega) D;obtain⟨Q,adD,Z⟩:∃Q,aB (Rat.normalize n m Yn)=Q∧Q=if m / n.natAbs.gcd m=1 then bB (n / (n.natAbs.gcd m:Nat)) else bB (n / (n.natAbs.gcd m:Nat))++47::ai (m / n.natAbs.gcd m):=
  ⟨_,rfl,by rw[Rat.normalize_eq];rfl⟩
 rw[adD];generalize n.natAbs.gcd m=G at*;have N:(G:Int)∣n:=Int.ofNat_dvd_left.2 hgn;have hdm:(G:Int)∣(m:Int):=Int.ofNat_dvd.2 D;obtain⟨p,I⟩:=xE (α:=Int) (n / (G:Int));obtain⟨e,H⟩:=xE (α:=Nat) (m / G);rw[←I,←H] at Z;have V:IntKind.i64.wrap (n.tdiv (G:Int))=p:=by
  rw[Int.tdiv_eq_ediv_of_dvd N,←I];have:p.natAbs≤n.natAbs:=by rw[I,←Int.tdiv_eq_ediv_of_dvd N,Int.natAbs_tdiv];exact Nat.div_le_self _ _
  exact ae
 have hq2:IntKind.i64.wrap ((m:Int).tdiv (G:Int))=(e:Int):=by
  have h1:(m:Int).tdiv (G:Int)=(e:Int):=by rw[H,←Int.ofNat_tdiv]
  have h2:e≤m:=by rw[H];exact Nat.div_le_self _ _
  rw[h1];exact ae
 have U :IntKind.i64.wrap ((m:Int) / (G:Int))=(e:Int):=by rw[←Int.tdiv_eq_ediv_of_dvd hdm];exact hq2
 have S:¬G=0:=by omega
 have hpn: -4611686018427387904≤p∧p≤4611686018427387904:=by
  have:p.natAbs≤n.natAbs:=by rw[I,←Int.tdiv_eq_ediv_of_dvd N,Int.natAbs_tdiv];exact Nat.div_le_self _ _
  omega
 have hem:e≤4611686018427387904:=by
  have h2:e≤m:=by rw[H];exact Nat.div_le_self _ _
  omega
 have y:dF p=true:=by simp only[dF,Bool.and_eq_true,decide_eq_true_eq];omega
 have C:dF (e:Int)=true:=by simp only[dF,Bool.and_eq_true,decide_eq_true_eq];omega
 have B:bB (e:Int)=ai e:=rfl;have u:(g<0→IntKind.i64.wrap (-g)=(G:Int))∧(¬g<0→g=(G:Int)):=⟨fun h=>by rw[ae];omega,fun h=>by omega⟩;have hlp:(bB p).length≤21:=by rw[SN];exact Lib.itoa_length_le p (by omega) (by omega)
 have Ya:(ai e).length≤19:=aG (by omega) (Nat.lt_of_le_of_lt hem (by decide));have o:(bB p).length+1≤9223372036854775807:=by omega
 have j:(bB p).length+1+(ai e).length≤9223372036854775807:=by omega
 by_cases R:g<0
 ·have Y:=u.1 R
  by_cases X:e=1
  ·simp[aa,J,f90,af,ak,L,R,Y,S,V,U,X,y,Z]
  ·have M :¬(e:Int)=1:=by omega
   simp[aa,J,f90,af,ak,L,R,Y,S,V,U,X,M,y,C,B,Z,o,j,eR]
 ·have Y:=u.2 R
  have W:¬(G:Int)<0:=by omega
  by_cases X:e=1
  ·simp[aa,J,f90,af,ak,L,W,Y,S,V,U,X,y,Z]
  ·have M :¬(e:Int)=1:=by omega
   simp[aa,J,f90,af,ak,L,W,Y,S,V,U,X,M,y,C,B,Z,o,j,eR]
end Go.Proofs
