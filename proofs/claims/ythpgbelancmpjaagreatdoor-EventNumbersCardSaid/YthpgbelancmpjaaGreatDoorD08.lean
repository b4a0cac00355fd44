/- See D38. -/
import Derived.Test.YthpgbelancmpjaaGreatDoorD07
import Derived.Lib.ItoaLen
set_option linter.all false
namespace Go.Proofs
open Go.Eng
open Tryz
theorem Qj(n:Int)(mem:Mem):kO prog 207 [.str (bL n)] mem (.int .i64 (jB n)) mem:=by
 have Z:aX prog 207=some f207:=by kernel_rfl
 refine aA ez ?_ mem;by_cases X:n=0
 .simp[aa,Z,f207,fT,jB,X]
 .by_cases V:n<0
  .simp[aa,Z,f207,ag,ak,fT,aK,V,X,jB]
  .simp[aa,Z,f207,ag,ak,fT,aK,V,X,jB]
theorem Ux(n:Int)(H:dV n=true)(mem:Mem):kO prog 143 [.int .i64 n] mem (.str (bL n)) mem:=by
 have Z:aX prog 143=some f143:=by kernel_rfl
 refine aA ez ?_ mem;simp[aa,Z,f143,ag,ak,H]
theorem Gc(r c:Bool):WJ (bd prog) 272 r c .nilIface .nilIface=if r||c then some true else none:=Q3 (by kernel_rfl) r c
theorem MU(n:Int)(m:Int)(H:m<=18)(I:(bL n).length<=1000000000)(mem:Mem):kO prog 209 [.str (bL n),.int .i64 m] mem (if (bL n).length<=m then .tuple [.int .i64 n,.bool true] else .tuple [.int .i64 0,.bool false]) mem:=by
 have X:aX prog 209=some f209:=by kernel_rfl
 refine de ez (lv:=fun _=>[]) (K:=1) rfl (by split<;>rfl) ?_ mem;by_cases h:((bL n).length:Int)<=m
 .have Z:¬m<((bL n).length:Int):=by omega
  have h3:(bL n).length<=18:=by omega
  simp[aa,X,f209,ag,ak,h,Z,h3,nP,Gc]
 .have Z:m<((bL n).length:Int):=by omega
  simp[aa,X,f209,h,Z]
noncomputable def aQ(f:FuncId)(args:List AV):Option AV:=
 match f,args with
 |207,[.str s]=>match iH s with
  |some n=>some (.int .i64 (jB n))
  |none=>none
 |_,_=>ak f args
theorem rA:qS prog (ag aQ):=by
 have X:=ez;refine bP fun f Z v h mem=>?_
 unfold aQ at h;split at h
 .split at h
  next n V=>cases h;rw[bK V];exact Qj n mem
  .cases h
 .have:=X.fn f Z mem ⟨v,none,[]⟩ (by unfold ag;simp only;rw[h])
  simpa [afh.mem] using this
theorem RX(n:Int)(H:(bL n).length<=1000000000)(mem:Mem):kO prog 205 [.str (bL n)] mem (.str (bL (-n))) mem:=by
 have Z:aX prog 205=some f205:=by kernel_rfl
 refine aA rA ?_ mem;by_cases V:n=0
 .subst V
  simp[aa,Z,f205,ag,aQ,aD,jB]
 .by_cases X:n<0
  .have R:1<=(bL n).length:=rV n
   have h3:((1:Int)<=(bL n).length):=by omega
   have U:List.take ((bL n).length-1) (List.drop 1 (bL n))=bL (-n):=by rw[B5 (by simp),GN X]
   simp[aa,Z,f205,ag,aQ,aD,jB,X,h3];rw[<-List.drop_one];exact U
  .have S:1+(bL n).length<=9223372036854775807:=by omega
   simp[aa,Z,f205,ag,aQ,aD,jB,V,X,S,fM,kP (show 0<n by omega)]
theorem Df(a b:Int)(mem:Mem):kO prog 139 [.str (bL a),.str (bL b)] mem (.int .i64 (Le a b)) mem:=by
 have X:aX prog 139=some f139:=by kernel_rfl
 refine aA rA ?_ mem;rw[WN];have R:∀n,-1<=jB n/\jB n<=1:=by intro n;unfold jB;repeat' split<;>omega
 by_cases V:jB a=jB b
 .by_cases U:(ai a.natAbs).length=(ai b.natAbs).length
  .have O:IntKind.i64.wrap (jB b*kx a.natAbs b.natAbs)=jB b*kx a.natAbs b.natAbs:=by
    have U:=R b;have Z: -1<=kx a.natAbs b.natAbs/\kx a.natAbs b.natAbs<=1:=by unfold kx;repeat' split<;>omega
    have h3: -1<=jB b*kx a.natAbs b.natAbs/\jB b*kx a.natAbs b.natAbs<=1:=by
     generalize jB b=x at*;generalize kx a.natAbs b.natAbs=y at*;have N:x= -1\/x=0\/x=1:=by omega
     rcases N with rfl | rfl | rfl<;>omega
    exact af
   simp[aa,X,f139,ag,aQ,ak,aD,aF,V,U,xQ U,O]
  .have M:IntKind.i64.wrap (- jB b)= - jB b:=by have:=R b;exact af
   have S:¬((ai a.natAbs).length:Int)=(ai b.natAbs).length:=by omega
   by_cases Z:(ai a.natAbs).length<(ai b.natAbs).length
   .simp[aa,X,f139,ag,aQ,ak,aD,aF,V,U,S,Z,M]
   .simp[aa,X,f139,ag,aQ,ak,aD,aF,V,U,S,Z]
 .by_cases Z:jB a<jB b
  .simp[aa,X,f139,ag,aQ,aD,V,Z]
  .simp[aa,X,f139,ag,aQ,aD,V,Z]
variable{K:Nat}{O:y9}{b:Code}{lv:Code->List Nat}
section
variable (s:List UInt8)(hs:s.length<=1000000000)
include s hs
theorem Bb(I:Env)(d:Bool)(h3:ae I 3=.str s)(H:ae I 32=.int .i64 s.length)(J:ah f138=[b]):
  ∀(k i:Nat),i<=s.length->s.length<=i+k->∃Z,ga [33] (ad b) I 0 (aU (bd prog) lv O K 47 0 true b) (k+1) ⟨aw [33] (ad b) I ((33,.int .i64 i)::I),[],d⟩=
   some (if (s.drop i).all isD then .exit 0 else .ret,⟨Z,[],d⟩)/\((s.drop i).all isD=false->ae Z 2=.int .i64 2):=by
 simp[ah,aE,f138] at J;have S:∀k,∃Z,ga [33] (ad b) I 0 (aU (bd prog) lv O K 47 0 true b) (k+1) ⟨aw [33] (ad b) I ((33,.int .i64 s.length)::I),[],d⟩=
   some (if (s.drop s.length).all isD then .exit 0 else .ret,⟨Z,[],d⟩)/\((s.drop s.length).all isD=false->ae Z 2=.int .i64 2):=by
  intro k;subst J;simp[ga,H]
 intro k;induction k with
 |zero=>
  intro i L G;have X :i=s.length:=by omega
  subst X;exact S 0
 |succ k ih=>
  intro i L G;by_cases X :i=s.length
  .subst X;exact S (k+1)
  have F:i<s.length:=by omega
  have D :(i:Int)<s.length:=by omega
  obtain⟨c,R⟩:∃c,s[i]? =some c:=⟨s[i],by simp[F]⟩
  have N:s.drop i=c::s.drop (i+1):=by rw[N0 F];congr 1;have:=GT F;rw[R] at this;exact(ZQ this).symm
  have B:IntKind.i64.wrap ((i:Int)+1)=((i+1:Nat):Int):=by rw[af];omega
  obtain⟨Z,C,u⟩:=ih (i+1) (by omega) (by omega);subst J;unfold ga;by_cases o:c.toNat<48
  .have U:isD c=false:=by unfold isD;simp;omega
   have M :((c.toNat:Int)<48):=by omega
   simp[h3,H,D,R,M,N,U]
  .have M :¬((c.toNat:Int)<48):=by omega
   by_cases m:57<c.toNat
   .have U:isD c=false:=by unfold isD;simp;omega
    have V :(57<(c.toNat:Int)):=by omega
    simp[h3,H,D,R,M,V,N,U]
   .have U:isD c=true:=by unfold isD;simp;omega
    have V :¬(57<(c.toNat:Int)):=by omega
    refine⟨Z,?_,?_⟩
    .simp[h3,H,D,R,M,V,N,U,B]
     simp at C;exact C
    .rw[N];simpa [U] using u
theorem zD(J:s.length<K)(H:ah f138=[b])(I:lv b=[33]):
  ∃F:Env->Bool->Env,∀Z d,(ae Z 3=.str s/\ae Z 32=.int .i64 s.length/\ae Z 33=.int .i64 0)->
   aU (bd prog) lv O K 47 0 true (.loop b) ⟨Z,[],d⟩=some (if s.all isD then .exit 0 else .ret,⟨F Z d,[],d⟩)/\(s.all isD=false->ae (F Z d) 2=.int .i64 2):=by
 refine vm (p:=fun Z _=>ae Z 3=.str s/\ae Z 32=.int .i64 s.length/\ae Z 33=.int .i64 0) (q:=fun Z d X =>aU (bd prog) lv O K 47 0 true (.loop b) ⟨Z,[],d⟩=some (if s.all isD then .exit 0 else .ret,⟨X,[],d⟩)/\(s.all isD=false->ae X 2=.int .i64 2)) ?_;rintro Z d ⟨h3,h32,h33⟩;obtain⟨U,V,S⟩:=Bb (O:=O) (K:=K) (lv:=lv) s hs Z d h3 h32 H (K-1) 0 (by omega) (by omega);refine⟨U,?_,by simpa using S⟩;rw[ba,I];have R:aw [33] (ad b) Z ((33,.int .i64 (0:Nat))::Z)=aw [33] (ad b) Z Z:=by simp[aw,h33]
 rw[R,show K-1+1=K by omega] at V;simpa using V
end
def okT(mn:Bool)(t:List UInt8):Bool:=match t with
 | []=>false
 |c::r=>decide (r.length<200)&& !(c==48&&(decide (0<r.length)||mn))&&(c::r).all isD
theorem Yb{c:UInt8}:((c.toNat:Int)=48)↔c=48:=by
 constructor
 .intro e
  apply UInt8.toNat_inj.1;have:c.toNat=48:=by omega
  rw[this];rfl
 .rintro rfl;rfl
theorem Hk(s:List UInt8)(hs:s.length<=1000000000)(mem:Mem):kO prog 138 [.str s] mem (.int .i64 (if okT (Lib.hasPrefix s [45]) (Lib.trimPrefix s [45]) then 0 else 2)) mem:=by
 have Z:aX prog 138=some f138:=by kernel_rfl
 refine de ez (lv:=fun _=>[33]) (K:=s.length+1) rfl rfl ?_ mem;have L:(Lib.trimPrefix s [45]).length<=s.length:=by unfold Lib.trimPrefix;split<;>simp
 cases htp:Lib.trimPrefix s [45] with
 |nil=>simp[aa,Z,f138,ag,ak,htp,okT]
 |cons c r=>
  rw[htp] at L;simp only[List.length_cons] at L;obtain⟨b,N⟩:∃b,ah f138=[b]:=⟨_,rfl⟩
  obtain⟨F,S⟩:=zD (O:=ag ak) (K:=s.length+1) (lv:=fun _=>[33]) (c::r) (by simp;omega) (by simp;omega) N rfl;simp[ah,aE,f138] at N;subst N;simp only[List.length_cons] at S;by_cases R:r.length<200
  .have X :¬(200<(r.length:Int)+1):=by omega
   by_cases M:c=48
   .subst M
    by_cases h3:0<r.length
    .have V :1<(r.length:Int)+1:=by omega
     simp[aa,Z,f138,ag,ak,htp,okT,R,X,h3,V]
    .have V :¬1<(r.length:Int)+1:=by omega
     have G:r=[]:=Mp (by omega);subst G;cases hmn:Lib.hasPrefix s [45] with
     |true=>simp[aa,Z,f138,ag,ak,htp,okT,hmn]
     |false=>
      have D:isD 48=true:=by decide
      simp[aa,Z,f138,ag,ak,htp,okT,hmn,S,D]
   .have U :¬((c.toNat:Int)=48):=fun e=>M (Yb.1 e)
    cases PP:(c::r).all isD with
    |true=>simp[aa,Z,f138,ag,ak,htp,okT,R,X,M,U,S,PP]
    |false=>simp[aa,Z,f138,ag,ak,htp,okT,R,X,U,S,PP]
  .have X :(200<(r.length:Int)+1):=by omega
   simp[aa,Z,f138,ag,ak,htp,okT,R,X]
theorem P4(q:Rat)(H:(ao q).length<=1000000000)(mem:Mem):kO prog 81 [.str (ao q)] mem (.str (ao (-q))) mem:=by
 have X:aX prog 81=some f81:=by kernel_rfl
 refine aA (az _) ?_ mem;by_cases Z:q=0
 .subst Z
  simp[aa,X,f81,be]
 .have M:¬q.num=0:=fun e=>Z (mQ.1 e)
  by_cases S:q.num<0
  .have e:=jq S
   have V:(45::ao (-q)==[48])=false:=by rw[<-e,be];simpa using Z
   rw[e];have h3:(1:Int)<=((ao (-q)).length:Int)+1:=by omega
   simp[aa,X,f81,V,h3]
  .have e:=mW (q:=q) (by omega)
   obtain⟨c,r,U,R⟩:=kU (q:=q) (by omega);have V:(c::r==[48])=false:=by rw[<-U,be];simpa using Z
   have N:=fy R;rw[e,U];rw[U] at H;simp only[List.length_cons] at H;have h3:1+(r.length+1)<=9223372036854775807:=by omega
   simp[aa,X,f81,V,N,h3,fM]
theorem A4(q:Rat)(mem:Mem):kO prog 178 [.str (ao q)] mem (.int .i64 (gd q)) mem:=by
 have X:aX prog 178=some f178:=by kernel_rfl
 refine aA (az _) ?_ mem;by_cases Z:q=0
 .subst Z
  have:gd 0=0:=rfl;simp[aa,X,f178,be,this]
 .have R:¬q.num=0:=fun e=>Z (mQ.1 e)
  by_cases V:q.num<0
  .have e:=jq V
   have U:(45::ao (-q)==[48])=false:=by rw[<-e,be];simpa using Z
   have h3:0<((ao (-q)).length:Int)+1:=by omega
   rw[e];simp[aa,X,f178,U,gd,jB,V,h3]
  .obtain⟨c,r,S,N⟩:=kU (q:=q) (by omega)
   have U:(c::r==[48])=false:=by rw[<-S,be];simpa using Z
   have M:=fy N;have h3:0<(r.length:Int)+1:=by omega
   rw[S];simp[aa,X,f178,U,M,h3,gd,jB,V,R]
theorem PU(n:Int)(d:Nat)(H:(bL n).length<=1000000000)(hd:(ai d).length<=1000000000)(mem:Mem):kO prog 206 [.str (bL n),.str (ai d)] mem (.str (if d=1 then bL n else bL n++47::ai d)) mem:=by
 have Z:aX prog 206=some f206:=by kernel_rfl
 refine aA (az _) ?_ mem;by_cases h:d=1
 .subst h
  have:ai 1=[49]:=rfl;simp[aa,Z,f206,this]
 .have X:(ai d==[49])=false:=by rw[beq_eq_false_iff_ne];intro e;exact h (AI (e.trans (show [49]=ai 1 from rfl)))
  have V:(bL n).length+1<=9223372036854775807:=by omega
  have U:(bL n).length+1+(ai d).length<=9223372036854775807:=by omega
  simp[aa,Z,f206,X,h,V,U,fM]
theorem MS(q:Rat)(H:(ao q).length<=1000000000)(mem:Mem):kO prog 131 [.str (ao q)] mem (.tuple [.str (bL q.num),.str (ai q.den)]) mem:=by
 have V:aX prog 131=some f131:=by kernel_rfl
 refine aA ez ?_ mem;have Z:=DW q;by_cases h:q.den=1
 .have X:ai 1=[49]:=rfl
  have e:ao q=bL q.num:=by unfold ao;rw[if_pos h]
  rw[if_pos h,e] at Z;rw[e] at H;rw[e];simp[aa,V,f131,ag,ak,H,Z,h,X]
 .have e:ao q=bL q.num++47::ai q.den:=by unfold ao;rw[if_neg h]
  rw[if_neg h] at Z;have U:(0:Int)<=(bL q.num).length:=by omega
  have X:List.drop ((bL q.num).length+1) (bL q.num++47::ai q.den)=ai q.den:=by rw[List.drop_append];simp
  have S:List.take (bL q.num).length (bL q.num++47::ai q.den)=bL q.num:=List.take_left' rfl;rw[e] at H Z;rw[e];simp only[SP,List.length_cons] at H;simp[aa,V,f131,ag,ak,H,Z,X]
variable{b2:Code}
theorem zK(s rest:List UInt8)(W:Nat)(hs:s.length<=1000000000)(Zd:rest=[]\/∃r,rest=47::r)(I:Env)(d:Bool)(h0:ae I 0=.str s)(Y:ae I 7=.int .i64 W)(J:ah f129=[b,b2]):
  ∀(H:List UInt8) (i j acc k:Nat),s.drop i=H++rest->H.all isD=true->i=W+j->i<=s.length->acc<10 ^ j->j<=9->H.length<=k->
   ∃Z,(j+H.length<=9->ga [5,2,3] (ad b) I 0 (aU (bd prog) lv O K 73 0 true b) (k+1) ⟨aw [5,2,3] (ad b) I ((5,.int .i64 i)::(2,.int .i64 acc)::I),[],d⟩=some (.exit 0,⟨Z,[],d⟩)/\
     ae Z 5=.int .i64 ((i+H.length:Nat):Int)/\ae Z 2=.int .i64 (vw acc H)/\ae Z 0=.str s/\ae Z 6=ae I 6/\ae Z 3=ae I 3)/\
    (9<j+H.length->ga [5,2,3] (ad b) I 0 (aU (bd prog) lv O K 73 0 true b) (k+1) ⟨aw [5,2,3] (ad b) I ((5,.int .i64 i)::(2,.int .i64 acc)::I),[],d⟩=some (.ret,⟨Z,[],d⟩)/\
     ae Z 2=.int .i64 0/\ae Z 3=.int .i64 0/\ae Z 4=.bool false):=by
 simp[ah,aE,f129] at J;obtain⟨J,_⟩:=J;intro H;induction H with
 |nil=>
  intro i j acc k X _ o hi m hj _;subst J;rcases Zd with rfl | ⟨r,rfl⟩
  .have F':i=s.length:=by have:=congrArg List.length X;simp at this;omega
   subst F';have S:¬(9<j):=by omega
   simp[ga,h0,S,hj,dM]
  .have FS:i<s.length:=by have:=congrArg List.length X;simp at this;omega
   have R :(i:Int)<s.length:=by omega
   have N:s[i]? =some 47:=by have:=congrArg List.head? X;rw[List.head?_drop] at this;simpa using this
   have S:¬(9<j):=by omega
   simp[ga,h0,R,N,S,hj,dM]
 |cons c H ih=>
  intro i j acc k X u o hi m hj hk;simp only[QQb,C0] at u;have FS:i<s.length:=by have:=congrArg List.length X;simp at this;omega
  have R :(i:Int)<s.length:=by omega
  have N:s[i]? =some c:=by have:=congrArg List.head? X;rw[List.head?_drop] at this;simpa using this
  have hc1:=tS u.1;have hc2:48<=c.toNat/\c.toNat<=57:=by have:=u.1;unfold isD at this;simpa using this
  have V:¬((c.toNat:Int)=47):=by omega
  have U:IntKind.i64.wrap ((i:Int)-W)=j:=by rw[af];omega
  obtain⟨k,rfl⟩:∃k',k=k' +1:=⟨k-1,by simp at hk;omega⟩
  by_cases hj9:j=9
  .subst hj9
   subst J;have S:¬(9+(H.length+1)<=9):=by omega
   simp[ga,h0,Y,R,N,V,U,S]
  .have M:¬((j:Int)=9):=by omega
   have hp:10 ^ j<=100000000:=QQJ (P3 (by omega) (show j<=8 by omega)) (by decide);obtain⟨v,hv⟩:=xE (α:=Nat) (c.toNat-48);obtain⟨a2,ha2⟩:=xE (α:=Nat) (10*acc+v);obtain⟨i2,L⟩:=xE (α:=Nat) (i+1);have G:IntKind.i64.wrap (10*(acc:Int))=10*(acc:Int):=af;have F:IntKind.u8.wrap ((c.toNat:Int)-48)=(v:Int):=by rw[Hh (by omega) (by omega)];omega
   have D:IntKind.i64.wrap (v:Int)=(v:Int):=af;have C:IntKind.i64.wrap (10*(acc:Int)+(v:Int))=(a2:Int):=by rw[af];omega
   have B:IntKind.i64.wrap ((i:Int)+1)=(i2:Int):=by rw[af];omega
   have aaG :a2<10 ^ (j+1):=by rw[Nat.pow_succ];omega
   have hd' :s.drop i2=H++rest:=by rw[L,<-QQk,X];simp
   obtain⟨Z,e1,e2⟩:=ih i2 (j+1) a2 k hd' u.2 (by omega) (by omega) aaG (by omega) (by simp at hk;omega);subst J;refine⟨Z,fun Zl=>?_,fun hgt=>?_⟩
   .obtain⟨f1,f2,f3,f4,f5⟩:=e1 (by simp at Zl;omega)
    refine⟨?_,by rw[f2,L,List.length_cons,show i+1+H.length=i+(H.length+1) by omega],by rw[f3,fm,ha2,hv],f4,f5⟩;rw[ga];simp[h0,Y,R,N,V,U,M,G,F,D,C,B];simp at f1;exact f1
   .obtain⟨f1,f2⟩:=e2 (by simp at hgt;omega)
    refine⟨?_,f2⟩;rw[ga];simp[h0,Y,R,N,V,U,M,G,F,D,C,B];simp at f1;exact f1
variable{b1:Code}
theorem zL(s:List UInt8)(W:Nat)(hs:s.length<=1000000000)(I:Env)(d:Bool)(h0:ae I 0=.str s)(Y:ae I 7=.int .i64 W)(J:ah f129=[b1,b]):
  ∀(H:List UInt8) (i j acc k:Nat),s.drop i=H->H.all isD=true->i=W+j->i<=s.length->acc<10 ^ j->j<=9->H.length<=k->
   ∃Z,(j+H.length<=9->ga [5,3,2] (ad b) I 0 (aU (bd prog) lv O K 73 0 true b) (k+1) ⟨aw [5,3,2] (ad b) I ((5,.int .i64 i)::(3,.int .i64 acc)::I),[],d⟩=some (.exit 2,⟨Z,[],d⟩)/\
     ae Z 5=.int .i64 ((i+H.length:Nat):Int)/\ae Z 3=.int .i64 (vw acc H)/\ae Z 0=.str s/\ae Z 2=ae I 2)/\
    (9<j+H.length->ga [5,3,2] (ad b) I 0 (aU (bd prog) lv O K 73 0 true b) (k+1) ⟨aw [5,3,2] (ad b) I ((5,.int .i64 i)::(3,.int .i64 acc)::I),[],d⟩=some (.ret,⟨Z,[],d⟩)/\
     ae Z 2=.int .i64 0/\ae Z 3=.int .i64 0/\ae Z 4=.bool false):=by
 simp[ah,aE,f129] at J;obtain⟨_,J⟩:=J;intro H;induction H with
 |nil=>
  intro i j acc k V _ D hi C hj _;subst J;have F':i=s.length:=by have:=congrArg List.length V;simp at this;omega
  subst F';have B:¬(9<j):=by omega
  simp[ga,h0,B,hj,dM]
 |cons c H ih=>
  intro i j acc k V F D hi C hj hk;simp only[QQb,C0] at F;have FS:i<s.length:=by have:=congrArg List.length V;simp at this;omega
  have u :(i:Int)<s.length:=by omega
  have hc:s[i]? =some c:=by have:=congrArg List.head? V;rw[List.head?_drop] at this;simpa using this
  have hc1:=tS F.1;have hc2:48<=c.toNat/\c.toNat<=57:=by have:=F.1;unfold isD at this;simpa using this
  have X:IntKind.i64.wrap ((i:Int)-W)=j:=by rw[af];omega
  obtain⟨k,rfl⟩:∃k',k=k' +1:=⟨k-1,by simp at hk;omega⟩
  by_cases o:j=9
  .subst o
   subst J;have B:¬(9+(H.length+1)<=9):=by omega
   simp[ga,h0,Y,u,X,B]
  .have U:¬((j:Int)=9):=by omega
   have hp:10 ^ j<=100000000:=QQJ (P3 (by omega) (show j<=8 by omega)) (by decide);obtain⟨v,hv⟩:=xE (α:=Nat) (c.toNat-48);obtain⟨m,ha2⟩:=xE (α:=Nat) (10*acc+v);obtain⟨i2,S⟩:=xE (α:=Nat) (i+1);have R:IntKind.i64.wrap (10*(acc:Int))=10*(acc:Int):=af;have N:IntKind.u8.wrap ((c.toNat:Int)-48)=(v:Int):=by rw[Hh (by omega) (by omega)];omega
   have M:IntKind.i64.wrap (v:Int)=(v:Int):=af;have L:IntKind.i64.wrap (10*(acc:Int)+(v:Int))=(m:Int):=by rw[af];omega
   have G:IntKind.i64.wrap ((i:Int)+1)=(i2:Int):=by rw[af];omega
   have aaG :m<10 ^ (j+1):=by rw[Nat.pow_succ];omega
   have hd' :s.drop i2=H:=by rw[S,<-QQk,V];simp
   obtain⟨Z,e1,e2⟩:=ih i2 (j+1) m k hd' F.2 (by omega) (by omega) aaG (by omega) (by simp at hk;omega);subst J;refine⟨Z,fun Zl=>?_,fun hgt=>?_⟩
   .obtain⟨f1,f2,f3,f4,f5⟩:=e1 (by simp at Zl;omega)
    refine⟨?_,by rw[f2,S,List.length_cons,show i+1+H.length=i+(H.length+1) by omega],by rw[f3,fm,ha2,hv],f4,f5⟩;rw[ga];simp[h0,Y,u,hc,X,U,R,N,M,L,G];simp at f1;exact f1
   .obtain⟨f1,f2⟩:=e2 (by simp at hgt;omega)
    refine⟨?_,f2⟩;rw[ga];simp[h0,Y,u,hc,X,U,R,N,M,L,G];simp at f1;exact f1
theorem tL(s rest H:List UInt8)(I:Nat)(hs:s.length<=1000000000)(Y:rest=[]\/∃r,rest=47::r)(hd:s.drop I=H++rest)(J:I<=s.length)(PP:H.all isD=true)(hK:s.length<K)(hb:ah f129=[b,b2])(W:lv b=[5,2,3]):
  ∃F:Env->Bool->Env,∀Z d,(ae Z 0=.str s/\ae Z 7=.int .i64 I/\ae Z 5=.int .i64 I/\ae Z 2=.int .i64 0)->
   (H.length<=9->aU (bd prog) lv O K 73 0 true (.loop b) ⟨Z,[],d⟩=some (.exit 0,⟨F Z d,[],d⟩)/\
     ae (F Z d) 5=.int .i64 ((I+H.length:Nat):Int)/\ae (F Z d) 2=.int .i64 (vw 0 H)/\ae (F Z d) 0=.str s/\ae (F Z d) 6=ae Z 6/\ae (F Z d) 3=ae Z 3)/\
    (9<H.length->aU (bd prog) lv O K 73 0 true (.loop b) ⟨Z,[],d⟩=some (.ret,⟨F Z d,[],d⟩)/\
     ae (F Z d) 2=.int .i64 0/\ae (F Z d) 3=.int .i64 0/\ae (F Z d) 4=.bool false):=by
 refine vm (p:=fun Z _=>ae Z 0=.str s/\ae Z 7=.int .i64 I/\ae Z 5=.int .i64 I/\ae Z 2=.int .i64 0)
  (q:=fun Z d X =>(H.length<=9->aU (bd prog) lv O K 73 0 true (.loop b) ⟨Z,[],d⟩=some (.exit 0,⟨X,[],d⟩)/\
     ae X 5=.int .i64 ((I+H.length:Nat):Int)/\ae X 2=.int .i64 (vw 0 H)/\ae X 0=.str s/\ae X 6=ae Z 6/\ae X 3=ae Z 3)/\
    (9<H.length->aU (bd prog) lv O K 73 0 true (.loop b) ⟨Z,[],d⟩=some (.ret,⟨X,[],d⟩)/\
     ae X 2=.int .i64 0/\ae X 3=.int .i64 0/\ae X 4=.bool false)) ?_
 rintro Z d ⟨h0,h7,h5,h2⟩;have V:H.length<=K-1:=by have:=congrArg List.length hd;simp at this;omega
 obtain⟨R,U,S⟩:=zK (O:=O) (K:=K) (lv:=lv) s rest I hs Y Z d h0 h7 hb H I 0 0 (K-1) hd PP (by omega) J (by simp) (by omega) V;have N:aw [5,2,3] (ad b) Z ((5,.int .i64 (I:Int))::(2,.int .i64 ((0:Nat):Int))::Z)=aw [5,2,3] (ad b) Z Z:=by simp[aw,h5,h2]
 rw[N,show K-1+1=K by omega] at U S;rw[QQZ] at U S;refine⟨R,?_,?_⟩
 .rw[ba,W];exact U
 .rw[ba,W];exact S
theorem tM(s H:List UInt8)(I:Nat)(hs:s.length<=1000000000)(hd:s.drop I=H)(J:I<=s.length)(Y:H.all isD=true)(hK:s.length<K)(hb:ah f129=[b1,b])(W:lv b=[5,3,2]):
  ∃F:Env->Bool->Env,∀Z d,(ae Z 0=.str s/\ae Z 7=.int .i64 I/\ae Z 5=.int .i64 I/\ae Z 3=.int .i64 0)->
   (H.length<=9->aU (bd prog) lv O K 73 0 true (.loop b) ⟨Z,[],d⟩=some (.exit 2,⟨F Z d,[],d⟩)/\
     ae (F Z d) 3=.int .i64 (vw 0 H)/\ae (F Z d) 2=ae Z 2)/\
    (9<H.length->aU (bd prog) lv O K 73 0 true (.loop b) ⟨Z,[],d⟩=some (.ret,⟨F Z d,[],d⟩)/\
     ae (F Z d) 2=.int .i64 0/\ae (F Z d) 3=.int .i64 0/\ae (F Z d) 4=.bool false):=by
 refine vm (p:=fun Z _=>ae Z 0=.str s/\ae Z 7=.int .i64 I/\ae Z 5=.int .i64 I/\ae Z 3=.int .i64 0)
  (q:=fun Z d X =>(H.length<=9->aU (bd prog) lv O K 73 0 true (.loop b) ⟨Z,[],d⟩=some (.exit 2,⟨X,[],d⟩)/\
     ae X 3=.int .i64 (vw 0 H)/\ae X 2=ae Z 2)/\
    (9<H.length->aU (bd prog) lv O K 73 0 true (.loop b) ⟨Z,[],d⟩=some (.ret,⟨X,[],d⟩)/\
     ae X 2=.int .i64 0/\ae X 3=.int .i64 0/\ae X 4=.bool false)) ?_
 rintro Z d ⟨h0,h7,h5,h3⟩;have V:H.length<=K-1:=by have:=congrArg List.length hd;simp at this;omega
 obtain⟨R,U,S⟩:=zL (O:=O) (K:=K) (lv:=lv) s I hs Z d h0 h7 hb H I 0 0 (K-1) hd Y (by omega) J (by simp) (by omega) V;have N:aw [5,3,2] (ad b) Z ((5,.int .i64 (I:Int))::(3,.int .i64 ((0:Nat):Int))::Z)=aw [5,3,2] (ad b) Z Z:=by simp[aw,h5,h3]
 rw[N,show K-1+1=K by omega] at U S;rw[QQZ] at U S;refine⟨R,fun h=>?_,?_⟩
 .obtain⟨f1,_,f3,_,f5⟩:=U h
  rw[ba,W];exact⟨f1,f3,f5⟩
 .rw[ba,W];exact S
def ft(c:Code):List Nat:=if (ad c).contains 17 then [5,2,3] else [5,3,2]
theorem yd(q:Rat):∃Z,ao q=(if q.num<0 then [45] else [])++(ai q.num.natAbs++Z)/\(Z=if q.den=1 then [] else 47::ai q.den):=by
 refine⟨if q.den=1 then [] else 47::ai q.den,?_,rfl⟩;have h:bL q.num=(if q.num<0 then [45] else [])++ai q.num.natAbs:=by
  cases hn:q.num with
  |ofNat u=>rw[if_neg (by simp)];rfl
  |negSucc u=>rw[if_pos (Int.negSucc_lt_zero u)];rfl
 unfold ao;rw[h];split<;>simp
section
variable (q:Rat)(hl:(ao q).length<=1000000000)
include q hl
theorem zw(hq:0<=q.num)(mem:Mem):kO prog 129 [.str (ao q)] mem
  (if (ai q.num.natAbs).length<=9/\(q.den=1\/(ai q.den).length<=9) then .tuple [.int .i64 q.num,.int .i64 q.den,.bool true] else .tuple [.int .i64 0,.int .i64 0,.bool false]) mem:=by
 have u:aX prog 129=some f129:=by kernel_rfl
 refine de (az _) (lv:=ft) (K:=(ao q).length+1) rfl (by split<;>rfl) ?_ mem;obtain⟨U,o,N⟩:=yd q;rw[if_neg (by omega),List.nil_append] at o;obtain⟨b1,b2,M⟩:∃b1 b2,ah f129=[b1,b2]/\ft b1=[5,2,3]/\ft b2=[5,3,2]:=⟨_,_,rfl,by decide,by decide⟩
 obtain⟨F,H⟩:=tL (O:=cP) (K:=(ao q).length+1) (lv:=ft) (ao q) U (ai q.num.natAbs) 0 hl
  (by rw[N];split;exact .inl rfl;exact .inr ⟨_,rfl⟩) (by rw[List.drop_zero];exact o) (by omega) (dH _) (by omega) M.1 M.2.1
 obtain⟨c,r,L,hc⟩:=kU hq;have Y:(ao q)[0]? =some c:=by rw[L];rfl
 have V:=fy hc;have X:0<(ao q).length:=by rw[L];simp only[List.length_cons];omega
 have m:∀h:0<(ao q).length,(ao q)[0]'h=c:=fun h=>by have:=GT h;rw[Y] at this;exact(ZQ this).symm
 have F':(ao q).length=(ai q.num.natAbs).length+U.length:=by rw[o,SP]
 have Zy:vw 0 (ai q.num.natAbs)=q.num.natAbs:=dK _;have G:((q.num.natAbs:Nat):Int)=q.num:=by omega
 have D:=M.1;simp[ah,aE,f129] at D;obtain⟨rfl,rfl⟩:=D;by_cases C:(ai q.num.natAbs).length<=9
 .have Z:=fun S d h=>(H S d h).1 C
  by_cases B:q.den=1
  .rw[if_pos B] at N
   have j:((ai q.num.natAbs).length:Int)=((ao q).length:Int):=by rw[F',N];simp
   rw[QQZ] at Z;simp[aa,u,f129,m,V,X,Z,Zy,G,j,B,C]
  .rw[if_neg B] at N
   have aax:(ao q).length=(ai q.num.natAbs).length+((ai q.den).length+1):=by rw[F',N,List.length_cons]
   have j:¬((ai q.num.natAbs).length:Int)=((ao q).length:Int):=by omega
   obtain⟨bg,W⟩:=xE (α:=Nat) ((ai q.num.natAbs).length+1);have hw:IntKind.i64.wrap (((ai q.num.natAbs).length:Int)+1)=(bg:Int):=by rw[af];omega
   obtain⟨F2,Zn⟩:=tM (O:=cP) (K:=(ao q).length+1) (lv:=ft) (ao q) (ai q.den) bg hl
    (by rw[o,N,W,List.drop_append];simp) (by omega) (dH _) (by omega) M.1 M.2.2
   have J:vw 0 (ai q.den)=q.den:=dK _;rw[QQZ] at Z;by_cases I:(ai q.den).length<=9
   .have R:=fun S d h=>(Zn S d h).1 I
    simp[aa,u,f129,m,V,X,Z,Zy,G,j,B,C,hw,R,J,I]
   .have R:=fun S d h=>(Zn S d h).2 (by omega)
    simp[aa,u,f129,m,V,X,Z,j,B,C,hw,R,I]
 .have Z:=fun S d h=>(H S d h).2 (by omega)
  simp[aa,u,f129,m,V,X,Z,C]
theorem zv(hq:q.num<0)(mem:Mem):kO prog 129 [.str (ao q)] mem
  (if (ai q.num.natAbs).length<=9/\(q.den=1\/(ai q.den).length<=9) then .tuple [.int .i64 q.num,.int .i64 q.den,.bool true] else .tuple [.int .i64 0,.int .i64 0,.bool false]) mem:=by
 have u:aX prog 129=some f129:=by kernel_rfl
 refine de (az _) (lv:=ft) (K:=(ao q).length+1) rfl (by split<;>rfl) ?_ mem;obtain⟨U,S,M⟩:=yd q;rw[if_pos hq,List.singleton_append] at S;obtain⟨b1,b2,G⟩:∃b1 b2,ah f129=[b1,b2]/\ft b1=[5,2,3]/\ft b2=[5,3,2]:=⟨_,_,rfl,by decide,by decide⟩
 obtain⟨F,J⟩:=tL (O:=cP) (K:=(ao q).length+1) (lv:=ft) (ao q) U (ai q.num.natAbs) 1 hl
  (by rw[M];split;exact .inl rfl;exact .inr ⟨_,rfl⟩) (by rw[S];rfl) (by rw[S];simp) (dH _) (by omega) G.1 G.2.1
 have Z:0<(ao q).length:=by rw[S];simp
 have o:∀h:0<(ao q).length,(ao q)[0]'h=45:=fun h=>by
  have I:=GT h;have h2:(ao q)[0]? =some 45:=by rw[S];rfl
  rw[h2] at I;exact(ZQ I).symm
 have H:(ao q).length=1+((ai q.num.natAbs).length+U.length):=by rw[S,List.length_cons,SP,QXJ]
 have Zy:vw 0 (ai q.num.natAbs)=q.num.natAbs:=dK _;have hub:q.num.natAbs<10 ^ (ai q.num.natAbs).length:=cm _;have D:=G.1;simp[ah,aE,f129] at D;obtain⟨rfl,rfl⟩:=D;by_cases L:(ai q.num.natAbs).length<=9
 .have X:=fun R d h=>(J R d h).1 L
  obtain⟨C,V⟩:=xE (α:=Nat) (1+(ai q.num.natAbs).length);rw[<-V] at X;have ae9:10 ^ (ai q.num.natAbs).length<=1000000000:=QQJ (P3 (by omega) L) (by decide);have ZP:IntKind.i64.wrap (-((q.num.natAbs:Nat):Int))=q.num:=by rw[af];omega
  by_cases B:q.den=1
  .rw[if_pos B] at M
   have m:(C:Int)=((ao q).length:Int):=by rw[H,M,V];simp
   simp[aa,u,f129,o,Z,X,Zy,ZP,m,B,L]
  .rw[if_neg B] at M
   have aax:(ao q).length=C+((ai q.den).length+1):=by rw[H,M,List.length_cons,V];omega
   have m:¬(C:Int)=((ao q).length:Int):=by omega
   obtain⟨bg,j⟩:=xE (α:=Nat) (C+1);have hw:IntKind.i64.wrap ((C:Int)+1)=(bg:Int):=by rw[af];omega
   obtain⟨F2,Zn⟩:=tM (O:=cP) (K:=(ao q).length+1) (lv:=ft) (ao q) (ai q.den) bg hl
    (by rw[S,M,j,V,show 1+(ai q.num.natAbs).length+1=((ai q.num.natAbs).length+1)+1 by omega,List.drop_succ_cons,List.drop_append];simp) (by omega) (dH _) (by omega) G.1 G.2.2
   have Y:vw 0 (ai q.den)=q.den:=dK _;by_cases W:(ai q.den).length<=9
   .have N:=fun R d h=>(Zn R d h).1 W
    simp[aa,u,f129,o,Z,X,Zy,ZP,m,B,L,hw,N,Y,W]
   .have N:=fun R d h=>(Zn R d h).2 (by omega)
    simp[aa,u,f129,o,Z,X,m,B,L,hw,N,W]
 .have X:=fun R d h=>(J R d h).2 (by omega)
  simp[aa,u,f129,o,Z,X,L]
theorem HN(mem:Mem):kO prog 129 [.str (ao q)] mem
  (if (ai q.num.natAbs).length<=9/\(q.den=1\/(ai q.den).length<=9) then .tuple [.int .i64 q.num,.int .i64 q.den,.bool true] else .tuple [.int .i64 0,.int .i64 0,.bool false]) mem:=by
 by_cases Z:0<=q.num
 .exact zw q hl Z mem
 .exact zv q hl (by omega) mem
end
def euc:Nat->Int->Int->Int
 |0,x,_=>x
 |k+1,x,y=>if y=0 then x else euc k y (x.tmod y)
theorem sQ:∀(k:Nat) (x y:Int),y.natAbs<k->(euc k x y).natAbs=x.natAbs.gcd y.natAbs
 |0,_,_,h=>by omega
 |k+1,x,y,h=>by
  unfold euc;by_cases Z:y=0
  .subst Z;rw[if_pos rfl];simp
  .rw[if_neg Z]
   have X:(x.tmod y).natAbs<k:=by rw[Int.natAbs_tmod];have:=Nat.mod_lt x.natAbs (show 0<y.natAbs by omega);omega
   rw[sQ k y (x.tmod y) X,Int.natAbs_tmod,Nat.gcd_comm x.natAbs,Nat.gcd_rec y.natAbs x.natAbs,Nat.gcd_comm]
theorem BF(H:Env)(d:Bool)(I:ah f130=[b]):
  ∀(k:Nat) (x y:Int),y.natAbs<k->∃Z,ga [5,6] (ad b) H 0 (aU (bd prog) lv O K 35 0 true b) k ⟨aw [5,6] (ad b) H ((5,.int .i64 x)::(6,.int .i64 y)::H),[],d⟩=
   some (.exit 0,⟨Z,[],d⟩)/\ae Z 5=.int .i64 (euc k x y)/\ae Z 0=ae H 0/\ae Z 1=ae H 1/\ae Z 4=ae H 4:=by
 simp[ah,aE,f130] at I;intro k;induction k with
 |zero=>intro x y h;omega
 |succ k ih=>
  intro x y N;by_cases X:y=0
  .subst I
   subst X;simp[ga,euc]
  .have U:(x.tmod y).natAbs<k:=by rw[Int.natAbs_tmod];have:=Nat.mod_lt x.natAbs (show 0<y.natAbs by omega);omega
   obtain⟨Z,V,S,R⟩:=ih y (x.tmod y) U;subst I;refine⟨Z,?_,by rw[S,euc,if_neg X],R⟩;rw[ga];simp[X];simp at V;exact V
theorem zN(H:ah f130=[b])(I:lv b=[5,6])(n:Int)(m:Nat)(J:m<K):
  ∃F:Env->Bool->Env,∀Z d,(ae Z 5=.int .i64 n/\ae Z 6=.int .i64 m)->
   aU (bd prog) lv O K 35 0 true (.loop b) ⟨Z,[],d⟩=some (.exit 0,⟨F Z d,[],d⟩)/\ae (F Z d) 5=.int .i64 (euc K n m)/\
    ae (F Z d) 0=ae Z 0/\ae (F Z d) 1=ae Z 1/\ae (F Z d) 4=ae Z 4:=by
 refine vm (p:=fun Z _=>ae Z 5=.int .i64 n/\ae Z 6=.int .i64 m) (q:=fun Z d X =>aU (bd prog) lv O K 35 0 true (.loop b) ⟨Z,[],d⟩=some (.exit 0,⟨X,[],d⟩)/\ae X 5=.int .i64 (euc K n m)/\
    ae X 0=ae Z 0/\ae X 1=ae Z 1/\ae X 4=ae Z 4) ?_
 rintro Z d ⟨h5,h6⟩;obtain⟨U,V,S⟩:=BF (O:=O) (K:=K) (lv:=lv) Z d H K n m (by simpa using J);have R:aw [5,6] (ad b) Z ((5,.int .i64 n)::(6,.int .i64 (m:Int))::Z)=aw [5,6] (ad b) Z Z:=by simp[aw,h5,h6]
 rw[R] at V;exact⟨U,by rw[ba,I];exact V,S⟩
theorem HW(n:Int)(m:Nat)(hn:n.natAbs<=4611686018427387904)(ZC:m≠0)(hm:m<=4611686018427387904)(mem:Mem):kO prog 130 [.int .i64 n,.int .i64 m] mem (.str (ao (Rat.normalize n m ZC))) mem:=by
 have I:aX prog 130=some f130:=by kernel_rfl
 refine de ez (lv:=fun _=>[5,6]) (K:=m+1) rfl rfl ?_ mem;obtain⟨b,hb⟩:∃b,ah f130=[b]:=⟨_,rfl⟩
 obtain⟨F,D⟩:=zN (O:=ag ak) (K:=m+1) (lv:=fun _=>[5,6]) hb rfl n m (by omega);simp[ah,aE,f130] at hb;subst hb;have hg:=sQ (m+1) n m (by simp);generalize euc (m+1) n m=g at D hg;rw[Int.natAbs_natCast] at hg;have C:n.natAbs.gcd m∣m:=Nat.gcd_dvd_right _ _;have hgn:n.natAbs.gcd m∣n.natAbs:=Nat.gcd_dvd_left _ _;have hgp:0<n.natAbs.gcd m:=Nat.gcd_pos_of_pos_right _ (by omega);have hgm:n.natAbs.gcd m<=m:=Nat.le_of_dvd (by omega) C;obtain⟨N,adY,Z⟩:∃N,ao (Rat.normalize n m ZC)=N/\N=if m / n.natAbs.gcd m=1 then bL (n / (n.natAbs.gcd m:Nat)) else bL (n / (n.natAbs.gcd m:Nat))++47::ai (m / n.natAbs.gcd m):=
  ⟨_,rfl,by rw[Rat.normalize_eq];rfl⟩
 rw[adY];generalize n.natAbs.gcd m=G at*;have M:(G:Int)∣n:=Int.ofNat_dvd_left.2 hgn;have hdm:(G:Int)∣(m:Int):=Int.ofNat_dvd.2 C;obtain⟨p,H⟩:=xE (α:=Int) (n / (G:Int));obtain⟨e,he⟩:=xE (α:=Nat) (m / G);rw[<-H,<-he] at Z;have V:IntKind.i64.wrap (n.tdiv (G:Int))=p:=by
  rw[Int.tdiv_eq_ediv_of_dvd M,<-H];have:p.natAbs<=n.natAbs:=by rw[H,<-Int.tdiv_eq_ediv_of_dvd M,Int.natAbs_tdiv];exact Nat.div_le_self _ _
  exact af
 have hq2:IntKind.i64.wrap ((m:Int).tdiv (G:Int))=(e:Int):=by
  have h1:(m:Int).tdiv (G:Int)=(e:Int):=by rw[he,<-Int.ofNat_tdiv]
  have h2:e<=m:=by rw[he];exact Nat.div_le_self _ _
  rw[h1];exact af
 have U :IntKind.i64.wrap ((m:Int) / (G:Int))=(e:Int):=by rw[<-Int.tdiv_eq_ediv_of_dvd hdm];exact hq2
 have S:¬G=0:=by omega
 have hpn: -4611686018427387904<=p/\p<=4611686018427387904:=by
  have:p.natAbs<=n.natAbs:=by rw[H,<-Int.tdiv_eq_ediv_of_dvd M,Int.natAbs_tdiv];exact Nat.div_le_self _ _
  omega
 have hem:e<=4611686018427387904:=by
  have h2:e<=m:=by rw[he];exact Nat.div_le_self _ _
  omega
 have ZO:dV p=true:=by simp only[dV,C0,Es];omega
 have B:dV (e:Int)=true:=by simp only[dV,C0,Es];omega
 have u:bL (e:Int)=ai e:=rfl;have o:(g<0->IntKind.i64.wrap (-g)=(G:Int))/\(¬g<0->g=(G:Int)):=⟨fun h=>by rw[af];omega,fun h=>by omega⟩;have hlp:(bL p).length<=21:=by rw[Tn];exact Lib.itoa_length_le p (by omega) (by omega)
 have Zl:(ai e).length<=19:=aN (by omega) (Nat.lt_of_le_of_lt hem (by decide));have j:(bL p).length+1<=9223372036854775807:=by omega
 have Y:(bL p).length+1+(ai e).length<=9223372036854775807:=by omega
 by_cases R:g<0
 .have W:=o.1 R
  by_cases X:e=1
  .simp[aa,I,f130,ag,ak,D,R,W,S,V,U,X,ZO,Z]
  .have L :¬(e:Int)=1:=by omega
   simp[aa,I,f130,ag,ak,D,R,W,S,V,U,X,L,ZO,B,u,Z,j,Y,fM]
 .have W:=o.2 R
  have J:¬(G:Int)<0:=by omega
  by_cases X:e=1
  .simp[aa,I,f130,ag,ak,D,J,W,S,V,U,X,ZO,Z]
  .have L :¬(e:Int)=1:=by omega
   simp[aa,I,f130,ag,ak,D,J,W,S,V,U,X,L,ZO,B,u,Z,j,Y,fM]
end Go.Proofs
