/- See H38. -/
import Derived.Test.YthpgbelancmpjaaGreatDoorH07
import Derived.Lib.ItoaLen
set_option linter.all false
namespace Go.Proofs
open Go.Eng
open Tryz
theorem P6(n:Int)(mem:Mem):bz prog 207 [.str (bH n)] mem (.int .i64 (jI n)) mem:=by
 have Z:bq prog 207=some f207:=by kernel_rfl
 refine az ep ?_ mem;by_cases X:n=0
 .simp[ad,Z,f207,fD,jI,X]
 .by_cases V:n<0
  .simp[ad,Z,f207,ai,an,fD,aR,V,X,jI]
  .simp[ad,Z,f207,ai,an,fD,aR,V,X,jI]
theorem Vu(n:Int)(H:ef n=true)(mem:Mem):bz prog 143 [.int .i64 n] mem (.str (bH n)) mem:=by
 have Z:bq prog 143=some f143:=by kernel_rfl
 refine az ep ?_ mem;simp[ad,Z,f143,ai,an,H]
theorem GI(r c:Bool):Wk (aL prog) 272 r c .nilIface .nilIface=if r||c then some true else none:=Q2 (by kernel_rfl) r c
theorem MQ(n:Int)(m:Int)(H:m<=18)(I:(bH n).length<=1000000000)(mem:Mem):bz prog 209 [.str (bH n),.int .i64 m] mem (if (bH n).length<=m then .tuple [.int .i64 n,.bool true] else .tuple [.int .i64 0,.bool false]) mem:=by
 have X:bq prog 209=some f209:=by kernel_rfl
 refine dE ep (lv:=fun _=>[]) (K:=1) rfl (by split<;>rfl) ?_ mem;by_cases h:((bH n).length:Int)<=m
 .have Z:¬m<((bH n).length:Int):=by omega
  have h3:(bH n).length<=18:=by omega
  simp[ad,X,f209,ai,an,h,Z,h3,n8,GI]
 .have Z:m<((bH n).length:Int):=by omega
  simp[ad,X,f209,h,Z]
noncomputable def aV(f:FuncId)(args:List AV):Option AV:=
 match f,args with
 |207,[.str s]=>match im s with
  |some n=>some (.int .i64 (jI n))
  |none=>none
 |_,_=>an f args
theorem rA:afs prog (ai aV):=by
 have X:=ep;refine bT fun f Z v h mem=>?_
 unfold aV at h;split at h
 .split at h
  next n V=>cases h;rw[bK V];exact P6 n mem
  .cases h
 .have:=X.fn f Z mem ⟨v,none,[]⟩ (by unfold ai;simp only;rw[h])
  simpa [afw.mem] using this
theorem R5(n:Int)(H:(bH n).length<=1000000000)(mem:Mem):bz prog 205 [.str (bH n)] mem (.str (bH (-n))) mem:=by
 have Z:bq prog 205=some f205:=by kernel_rfl
 refine az rA ?_ mem;by_cases V:n=0
 .subst V
  simp[ad,Z,f205,ai,aV,ax,jI]
 .by_cases X:n<0
  .have R:1<=(bH n).length:=rY n
   have h3:((1:Int)<=(bH n).length):=by omega
   have U:List.take ((bH n).length-1) (List.drop 1 (bH n))=bH (-n):=by rw[An (by simp),Hg X]
   simp[ad,Z,f205,ai,aV,ax,jI,X,h3];rw[<-List.drop_one];exact U
  .have S:1+(bH n).length<=9223372036854775807:=by omega
   simp[ad,Z,f205,ai,aV,ax,jI,V,X,S,ft,kL (show 0<n by omega)]
theorem DT(a b:Int)(mem:Mem):bz prog 139 [.str (bH a),.str (bH b)] mem (.int .i64 (Mq a b)) mem:=by
 have X:bq prog 139=some f139:=by kernel_rfl
 refine az rA ?_ mem;rw[XE];have R:∀n,-1<=jI n/\jI n<=1:=by intro n;unfold jI;repeat' split<;>omega
 by_cases V:jI a=jI b
 .by_cases U:(aj a.natAbs).length=(aj b.natAbs).length
  .have Q:IntKind.i64.wrap (jI b*j9 a.natAbs b.natAbs)=jI b*j9 a.natAbs b.natAbs:=by
    have U:=R b;have Z: -1<=j9 a.natAbs b.natAbs/\j9 a.natAbs b.natAbs<=1:=by unfold j9;repeat' split<;>omega
    have h3: -1<=jI b*j9 a.natAbs b.natAbs/\jI b*j9 a.natAbs b.natAbs<=1:=by
     generalize jI b=x at*;generalize j9 a.natAbs b.natAbs=y at*;have O:x= -1\/x=0\/x=1:=by omega
     rcases O with rfl | rfl | rfl<;>omega
    exact af
   simp[ad,X,f139,ai,aV,an,ax,aC,V,U,yy U,Q]
  .have N:IntKind.i64.wrap (- jI b)= - jI b:=by have:=R b;exact af
   have S:¬((aj a.natAbs).length:Int)=(aj b.natAbs).length:=by omega
   by_cases Z:(aj a.natAbs).length<(aj b.natAbs).length
   .simp[ad,X,f139,ai,aV,an,ax,aC,V,U,S,Z,N]
   .simp[ad,X,f139,ai,aV,an,ax,aC,V,U,S,Z]
 .by_cases Z:jI a<jI b
  .simp[ad,X,f139,ai,aV,ax,V,Z]
  .simp[ad,X,f139,ai,aV,ax,V,Z]
variable{K:Nat}{O:afu}{b:Code}{lv:Code->List Nat}
section
variable (s:List UInt8)(hs:s.length<=1000000000)
include s hs
theorem Bt(I:Env)(d:Bool)(h3:aa I 3=.str s)(H:aa I 32=.int .i64 s.length)(J:ah f138=[b]):
  ∀(k i:Nat),i<=s.length->s.length<=i+k->∃X,ga [33] (ae b) I 0 (aO (aL prog) lv O K 47 0 true b) (k+1) ⟨au [33] (ae b) I ((33,.int .i64 i)::I),[],d⟩=
   some (if (s.drop i).all isD then .exit 0 else .ret,⟨X,[],d⟩)/\((s.drop i).all isD=false->aa X 2=.int .i64 2):=by
 simp[ah,aw,f138] at J;have Q:∀k,∃X,ga [33] (ae b) I 0 (aO (aL prog) lv O K 47 0 true b) (k+1) ⟨au [33] (ae b) I ((33,.int .i64 s.length)::I),[],d⟩=
   some (if (s.drop s.length).all isD then .exit 0 else .ret,⟨X,[],d⟩)/\((s.drop s.length).all isD=false->aa X 2=.int .i64 2):=by
  intro k;subst J;simp[ga,H]
 intro k;induction k with
 |zero=>
  intro i G F;have V :i=s.length:=by omega
  subst V;exact Q 0
 |succ k ih=>
  intro i G F;by_cases V :i=s.length
  .subst V;exact Q (k+1)
  have D:i<s.length:=by omega
  have U :(i:Int)<s.length:=by omega
  obtain⟨c,N⟩:∃c,s[i]? =some c:=⟨s[i],by simp[D]⟩
  have M:s.drop i=c::s.drop (i+1):=by rw[LU D];congr 1;have:=LB D;rw[N] at this;exact(QQc this).symm
  have B:IntKind.i64.wrap ((i:Int)+1)=((i+1:Nat):Int):=by rw[af];omega
  obtain⟨X,C,y⟩:=ih (i+1) (by omega) (by omega);subst J;unfold ga;by_cases u:c.toNat<48
  .have R:isD c=false:=by unfold isD;simp;omega
   have Z :((c.toNat:Int)<48):=by omega
   simp[h3,H,U,N,Z,M,R]
  .have Z :¬((c.toNat:Int)<48):=by omega
   by_cases o:57<c.toNat
   .have R:isD c=false:=by unfold isD;simp;omega
    have S :(57<(c.toNat:Int)):=by omega
    simp[h3,H,U,N,Z,S,M,R]
   .have R:isD c=true:=by unfold isD;simp;omega
    have S :¬(57<(c.toNat:Int)):=by omega
    refine⟨X,?_,?_⟩
    .simp[h3,H,U,N,Z,S,M,R,B]
     simp at C;exact C
    .rw[M];simpa [R] using y
theorem z8(J:s.length<K)(I:ah f138=[b])(H:lv b=[33]):
  ∃F:Env->Bool->Env,∀Z d,(aa Z 3=.str s/\aa Z 32=.int .i64 s.length/\aa Z 33=.int .i64 0)->
   aO (aL prog) lv O K 47 0 true (.loop b) ⟨Z,[],d⟩=some (if s.all isD then .exit 0 else .ret,⟨F Z d,[],d⟩)/\(s.all isD=false->aa (F Z d) 2=.int .i64 2):=by
 refine vy (p:=fun Z _=>aa Z 3=.str s/\aa Z 32=.int .i64 s.length/\aa Z 33=.int .i64 0) (q:=fun Z d X =>aO (aL prog) lv O K 47 0 true (.loop b) ⟨Z,[],d⟩=some (if s.all isD then .exit 0 else .ret,⟨X,[],d⟩)/\(s.all isD=false->aa X 2=.int .i64 2)) ?_;rintro Z d ⟨h3,h32,h33⟩;obtain⟨U,V,S⟩:=Bt (O:=O) (K:=K) (lv:=lv) s hs Z d h3 h32 I (K-1) 0 (by omega) (by omega);refine⟨U,?_,by simpa using S⟩;rw[bw,H];have R:au [33] (ae b) Z ((33,.int .i64 (0:Nat))::Z)=au [33] (ae b) Z Z:=by simp[au,h33]
 rw[R,show K-1+1=K by omega] at V;simpa using V
end
def okT(mn:Bool)(t:List UInt8):Bool:=match t with
 | []=>false
 |c::r=>decide (r.length<200)&& !(c==48&&(decide (0<r.length)||mn))&&(c::r).all isD
theorem Zh{c:UInt8}:((c.toNat:Int)=48)↔c=48:=by
 constructor
 .intro e
  apply UInt8.toNat_inj.1;have:c.toNat=48:=by omega
  rw[this];rfl
 .rintro rfl;rfl
theorem HN(s:List UInt8)(hs:s.length<=1000000000)(mem:Mem):bz prog 138 [.str s] mem (.int .i64 (if okT (Lib.hasPrefix s [45]) (Lib.trimPrefix s [45]) then 0 else 2)) mem:=by
 have X:bq prog 138=some f138:=by kernel_rfl
 refine dE ep (lv:=fun _=>[33]) (K:=s.length+1) rfl rfl ?_ mem;have M:(Lib.trimPrefix s [45]).length<=s.length:=by unfold Lib.trimPrefix;split<;>simp
 cases htp:Lib.trimPrefix s [45] with
 |nil=>simp[ad,X,f138,ai,an,htp,okT]
 |cons c r=>
  rw[htp] at M;simp only[List.length_cons] at M;obtain⟨b,Q⟩:∃b,ah f138=[b]:=⟨_,rfl⟩
  obtain⟨F,S⟩:=z8 (O:=ai an) (K:=s.length+1) (lv:=fun _=>[33]) (c::r) (by simp;omega) (by simp;omega) Q rfl;simp[ah,aw,f138] at Q;subst Q;simp only[List.length_cons] at S;by_cases R:r.length<200
  .have Z :¬(200<(r.length:Int)+1):=by omega
   by_cases N:c=48
   .subst N
    by_cases h3:0<r.length
    .have V :1<(r.length:Int)+1:=by omega
     simp[ad,X,f138,ai,an,htp,okT,R,Z,h3,V]
    .have V :¬1<(r.length:Int)+1:=by omega
     have G:r=[]:=GT (by omega);subst G;cases hmn:Lib.hasPrefix s [45] with
     |true=>simp[ad,X,f138,ai,an,htp,okT,hmn]
     |false=>
      have D:isD 48=true:=by decide
      simp[ad,X,f138,ai,an,htp,okT,hmn,S,D]
   .have U :¬((c.toNat:Int)=48):=fun e=>N (Zh.1 e)
    cases I':(c::r).all isD with
    |true=>simp[ad,X,f138,ai,an,htp,okT,R,Z,N,U,S,I']
    |false=>simp[ad,X,f138,ai,an,htp,okT,R,Z,U,S,I']
  .have Z :(200<(r.length:Int)+1):=by omega
   simp[ad,X,f138,ai,an,htp,okT,R,Z]
theorem PI(q:Rat)(H:(aJ q).length<=1000000000)(mem:Mem):bz prog 81 [.str (aJ q)] mem (.str (aJ (-q))) mem:=by
 have X:bq prog 81=some f81:=by kernel_rfl
 refine az (ar _) ?_ mem;by_cases Z:q=0
 .subst Z
  simp[ad,X,f81,bk]
 .have N:¬q.num=0:=fun e=>Z (qe.1 e)
  by_cases S:q.num<0
  .have e:=iX S
   have V:(45::aJ (-q)==[48])=false:=by rw[<-e,bk];simpa using Z
   rw[e];have h3:(1:Int)<=((aJ (-q)).length:Int)+1:=by omega
   simp[ad,X,f81,V,h3]
  .have e:=nh (q:=q) (by omega)
   obtain⟨c,r,U,R⟩:=kP (q:=q) (by omega);have V:(c::r==[48])=false:=by rw[<-U,bk];simpa using Z
   have Q:=ff R;rw[e,U];rw[U] at H;simp only[List.length_cons] at H;have h3:1+(r.length+1)<=9223372036854775807:=by omega
   simp[ad,X,f81,V,Q,h3,ft]
theorem Bp(q:Rat)(mem:Mem):bz prog 178 [.str (aJ q)] mem (.int .i64 (kU q)) mem:=by
 have X:bq prog 178=some f178:=by kernel_rfl
 refine az (ar _) ?_ mem;by_cases Z:q=0
 .subst Z
  have:kU 0=0:=rfl;simp[ad,X,f178,bk,this]
 .have R:¬q.num=0:=fun e=>Z (qe.1 e)
  by_cases V:q.num<0
  .have e:=iX V
   have U:(45::aJ (-q)==[48])=false:=by rw[<-e,bk];simpa using Z
   have h3:0<((aJ (-q)).length:Int)+1:=by omega
   rw[e];simp[ad,X,f178,U,kU,jI,V,h3]
  .obtain⟨c,r,S,Q⟩:=kP (q:=q) (by omega)
   have U:(c::r==[48])=false:=by rw[<-S,bk];simpa using Z
   have N:=ff Q;have h3:0<(r.length:Int)+1:=by omega
   rw[S];simp[ad,X,f178,U,N,h3,kU,jI,V,R]
theorem PC(n:Int)(d:Nat)(H:(bH n).length<=1000000000)(hd:(aj d).length<=1000000000)(mem:Mem):bz prog 206 [.str (bH n),.str (aj d)] mem (.str (if d=1 then bH n else bH n++47::aj d)) mem:=by
 have Z:bq prog 206=some f206:=by kernel_rfl
 refine az (ar _) ?_ mem;by_cases h:d=1
 .subst h
  have:aj 1=[49]:=rfl;simp[ad,Z,f206,this]
 .have X:(aj d==[49])=false:=by rw[beq_eq_false_iff_ne];intro e;exact h (AY (e.trans (show [49]=aj 1 from rfl)))
  have V:(bH n).length+1<=9223372036854775807:=by omega
  have U:(bH n).length+1+(aj d).length<=9223372036854775807:=by omega
  simp[ad,Z,f206,X,h,V,U,ft]
theorem MO(q:Rat)(H:(aJ q).length<=1000000000)(mem:Mem):bz prog 131 [.str (aJ q)] mem (.tuple [.str (bH q.num),.str (aj q.den)]) mem:=by
 have V:bq prog 131=some f131:=by kernel_rfl
 refine az ep ?_ mem;have Z:=EH q;by_cases h:q.den=1
 .have X:aj 1=[49]:=rfl
  have e:aJ q=bH q.num:=by unfold aJ;rw[if_pos h]
  rw[if_pos h,e] at Z;rw[e] at H;rw[e];simp[ad,V,f131,ai,an,H,Z,h,X]
 .have e:aJ q=bH q.num++47::aj q.den:=by unfold aJ;rw[if_neg h]
  rw[if_neg h] at Z;have U:(0:Int)<=(bH q.num).length:=by omega
  have X:List.drop ((bH q.num).length+1) (bH q.num++47::aj q.den)=aj q.den:=by rw[List.drop_append];simp
  have S:List.take (bH q.num).length (bH q.num++47::aj q.den)=bH q.num:=List.take_left' rfl;rw[e] at H Z;rw[e];simp only[Nm,List.length_cons] at H;simp[ad,V,f131,ai,an,H,Z,X]
variable{b2:Code}
theorem Af(s rest:List UInt8)(W:Nat)(hs:s.length<=1000000000)(Y:rest=[]\/∃r,rest=47::r)(I:Env)(d:Bool)(h0:aa I 0=.str s)(h7:aa I 7=.int .i64 W)(J:ah f129=[b,b2]):
  ∀(H:List UInt8) (i j acc k:Nat),s.drop i=H++rest->H.all isD=true->i=W+j->i<=s.length->acc<10 ^ j->j<=9->H.length<=k->
   ∃Z,(j+H.length<=9->ga [5,2,3] (ae b) I 0 (aO (aL prog) lv O K 73 0 true b) (k+1) ⟨au [5,2,3] (ae b) I ((5,.int .i64 i)::(2,.int .i64 acc)::I),[],d⟩=some (.exit 0,⟨Z,[],d⟩)/\
     aa Z 5=.int .i64 ((i+H.length:Nat):Int)/\aa Z 2=.int .i64 (vN acc H)/\aa Z 0=.str s/\aa Z 6=aa I 6/\aa Z 3=aa I 3)/\
    (9<j+H.length->ga [5,2,3] (ae b) I 0 (aO (aL prog) lv O K 73 0 true b) (k+1) ⟨au [5,2,3] (ae b) I ((5,.int .i64 i)::(2,.int .i64 acc)::I),[],d⟩=some (.ret,⟨Z,[],d⟩)/\
     aa Z 2=.int .i64 0/\aa Z 3=.int .i64 0/\aa Z 4=.bool false):=by
 simp[ah,aw,f129] at J;obtain⟨J,_⟩:=J;intro H;induction H with
 |nil=>
  intro i j acc k V _ u hi o m _;subst J;rcases Y with rfl | ⟨r,rfl⟩
  .have C':i=s.length:=by have:=congrArg List.length V;simp at this;omega
   subst C';have R:¬(9<j):=by omega
   simp[ga,h0,R,m,dR]
  .have A':i<s.length:=by have:=congrArg List.length V;simp at this;omega
   have X :(i:Int)<s.length:=by omega
   have Q:s[i]? =some 47:=by have:=congrArg List.head? V;rw[List.head?_drop] at this;simpa using this
   have R:¬(9<j):=by omega
   simp[ga,h0,X,Q,R,m,dR]
 |cons c H ih=>
  intro i j acc k V y u hi o m hk;simp only[QQX,Ar] at y;have A':i<s.length:=by have:=congrArg List.length V;simp at this;omega
  have X :(i:Int)<s.length:=by omega
  have Q:s[i]? =some c:=by have:=congrArg List.head? V;rw[List.head?_drop] at this;simpa using this
  have hc1:=tW y.1;have hc2:48<=c.toNat/\c.toNat<=57:=by have:=y.1;unfold isD at this;simpa using this
  have U:¬((c.toNat:Int)=47):=by omega
  have S:IntKind.i64.wrap ((i:Int)-W)=j:=by rw[af];omega
  obtain⟨k,rfl⟩:∃k',k=k' +1:=⟨k-1,by simp at hk;omega⟩
  by_cases hj9:j=9
  .subst hj9
   subst J;have R:¬(9+(H.length+1)<=9):=by omega
   simp[ga,h0,h7,X,Q,U,S,R]
  .have N:¬((j:Int)=9):=by omega
   have hp:10 ^ j<=100000000:=Y2 (L9 (by omega) (show j<=8 by omega)) (by decide);obtain⟨v,hv⟩:=xE (α:=Nat) (c.toNat-48);obtain⟨a2,ha2⟩:=xE (α:=Nat) (10*acc+v);obtain⟨i2,M⟩:=xE (α:=Nat) (i+1);have G:IntKind.i64.wrap (10*(acc:Int))=10*(acc:Int):=af;have F:IntKind.u8.wrap ((c.toNat:Int)-48)=(v:Int):=by rw[HI (by omega) (by omega)];omega
   have D:IntKind.i64.wrap (v:Int)=(v:Int):=af;have C:IntKind.i64.wrap (10*(acc:Int)+(v:Int))=(a2:Int):=by rw[af];omega
   have B:IntKind.i64.wrap ((i:Int)+1)=(i2:Int):=by rw[af];omega
   have aaP :a2<10 ^ (j+1):=by rw[Nat.pow_succ];omega
   have hd' :s.drop i2=H++rest:=by rw[M,<-QXQ,V];simp
   obtain⟨Z,e1,e2⟩:=ih i2 (j+1) a2 k hd' y.2 (by omega) (by omega) aaP (by omega) (by simp at hk;omega);subst J;refine⟨Z,fun hle=>?_,fun hgt=>?_⟩
   .obtain⟨f1,f2,f3,f4,f5⟩:=e1 (by simp at hle;omega)
    refine⟨?_,by rw[f2,M,List.length_cons,show i+1+H.length=i+(H.length+1) by omega],by rw[f3,eR,ha2,hv],f4,f5⟩;rw[ga];simp[h0,h7,X,Q,U,S,N,G,F,D,C,B];simp at f1;exact f1
   .obtain⟨f1,f2⟩:=e2 (by simp at hgt;omega)
    refine⟨?_,f2⟩;rw[ga];simp[h0,h7,X,Q,U,S,N,G,F,D,C,B];simp at f1;exact f1
variable{b1:Code}
theorem Ag(s:List UInt8)(W:Nat)(hs:s.length<=1000000000)(I:Env)(d:Bool)(h0:aa I 0=.str s)(Y:aa I 7=.int .i64 W)(J:ah f129=[b1,b]):
  ∀(H:List UInt8) (i j acc k:Nat),s.drop i=H->H.all isD=true->i=W+j->i<=s.length->acc<10 ^ j->j<=9->H.length<=k->
   ∃Z,(j+H.length<=9->ga [5,3,2] (ae b) I 0 (aO (aL prog) lv O K 73 0 true b) (k+1) ⟨au [5,3,2] (ae b) I ((5,.int .i64 i)::(3,.int .i64 acc)::I),[],d⟩=some (.exit 2,⟨Z,[],d⟩)/\
     aa Z 5=.int .i64 ((i+H.length:Nat):Int)/\aa Z 3=.int .i64 (vN acc H)/\aa Z 0=.str s/\aa Z 2=aa I 2)/\
    (9<j+H.length->ga [5,3,2] (ae b) I 0 (aO (aL prog) lv O K 73 0 true b) (k+1) ⟨au [5,3,2] (ae b) I ((5,.int .i64 i)::(3,.int .i64 acc)::I),[],d⟩=some (.ret,⟨Z,[],d⟩)/\
     aa Z 2=.int .i64 0/\aa Z 3=.int .i64 0/\aa Z 4=.bool false):=by
 simp[ah,aw,f129] at J;obtain⟨_,J⟩:=J;intro H;induction H with
 |nil=>
  intro i j acc k U _ C hi B hj _;subst J;have C':i=s.length:=by have:=congrArg List.length U;simp at this;omega
  subst C';have y:¬(9<j):=by omega
  simp[ga,h0,y,hj,dR]
 |cons c H ih=>
  intro i j acc k U D C hi B hj hk;simp only[QQX,Ar] at D;have A':i<s.length:=by have:=congrArg List.length U;simp at this;omega
  have X :(i:Int)<s.length:=by omega
  have hc:s[i]? =some c:=by have:=congrArg List.head? U;rw[List.head?_drop] at this;simpa using this
  have hc1:=tW D.1;have hc2:48<=c.toNat/\c.toNat<=57:=by have:=D.1;unfold isD at this;simpa using this
  have V:IntKind.i64.wrap ((i:Int)-W)=j:=by rw[af];omega
  obtain⟨k,rfl⟩:∃k',k=k' +1:=⟨k-1,by simp at hk;omega⟩
  by_cases u:j=9
  .subst u
   subst J;have y:¬(9+(H.length+1)<=9):=by omega
   simp[ga,h0,Y,X,V,y]
  .have S:¬((j:Int)=9):=by omega
   have hp:10 ^ j<=100000000:=Y2 (L9 (by omega) (show j<=8 by omega)) (by decide);obtain⟨v,hv⟩:=xE (α:=Nat) (c.toNat-48);obtain⟨o,m⟩:=xE (α:=Nat) (10*acc+v);obtain⟨i2,R⟩:=xE (α:=Nat) (i+1);have Q:IntKind.i64.wrap (10*(acc:Int))=10*(acc:Int):=af;have N:IntKind.u8.wrap ((c.toNat:Int)-48)=(v:Int):=by rw[HI (by omega) (by omega)];omega
   have M:IntKind.i64.wrap (v:Int)=(v:Int):=af;have G:IntKind.i64.wrap (10*(acc:Int)+(v:Int))=(o:Int):=by rw[af];omega
   have F:IntKind.i64.wrap ((i:Int)+1)=(i2:Int):=by rw[af];omega
   have aaP :o<10 ^ (j+1):=by rw[Nat.pow_succ];omega
   have hd' :s.drop i2=H:=by rw[R,<-QXQ,U];simp
   obtain⟨Z,e1,e2⟩:=ih i2 (j+1) o k hd' D.2 (by omega) (by omega) aaP (by omega) (by simp at hk;omega);subst J;refine⟨Z,fun hle=>?_,fun hgt=>?_⟩
   .obtain⟨f1,f2,f3,f4,f5⟩:=e1 (by simp at hle;omega)
    refine⟨?_,by rw[f2,R,List.length_cons,show i+1+H.length=i+(H.length+1) by omega],by rw[f3,eR,m,hv],f4,f5⟩;rw[ga];simp[h0,Y,X,hc,V,S,Q,N,M,G,F];simp at f1;exact f1
   .obtain⟨f1,f2⟩:=e2 (by simp at hgt;omega)
    refine⟨?_,f2⟩;rw[ga];simp[h0,Y,X,hc,V,S,Q,N,M,G,F];simp at f1;exact f1
theorem tO(s rest H:List UInt8)(I:Nat)(hs:s.length<=1000000000)(W:rest=[]\/∃r,rest=47::r)(hd:s.drop I=H++rest)(Y:I<=s.length)(I':H.all isD=true)(hK:s.length<K)(hb:ah f129=[b,b2])(J:lv b=[5,2,3]):
  ∃F:Env->Bool->Env,∀Z d,(aa Z 0=.str s/\aa Z 7=.int .i64 I/\aa Z 5=.int .i64 I/\aa Z 2=.int .i64 0)->
   (H.length<=9->aO (aL prog) lv O K 73 0 true (.loop b) ⟨Z,[],d⟩=some (.exit 0,⟨F Z d,[],d⟩)/\
     aa (F Z d) 5=.int .i64 ((I+H.length:Nat):Int)/\aa (F Z d) 2=.int .i64 (vN 0 H)/\aa (F Z d) 0=.str s/\aa (F Z d) 6=aa Z 6/\aa (F Z d) 3=aa Z 3)/\
    (9<H.length->aO (aL prog) lv O K 73 0 true (.loop b) ⟨Z,[],d⟩=some (.ret,⟨F Z d,[],d⟩)/\
     aa (F Z d) 2=.int .i64 0/\aa (F Z d) 3=.int .i64 0/\aa (F Z d) 4=.bool false):=by
 refine vy (p:=fun Z _=>aa Z 0=.str s/\aa Z 7=.int .i64 I/\aa Z 5=.int .i64 I/\aa Z 2=.int .i64 0)
  (q:=fun Z d X =>(H.length<=9->aO (aL prog) lv O K 73 0 true (.loop b) ⟨Z,[],d⟩=some (.exit 0,⟨X,[],d⟩)/\
     aa X 5=.int .i64 ((I+H.length:Nat):Int)/\aa X 2=.int .i64 (vN 0 H)/\aa X 0=.str s/\aa X 6=aa Z 6/\aa X 3=aa Z 3)/\
    (9<H.length->aO (aL prog) lv O K 73 0 true (.loop b) ⟨Z,[],d⟩=some (.ret,⟨X,[],d⟩)/\
     aa X 2=.int .i64 0/\aa X 3=.int .i64 0/\aa X 4=.bool false)) ?_
 rintro Z d ⟨h0,h7,h5,h2⟩;have V:H.length<=K-1:=by have:=congrArg List.length hd;simp at this;omega
 obtain⟨R,U,S⟩:=Af (O:=O) (K:=K) (lv:=lv) s rest I hs W Z d h0 h7 hb H I 0 0 (K-1) hd I' (by omega) Y (by simp) (by omega) V;have Q:au [5,2,3] (ae b) Z ((5,.int .i64 (I:Int))::(2,.int .i64 ((0:Nat):Int))::Z)=au [5,2,3] (ae b) Z Z:=by simp[au,h5,h2]
 rw[Q,show K-1+1=K by omega] at U S;rw[QQY] at U S;refine⟨R,?_,?_⟩
 .rw[bw,J];exact U
 .rw[bw,J];exact S
theorem tP(s H:List UInt8)(I:Nat)(hs:s.length<=1000000000)(hd:s.drop I=H)(W:I<=s.length)(Y:H.all isD=true)(hK:s.length<K)(hb:ah f129=[b1,b])(J:lv b=[5,3,2]):
  ∃F:Env->Bool->Env,∀Z d,(aa Z 0=.str s/\aa Z 7=.int .i64 I/\aa Z 5=.int .i64 I/\aa Z 3=.int .i64 0)->
   (H.length<=9->aO (aL prog) lv O K 73 0 true (.loop b) ⟨Z,[],d⟩=some (.exit 2,⟨F Z d,[],d⟩)/\
     aa (F Z d) 3=.int .i64 (vN 0 H)/\aa (F Z d) 2=aa Z 2)/\
    (9<H.length->aO (aL prog) lv O K 73 0 true (.loop b) ⟨Z,[],d⟩=some (.ret,⟨F Z d,[],d⟩)/\
     aa (F Z d) 2=.int .i64 0/\aa (F Z d) 3=.int .i64 0/\aa (F Z d) 4=.bool false):=by
 refine vy (p:=fun Z _=>aa Z 0=.str s/\aa Z 7=.int .i64 I/\aa Z 5=.int .i64 I/\aa Z 3=.int .i64 0)
  (q:=fun Z d X =>(H.length<=9->aO (aL prog) lv O K 73 0 true (.loop b) ⟨Z,[],d⟩=some (.exit 2,⟨X,[],d⟩)/\
     aa X 3=.int .i64 (vN 0 H)/\aa X 2=aa Z 2)/\
    (9<H.length->aO (aL prog) lv O K 73 0 true (.loop b) ⟨Z,[],d⟩=some (.ret,⟨X,[],d⟩)/\
     aa X 2=.int .i64 0/\aa X 3=.int .i64 0/\aa X 4=.bool false)) ?_
 rintro Z d ⟨h0,h7,h5,h3⟩;have V:H.length<=K-1:=by have:=congrArg List.length hd;simp at this;omega
 obtain⟨R,U,S⟩:=Ag (O:=O) (K:=K) (lv:=lv) s I hs Z d h0 h7 hb H I 0 0 (K-1) hd Y (by omega) W (by simp) (by omega) V;have Q:au [5,3,2] (ae b) Z ((5,.int .i64 (I:Int))::(3,.int .i64 ((0:Nat):Int))::Z)=au [5,3,2] (ae b) Z Z:=by simp[au,h5,h3]
 rw[Q,show K-1+1=K by omega] at U S;rw[QQY] at U S;refine⟨R,fun h=>?_,?_⟩
 .obtain⟨f1,_,f3,_,f5⟩:=U h
  rw[bw,J];exact⟨f1,f3,f5⟩
 .rw[bw,J];exact S
def eZ(c:Code):List Nat:=if (ae c).contains 17 then [5,2,3] else [5,3,2]
theorem yJ(q:Rat):∃Z,aJ q=(if q.num<0 then [45] else [])++(aj q.num.natAbs++Z)/\(Z=if q.den=1 then [] else 47::aj q.den):=by
 refine⟨if q.den=1 then [] else 47::aj q.den,?_,rfl⟩;have h:bH q.num=(if q.num<0 then [45] else [])++aj q.num.natAbs:=by
  cases hn:q.num with
  |ofNat u=>rw[if_neg (by simp)];rfl
  |negSucc u=>rw[if_pos (Int.negSucc_lt_zero u)];rfl
 unfold aJ;rw[h];split<;>simp
section
variable (q:Rat)(hl:(aJ q).length<=1000000000)
include q hl
theorem zV(hq:0<=q.num)(mem:Mem):bz prog 129 [.str (aJ q)] mem
  (if (aj q.num.natAbs).length<=9/\(q.den=1\/(aj q.den).length<=9) then .tuple [.int .i64 q.num,.int .i64 q.den,.bool true] else .tuple [.int .i64 0,.int .i64 0,.bool false]) mem:=by
 have o:bq prog 129=some f129:=by kernel_rfl
 refine dE (ar _) (lv:=eZ) (K:=(aJ q).length+1) rfl (by split<;>rfl) ?_ mem;obtain⟨S,m,V⟩:=yJ q;rw[if_neg (by omega),List.nil_append] at m;obtain⟨b1,b2,M⟩:∃b1 b2,ah f129=[b1,b2]/\eZ b1=[5,2,3]/\eZ b2=[5,3,2]:=⟨_,_,rfl,by decide,by decide⟩
 obtain⟨F,H⟩:=tO (O:=bC) (K:=(aJ q).length+1) (lv:=eZ) (aJ q) S (aj q.num.natAbs) 0 hl
  (by rw[V];split;exact .inl rfl;exact .inr ⟨_,rfl⟩) (by rw[List.drop_zero];exact m) (by omega) (dM _) (by omega) M.1 M.2.1
 obtain⟨c,r,G,hc⟩:=kP hq;have W:(aJ q)[0]? =some c:=by rw[G];rfl
 have U:=ff hc;have X:0<(aJ q).length:=by rw[G];simp only[List.length_cons];omega
 have j:∀h:0<(aJ q).length,(aJ q)[0]'h=c:=fun h=>by have:=LB h;rw[W] at this;exact(QQc this).symm
 have C':(aJ q).length=(aj q.num.natAbs).length+S.length:=by rw[m,Nm]
 have D:vN 0 (aj q.num.natAbs)=q.num.natAbs:=dP _;have C:((q.num.natAbs:Nat):Int)=q.num:=by omega
 have B:=M.1;simp[ah,aw,f129] at B;obtain⟨rfl,rfl⟩:=B;by_cases y:(aj q.num.natAbs).length<=9
 .have Z:=fun R d h=>(H R d h).1 y
  by_cases u:q.den=1
  .rw[if_pos u] at V
   have Y:((aj q.num.natAbs).length:Int)=((aJ q).length:Int):=by rw[C',V];simp
   rw[QQY] at Z;simp[ad,o,f129,j,U,X,Z,D,C,Y,u,y]
  .rw[if_neg u] at V
   have aa5:(aJ q).length=(aj q.num.natAbs).length+((aj q.den).length+1):=by rw[C',V,List.length_cons]
   have Y:¬((aj q.num.natAbs).length:Int)=((aJ q).length:Int):=by omega
   obtain⟨bg,J⟩:=xE (α:=Nat) ((aj q.num.natAbs).length+1);have hw:IntKind.i64.wrap (((aj q.num.natAbs).length:Int)+1)=(bg:Int):=by rw[af];omega
   obtain⟨F2,J'⟩:=tP (O:=bC) (K:=(aJ q).length+1) (lv:=eZ) (aJ q) (aj q.den) bg hl
    (by rw[m,V,J,List.drop_append];simp) (by omega) (dM _) (by omega) M.1 M.2.2
   have I:vN 0 (aj q.den)=q.den:=dP _;rw[QQY] at Z;by_cases Q:(aj q.den).length<=9
   .have N:=fun R d h=>(J' R d h).1 Q
    simp[ad,o,f129,j,U,X,Z,D,C,Y,u,y,hw,N,I,Q]
   .have N:=fun R d h=>(J' R d h).2 (by omega)
    simp[ad,o,f129,j,U,X,Z,Y,u,y,hw,N,Q]
 .have Z:=fun R d h=>(H R d h).2 (by omega)
  simp[ad,o,f129,j,U,X,Z,y]
theorem zU(hq:q.num<0)(mem:Mem):bz prog 129 [.str (aJ q)] mem
  (if (aj q.num.natAbs).length<=9/\(q.den=1\/(aj q.den).length<=9) then .tuple [.int .i64 q.num,.int .i64 q.den,.bool true] else .tuple [.int .i64 0,.int .i64 0,.bool false]) mem:=by
 have m:bq prog 129=some f129:=by kernel_rfl
 refine dE (ar _) (lv:=eZ) (K:=(aJ q).length+1) rfl (by split<;>rfl) ?_ mem;obtain⟨S,R,X⟩:=yJ q;rw[if_pos hq,List.singleton_append] at R;obtain⟨b1,b2,D⟩:∃b1 b2,ah f129=[b1,b2]/\eZ b1=[5,2,3]/\eZ b2=[5,3,2]:=⟨_,_,rfl,by decide,by decide⟩
 obtain⟨F,I⟩:=tO (O:=bC) (K:=(aJ q).length+1) (lv:=eZ) (aJ q) S (aj q.num.natAbs) 1 hl
  (by rw[X];split;exact .inl rfl;exact .inr ⟨_,rfl⟩) (by rw[R];rfl) (by rw[R];simp) (dM _) (by omega) D.1 D.2.1
 have Z:0<(aJ q).length:=by rw[R];simp
 have j:∀h:0<(aJ q).length,(aJ q)[0]'h=45:=fun h=>by
  have H:=LB h;have h2:(aJ q)[0]? =some 45:=by rw[R];rfl
  rw[h2] at H;exact(QQc H).symm
 have C':(aJ q).length=1+((aj q.num.natAbs).length+S.length):=by rw[R,List.length_cons,Nm,QXX]
 have C:vN 0 (aj q.num.natAbs)=q.num.natAbs:=dP _;have hub:q.num.natAbs<10 ^ (aj q.num.natAbs).length:=cf _;have B:=D.1;simp[ah,aw,f129] at B;obtain⟨rfl,rfl⟩:=B;by_cases G:(aj q.num.natAbs).length<=9
 .have V:=fun Q d h=>(I Q d h).1 G
  obtain⟨y,U⟩:=xE (α:=Nat) (1+(aj q.num.natAbs).length);rw[<-U] at V;have afk:10 ^ (aj q.num.natAbs).length<=1000000000:=Y2 (L9 (by omega) G) (by decide);have u:IntKind.i64.wrap (-((q.num.natAbs:Nat):Int))=q.num:=by rw[af];omega
  by_cases o:q.den=1
  .rw[if_pos o] at X
   have Y:(y:Int)=((aJ q).length:Int):=by rw[C',X,U];simp
   simp[ad,m,f129,j,Z,V,C,u,Y,o,G]
  .rw[if_neg o] at X
   have aa5:(aJ q).length=y+((aj q.den).length+1):=by rw[C',X,List.length_cons,U];omega
   have Y:¬(y:Int)=((aJ q).length:Int):=by omega
   obtain⟨bg,W⟩:=xE (α:=Nat) (y+1);have hw:IntKind.i64.wrap ((y:Int)+1)=(bg:Int):=by rw[af];omega
   obtain⟨F2,J'⟩:=tP (O:=bC) (K:=(aJ q).length+1) (lv:=eZ) (aJ q) (aj q.den) bg hl
    (by rw[R,X,W,U,show 1+(aj q.num.natAbs).length+1=((aj q.num.natAbs).length+1)+1 by omega,List.drop_succ_cons,List.drop_append];simp) (by omega) (dM _) (by omega) D.1 D.2.2
   have J:vN 0 (aj q.den)=q.den:=dP _;by_cases N:(aj q.den).length<=9
   .have M:=fun Q d h=>(J' Q d h).1 N
    simp[ad,m,f129,j,Z,V,C,u,Y,o,G,hw,M,J,N]
   .have M:=fun Q d h=>(J' Q d h).2 (by omega)
    simp[ad,m,f129,j,Z,V,Y,o,G,hw,M,N]
 .have V:=fun Q d h=>(I Q d h).2 (by omega)
  simp[ad,m,f129,j,Z,V,G]
theorem H8(mem:Mem):bz prog 129 [.str (aJ q)] mem
  (if (aj q.num.natAbs).length<=9/\(q.den=1\/(aj q.den).length<=9) then .tuple [.int .i64 q.num,.int .i64 q.den,.bool true] else .tuple [.int .i64 0,.int .i64 0,.bool false]) mem:=by
 by_cases Z:0<=q.num
 .exact zV q hl Z mem
 .exact zU q hl (by omega) mem
end
def euc:Nat->Int->Int->Int
 |0,x,_=>x
 |k+1,x,y=>if y=0 then x else euc k y (x.tmod y)
theorem sS:∀(k:Nat) (x y:Int),y.natAbs<k->(euc k x y).natAbs=x.natAbs.gcd y.natAbs
 |0,_,_,h=>by omega
 |k+1,x,y,h=>by
  unfold euc;by_cases Z:y=0
  .subst Z;rw[if_pos rfl];simp
  .rw[if_neg Z]
   have X:(x.tmod y).natAbs<k:=by rw[Int.natAbs_tmod];have:=Nat.mod_lt x.natAbs (show 0<y.natAbs by omega);omega
   rw[sS k y (x.tmod y) X,Int.natAbs_tmod,Nat.gcd_comm x.natAbs,Nat.gcd_rec y.natAbs x.natAbs,Nat.gcd_comm]
theorem Ch(H:Env)(d:Bool)(I:ah f130=[b]):
  ∀(k:Nat) (x y:Int),y.natAbs<k->∃Z,ga [5,6] (ae b) H 0 (aO (aL prog) lv O K 35 0 true b) k ⟨au [5,6] (ae b) H ((5,.int .i64 x)::(6,.int .i64 y)::H),[],d⟩=
   some (.exit 0,⟨Z,[],d⟩)/\aa Z 5=.int .i64 (euc k x y)/\aa Z 0=aa H 0/\aa Z 1=aa H 1/\aa Z 4=aa H 4:=by
 simp[ah,aw,f130] at I;intro k;induction k with
 |zero=>intro x y h;omega
 |succ k ih=>
  intro x y Q;by_cases X:y=0
  .subst I
   subst X;simp[ga,euc]
  .have U:(x.tmod y).natAbs<k:=by rw[Int.natAbs_tmod];have:=Nat.mod_lt x.natAbs (show 0<y.natAbs by omega);omega
   obtain⟨Z,V,S,R⟩:=ih y (x.tmod y) U;subst I;refine⟨Z,?_,by rw[S,euc,if_neg X],R⟩;rw[ga];simp[X];simp at V;exact V
theorem Ai(I:ah f130=[b])(H:lv b=[5,6])(n:Int)(m:Nat)(J:m<K):
  ∃F:Env->Bool->Env,∀Z d,(aa Z 5=.int .i64 n/\aa Z 6=.int .i64 m)->
   aO (aL prog) lv O K 35 0 true (.loop b) ⟨Z,[],d⟩=some (.exit 0,⟨F Z d,[],d⟩)/\aa (F Z d) 5=.int .i64 (euc K n m)/\
    aa (F Z d) 0=aa Z 0/\aa (F Z d) 1=aa Z 1/\aa (F Z d) 4=aa Z 4:=by
 refine vy (p:=fun Z _=>aa Z 5=.int .i64 n/\aa Z 6=.int .i64 m) (q:=fun Z d X =>aO (aL prog) lv O K 35 0 true (.loop b) ⟨Z,[],d⟩=some (.exit 0,⟨X,[],d⟩)/\aa X 5=.int .i64 (euc K n m)/\
    aa X 0=aa Z 0/\aa X 1=aa Z 1/\aa X 4=aa Z 4) ?_
 rintro Z d ⟨h5,h6⟩;obtain⟨U,V,S⟩:=Ch (O:=O) (K:=K) (lv:=lv) Z d I K n m (by simpa using J);have R:au [5,6] (ae b) Z ((5,.int .i64 n)::(6,.int .i64 (m:Int))::Z)=au [5,6] (ae b) Z Z:=by simp[au,h5,h6]
 rw[R] at V;exact⟨U,by rw[bw,H];exact V,S⟩
theorem Il(n:Int)(m:Nat)(hn:n.natAbs<=4611686018427387904)(H:m≠0)(hm:m<=4611686018427387904)(mem:Mem):bz prog 130 [.int .i64 n,.int .i64 m] mem (.str (aJ (Rat.normalize n m H))) mem:=by
 have I:bq prog 130=some f130:=by kernel_rfl
 refine dE ep (lv:=fun _=>[5,6]) (K:=m+1) rfl rfl ?_ mem;obtain⟨b,hb⟩:∃b,ah f130=[b]:=⟨_,rfl⟩
 obtain⟨F,C⟩:=Ai (O:=ai an) (K:=m+1) (lv:=fun _=>[5,6]) hb rfl n m (by omega);simp[ah,aw,f130] at hb;subst hb;have hg:=sS (m+1) n m (by simp);generalize euc (m+1) n m=g at C hg;rw[Int.natAbs_natCast] at hg;have B:n.natAbs.gcd m∣m:=Nat.gcd_dvd_right _ _;have hgn:n.natAbs.gcd m∣n.natAbs:=Nat.gcd_dvd_left _ _;have hgp:0<n.natAbs.gcd m:=Nat.gcd_pos_of_pos_right _ (by omega);have hgm:n.natAbs.gcd m<=m:=Nat.le_of_dvd (by omega) B;obtain⟨N,aet,Z⟩:∃N,aJ (Rat.normalize n m H)=N/\N=if m / n.natAbs.gcd m=1 then bH (n / (n.natAbs.gcd m:Nat)) else bH (n / (n.natAbs.gcd m:Nat))++47::aj (m / n.natAbs.gcd m):=
  ⟨_,rfl,by rw[Rat.normalize_eq];rfl⟩
 rw[aet];generalize n.natAbs.gcd m=G at*;have M:(G:Int)∣n:=Int.ofNat_dvd_left.2 hgn;have hdm:(G:Int)∣(m:Int):=Int.ofNat_dvd.2 B;obtain⟨p,hp⟩:=xE (α:=Int) (n / (G:Int));obtain⟨e,he⟩:=xE (α:=Nat) (m / G);rw[<-hp,<-he] at Z;have V:IntKind.i64.wrap (n.tdiv (G:Int))=p:=by
  rw[Int.tdiv_eq_ediv_of_dvd M,<-hp];have:p.natAbs<=n.natAbs:=by rw[hp,<-Int.tdiv_eq_ediv_of_dvd M,Int.natAbs_tdiv];exact Nat.div_le_self _ _
  exact af
 have hq2:IntKind.i64.wrap ((m:Int).tdiv (G:Int))=(e:Int):=by
  have h1:(m:Int).tdiv (G:Int)=(e:Int):=by rw[he,<-Int.ofNat_tdiv]
  have h2:e<=m:=by rw[he];exact Nat.div_le_self _ _
  rw[h1];exact af
 have U :IntKind.i64.wrap ((m:Int) / (G:Int))=(e:Int):=by rw[<-Int.tdiv_eq_ediv_of_dvd hdm];exact hq2
 have S:¬G=0:=by omega
 have hpn: -4611686018427387904<=p/\p<=4611686018427387904:=by
  have:p.natAbs<=n.natAbs:=by rw[hp,<-Int.tdiv_eq_ediv_of_dvd M,Int.natAbs_tdiv];exact Nat.div_le_self _ _
  omega
 have hem:e<=4611686018427387904:=by
  have h2:e<=m:=by rw[he];exact Nat.div_le_self _ _
  omega
 have R:ef p=true:=by simp only[ef,Ar,Cs];omega
 have y:ef (e:Int)=true:=by simp only[ef,Ar,Cs];omega
 have u:bH (e:Int)=aj e:=rfl;have o:(g<0->IntKind.i64.wrap (-g)=(G:Int))/\(¬g<0->g=(G:Int)):=⟨fun h=>by rw[af];omega,fun h=>by omega⟩;have hlp:(bH p).length<=21:=by rw[Ur];exact Lib.itoa_length_le p (by omega) (by omega)
 have hle:(aj e).length<=19:=ba (by omega) (Nat.lt_of_le_of_lt hem (by decide));have j:(bH p).length+1<=9223372036854775807:=by omega
 have Y:(bH p).length+1+(aj e).length<=9223372036854775807:=by omega
 by_cases Q:g<0
 .have W:=o.1 Q
  by_cases X:e=1
  .simp[ad,I,f130,ai,an,C,Q,W,S,V,U,X,R,Z]
  .have D :¬(e:Int)=1:=by omega
   simp[ad,I,f130,ai,an,C,Q,W,S,V,U,X,D,R,y,u,Z,j,Y,ft]
 .have W:=o.2 Q
  have J:¬(G:Int)<0:=by omega
  by_cases X:e=1
  .simp[ad,I,f130,ai,an,C,J,W,S,V,U,X,R,Z]
  .have D :¬(e:Int)=1:=by omega
   simp[ad,I,f130,ai,an,C,J,W,S,V,U,X,D,R,y,u,Z,j,Y,ft]
end Go.Proofs
