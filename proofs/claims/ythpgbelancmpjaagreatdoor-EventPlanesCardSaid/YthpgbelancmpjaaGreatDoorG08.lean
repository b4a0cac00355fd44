/- See G38. -/
import Derived.Test.YthpgbelancmpjaaGreatDoorG07
import Derived.Lib.ItoaLen
set_option linter.all false
namespace Go.Proofs
open Go.Eng
open Tryz
theorem QA(n:Int)(mem:Mem):kO prog 207 [.str (bF n)] mem (.int .i64 (jz n)) mem:=by
 have Z:aZ prog 207=some f207:=by kernel_rfl
 refine aA er ?_ mem;by_cases X:n=0
 .simp[ae,Z,f207,fU,jz,X]
 .by_cases V:n<0
  .simp[ae,Z,f207,ah,ak,fU,aK,V,X,jz]
  .simp[ae,Z,f207,ah,ak,fU,aK,V,X,jz]
theorem UK(n:Int)(H:dY n=true)(mem:Mem):kO prog 143 [.int .i64 n] mem (.str (bF n)) mem:=by
 have Z:aZ prog 143=some f143:=by kernel_rfl
 refine aA er ?_ mem;simp[ae,Z,f143,ah,ak,H]
theorem Gp(r c:Bool):WT (aX prog) 272 r c .nilIface .nilIface=if r||c then some true else none:=Rb (by kernel_rfl) r c
theorem M1(n:Int)(m:Int)(H:m<=18)(I:(bF n).length<=1000000000)(mem:Mem):kO prog 209 [.str (bF n),.int .i64 m] mem (if (bF n).length<=m then .tuple [.int .i64 n,.bool true] else .tuple [.int .i64 0,.bool false]) mem:=by
 have X:aZ prog 209=some f209:=by kernel_rfl
 refine dc er (lv:=fun _=>[]) (K:=1) rfl (by split<;>rfl) ?_ mem;by_cases h:((bF n).length:Int)<=m
 .have Z:¬m<((bF n).length:Int):=by omega
  have h3:(bF n).length<=18:=by omega
  simp[ae,X,f209,ah,ak,h,Z,h3,nK,Gp]
 .have Z:m<((bF n).length:Int):=by omega
  simp[ae,X,f209,h,Z]
noncomputable def aS(f:FuncId)(args:List AV):Option AV:=
 match f,args with
 |207,[.str s]=>match iE s with
  |some n=>some (.int .i64 (jz n))
  |none=>none
 |_,_=>ak f args
theorem rD:qS prog (ah aS):=by
 have X:=er;refine bM fun f Z v h mem=>?_
 unfold aS at h;split at h
 .split at h
  next n V=>cases h;rw[bE V];exact QA n mem
  .cases h
 .have:=X.fn f Z mem ⟨v,none,[]⟩ (by unfold ah;simp only;rw[h])
  simpa [afl.mem] using this
theorem R7(n:Int)(H:(bF n).length<=1000000000)(mem:Mem):kO prog 205 [.str (bF n)] mem (.str (bF (-n))) mem:=by
 have Z:aZ prog 205=some f205:=by kernel_rfl
 refine aA rD ?_ mem;by_cases V:n=0
 .subst V
  simp[ae,Z,f205,ah,aS,aD,jz]
 .by_cases X:n<0
  .have R:1<=(bF n).length:=rW n
   have h3:((1:Int)<=(bF n).length):=by omega
   have U:List.take ((bF n).length-1) (List.drop 1 (bF n))=bF (-n):=by rw[B5 (by simp),G4 X]
   simp[ae,Z,f205,ah,aS,aD,jz,X,h3];rw[<-List.drop_one];exact U
  .have S:1+(bF n).length<=9223372036854775807:=by omega
   simp[ae,Z,f205,ah,aS,aD,jz,V,X,S,fM,kQ (show 0<n by omega)]
theorem Du(a b:Int)(mem:Mem):kO prog 139 [.str (bF a),.str (bF b)] mem (.int .i64 (MG a b)) mem:=by
 have X:aZ prog 139=some f139:=by kernel_rfl
 refine aA rD ?_ mem;rw[WX];have R:∀n,-1<=jz n/\jz n<=1:=by intro n;unfold jz;repeat' split<;>omega
 by_cases V:jz a=jz b
 .by_cases U:(ai a.natAbs).length=(ai b.natAbs).length
  .have O:IntKind.i64.wrap (jz b*kv a.natAbs b.natAbs)=jz b*kv a.natAbs b.natAbs:=by
    have U:=R b;have Z: -1<=kv a.natAbs b.natAbs/\kv a.natAbs b.natAbs<=1:=by unfold kv;repeat' split<;>omega
    have h3: -1<=jz b*kv a.natAbs b.natAbs/\jz b*kv a.natAbs b.natAbs<=1:=by
     generalize jz b=x at*;generalize kv a.natAbs b.natAbs=y at*;have N:x= -1\/x=0\/x=1:=by omega
     rcases N with rfl | rfl | rfl<;>omega
    exact af
   simp[ae,X,f139,ah,aS,ak,aD,aG,V,U,yd U,O]
  .have M:IntKind.i64.wrap (- jz b)= - jz b:=by have:=R b;exact af
   have S:¬((ai a.natAbs).length:Int)=(ai b.natAbs).length:=by omega
   by_cases Z:(ai a.natAbs).length<(ai b.natAbs).length
   .simp[ae,X,f139,ah,aS,ak,aD,aG,V,U,S,Z,M]
   .simp[ae,X,f139,ah,aS,ak,aD,aG,V,U,S,Z]
 .by_cases Z:jz a<jz b
  .simp[ae,X,f139,ah,aS,aD,V,Z]
  .simp[ae,X,f139,ah,aS,aD,V,Z]
variable{K:Nat}{O:y9}{b:Code}{lv:Code->List Nat}
section
variable (s:List UInt8)(hs:s.length<=1000000000)
include s hs
theorem Bl(I:Env)(d:Bool)(h3:ad I 3=.str s)(H:ad I 32=.int .i64 s.length)(J:ag f138=[b]):
  ∀(k i:Nat),i<=s.length->s.length<=i+k->∃X,fj [33] (aa b) I 0 (aL (aX prog) lv O K 47 0 true b) (k+1) ⟨an [33] (aa b) I ((33,.int .i64 i)::I),[],d⟩=
   some (if (s.drop i).all isD then .exit 0 else .ret,⟨X,[],d⟩)/\((s.drop i).all isD=false->ad X 2=.int .i64 2):=by
 simp[ag,aE,f138] at J;have R:∀k,∃X,fj [33] (aa b) I 0 (aL (aX prog) lv O K 47 0 true b) (k+1) ⟨an [33] (aa b) I ((33,.int .i64 s.length)::I),[],d⟩=
   some (if (s.drop s.length).all isD then .exit 0 else .ret,⟨X,[],d⟩)/\((s.drop s.length).all isD=false->ad X 2=.int .i64 2):=by
  intro k;subst J;simp[fj,H]
 intro k;induction k with
 |zero=>
  intro i L G;have V :i=s.length:=by omega
  subst V;exact R 0
 |succ k ih=>
  intro i L G;by_cases V :i=s.length
  .subst V;exact R (k+1)
  have F:i<s.length:=by omega
  have C :(i:Int)<s.length:=by omega
  obtain⟨c,N⟩:∃c,s[i]? =some c:=⟨s[i],by simp[F]⟩
  have M:s.drop i=c::s.drop (i+1):=by rw[N0 F];congr 1;have:=G2 F;rw[N] at this;exact(QQX this).symm
  have u:IntKind.i64.wrap ((i:Int)+1)=((i+1:Nat):Int):=by rw[af];omega
  obtain⟨X,B,o⟩:=ih (i+1) (by omega) (by omega);subst J;unfold fj;by_cases m:c.toNat<48
  .have S:isD c=false:=by unfold isD;simp;omega
   have Z :((c.toNat:Int)<48):=by omega
   simp[h3,H,C,N,Z,M,S]
  .have Z :¬((c.toNat:Int)<48):=by omega
   by_cases j:57<c.toNat
   .have S:isD c=false:=by unfold isD;simp;omega
    have U :(57<(c.toNat:Int)):=by omega
    simp[h3,H,C,N,Z,U,M,S]
   .have S:isD c=true:=by unfold isD;simp;omega
    have U :¬(57<(c.toNat:Int)):=by omega
    refine⟨X,?_,?_⟩
    .simp[h3,H,C,N,Z,U,M,S,u]
     simp at B;exact B
    .rw[M];simpa [S] using o
theorem zW(J:s.length<K)(H:ag f138=[b])(I:lv b=[33]):
  ∃F:Env->Bool->Env,∀Z d,(ad Z 3=.str s/\ad Z 32=.int .i64 s.length/\ad Z 33=.int .i64 0)->
   aL (aX prog) lv O K 47 0 true (.loop b) ⟨Z,[],d⟩=some (if s.all isD then .exit 0 else .ret,⟨F Z d,[],d⟩)/\(s.all isD=false->ad (F Z d) 2=.int .i64 2):=by
 refine vx (p:=fun Z _=>ad Z 3=.str s/\ad Z 32=.int .i64 s.length/\ad Z 33=.int .i64 0) (q:=fun Z d X =>aL (aX prog) lv O K 47 0 true (.loop b) ⟨Z,[],d⟩=some (if s.all isD then .exit 0 else .ret,⟨X,[],d⟩)/\(s.all isD=false->ad X 2=.int .i64 2)) ?_;rintro Z d ⟨h3,h32,h33⟩;obtain⟨U,V,S⟩:=Bl (O:=O) (K:=K) (lv:=lv) s hs Z d h3 h32 H (K-1) 0 (by omega) (by omega);refine⟨U,?_,by simpa using S⟩;rw[aM,I];have R:an [33] (aa b) Z ((33,.int .i64 (0:Nat))::Z)=an [33] (aa b) Z Z:=by simp[an,h33]
 rw[R,show K-1+1=K by omega] at V;simpa using V
end
def okT(mn:Bool)(t:List UInt8):Bool:=match t with
 | []=>false
 |c::r=>decide (r.length<200)&& !(c==48&&(decide (0<r.length)||mn))&&(c::r).all isD
theorem Yz{c:UInt8}:((c.toNat:Int)=48)↔c=48:=by
 constructor
 .intro e
  apply UInt8.toNat_inj.1;have:c.toNat=48:=by omega
  rw[this];rfl
 .rintro rfl;rfl
theorem Hx(s:List UInt8)(hs:s.length<=1000000000)(mem:Mem):kO prog 138 [.str s] mem (.int .i64 (if okT (Lib.hasPrefix s [45]) (Lib.trimPrefix s [45]) then 0 else 2)) mem:=by
 have X:aZ prog 138=some f138:=by kernel_rfl
 refine dc er (lv:=fun _=>[33]) (K:=s.length+1) rfl rfl ?_ mem;have L:(Lib.trimPrefix s [45]).length<=s.length:=by unfold Lib.trimPrefix;split<;>simp
 cases htp:Lib.trimPrefix s [45] with
 |nil=>simp[ae,X,f138,ah,ak,htp,okT]
 |cons c r=>
  rw[htp] at L;simp only[List.length_cons] at L;obtain⟨b,N⟩:∃b,ag f138=[b]:=⟨_,rfl⟩
  obtain⟨F,S⟩:=zW (O:=ah ak) (K:=s.length+1) (lv:=fun _=>[33]) (c::r) (by simp;omega) (by simp;omega) N rfl;simp[ag,aE,f138] at N;subst N;simp only[List.length_cons] at S;by_cases R:r.length<200
  .have Z :¬(200<(r.length:Int)+1):=by omega
   by_cases M:c=48
   .subst M
    by_cases h3:0<r.length
    .have V :1<(r.length:Int)+1:=by omega
     simp[ae,X,f138,ah,ak,htp,okT,R,Z,h3,V]
    .have V :¬1<(r.length:Int)+1:=by omega
     have G:r=[]:=Mp (by omega);subst G;cases hmn:Lib.hasPrefix s [45] with
     |true=>simp[ae,X,f138,ah,ak,htp,okT,hmn]
     |false=>
      have C:isD 48=true:=by decide
      simp[ae,X,f138,ah,ak,htp,okT,hmn,S,C]
   .have U :¬((c.toNat:Int)=48):=fun e=>M (Yz.1 e)
    cases P':(c::r).all isD with
    |true=>simp[ae,X,f138,ah,ak,htp,okT,R,Z,M,U,S,P']
    |false=>simp[ae,X,f138,ah,ak,htp,okT,R,Z,U,S,P']
  .have Z :(200<(r.length:Int)+1):=by omega
   simp[ae,X,f138,ah,ak,htp,okT,R,Z]
theorem Qf(q:Rat)(H:(aq q).length<=1000000000)(mem:Mem):kO prog 81 [.str (aq q)] mem (.str (aq (-q))) mem:=by
 have X:aZ prog 81=some f81:=by kernel_rfl
 refine aA (az _) ?_ mem;by_cases Z:q=0
 .subst Z
  simp[ae,X,f81,ba]
 .have M:¬q.num=0:=fun e=>Z (mO.1 e)
  by_cases S:q.num<0
  .have e:=jl S
   have V:(45::aq (-q)==[48])=false:=by rw[<-e,ba];simpa using Z
   rw[e];have h3:(1:Int)<=((aq (-q)).length:Int)+1:=by omega
   simp[ae,X,f81,V,h3]
  .have e:=mR (q:=q) (by omega)
   obtain⟨c,r,U,R⟩:=kX (q:=q) (by omega);have V:(c::r==[48])=false:=by rw[<-U,ba];simpa using Z
   have N:=fv R;rw[e,U];rw[U] at H;simp only[List.length_cons] at H;have h3:1+(r.length+1)<=9223372036854775807:=by omega
   simp[ae,X,f81,V,N,h3,fM]
theorem Bh(q:Rat)(mem:Mem):kO prog 178 [.str (aq q)] mem (.int .i64 (ga q)) mem:=by
 have X:aZ prog 178=some f178:=by kernel_rfl
 refine aA (az _) ?_ mem;by_cases Z:q=0
 .subst Z
  have:ga 0=0:=rfl;simp[ae,X,f178,ba,this]
 .have R:¬q.num=0:=fun e=>Z (mO.1 e)
  by_cases V:q.num<0
  .have e:=jl V
   have U:(45::aq (-q)==[48])=false:=by rw[<-e,ba];simpa using Z
   have h3:0<((aq (-q)).length:Int)+1:=by omega
   rw[e];simp[ae,X,f178,U,ga,jz,V,h3]
  .obtain⟨c,r,S,N⟩:=kX (q:=q) (by omega)
   have U:(c::r==[48])=false:=by rw[<-S,ba];simpa using Z
   have M:=fv N;have h3:0<(r.length:Int)+1:=by omega
   rw[S];simp[ae,X,f178,U,M,h3,ga,jz,V,R]
theorem P7(n:Int)(d:Nat)(H:(bF n).length<=1000000000)(hd:(ai d).length<=1000000000)(mem:Mem):kO prog 206 [.str (bF n),.str (ai d)] mem (.str (if d=1 then bF n else bF n++47::ai d)) mem:=by
 have Z:aZ prog 206=some f206:=by kernel_rfl
 refine aA (az _) ?_ mem;by_cases h:d=1
 .subst h
  have:ai 1=[49]:=rfl;simp[ae,Z,f206,this]
 .have X:(ai d==[49])=false:=by rw[beq_eq_false_iff_ne];intro e;exact h (AW (e.trans (show [49]=ai 1 from rfl)))
  have V:(bF n).length+1<=9223372036854775807:=by omega
  have U:(bF n).length+1+(ai d).length<=9223372036854775807:=by omega
  simp[ae,Z,f206,X,h,V,U,fM]
theorem MY(q:Rat)(H:(aq q).length<=1000000000)(mem:Mem):kO prog 131 [.str (aq q)] mem (.tuple [.str (bF q.num),.str (ai q.den)]) mem:=by
 have V:aZ prog 131=some f131:=by kernel_rfl
 refine aA er ?_ mem;have Z:=Eh q;by_cases h:q.den=1
 .have X:ai 1=[49]:=rfl
  have e:aq q=bF q.num:=by unfold aq;rw[if_pos h]
  rw[if_pos h,e] at Z;rw[e] at H;rw[e];simp[ae,V,f131,ah,ak,H,Z,h,X]
 .have e:aq q=bF q.num++47::ai q.den:=by unfold aq;rw[if_neg h]
  rw[if_neg h] at Z;have U:(0:Int)<=(bF q.num).length:=by omega
  have X:List.drop ((bF q.num).length+1) (bF q.num++47::ai q.den)=ai q.den:=by rw[List.drop_append];simp
  have S:List.take (bF q.num).length (bF q.num++47::ai q.den)=bF q.num:=List.take_left' rfl;rw[e] at H Z;rw[e];simp only[Qs,List.length_cons] at H;simp[ae,V,f131,ah,ak,H,Z,X]
variable{b2:Code}
theorem Ab(s rest:List UInt8)(Y:Nat)(hs:s.length<=1000000000)(ZC:rest=[]\/∃r,rest=47::r)(I:Env)(d:Bool)(h0:ad I 0=.str s)(h7:ad I 7=.int .i64 Y)(J:ag f129=[b,b2]):
  ∀(H:List UInt8) (i j acc k:Nat),s.drop i=H++rest->H.all isD=true->i=Y+j->i<=s.length->acc<10 ^ j->j<=9->H.length<=k->
   ∃Z,(j+H.length<=9->fj [5,2,3] (aa b) I 0 (aL (aX prog) lv O K 73 0 true b) (k+1) ⟨an [5,2,3] (aa b) I ((5,.int .i64 i)::(2,.int .i64 acc)::I),[],d⟩=some (.exit 0,⟨Z,[],d⟩)/\
     ad Z 5=.int .i64 ((i+H.length:Nat):Int)/\ad Z 2=.int .i64 (vK acc H)/\ad Z 0=.str s/\ad Z 6=ad I 6/\ad Z 3=ad I 3)/\
    (9<j+H.length->fj [5,2,3] (aa b) I 0 (aL (aX prog) lv O K 73 0 true b) (k+1) ⟨an [5,2,3] (aa b) I ((5,.int .i64 i)::(2,.int .i64 acc)::I),[],d⟩=some (.ret,⟨Z,[],d⟩)/\
     ad Z 2=.int .i64 0/\ad Z 3=.int .i64 0/\ad Z 4=.bool false):=by
 simp[ag,aE,f129] at J;obtain⟨J,_⟩:=J;intro H;induction H with
 |nil=>
  intro i j acc k X _ m hi abG hj _;subst J;rcases ZC with rfl | ⟨r,rfl⟩
  .have G':i=s.length:=by have:=congrArg List.length X;simp at this;omega
   subst G';have S:¬(9<j):=by omega
   simp[fj,h0,S,hj,dP]
  .have FS:i<s.length:=by have:=congrArg List.length X;simp at this;omega
   have R :(i:Int)<s.length:=by omega
   have N:s[i]? =some 47:=by have:=congrArg List.head? X;rw[List.head?_drop] at this;simpa using this
   have S:¬(9<j):=by omega
   simp[fj,h0,R,N,S,hj,dP]
 |cons c H ih=>
  intro i j acc k X o m hi abG hj hk;simp only[QQg,Es] at o;have FS:i<s.length:=by have:=congrArg List.length X;simp at this;omega
  have R :(i:Int)<s.length:=by omega
  have N:s[i]? =some c:=by have:=congrArg List.head? X;rw[List.head?_drop] at this;simpa using this
  have hc1:=tT o.1;have hc2:48<=c.toNat/\c.toNat<=57:=by have:=o.1;unfold isD at this;simpa using this
  have V:¬((c.toNat:Int)=47):=by omega
  have U:IntKind.i64.wrap ((i:Int)-Y)=j:=by rw[af];omega
  obtain⟨k,rfl⟩:∃k',k=k' +1:=⟨k-1,by simp at hk;omega⟩
  by_cases hj9:j=9
  .subst hj9
   subst J;have S:¬(9+(H.length+1)<=9):=by omega
   simp[fj,h0,h7,R,N,V,U,S]
  .have M:¬((j:Int)=9):=by omega
   have hp:10 ^ j<=100000000:=QQd (P3 (by omega) (show j<=8 by omega)) (by decide);obtain⟨v,hv⟩:=xE (α:=Nat) (c.toNat-48);obtain⟨a2,ha2⟩:=xE (α:=Nat) (10*acc+v);obtain⟨i2,L⟩:=xE (α:=Nat) (i+1);have G:IntKind.i64.wrap (10*(acc:Int))=10*(acc:Int):=af;have F:IntKind.u8.wrap ((c.toNat:Int)-48)=(v:Int):=by rw[Hu (by omega) (by omega)];omega
   have C:IntKind.i64.wrap (v:Int)=(v:Int):=af;have B:IntKind.i64.wrap (10*(acc:Int)+(v:Int))=(a2:Int):=by rw[af];omega
   have u:IntKind.i64.wrap ((i:Int)+1)=(i2:Int):=by rw[af];omega
   have aaL :a2<10 ^ (j+1):=by rw[Nat.pow_succ];omega
   have hd' :s.drop i2=H++rest:=by rw[L,<-QXY,X];simp
   obtain⟨Z,e1,e2⟩:=ih i2 (j+1) a2 k hd' o.2 (by omega) (by omega) aaL (by omega) (by simp at hk;omega);subst J;refine⟨Z,fun ZJ=>?_,fun hgt=>?_⟩
   .obtain⟨f1,f2,f3,f4,f5⟩:=e1 (by simp at ZJ;omega)
    refine⟨?_,by rw[f2,L,List.length_cons,show i+1+H.length=i+(H.length+1) by omega],by rw[f3,fh,ha2,hv],f4,f5⟩;rw[fj];simp[h0,h7,R,N,V,U,M,G,F,C,B,u];simp at f1;exact f1
   .obtain⟨f1,f2⟩:=e2 (by simp at hgt;omega)
    refine⟨?_,f2⟩;rw[fj];simp[h0,h7,R,N,V,U,M,G,F,C,B,u];simp at f1;exact f1
variable{b1:Code}
theorem Ac(s:List UInt8)(Y:Nat)(hs:s.length<=1000000000)(I:Env)(d:Bool)(h0:ad I 0=.str s)(h7:ad I 7=.int .i64 Y)(J:ag f129=[b1,b]):
  ∀(H:List UInt8) (i j acc k:Nat),s.drop i=H->H.all isD=true->i=Y+j->i<=s.length->acc<10 ^ j->j<=9->H.length<=k->
   ∃Z,(j+H.length<=9->fj [5,3,2] (aa b) I 0 (aL (aX prog) lv O K 73 0 true b) (k+1) ⟨an [5,3,2] (aa b) I ((5,.int .i64 i)::(3,.int .i64 acc)::I),[],d⟩=some (.exit 2,⟨Z,[],d⟩)/\
     ad Z 5=.int .i64 ((i+H.length:Nat):Int)/\ad Z 3=.int .i64 (vK acc H)/\ad Z 0=.str s/\ad Z 2=ad I 2)/\
    (9<j+H.length->fj [5,3,2] (aa b) I 0 (aL (aX prog) lv O K 73 0 true b) (k+1) ⟨an [5,3,2] (aa b) I ((5,.int .i64 i)::(3,.int .i64 acc)::I),[],d⟩=some (.ret,⟨Z,[],d⟩)/\
     ad Z 2=.int .i64 0/\ad Z 3=.int .i64 0/\ad Z 4=.bool false):=by
 simp[ag,aE,f129] at J;obtain⟨_,J⟩:=J;intro H;induction H with
 |nil=>
  intro i j acc k V _ C hi B hj _;subst J;have G':i=s.length:=by have:=congrArg List.length V;simp at this;omega
  subst G';have u:¬(9<j):=by omega
  simp[fj,h0,u,hj,dP]
 |cons c H ih=>
  intro i j acc k V F C hi B hj hk;simp only[QQg,Es] at F;have FS:i<s.length:=by have:=congrArg List.length V;simp at this;omega
  have o :(i:Int)<s.length:=by omega
  have hc:s[i]? =some c:=by have:=congrArg List.head? V;rw[List.head?_drop] at this;simpa using this
  have hc1:=tT F.1;have hc2:48<=c.toNat/\c.toNat<=57:=by have:=F.1;unfold isD at this;simpa using this
  have X:IntKind.i64.wrap ((i:Int)-Y)=j:=by rw[af];omega
  obtain⟨k,rfl⟩:∃k',k=k' +1:=⟨k-1,by simp at hk;omega⟩
  by_cases m:j=9
  .subst m
   subst J;have u:¬(9+(H.length+1)<=9):=by omega
   simp[fj,h0,h7,o,X,u]
  .have U:¬((j:Int)=9):=by omega
   have hp:10 ^ j<=100000000:=QQd (P3 (by omega) (show j<=8 by omega)) (by decide);obtain⟨v,hv⟩:=xE (α:=Nat) (c.toNat-48);obtain⟨a2,ha2⟩:=xE (α:=Nat) (10*acc+v);obtain⟨i2,S⟩:=xE (α:=Nat) (i+1);have R:IntKind.i64.wrap (10*(acc:Int))=10*(acc:Int):=af;have N:IntKind.u8.wrap ((c.toNat:Int)-48)=(v:Int):=by rw[Hu (by omega) (by omega)];omega
   have M:IntKind.i64.wrap (v:Int)=(v:Int):=af;have L:IntKind.i64.wrap (10*(acc:Int)+(v:Int))=(a2:Int):=by rw[af];omega
   have G:IntKind.i64.wrap ((i:Int)+1)=(i2:Int):=by rw[af];omega
   have aaL :a2<10 ^ (j+1):=by rw[Nat.pow_succ];omega
   have hd' :s.drop i2=H:=by rw[S,<-QXY,V];simp
   obtain⟨Z,e1,e2⟩:=ih i2 (j+1) a2 k hd' F.2 (by omega) (by omega) aaL (by omega) (by simp at hk;omega);subst J;refine⟨Z,fun ZJ=>?_,fun hgt=>?_⟩
   .obtain⟨f1,f2,f3,f4,f5⟩:=e1 (by simp at ZJ;omega)
    refine⟨?_,by rw[f2,S,List.length_cons,show i+1+H.length=i+(H.length+1) by omega],by rw[f3,fh,ha2,hv],f4,f5⟩;rw[fj];simp[h0,h7,o,hc,X,U,R,N,M,L,G];simp at f1;exact f1
   .obtain⟨f1,f2⟩:=e2 (by simp at hgt;omega)
    refine⟨?_,f2⟩;rw[fj];simp[h0,h7,o,hc,X,U,R,N,M,L,G];simp at f1;exact f1
theorem tL(s rest H:List UInt8)(I:Nat)(hs:s.length<=1000000000)(ZC:rest=[]\/∃r,rest=47::r)(hd:s.drop I=H++rest)(J:I<=s.length)(P':H.all isD=true)(hK:s.length<K)(hb:ag f129=[b,b2])(Y:lv b=[5,2,3]):
  ∃F:Env->Bool->Env,∀Z d,(ad Z 0=.str s/\ad Z 7=.int .i64 I/\ad Z 5=.int .i64 I/\ad Z 2=.int .i64 0)->
   (H.length<=9->aL (aX prog) lv O K 73 0 true (.loop b) ⟨Z,[],d⟩=some (.exit 0,⟨F Z d,[],d⟩)/\
     ad (F Z d) 5=.int .i64 ((I+H.length:Nat):Int)/\ad (F Z d) 2=.int .i64 (vK 0 H)/\ad (F Z d) 0=.str s/\ad (F Z d) 6=ad Z 6/\ad (F Z d) 3=ad Z 3)/\
    (9<H.length->aL (aX prog) lv O K 73 0 true (.loop b) ⟨Z,[],d⟩=some (.ret,⟨F Z d,[],d⟩)/\
     ad (F Z d) 2=.int .i64 0/\ad (F Z d) 3=.int .i64 0/\ad (F Z d) 4=.bool false):=by
 refine vx (p:=fun Z _=>ad Z 0=.str s/\ad Z 7=.int .i64 I/\ad Z 5=.int .i64 I/\ad Z 2=.int .i64 0)
  (q:=fun Z d X =>(H.length<=9->aL (aX prog) lv O K 73 0 true (.loop b) ⟨Z,[],d⟩=some (.exit 0,⟨X,[],d⟩)/\
     ad X 5=.int .i64 ((I+H.length:Nat):Int)/\ad X 2=.int .i64 (vK 0 H)/\ad X 0=.str s/\ad X 6=ad Z 6/\ad X 3=ad Z 3)/\
    (9<H.length->aL (aX prog) lv O K 73 0 true (.loop b) ⟨Z,[],d⟩=some (.ret,⟨X,[],d⟩)/\
     ad X 2=.int .i64 0/\ad X 3=.int .i64 0/\ad X 4=.bool false)) ?_
 rintro Z d ⟨h0,h7,h5,h2⟩;have V:H.length<=K-1:=by have:=congrArg List.length hd;simp at this;omega
 obtain⟨R,U,S⟩:=Ab (O:=O) (K:=K) (lv:=lv) s rest I hs ZC Z d h0 h7 hb H I 0 0 (K-1) hd P' (by omega) J (by simp) (by omega) V;have N:an [5,2,3] (aa b) Z ((5,.int .i64 (I:Int))::(2,.int .i64 ((0:Nat):Int))::Z)=an [5,2,3] (aa b) Z Z:=by simp[an,h5,h2]
 rw[N,show K-1+1=K by omega] at U S;rw[QQb] at U S;refine⟨R,?_,?_⟩
 .rw[aM,Y];exact U
 .rw[aM,Y];exact S
theorem tM(s H:List UInt8)(I:Nat)(hs:s.length<=1000000000)(hd:s.drop I=H)(J:I<=s.length)(P':H.all isD=true)(hK:s.length<K)(hb:ag f129=[b1,b])(Y:lv b=[5,3,2]):
  ∃F:Env->Bool->Env,∀Z d,(ad Z 0=.str s/\ad Z 7=.int .i64 I/\ad Z 5=.int .i64 I/\ad Z 3=.int .i64 0)->
   (H.length<=9->aL (aX prog) lv O K 73 0 true (.loop b) ⟨Z,[],d⟩=some (.exit 2,⟨F Z d,[],d⟩)/\
     ad (F Z d) 3=.int .i64 (vK 0 H)/\ad (F Z d) 2=ad Z 2)/\
    (9<H.length->aL (aX prog) lv O K 73 0 true (.loop b) ⟨Z,[],d⟩=some (.ret,⟨F Z d,[],d⟩)/\
     ad (F Z d) 2=.int .i64 0/\ad (F Z d) 3=.int .i64 0/\ad (F Z d) 4=.bool false):=by
 refine vx (p:=fun Z _=>ad Z 0=.str s/\ad Z 7=.int .i64 I/\ad Z 5=.int .i64 I/\ad Z 3=.int .i64 0)
  (q:=fun Z d X =>(H.length<=9->aL (aX prog) lv O K 73 0 true (.loop b) ⟨Z,[],d⟩=some (.exit 2,⟨X,[],d⟩)/\
     ad X 3=.int .i64 (vK 0 H)/\ad X 2=ad Z 2)/\
    (9<H.length->aL (aX prog) lv O K 73 0 true (.loop b) ⟨Z,[],d⟩=some (.ret,⟨X,[],d⟩)/\
     ad X 2=.int .i64 0/\ad X 3=.int .i64 0/\ad X 4=.bool false)) ?_
 rintro Z d ⟨h0,h7,h5,h3⟩;have V:H.length<=K-1:=by have:=congrArg List.length hd;simp at this;omega
 obtain⟨R,U,S⟩:=Ac (O:=O) (K:=K) (lv:=lv) s I hs Z d h0 h7 hb H I 0 0 (K-1) hd P' (by omega) J (by simp) (by omega) V;have N:an [5,3,2] (aa b) Z ((5,.int .i64 (I:Int))::(3,.int .i64 ((0:Nat):Int))::Z)=an [5,3,2] (aa b) Z Z:=by simp[an,h5,h3]
 rw[N,show K-1+1=K by omega] at U S;rw[QQb] at U S;refine⟨R,fun h=>?_,?_⟩
 .obtain⟨f1,_,f3,_,f5⟩:=U h
  rw[aM,Y];exact⟨f1,f3,f5⟩
 .rw[aM,Y];exact S
def fq(c:Code):List Nat:=if (aa c).contains 17 then [5,2,3] else [5,3,2]
theorem yw(q:Rat):∃Z,aq q=(if q.num<0 then [45] else [])++(ai q.num.natAbs++Z)/\(Z=if q.den=1 then [] else 47::ai q.den):=by
 refine⟨if q.den=1 then [] else 47::ai q.den,?_,rfl⟩;have h:bF q.num=(if q.num<0 then [45] else [])++ai q.num.natAbs:=by
  cases hn:q.num with
  |ofNat u=>rw[if_neg (by simp)];rfl
  |negSucc u=>rw[if_pos (Int.negSucc_lt_zero u)];rfl
 unfold aq;rw[h];split<;>simp
section
variable (q:Rat)(hl:(aq q).length<=1000000000)
include q hl
theorem zP(hq:0<=q.num)(mem:Mem):kO prog 129 [.str (aq q)] mem
  (if (ai q.num.natAbs).length<=9/\(q.den=1\/(ai q.den).length<=9) then .tuple [.int .i64 q.num,.int .i64 q.den,.bool true] else .tuple [.int .i64 0,.int .i64 0,.bool false]) mem:=by
 have m:aZ prog 129=some f129:=by kernel_rfl
 refine dc (az _) (lv:=fq) (K:=(aq q).length+1) rfl (by split<;>rfl) ?_ mem;obtain⟨U,j,M⟩:=yw q;rw[if_neg (by omega),List.nil_append] at j;obtain⟨b1,b2,L⟩:∃b1 b2,ag f129=[b1,b2]/\fq b1=[5,2,3]/\fq b2=[5,3,2]:=⟨_,_,rfl,by decide,by decide⟩
 obtain⟨F,hF⟩:=tL (O:=cO) (K:=(aq q).length+1) (lv:=fq) (aq q) U (ai q.num.natAbs) 0 hl
  (by rw[M];split;exact .inl rfl;exact .inr ⟨_,rfl⟩) (by rw[List.drop_zero];exact j) (by omega) (dI _) (by omega) L.1 L.2.1
 obtain⟨c,r,G,hc⟩:=kX hq;have I:(aq q)[0]? =some c:=by rw[G];rfl
 have V:=fv hc;have X:0<(aq q).length:=by rw[G];simp only[List.length_cons];omega
 have Y:∀h:0<(aq q).length,(aq q)[0]'h=c:=fun h=>by have:=G2 h;rw[I] at this;exact(QQX this).symm
 have G':(aq q).length=(ai q.num.natAbs).length+U.length:=by rw[j,Qs]
 have ZW:vK 0 (ai q.num.natAbs)=q.num.natAbs:=dM _;have C:((q.num.natAbs:Nat):Int)=q.num:=by omega
 have B:=L.1;simp[ag,aE,f129] at B;obtain⟨rfl,rfl⟩:=B;by_cases u:(ai q.num.natAbs).length<=9
 .have Z:=fun S d h=>(hF S d h).1 u
  by_cases o:q.den=1
  .rw[if_pos o] at M
   have J:((ai q.num.natAbs).length:Int)=((aq q).length:Int):=by rw[G',M];simp
   rw[QQb] at Z;simp[ae,m,f129,Y,V,X,Z,ZW,C,J,o,u]
  .rw[if_neg o] at M
   have aaC:(aq q).length=(ai q.num.natAbs).length+((ai q.den).length+1):=by rw[G',M,List.length_cons]
   have J:¬((ai q.num.natAbs).length:Int)=((aq q).length:Int):=by omega
   obtain⟨bg,H⟩:=xE (α:=Nat) ((ai q.num.natAbs).length+1);have hw:IntKind.i64.wrap (((ai q.num.natAbs).length:Int)+1)=(bg:Int):=by rw[af];omega
   obtain⟨F2,ZM⟩:=tM (O:=cO) (K:=(aq q).length+1) (lv:=fq) (aq q) (ai q.den) bg hl
    (by rw[j,M,H,List.drop_append];simp) (by omega) (dI _) (by omega) L.1 L.2.2
   have abz:vK 0 (ai q.den)=q.den:=dM _;rw[QQb] at Z;by_cases R:(ai q.den).length<=9
   .have N:=fun S d h=>(ZM S d h).1 R
    simp[ae,m,f129,Y,V,X,Z,ZW,C,J,o,u,hw,N,abz,R]
   .have N:=fun S d h=>(ZM S d h).2 (by omega)
    simp[ae,m,f129,Y,V,X,Z,J,o,u,hw,N,R]
 .have Z:=fun S d h=>(hF S d h).2 (by omega)
  simp[ae,m,f129,Y,V,X,Z,u]
theorem zO(hq:q.num<0)(mem:Mem):kO prog 129 [.str (aq q)] mem
  (if (ai q.num.natAbs).length<=9/\(q.den=1\/(ai q.den).length<=9) then .tuple [.int .i64 q.num,.int .i64 q.den,.bool true] else .tuple [.int .i64 0,.int .i64 0,.bool false]) mem:=by
 have j:aZ prog 129=some f129:=by kernel_rfl
 refine dc (az _) (lv:=fq) (K:=(aq q).length+1) rfl (by split<;>rfl) ?_ mem;obtain⟨U,S,L⟩:=yw q;rw[if_pos hq,List.singleton_append] at S;obtain⟨b1,b2,C⟩:∃b1 b2,ag f129=[b1,b2]/\fq b1=[5,2,3]/\fq b2=[5,3,2]:=⟨_,_,rfl,by decide,by decide⟩
 obtain⟨F,hF⟩:=tL (O:=cO) (K:=(aq q).length+1) (lv:=fq) (aq q) U (ai q.num.natAbs) 1 hl
  (by rw[L];split;exact .inl rfl;exact .inr ⟨_,rfl⟩) (by rw[S];rfl) (by rw[S];simp) (dI _) (by omega) C.1 C.2.1
 have Z:0<(aq q).length:=by rw[S];simp
 have Y:∀h:0<(aq q).length,(aq q)[0]'h=45:=fun h=>by
  have h1:=G2 h;have h2:(aq q)[0]? =some 45:=by rw[S];rfl
  rw[h2] at h1;exact(QQX h1).symm
 have G':(aq q).length=1+((ai q.num.natAbs).length+U.length):=by rw[S,List.length_cons,Qs,QXc]
 have ZW:vK 0 (ai q.num.natAbs)=q.num.natAbs:=dM _;have hub:q.num.natAbs<10 ^ (ai q.num.natAbs).length:=cq _;have B:=C.1;simp[ag,aE,f129] at B;obtain⟨rfl,rfl⟩:=B;by_cases G:(ai q.num.natAbs).length<=9
 .have X:=fun R d h=>(hF R d h).1 G
  obtain⟨u,V⟩:=xE (α:=Nat) (1+(ai q.num.natAbs).length);rw[<-V] at X;have afd:10 ^ (ai q.num.natAbs).length<=1000000000:=QQd (P3 (by omega) G) (by decide);have o:IntKind.i64.wrap (-((q.num.natAbs:Nat):Int))=q.num:=by rw[af];omega
  by_cases m:q.den=1
  .rw[if_pos m] at L
   have J:(u:Int)=((aq q).length:Int):=by rw[G',L,V];simp
   simp[ae,j,f129,Y,Z,X,ZW,o,J,m,G]
  .rw[if_neg m] at L
   have aaC:(aq q).length=u+((ai q.den).length+1):=by rw[G',L,List.length_cons,V];omega
   have J:¬(u:Int)=((aq q).length:Int):=by omega
   obtain⟨bg,I⟩:=xE (α:=Nat) (u+1);have hw:IntKind.i64.wrap ((u:Int)+1)=(bg:Int):=by rw[af];omega
   obtain⟨F2,ZM⟩:=tM (O:=cO) (K:=(aq q).length+1) (lv:=fq) (aq q) (ai q.den) bg hl
    (by rw[S,L,I,V,show 1+(ai q.num.natAbs).length+1=((ai q.num.natAbs).length+1)+1 by omega,List.drop_succ_cons,List.drop_append];simp) (by omega) (dI _) (by omega) C.1 C.2.2
   have H:vK 0 (ai q.den)=q.den:=dM _;by_cases N:(ai q.den).length<=9
   .have M:=fun R d h=>(ZM R d h).1 N
    simp[ae,j,f129,Y,Z,X,ZW,o,J,m,G,hw,M,H,N]
   .have M:=fun R d h=>(ZM R d h).2 (by omega)
    simp[ae,j,f129,Y,Z,X,J,m,G,hw,M,N]
 .have X:=fun R d h=>(hF R d h).2 (by omega)
  simp[ae,j,f129,Y,Z,X,G]
theorem H3(mem:Mem):kO prog 129 [.str (aq q)] mem
  (if (ai q.num.natAbs).length<=9/\(q.den=1\/(ai q.den).length<=9) then .tuple [.int .i64 q.num,.int .i64 q.den,.bool true] else .tuple [.int .i64 0,.int .i64 0,.bool false]) mem:=by
 by_cases Z:0<=q.num
 .exact zP q hl Z mem
 .exact zO q hl (by omega) mem
end
def euc:Nat->Int->Int->Int
 |0,x,_=>x
 |k+1,x,y=>if y=0 then x else euc k y (x.tmod y)
theorem sV:∀(k:Nat) (x y:Int),y.natAbs<k->(euc k x y).natAbs=x.natAbs.gcd y.natAbs
 |0,_,_,h=>by omega
 |k+1,x,y,h=>by
  unfold euc;by_cases Z:y=0
  .subst Z;rw[if_pos rfl];simp
  .rw[if_neg Z]
   have X:(x.tmod y).natAbs<k:=by rw[Int.natAbs_tmod];have:=Nat.mod_lt x.natAbs (show 0<y.natAbs by omega);omega
   rw[sV k y (x.tmod y) X,Int.natAbs_tmod,Nat.gcd_comm x.natAbs,Nat.gcd_rec y.natAbs x.natAbs,Nat.gcd_comm]
theorem BQ(H:Env)(d:Bool)(I:ag f130=[b]):
  ∀(k:Nat) (x y:Int),y.natAbs<k->∃Z,fj [5,6] (aa b) H 0 (aL (aX prog) lv O K 35 0 true b) k ⟨an [5,6] (aa b) H ((5,.int .i64 x)::(6,.int .i64 y)::H),[],d⟩=
   some (.exit 0,⟨Z,[],d⟩)/\ad Z 5=.int .i64 (euc k x y)/\ad Z 0=ad H 0/\ad Z 1=ad H 1/\ad Z 4=ad H 4:=by
 simp[ag,aE,f130] at I;intro k;induction k with
 |zero=>intro x y h;omega
 |succ k ih=>
  intro x y N;by_cases X:y=0
  .subst I
   subst X;simp[fj,euc]
  .have U:(x.tmod y).natAbs<k:=by rw[Int.natAbs_tmod];have:=Nat.mod_lt x.natAbs (show 0<y.natAbs by omega);omega
   obtain⟨Z,V,S,R⟩:=ih y (x.tmod y) U;subst I;refine⟨Z,?_,by rw[S,euc,if_neg X],R⟩;rw[fj];simp[X];simp at V;exact V
theorem Ae(H:ag f130=[b])(I:lv b=[5,6])(n:Int)(m:Nat)(J:m<K):
  ∃F:Env->Bool->Env,∀Z d,(ad Z 5=.int .i64 n/\ad Z 6=.int .i64 m)->
   aL (aX prog) lv O K 35 0 true (.loop b) ⟨Z,[],d⟩=some (.exit 0,⟨F Z d,[],d⟩)/\ad (F Z d) 5=.int .i64 (euc K n m)/\
    ad (F Z d) 0=ad Z 0/\ad (F Z d) 1=ad Z 1/\ad (F Z d) 4=ad Z 4:=by
 refine vx (p:=fun Z _=>ad Z 5=.int .i64 n/\ad Z 6=.int .i64 m) (q:=fun Z d X =>aL (aX prog) lv O K 35 0 true (.loop b) ⟨Z,[],d⟩=some (.exit 0,⟨X,[],d⟩)/\ad X 5=.int .i64 (euc K n m)/\
    ad X 0=ad Z 0/\ad X 1=ad Z 1/\ad X 4=ad Z 4) ?_
 rintro Z d ⟨h5,h6⟩;obtain⟨U,V,S⟩:=BQ (O:=O) (K:=K) (lv:=lv) Z d H K n m (by simpa using J);have R:an [5,6] (aa b) Z ((5,.int .i64 n)::(6,.int .i64 (m:Int))::Z)=an [5,6] (aa b) Z Z:=by simp[an,h5,h6]
 rw[R] at V;exact⟨U,by rw[aM,I];exact V,S⟩
theorem Ie(n:Int)(m:Nat)(hn:n.natAbs<=4611686018427387904)(Z0:m≠0)(hm:m<=4611686018427387904)(mem:Mem):kO prog 130 [.int .i64 n,.int .i64 m] mem (.str (aq (Rat.normalize n m Z0))) mem:=by
 have hG:aZ prog 130=some f130:=by kernel_rfl
 refine dc er (lv:=fun _=>[5,6]) (K:=m+1) rfl rfl ?_ mem;obtain⟨b,hb⟩:∃b,ag f130=[b]:=⟨_,rfl⟩
 obtain⟨F,B⟩:=Ae (O:=ah ak) (K:=m+1) (lv:=fun _=>[5,6]) hb rfl n m (by omega);simp[ag,aE,f130] at hb;subst hb;have hg:=sV (m+1) n m (by simp);generalize euc (m+1) n m=g at B hg;rw[Int.natAbs_natCast] at hg;have u:n.natAbs.gcd m∣m:=Nat.gcd_dvd_right _ _;have hgn:n.natAbs.gcd m∣n.natAbs:=Nat.gcd_dvd_left _ _;have hgp:0<n.natAbs.gcd m:=Nat.gcd_pos_of_pos_right _ (by omega);have hgm:n.natAbs.gcd m<=m:=Nat.le_of_dvd (by omega) u;obtain⟨M,ad1,Z⟩:∃M,aq (Rat.normalize n m Z0)=M/\M=if m / n.natAbs.gcd m=1 then bF (n / (n.natAbs.gcd m:Nat)) else bF (n / (n.natAbs.gcd m:Nat))++47::ai (m / n.natAbs.gcd m):=
  ⟨_,rfl,by rw[Rat.normalize_eq];rfl⟩
 rw[ad1];generalize n.natAbs.gcd m=G at*;have L:(G:Int)∣n:=Int.ofNat_dvd_left.2 hgn;have hdm:(G:Int)∣(m:Int):=Int.ofNat_dvd.2 u;obtain⟨p,hp⟩:=xE (α:=Int) (n / (G:Int));obtain⟨e,he⟩:=xE (α:=Nat) (m / G);rw[<-hp,<-he] at Z;have V:IntKind.i64.wrap (n.tdiv (G:Int))=p:=by
  rw[Int.tdiv_eq_ediv_of_dvd L,<-hp];have:p.natAbs<=n.natAbs:=by rw[hp,<-Int.tdiv_eq_ediv_of_dvd L,Int.natAbs_tdiv];exact Nat.div_le_self _ _
  exact af
 have hq2:IntKind.i64.wrap ((m:Int).tdiv (G:Int))=(e:Int):=by
  have h1:(m:Int).tdiv (G:Int)=(e:Int):=by rw[he,<-Int.ofNat_tdiv]
  have h2:e<=m:=by rw[he];exact Nat.div_le_self _ _
  rw[h1];exact af
 have U :IntKind.i64.wrap ((m:Int) / (G:Int))=(e:Int):=by rw[<-Int.tdiv_eq_ediv_of_dvd hdm];exact hq2
 have S:¬G=0:=by omega
 have hpn: -4611686018427387904<=p/\p<=4611686018427387904:=by
  have:p.natAbs<=n.natAbs:=by rw[hp,<-Int.tdiv_eq_ediv_of_dvd L,Int.natAbs_tdiv];exact Nat.div_le_self _ _
  omega
 have hem:e<=4611686018427387904:=by
  have h2:e<=m:=by rw[he];exact Nat.div_le_self _ _
  omega
 have R:dY p=true:=by simp only[dY,Es,GE];omega
 have o:dY (e:Int)=true:=by simp only[dY,Es,GE];omega
 have j:bF (e:Int)=ai e:=rfl;have Y:(g<0->IntKind.i64.wrap (-g)=(G:Int))/\(¬g<0->g=(G:Int)):=⟨fun h=>by rw[af];omega,fun h=>by omega⟩;have hlp:(bF p).length<=21:=by rw[TA];exact Lib.itoa_length_le p (by omega) (by omega)
 have ZJ:(ai e).length<=19:=aN (by omega) (Nat.lt_of_le_of_lt hem (by decide));have J:(bF p).length+1<=9223372036854775807:=by omega
 have I:(bF p).length+1+(ai e).length<=9223372036854775807:=by omega
 by_cases N:g<0
 .have H:=Y.1 N
  by_cases X:e=1
  .simp[ae,hG,f130,ah,ak,B,N,H,S,V,U,X,R,Z]
  .have C :¬(e:Int)=1:=by omega
   simp[ae,hG,f130,ah,ak,B,N,H,S,V,U,X,C,R,o,j,Z,J,I,fM]
 .have H:=Y.2 N
  have ab7:¬(G:Int)<0:=by omega
  by_cases X:e=1
  .simp[ae,hG,f130,ah,ak,B,ab7,H,S,V,U,X,R,Z]
  .have C :¬(e:Int)=1:=by omega
   simp[ae,hG,f130,ah,ak,B,ab7,H,S,V,U,X,C,R,o,j,Z,J,I,fM]
end Go.Proofs
