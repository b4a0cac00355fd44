/- See I36. -/
import Derived.Test.YtgafjliihahjgaaGreatDoorI07
import Derived.Lib.ItoaLen
set_option linter.all false
namespace Go.Proofs
open Go.Eng
open Tryz
theorem Rk(n:Int)(mem:Mem):kO prog 143 [.str (cf n)] mem (.int .i64 (oz n)) mem:=by
 have Z:aS prog 143=some f143:=by kernel_rfl
 refine aD fh ?_ mem;by_cases X:n=0
 .simp[aa,Z,f143,lX,oz,X]
 .by_cases W:n<0
  .simp[aa,Z,f143,af,ar,lX,kS,W,X,oz]
  .simp[aa,Z,f143,af,ar,lX,kS,W,X,oz]
theorem PL(n:Int)(y:dw n=true)(mem:Mem):kO prog 98 [.int .i64 n] mem (.str (cf n)) mem:=by
 have Z:aS prog 98=some f98:=by kernel_rfl
 refine aD fh ?_ mem;simp[aa,Z,f98,af,ar,y]
theorem Hs(r c:Bool):R7 (aU prog) 240 r c .nilIface .nilIface=if r||c then some true else none:=R8 (by kernel_rfl) r c
theorem NT(n:Int)(m:Int)(y:m<=18)(H:(cf n).length<=1000000000)(mem:Mem):kO prog 146 [.str (cf n),.int .i64 m] mem (if (cf n).length<=m then .tuple [.int .i64 n,.bool true] else .tuple [.int .i64 0,.bool false]) mem:=by
 have X:aS prog 146=some f146:=by kernel_rfl
 refine dv fh (lv:=fun _=>[]) (K:=1) rfl (by split<;>rfl) ?_ mem;by_cases h:((cf n).length:Int)<=m
 .have Z:¬m<((cf n).length:Int):=by omega
  have h3:(cf n).length<=18:=by omega
  simp[aa,X,f146,af,ar,h,Z,h3,oT,Hs]
 .have Z:m<((cf n).length:Int):=by omega
  simp[aa,X,f146,h,Z]
noncomputable def aP(f:FuncId)(args:List AV):Option AV:=
 match f,args with
 |143,[.str s]=>match mZ s with
  |some n=>some (.int .i64 (oz n))
  |none=>none
 |_,_=>ar f args
theorem rZ:adM prog (af aP):=by
 have X:=fh;refine bX fun f Z v h mem=>?_
 unfold aP at h;split at h
 .split at h
  next n W=>cases h;rw[dy W];exact Rk n mem
  .cases h
 .have:=X.fn f Z mem ⟨v,none,[]⟩ (by unfold af;simp only;rw[h])
  simpa [afA.mem] using this
theorem Tx(n:Int)(y:(cf n).length<=1000000000)(mem:Mem):kO prog 170 [.str (cf n)] mem (.str (cf (-n))) mem:=by
 have Z:aS prog 170=some f170:=by kernel_rfl
 refine aD rZ ?_ mem;by_cases W:n=0
 .subst W
  simp[aa,Z,f170,af,aP,aW,oz]
 .by_cases X:n<0
  .have O:1<=(cf n).length:=sO n
   have h3:((1:Int)<=(cf n).length):=by omega
   have V:List.take ((cf n).length-1) (List.drop 1 (cf n))=cf (-n):=by rw[GE (by simp),HY X]
   simp[aa,Z,f170,af,aP,aW,oz,X,h3];rw[<-List.drop_one];exact V
  .have S:1+(cf n).length<=9223372036854775807:=by omega
   simp[aa,Z,f170,af,aP,aW,oz,W,X,S,ix,nN (show 0<n by omega)]
theorem Ed(a b:Int)(mem:Mem):kO prog 95 [.str (cf a),.str (cf b)] mem (.int .i64 (Ml a b)) mem:=by
 have X:aS prog 95=some f95:=by kernel_rfl
 refine aD rZ ?_ mem;rw[Yg];have O:∀n,-1<=oz n/\oz n<=1:=by intro n;unfold oz;repeat' split<;>omega
 by_cases W:oz a=oz b
 .by_cases V:(az a.natAbs).length=(az b.natAbs).length
  .have hc:IntKind.i64.wrap (oz b*lC a.natAbs b.natAbs)=oz b*lC a.natAbs b.natAbs:=by
    have V:=O b;have Z: -1<=lC a.natAbs b.natAbs/\lC a.natAbs b.natAbs<=1:=by unfold lC;repeat' split<;>omega
    have h3: -1<=oz b*lC a.natAbs b.natAbs/\oz b*lC a.natAbs b.natAbs<=1:=by
     generalize oz b=x at*;generalize lC a.natAbs b.natAbs=y at*;have M:x= -1\/x=0\/x=1:=by omega
     rcases M with rfl | rfl | rfl<;>omega
    exact ai
   simp[aa,X,f95,af,aP,ar,aW,kk,W,V,yZ V,hc]
  .have K:IntKind.i64.wrap (- oz b)= - oz b:=by have:=O b;exact ai
   have S:¬((az a.natAbs).length:Int)=(az b.natAbs).length:=by omega
   by_cases Z:(az a.natAbs).length<(az b.natAbs).length
   .simp[aa,X,f95,af,aP,ar,aW,kk,W,V,S,Z,K]
   .simp[aa,X,f95,af,aP,ar,aW,kk,W,V,S,Z]
 .by_cases Z:oz a<oz b
  .simp[aa,X,f95,af,aP,aW,W,Z]
  .simp[aa,X,f95,af,aP,aW,W,Z]
variable{K:Nat}{O:af3}{b:Code}{lv:Code->List Nat}
section
variable (s:List UInt8)(hs:s.length<=1000000000)
include s hs
theorem Ca(H:Env)(d:Bool)(h3:ad H 3=.str s)(y:ad H 32=.int .i64 s.length)(I:ag f94=[b]):
  ∀(k i:Nat),i<=s.length->s.length<=i+k->∃X,fW [33] (ab b) H 0 (aT (aU prog) lv O K 47 0 true b) (k+1) ⟨au [33] (ab b) H ((33,.int .i64 i)::H),[],d⟩=
   some (if (s.drop i).all isD then .exit 0 else .ret,⟨X,[],d⟩)/\((s.drop i).all isD=false->ad X 2=.int .i64 2):=by
 simp[ag,aH,f94] at I;have M:∀k,∃X,fW [33] (ab b) H 0 (aT (aU prog) lv O K 47 0 true b) (k+1) ⟨au [33] (ab b) H ((33,.int .i64 s.length)::H),[],d⟩=
   some (if (s.drop s.length).all isD then .exit 0 else .ret,⟨X,[],d⟩)/\((s.drop s.length).all isD=false->ad X 2=.int .i64 2):=by
  intro k;subst I;simp[fW,y]
 intro k;induction k with
 |zero=>
  intro i G F;have W :i=s.length:=by omega
  subst W;exact M 0
 |succ k ih=>
  intro i G F;by_cases W :i=s.length
  .subst W;exact M (k+1)
  have D:i<s.length:=by omega
  have C :(i:Int)<s.length:=by omega
  obtain⟨c,hc⟩:∃c,s[i]? =some c:=⟨s[i],by simp[D]⟩
  have J:s.drop i=c::s.drop (i+1):=by rw[N2 D];congr 1;have:=GT D;rw[hc] at this;exact(QQb this).symm
  have A:IntKind.i64.wrap ((i:Int)+1)=((i+1:Nat):Int):=by rw[ai];omega
  obtain⟨X,B,z⟩:=ih (i+1) (by omega) (by omega);subst I;unfold fW;by_cases u:c.toNat<48
  .have S:isD c=false:=by unfold isD;simp;omega
   have Z :((c.toNat:Int)<48):=by omega
   simp[h3,y,C,hc,Z,J,S]
  .have Z :¬((c.toNat:Int)<48):=by omega
   by_cases m:57<c.toNat
   .have S:isD c=false:=by unfold isD;simp;omega
    have V :(57<(c.toNat:Int)):=by omega
    simp[h3,y,C,hc,Z,V,J,S]
   .have S:isD c=true:=by unfold isD;simp;omega
    have V :¬(57<(c.toNat:Int)):=by omega
    refine⟨X,?_,?_⟩
    .simp[h3,y,C,hc,Z,V,J,S,A]
     simp at B;exact B
    .rw[J];simpa [S] using z
theorem AD(I:s.length<K)(H:ag f94=[b])(y:lv b=[33]):
  ∃F:Env->Bool->Env,∀Z d,(ad Z 3=.str s/\ad Z 32=.int .i64 s.length/\ad Z 33=.int .i64 0)->
   aT (aU prog) lv O K 47 0 true (.loop b) ⟨Z,[],d⟩=some (if s.all isD then .exit 0 else .ret,⟨F Z d,[],d⟩)/\(s.all isD=false->ad (F Z d) 2=.int .i64 2):=by
 refine wE (p:=fun Z _=>ad Z 3=.str s/\ad Z 32=.int .i64 s.length/\ad Z 33=.int .i64 0) (q:=fun Z d X =>aT (aU prog) lv O K 47 0 true (.loop b) ⟨Z,[],d⟩=some (if s.all isD then .exit 0 else .ret,⟨X,[],d⟩)/\(s.all isD=false->ad X 2=.int .i64 2)) ?_;rintro Z d ⟨h3,h32,h33⟩;obtain⟨V,W,S⟩:=Ca (O:=O) (K:=K) (lv:=lv) s hs Z d h3 h32 H (K-1) 0 (by omega) (by omega);refine⟨V,?_,by simpa using S⟩;rw[aR,y];have M:au [33] (ab b) Z ((33,.int .i64 (0:Nat))::Z)=au [33] (ab b) Z Z:=by simp[au,h33]
 rw[M,show K-1+1=K by omega] at W;simpa using W
end
def okT(mn:Bool)(t:List UInt8):Bool:=match t with
 | []=>false
 |c::r=>decide (r.length<200)&& !(c==48&&(decide (0<r.length)||mn))&&(c::r).all isD
theorem Z9{c:UInt8}:((c.toNat:Int)=48)↔c=48:=by
 constructor
 .intro e
  apply UInt8.toNat_inj.1;have:c.toNat=48:=by omega
  rw[this];rfl
 .rintro rfl;rfl
theorem It(s:List UInt8)(hs:s.length<=1000000000)(mem:Mem):kO prog 94 [.str s] mem (.int .i64 (if okT (Lib.hasPrefix s [45]) (Lib.trimPrefix s [45]) then 0 else 2)) mem:=by
 have X:aS prog 94=some f94:=by kernel_rfl
 refine dv fh (lv:=fun _=>[33]) (K:=s.length+1) rfl rfl ?_ mem;have D:(Lib.trimPrefix s [45]).length<=s.length:=by unfold Lib.trimPrefix;split<;>simp
 cases htp:Lib.trimPrefix s [45] with
 |nil=>simp[aa,X,f94,af,ar,htp,okT]
 |cons c r=>
  rw[htp] at D;simp only[List.length_cons] at D;obtain⟨b,J⟩:∃b,ag f94=[b]:=⟨_,rfl⟩
  obtain⟨F,S⟩:=AD (O:=af ar) (K:=s.length+1) (lv:=fun _=>[33]) (c::r) (by simp;omega) (by simp;omega) J rfl;simp[ag,aH,f94] at J;subst J;simp only[List.length_cons] at S;by_cases M:r.length<200
  .have Z :¬(200<(r.length:Int)+1):=by omega
   by_cases G:c=48
   .subst G
    by_cases h3:0<r.length
    .have W :1<(r.length:Int)+1:=by omega
     simp[aa,X,f94,af,ar,htp,okT,M,Z,h3,W]
    .have W :¬1<(r.length:Int)+1:=by omega
     have C:r=[]:=M0 (by omega);subst C;cases hmn:Lib.hasPrefix s [45] with
     |true=>simp[aa,X,f94,af,ar,htp,okT,hmn]
     |false=>
      have B:isD 48=true:=by decide
      simp[aa,X,f94,af,ar,htp,okT,hmn,S,B]
   .have V :¬((c.toNat:Int)=48):=fun e=>G (Z9.1 e)
    cases I':(c::r).all isD with
    |true=>simp[aa,X,f94,af,ar,htp,okT,M,Z,G,V,S,I']
    |false=>simp[aa,X,f94,af,ar,htp,okT,M,Z,V,S,I']
  .have Z :(200<(r.length:Int)+1):=by omega
   simp[aa,X,f94,af,ar,htp,okT,M,Z]
theorem Rb(q:Rat)(y:(aB q).length<=1000000000)(mem:Mem):kO prog 137 [.str (aB q)] mem (.str (aB (-q))) mem:=by
 have X:aS prog 137=some f137:=by kernel_rfl
 refine aD (aj _) ?_ mem;by_cases Z:q=0
 .subst Z
  simp[aa,X,f137,bK]
 .have J:¬q.num=0:=fun e=>Z (Bv.1 e)
  by_cases S:q.num<0
  .have e:=qj S
   have W:(45::aB (-q)==[48])=false:=by rw[<-e,bK];simpa using Z
   rw[e];have h3:(1:Int)<=((aB (-q)).length:Int)+1:=by omega
   simp[aa,X,f137,W,h3]
  .have e:=tw (q:=q) (by omega)
   obtain⟨c,r,V,hc⟩:=tt (q:=q) (by omega);have W:(c::r==[48])=false:=by rw[<-V,bK];simpa using Z
   have M:=iE hc;rw[e,V];rw[V] at y;simp only[List.length_cons] at y;have h3:1+(r.length+1)<=9223372036854775807:=by omega
   simp[aa,X,f137,W,M,h3,ix]
theorem B0(q:Rat)(mem:Mem):kO prog 89 [.str (aB q)] mem (.int .i64 (oB q)) mem:=by
 have X:aS prog 89=some f89:=by kernel_rfl
 refine aD (aj _) ?_ mem;by_cases Z:q=0
 .subst Z
  have:oB 0=0:=rfl;simp[aa,X,f89,bK,this]
 .have M:¬q.num=0:=fun e=>Z (Bv.1 e)
  by_cases W:q.num<0
  .have e:=qj W
   have V:(45::aB (-q)==[48])=false:=by rw[<-e,bK];simpa using Z
   have h3:0<((aB (-q)).length:Int)+1:=by omega
   rw[e];simp[aa,X,f89,V,oB,oz,W,h3]
  .obtain⟨c,r,S,hc⟩:=tt (q:=q) (by omega)
   have V:(c::r==[48])=false:=by rw[<-S,bK];simpa using Z
   have J:=iE hc;have h3:0<(r.length:Int)+1:=by omega
   rw[S];simp[aa,X,f89,V,J,h3,oB,oz,W,M]
theorem Q5(n:Int)(d:Nat)(y:(cf n).length<=1000000000)(hd:(az d).length<=1000000000)(mem:Mem):kO prog 172 [.str (cf n),.str (az d)] mem (.str (if d=1 then cf n else cf n++47::az d)) mem:=by
 have Z:aS prog 172=some f172:=by kernel_rfl
 refine aD (aj _) ?_ mem;by_cases h:d=1
 .subst h
  have:az 1=[49]:=rfl;simp[aa,Z,f172,this]
 .have X:(az d==[49])=false:=by rw[beq_eq_false_iff_ne];intro e;exact h (H4 (e.trans (show [49]=az 1 from rfl)))
  have W:(cf n).length+1<=9223372036854775807:=by omega
  have V:(cf n).length+1+(az d).length<=9223372036854775807:=by omega
  simp[aa,Z,f172,X,h,W,V,ix]
theorem NR(q:Rat)(y:(aB q).length<=1000000000)(mem:Mem):kO prog 117 [.str (aB q)] mem (.tuple [.str (cf q.num),.str (az q.den)]) mem:=by
 have W:aS prog 117=some f117:=by kernel_rfl
 refine aD fh ?_ mem;have Z:=E4 q;by_cases h:q.den=1
 .have X:az 1=[49]:=rfl
  have e:aB q=cf q.num:=by unfold aB;rw[if_pos h]
  rw[if_pos h,e] at Z;rw[e] at y;rw[e];simp[aa,W,f117,af,ar,y,Z,h,X]
 .have e:aB q=cf q.num++47::az q.den:=by unfold aB;rw[if_neg h]
  rw[if_neg h] at Z;have V:(0:Int)<=(cf q.num).length:=by omega
  have X:List.drop ((cf q.num).length+1) (cf q.num++47::az q.den)=az q.den:=by rw[List.drop_append];simp
  have S:List.take (cf q.num).length (cf q.num++47::az q.den)=cf q.num:=List.take_left' rfl;rw[e] at y Z;rw[e];simp only[Nm,List.length_cons] at y;simp[aa,W,f117,af,ar,y,Z,X]
variable{b2:Code}
theorem AK(s rest:List UInt8)(I:Nat)(hs:s.length<=1000000000)(Q:rest=[]\/∃r,rest=47::r)(y:Env)(d:Bool)(h0:ad y 0=.str s)(R:ad y 7=.int .i64 I)(H:ag f115=[b,b2]):
  ∀(ds:List UInt8) (i j acc k:Nat),s.drop i=ds++rest->ds.all isD=true->i=I+j->i<=s.length->acc<10 ^ j->j<=9->ds.length<=k->
   ∃Z,(j+ds.length<=9->fW [5,2,3] (ab b) y 0 (aT (aU prog) lv O K 73 0 true b) (k+1) ⟨au [5,2,3] (ab b) y ((5,.int .i64 i)::(2,.int .i64 acc)::y),[],d⟩=some (.exit 0,⟨Z,[],d⟩)/\
     ad Z 5=.int .i64 ((i+ds.length:Nat):Int)/\ad Z 2=.int .i64 (wK acc ds)/\ad Z 0=.str s/\ad Z 6=ad y 6/\ad Z 3=ad y 3)/\
    (9<j+ds.length->fW [5,2,3] (ab b) y 0 (aT (aU prog) lv O K 73 0 true b) (k+1) ⟨au [5,2,3] (ab b) y ((5,.int .i64 i)::(2,.int .i64 acc)::y),[],d⟩=some (.ret,⟨Z,[],d⟩)/\
     ad Z 2=.int .i64 0/\ad Z 3=.int .i64 0/\ad Z 4=.bool false):=by
 simp[ag,aH,f115] at H;obtain⟨H,_⟩:=H;intro ds;induction ds with
 |nil=>
  intro i j acc k X _ u hi m Y _;subst H;rcases Q with rfl | ⟨r,rfl⟩
  .have Do:i=s.length:=by have:=congrArg List.length X;simp at this;omega
   subst Do;have S:¬(9<j):=by omega
   simp[fW,h0,S,Y,fD]
  .have B':i<s.length:=by have:=congrArg List.length X;simp at this;omega
   have M :(i:Int)<s.length:=by omega
   have hc:s[i]? =some 47:=by have:=congrArg List.head? X;rw[List.head?_drop] at this;simpa using this
   have S:¬(9<j):=by omega
   simp[fW,h0,M,hc,S,Y,fD]
 |cons c ds ih=>
  intro i j acc k X z u hi m Y hk;simp only[QQK,Es] at z;have B':i<s.length:=by have:=congrArg List.length X;simp at this;omega
  have M :(i:Int)<s.length:=by omega
  have hc:s[i]? =some c:=by have:=congrArg List.head? X;rw[List.head?_drop] at this;simpa using this
  have hc1:=zN z.1;have hc2:48<=c.toNat/\c.toNat<=57:=by have:=z.1;unfold isD at this;simpa using this
  have W:¬((c.toNat:Int)=47):=by omega
  have V:IntKind.i64.wrap ((i:Int)-I)=j:=by rw[ai];omega
  obtain⟨k,rfl⟩:∃k',k=k' +1:=⟨k-1,by simp at hk;omega⟩
  by_cases hj9:j=9
  .subst hj9
   subst H;have S:¬(9+(ds.length+1)<=9):=by omega
   simp[fW,h0,R,M,hc,W,V,S]
  .have J:¬((j:Int)=9):=by omega
   have hp:10 ^ j<=100000000:=QQJ (P1 (by omega) (show j<=8 by omega)) (by decide);obtain⟨v,hv⟩:=xE (α:=Nat) (c.toNat-48);obtain⟨a2,ha2⟩:=xE (α:=Nat) (10*acc+v);obtain⟨i2,G⟩:=xE (α:=Nat) (i+1);have F:IntKind.i64.wrap (10*(acc:Int))=10*(acc:Int):=ai;have D:IntKind.u8.wrap ((c.toNat:Int)-48)=(v:Int):=by rw[Io (by omega) (by omega)];omega
   have C:IntKind.i64.wrap (v:Int)=(v:Int):=ai;have B:IntKind.i64.wrap (10*(acc:Int)+(v:Int))=(a2:Int):=by rw[ai];omega
   have A:IntKind.i64.wrap ((i:Int)+1)=(i2:Int):=by rw[ai];omega
   have abc :a2<10 ^ (j+1):=by rw[Nat.pow_succ];omega
   have hd' :s.drop i2=ds++rest:=by rw[G,<-List.drop_drop,X];simp
   obtain⟨Z,e1,e2⟩:=ih i2 (j+1) a2 k hd' z.2 (by omega) (by omega) abc (by omega) (by simp at hk;omega);subst H;refine⟨Z,fun hle=>?_,fun hgt=>?_⟩
   .obtain⟨f1,f2,f3,f4,f5⟩:=e1 (by simp at hle;omega)
    refine⟨?_,by rw[f2,G,List.length_cons,show i+1+ds.length=i+(ds.length+1) by omega],by rw[f3,fq,ha2,hv],f4,f5⟩;rw[fW];simp[h0,R,M,hc,W,V,J,F,D,C,B,A];simp at f1;exact f1
   .obtain⟨f1,f2⟩:=e2 (by simp at hgt;omega)
    refine⟨?_,f2⟩;rw[fW];simp[h0,R,M,hc,W,V,J,F,D,C,B,A];simp at f1;exact f1
variable{b1:Code}
theorem AL(s:List UInt8)(I:Nat)(hs:s.length<=1000000000)(y:Env)(d:Bool)(h0:ad y 0=.str s)(Q:ad y 7=.int .i64 I)(H:ag f115=[b1,b]):
  ∀(ds:List UInt8) (i j acc k:Nat),s.drop i=ds->ds.all isD=true->i=I+j->i<=s.length->acc<10 ^ j->j<=9->ds.length<=k->
   ∃Z,(j+ds.length<=9->fW [5,3,2] (ab b) y 0 (aT (aU prog) lv O K 73 0 true b) (k+1) ⟨au [5,3,2] (ab b) y ((5,.int .i64 i)::(3,.int .i64 acc)::y),[],d⟩=some (.exit 2,⟨Z,[],d⟩)/\
     ad Z 5=.int .i64 ((i+ds.length:Nat):Int)/\ad Z 3=.int .i64 (wK acc ds)/\ad Z 0=.str s/\ad Z 2=ad y 2)/\
    (9<j+ds.length->fW [5,3,2] (ab b) y 0 (aT (aU prog) lv O K 73 0 true b) (k+1) ⟨au [5,3,2] (ab b) y ((5,.int .i64 i)::(3,.int .i64 acc)::y),[],d⟩=some (.ret,⟨Z,[],d⟩)/\
     ad Z 2=.int .i64 0/\ad Z 3=.int .i64 0/\ad Z 4=.bool false):=by
 simp[ag,aH,f115] at H;obtain⟨_,H⟩:=H;intro ds;induction ds with
 |nil=>
  intro i j acc k W _ B hi A hj _;subst H;have Do:i=s.length:=by have:=congrArg List.length W;simp at this;omega
  subst Do;have z:¬(9<j):=by omega
  simp[fW,h0,z,hj,fD]
 |cons c ds ih=>
  intro i j acc k W C B hi A hj hk;simp only[QQK,Es] at C;have B':i<s.length:=by have:=congrArg List.length W;simp at this;omega
  have u :(i:Int)<s.length:=by omega
  have hc:s[i]? =some c:=by have:=congrArg List.head? W;rw[List.head?_drop] at this;simpa using this
  have hc1:=zN C.1;have hc2:48<=c.toNat/\c.toNat<=57:=by have:=C.1;unfold isD at this;simpa using this
  have X:IntKind.i64.wrap ((i:Int)-I)=j:=by rw[ai];omega
  obtain⟨k,rfl⟩:∃k',k=k' +1:=⟨k-1,by simp at hk;omega⟩
  by_cases m:j=9
  .subst m
   subst H;have z:¬(9+(ds.length+1)<=9):=by omega
   simp[fW,h0,Q,u,X,z]
  .have V:¬((j:Int)=9):=by omega
   have hp:10 ^ j<=100000000:=QQJ (P1 (by omega) (show j<=8 by omega)) (by decide);obtain⟨v,hv⟩:=xE (α:=Nat) (c.toNat-48);obtain⟨Y,R⟩:=xE (α:=Nat) (10*acc+v);obtain⟨i2,S⟩:=xE (α:=Nat) (i+1);have M:IntKind.i64.wrap (10*(acc:Int))=10*(acc:Int):=ai;have J:IntKind.u8.wrap ((c.toNat:Int)-48)=(v:Int):=by rw[Io (by omega) (by omega)];omega
   have G:IntKind.i64.wrap (v:Int)=(v:Int):=ai;have F:IntKind.i64.wrap (10*(acc:Int)+(v:Int))=(Y:Int):=by rw[ai];omega
   have D:IntKind.i64.wrap ((i:Int)+1)=(i2:Int):=by rw[ai];omega
   have abc :Y<10 ^ (j+1):=by rw[Nat.pow_succ];omega
   have hd' :s.drop i2=ds:=by rw[S,<-List.drop_drop,W];simp
   obtain⟨Z,e1,e2⟩:=ih i2 (j+1) Y k hd' C.2 (by omega) (by omega) abc (by omega) (by simp at hk;omega);subst H;refine⟨Z,fun hle=>?_,fun hgt=>?_⟩
   .obtain⟨f1,f2,f3,f4,f5⟩:=e1 (by simp at hle;omega)
    refine⟨?_,by rw[f2,S,List.length_cons,show i+1+ds.length=i+(ds.length+1) by omega],by rw[f3,fq,R,hv],f4,f5⟩;rw[fW];simp[h0,Q,u,hc,X,V,M,J,G,F,D];simp at f1;exact f1
   .obtain⟨f1,f2⟩:=e2 (by simp at hgt;omega)
    refine⟨?_,f2⟩;rw[fW];simp[h0,Q,u,hc,X,V,M,J,G,F,D];simp at f1;exact f1
theorem uI(s rest ds:List UInt8)(y:Nat)(hs:s.length<=1000000000)(I:rest=[]\/∃r,rest=47::r)(hd:s.drop y=ds++rest)(Q:y<=s.length)(R:ds.all isD=true)(hK:s.length<K)(Y:ag f115=[b,b2])(H:lv b=[5,2,3]):
  ∃F:Env->Bool->Env,∀Z d,(ad Z 0=.str s/\ad Z 7=.int .i64 y/\ad Z 5=.int .i64 y/\ad Z 2=.int .i64 0)->
   (ds.length<=9->aT (aU prog) lv O K 73 0 true (.loop b) ⟨Z,[],d⟩=some (.exit 0,⟨F Z d,[],d⟩)/\
     ad (F Z d) 5=.int .i64 ((y+ds.length:Nat):Int)/\ad (F Z d) 2=.int .i64 (wK 0 ds)/\ad (F Z d) 0=.str s/\ad (F Z d) 6=ad Z 6/\ad (F Z d) 3=ad Z 3)/\
    (9<ds.length->aT (aU prog) lv O K 73 0 true (.loop b) ⟨Z,[],d⟩=some (.ret,⟨F Z d,[],d⟩)/\
     ad (F Z d) 2=.int .i64 0/\ad (F Z d) 3=.int .i64 0/\ad (F Z d) 4=.bool false):=by
 refine wE (p:=fun Z _=>ad Z 0=.str s/\ad Z 7=.int .i64 y/\ad Z 5=.int .i64 y/\ad Z 2=.int .i64 0)
  (q:=fun Z d X =>(ds.length<=9->aT (aU prog) lv O K 73 0 true (.loop b) ⟨Z,[],d⟩=some (.exit 0,⟨X,[],d⟩)/\
     ad X 5=.int .i64 ((y+ds.length:Nat):Int)/\ad X 2=.int .i64 (wK 0 ds)/\ad X 0=.str s/\ad X 6=ad Z 6/\ad X 3=ad Z 3)/\
    (9<ds.length->aT (aU prog) lv O K 73 0 true (.loop b) ⟨Z,[],d⟩=some (.ret,⟨X,[],d⟩)/\
     ad X 2=.int .i64 0/\ad X 3=.int .i64 0/\ad X 4=.bool false)) ?_
 rintro Z d ⟨h0,h7,h5,h2⟩;have W:ds.length<=K-1:=by have:=congrArg List.length hd;simp at this;omega
 obtain⟨M,V,S⟩:=AK (O:=O) (K:=K) (lv:=lv) s rest y hs I Z d h0 h7 Y ds y 0 0 (K-1) hd R (by omega) Q (by simp) (by omega) W;have J:au [5,2,3] (ab b) Z ((5,.int .i64 (y:Int))::(2,.int .i64 ((0:Nat):Int))::Z)=au [5,2,3] (ab b) Z Z:=by simp[au,h5,h2]
 rw[J,show K-1+1=K by omega] at V S;rw[QQZ] at V S;refine⟨M,?_,?_⟩
 .rw[aR,H];exact V
 .rw[aR,H];exact S
theorem uJ(s ds:List UInt8)(y:Nat)(hs:s.length<=1000000000)(hd:s.drop y=ds)(I:y<=s.length)(Q:ds.all isD=true)(Y:s.length<K)(R:ag f115=[b1,b])(H:lv b=[5,3,2]):
  ∃F:Env->Bool->Env,∀Z d,(ad Z 0=.str s/\ad Z 7=.int .i64 y/\ad Z 5=.int .i64 y/\ad Z 3=.int .i64 0)->
   (ds.length<=9->aT (aU prog) lv O K 73 0 true (.loop b) ⟨Z,[],d⟩=some (.exit 2,⟨F Z d,[],d⟩)/\
     ad (F Z d) 3=.int .i64 (wK 0 ds)/\ad (F Z d) 2=ad Z 2)/\
    (9<ds.length->aT (aU prog) lv O K 73 0 true (.loop b) ⟨Z,[],d⟩=some (.ret,⟨F Z d,[],d⟩)/\
     ad (F Z d) 2=.int .i64 0/\ad (F Z d) 3=.int .i64 0/\ad (F Z d) 4=.bool false):=by
 refine wE (p:=fun Z _=>ad Z 0=.str s/\ad Z 7=.int .i64 y/\ad Z 5=.int .i64 y/\ad Z 3=.int .i64 0)
  (q:=fun Z d X =>(ds.length<=9->aT (aU prog) lv O K 73 0 true (.loop b) ⟨Z,[],d⟩=some (.exit 2,⟨X,[],d⟩)/\
     ad X 3=.int .i64 (wK 0 ds)/\ad X 2=ad Z 2)/\
    (9<ds.length->aT (aU prog) lv O K 73 0 true (.loop b) ⟨Z,[],d⟩=some (.ret,⟨X,[],d⟩)/\
     ad X 2=.int .i64 0/\ad X 3=.int .i64 0/\ad X 4=.bool false)) ?_
 rintro Z d ⟨h0,h7,h5,h3⟩;have W:ds.length<=K-1:=by have:=congrArg List.length hd;simp at this;omega
 obtain⟨M,V,S⟩:=AL (O:=O) (K:=K) (lv:=lv) s y hs Z d h0 h7 R ds y 0 0 (K-1) hd Q (by omega) I (by simp) (by omega) W;have J:au [5,3,2] (ab b) Z ((5,.int .i64 (y:Int))::(3,.int .i64 ((0:Nat):Int))::Z)=au [5,3,2] (ab b) Z Z:=by simp[au,h5,h3]
 rw[J,show K-1+1=K by omega] at V S;rw[QQZ] at V S;refine⟨M,fun h=>?_,?_⟩
 .obtain⟨f1,_,f3,_,f5⟩:=V h
  rw[aR,H];exact⟨f1,f3,f5⟩
 .rw[aR,H];exact S
def fE(c:Code):List Nat:=if (ab c).contains 17 then [5,2,3] else [5,3,2]
theorem zk(q:Rat):∃Z,aB q=(if q.num<0 then [45] else [])++(az q.num.natAbs++Z)/\(Z=if q.den=1 then [] else 47::az q.den):=by
 refine⟨if q.den=1 then [] else 47::az q.den,?_,rfl⟩;have h:cf q.num=(if q.num<0 then [45] else [])++az q.num.natAbs:=by
  cases hn:q.num with
  |ofNat u=>rw[if_neg (by simp)];rfl
  |negSucc u=>rw[if_pos (Int.negSucc_lt_zero u)];rfl
 unfold aB;rw[h];split<;>simp
section
variable (q:Rat)(hl:(aB q).length<=1000000000)
include q hl
theorem Aw(hq:0<=q.num)(mem:Mem):kO prog 115 [.str (aB q)] mem
  (if (az q.num.natAbs).length<=9/\(q.den=1\/(az q.den).length<=9) then .tuple [.int .i64 q.num,.int .i64 q.den,.bool true] else .tuple [.int .i64 0,.int .i64 0,.bool false]) mem:=by
 have Y:aS prog 115=some f115:=by kernel_rfl
 refine dv (aj _) (lv:=fE) (K:=(aB q).length+1) rfl (by split<;>rfl) ?_ mem;obtain⟨S,R,W⟩:=zk q;rw[if_neg (by omega),List.nil_append] at R;obtain⟨b1,b2,D⟩:∃b1 b2,ag f115=[b1,b2]/\fE b1=[5,2,3]/\fE b2=[5,3,2]:=⟨_,_,rfl,by decide,by decide⟩
 obtain⟨F,hF⟩:=uI (O:=bD) (K:=(aB q).length+1) (lv:=fE) (aB q) S (az q.num.natAbs) 0 hl
  (by rw[W];split;exact .inl rfl;exact .inr ⟨_,rfl⟩) (by rw[List.drop_zero];exact R) (by omega) (ff _) (by omega) D.1 D.2.1
 obtain⟨c,r,C,hc⟩:=tt hq;have H:(aB q)[0]? =some c:=by rw[C];rfl
 have V:=iE hc;have X:0<(aB q).length:=by rw[C];simp only[List.length_cons];omega
 have Q:∀h:0<(aB q).length,(aB q)[0]'h=c:=fun h=>by have:=GT h;rw[H] at this;exact(QQb this).symm
 have Do:(aB q).length=(az q.num.natAbs).length+S.length:=by rw[R,Nm]
 have B:wK 0 (az q.num.natAbs)=q.num.natAbs:=fm _;have A:((q.num.natAbs:Nat):Int)=q.num:=by omega
 have z:=D.1;simp[ag,aH,f115] at z;obtain⟨rfl,rfl⟩:=z;by_cases u:(az q.num.natAbs).length<=9
 .have Z:=fun M d h=>(hF M d h).1 u
  by_cases m:q.den=1
  .rw[if_pos m] at W
   have I:((az q.num.natAbs).length:Int)=((aB q).length:Int):=by rw[Do,W];simp
   rw[QQZ] at Z;simp[aa,Y,f115,Q,V,X,Z,B,A,I,m,u]
  .rw[if_neg m] at W
   have aa5:(aB q).length=(az q.num.natAbs).length+((az q.den).length+1):=by rw[Do,W,List.length_cons]
   have I:¬((az q.num.natAbs).length:Int)=((aB q).length:Int):=by omega
   obtain⟨bg,y⟩:=xE (α:=Nat) ((az q.num.natAbs).length+1);have hw:IntKind.i64.wrap (((az q.num.natAbs).length:Int)+1)=(bg:Int):=by rw[ai];omega
   obtain⟨F2,j⟩:=uJ (O:=bD) (K:=(aB q).length+1) (lv:=fE) (aB q) (az q.den) bg hl
    (by rw[R,W,y,List.drop_append];simp) (by omega) (ff _) (by omega) D.1 D.2.2
   have ab4:wK 0 (az q.den)=q.den:=fm _;rw[QQZ] at Z;by_cases J:(az q.den).length<=9
   .have G:=fun M d h=>(j M d h).1 J
    simp[aa,Y,f115,Q,V,X,Z,B,A,I,m,u,hw,G,ab4,J]
   .have G:=fun M d h=>(j M d h).2 (by omega)
    simp[aa,Y,f115,Q,V,X,Z,I,m,u,hw,G,J]
 .have Z:=fun M d h=>(hF M d h).2 (by omega)
  simp[aa,Y,f115,Q,V,X,Z,u]
theorem Av(hq:q.num<0)(mem:Mem):kO prog 115 [.str (aB q)] mem
  (if (az q.num.natAbs).length<=9/\(q.den=1\/(az q.den).length<=9) then .tuple [.int .i64 q.num,.int .i64 q.den,.bool true] else .tuple [.int .i64 0,.int .i64 0,.bool false]) mem:=by
 have R:aS prog 115=some f115:=by kernel_rfl
 refine dv (aj _) (lv:=fE) (K:=(aB q).length+1) rfl (by split<;>rfl) ?_ mem;obtain⟨S,M,X⟩:=zk q;rw[if_pos hq,List.singleton_append] at M;obtain⟨b1,b2,B⟩:∃b1 b2,ag f115=[b1,b2]/\fE b1=[5,2,3]/\fE b2=[5,3,2]:=⟨_,_,rfl,by decide,by decide⟩
 obtain⟨F,hF⟩:=uI (O:=bD) (K:=(aB q).length+1) (lv:=fE) (aB q) S (az q.num.natAbs) 1 hl
  (by rw[X];split;exact .inl rfl;exact .inr ⟨_,rfl⟩) (by rw[M];rfl) (by rw[M];simp) (ff _) (by omega) B.1 B.2.1
 have Z:0<(aB q).length:=by rw[M];simp
 have Q:∀h:0<(aB q).length,(aB q)[0]'h=45:=fun h=>by
  have h1:=GT h;have h2:(aB q)[0]? =some 45:=by rw[M];rfl
  rw[h2] at h1;exact(QQb h1).symm
 have Do:(aB q).length=1+((az q.num.natAbs).length+S.length):=by rw[M,List.length_cons,Nm,QXJ]
 have A:wK 0 (az q.num.natAbs)=q.num.natAbs:=fm _;have hub:q.num.natAbs<10 ^ (az q.num.natAbs).length:=dC _;have z:=B.1;simp[ag,aH,f115] at z;obtain⟨rfl,rfl⟩:=z;by_cases C:(az q.num.natAbs).length<=9
 .have W:=fun J d h=>(hF J d h).1 C
  obtain⟨u,V⟩:=xE (α:=Nat) (1+(az q.num.natAbs).length);rw[<-V] at W;have afP:10 ^ (az q.num.natAbs).length<=1000000000:=QQJ (P1 (by omega) C) (by decide);have m:IntKind.i64.wrap (-((q.num.natAbs:Nat):Int))=q.num:=by rw[ai];omega
  by_cases j:q.den=1
  .rw[if_pos j] at X
   have I:(u:Int)=((aB q).length:Int):=by rw[Do,X,V];simp
   simp[aa,R,f115,Q,Z,W,A,m,I,j,C]
  .rw[if_neg j] at X
   have aa5:(aB q).length=u+((az q.den).length+1):=by rw[Do,X,List.length_cons,V];omega
   have I:¬(u:Int)=((aB q).length:Int):=by omega
   obtain⟨bg,H⟩:=xE (α:=Nat) (u+1);have hw:IntKind.i64.wrap ((u:Int)+1)=(bg:Int):=by rw[ai];omega
   obtain⟨F2,Y⟩:=uJ (O:=bD) (K:=(aB q).length+1) (lv:=fE) (aB q) (az q.den) bg hl
    (by rw[M,X,H,V,show 1+(az q.num.natAbs).length+1=((az q.num.natAbs).length+1)+1 by omega,List.drop_succ_cons,List.drop_append];simp) (by omega) (ff _) (by omega) B.1 B.2.2
   have y:wK 0 (az q.den)=q.den:=fm _;by_cases G:(az q.den).length<=9
   .have D:=fun J d h=>(Y J d h).1 G
    simp[aa,R,f115,Q,Z,W,A,m,I,j,C,hw,D,y,G]
   .have D:=fun J d h=>(Y J d h).2 (by omega)
    simp[aa,R,f115,Q,Z,W,I,j,C,hw,D,G]
 .have W:=fun J d h=>(hF J d h).2 (by omega)
  simp[aa,R,f115,Q,Z,W,C]
theorem I3(mem:Mem):kO prog 115 [.str (aB q)] mem
  (if (az q.num.natAbs).length<=9/\(q.den=1\/(az q.den).length<=9) then .tuple [.int .i64 q.num,.int .i64 q.den,.bool true] else .tuple [.int .i64 0,.int .i64 0,.bool false]) mem:=by
 by_cases hq:0<=q.num
 .exact Aw q hl hq mem
 .exact Av q hl (by omega) mem
end
def euc:Nat->Int->Int->Int
 |0,x,_=>x
 |k+1,x,y=>if y=0 then x else euc k y (x.tmod y)
theorem tW:∀(k:Nat) (x y:Int),y.natAbs<k->(euc k x y).natAbs=x.natAbs.gcd y.natAbs
 |0,_,_,h=>by omega
 |k+1,x,y,h=>by
  unfold euc;by_cases Z:y=0
  .subst Z;rw[if_pos rfl];simp
  .rw[if_neg Z]
   have X:(x.tmod y).natAbs<k:=by rw[Int.natAbs_tmod];have:=Nat.mod_lt x.natAbs (show 0<y.natAbs by omega);omega
   rw[tW k y (x.tmod y) X,Int.natAbs_tmod,Nat.gcd_comm x.natAbs,Nat.gcd_rec y.natAbs x.natAbs,Nat.gcd_comm]
theorem CJ(H:Env)(d:Bool)(I:ag f116=[b]):
  ∀(k:Nat) (x y:Int),y.natAbs<k->∃Z,fW [5,6] (ab b) H 0 (aT (aU prog) lv O K 35 0 true b) k ⟨au [5,6] (ab b) H ((5,.int .i64 x)::(6,.int .i64 y)::H),[],d⟩=
   some (.exit 0,⟨Z,[],d⟩)/\ad Z 5=.int .i64 (euc k x y)/\ad Z 0=ad H 0/\ad Z 1=ad H 1/\ad Z 4=ad H 4:=by
 simp[ag,aH,f116] at I;intro k;induction k with
 |zero=>intro x y h;omega
 |succ k ih=>
  intro x y J;by_cases X:y=0
  .subst I
   subst X;simp[fW,euc]
  .have V:(x.tmod y).natAbs<k:=by rw[Int.natAbs_tmod];have:=Nat.mod_lt x.natAbs (show 0<y.natAbs by omega);omega
   obtain⟨Z,W,S,M⟩:=ih y (x.tmod y) V;subst I;refine⟨Z,?_,by rw[S,euc,if_neg X],M⟩;rw[fW];simp[X];simp at W;exact W
theorem AN(H:ag f116=[b])(y:lv b=[5,6])(n:Int)(m:Nat)(I:m<K):
  ∃F:Env->Bool->Env,∀Z d,(ad Z 5=.int .i64 n/\ad Z 6=.int .i64 m)->
   aT (aU prog) lv O K 35 0 true (.loop b) ⟨Z,[],d⟩=some (.exit 0,⟨F Z d,[],d⟩)/\ad (F Z d) 5=.int .i64 (euc K n m)/\
    ad (F Z d) 0=ad Z 0/\ad (F Z d) 1=ad Z 1/\ad (F Z d) 4=ad Z 4:=by
 refine wE (p:=fun Z _=>ad Z 5=.int .i64 n/\ad Z 6=.int .i64 m) (q:=fun Z d X =>aT (aU prog) lv O K 35 0 true (.loop b) ⟨Z,[],d⟩=some (.exit 0,⟨X,[],d⟩)/\ad X 5=.int .i64 (euc K n m)/\
    ad X 0=ad Z 0/\ad X 1=ad Z 1/\ad X 4=ad Z 4) ?_
 rintro Z d ⟨h5,h6⟩;obtain⟨V,W,S⟩:=CJ (O:=O) (K:=K) (lv:=lv) Z d H K n m (by simpa using I);have M:au [5,6] (ab b) Z ((5,.int .i64 n)::(6,.int .i64 (m:Int))::Z)=au [5,6] (ab b) Z Z:=by simp[au,h5,h6]
 rw[M] at W;exact⟨V,by rw[aR,y];exact W,S⟩
theorem Ja(n:Int)(m:Nat)(hn:n.natAbs<=4611686018427387904)(y:m≠0)(hm:m<=4611686018427387904)(mem:Mem):kO prog 116 [.int .i64 n,.int .i64 m] mem (.str (aB (Rat.normalize n m y))) mem:=by
 have hG:aS prog 116=some f116:=by kernel_rfl
 refine dv fh (lv:=fun _=>[5,6]) (K:=m+1) rfl rfl ?_ mem;obtain⟨b,hb⟩:∃b,ag f116=[b]:=⟨_,rfl⟩
 obtain⟨F,A⟩:=AN (O:=af ar) (K:=m+1) (lv:=fun _=>[5,6]) hb rfl n m (by omega);simp[ag,aH,f116] at hb;subst hb;have hg:=tW (m+1) n m (by simp);generalize euc (m+1) n m=g at A hg;rw[Int.natAbs_natCast] at hg;have z:n.natAbs.gcd m∣m:=Nat.gcd_dvd_right _ _;have hgn:n.natAbs.gcd m∣n.natAbs:=Nat.gcd_dvd_left _ _;have hgp:0<n.natAbs.gcd m:=Nat.gcd_pos_of_pos_right _ (by omega);have hgm:n.natAbs.gcd m<=m:=Nat.le_of_dvd (by omega) z;obtain⟨D,aeG,Z⟩:∃D,aB (Rat.normalize n m y)=D/\D=if m / n.natAbs.gcd m=1 then cf (n / (n.natAbs.gcd m:Nat)) else cf (n / (n.natAbs.gcd m:Nat))++47::az (m / n.natAbs.gcd m):=
  ⟨_,rfl,by rw[Rat.normalize_eq];rfl⟩
 rw[aeG];generalize n.natAbs.gcd m=G at*;have C:(G:Int)∣n:=Int.ofNat_dvd_left.2 hgn;have hdm:(G:Int)∣(m:Int):=Int.ofNat_dvd.2 z;obtain⟨p,hp⟩:=xE (α:=Int) (n / (G:Int));obtain⟨e,he⟩:=xE (α:=Nat) (m / G);rw[<-hp,<-he] at Z;have W:IntKind.i64.wrap (n.tdiv (G:Int))=p:=by
  rw[Int.tdiv_eq_ediv_of_dvd C,<-hp];have:p.natAbs<=n.natAbs:=by rw[hp,<-Int.tdiv_eq_ediv_of_dvd C,Int.natAbs_tdiv];exact Nat.div_le_self _ _
  exact ai
 have hq2:IntKind.i64.wrap ((m:Int).tdiv (G:Int))=(e:Int):=by
  have h1:(m:Int).tdiv (G:Int)=(e:Int):=by rw[he,<-Int.ofNat_tdiv]
  have h2:e<=m:=by rw[he];exact Nat.div_le_self _ _
  rw[h1];exact ai
 have V :IntKind.i64.wrap ((m:Int) / (G:Int))=(e:Int):=by rw[<-Int.tdiv_eq_ediv_of_dvd hdm];exact hq2
 have S:¬G=0:=by omega
 have hpn: -4611686018427387904<=p/\p<=4611686018427387904:=by
  have:p.natAbs<=n.natAbs:=by rw[hp,<-Int.tdiv_eq_ediv_of_dvd C,Int.natAbs_tdiv];exact Nat.div_le_self _ _
  omega
 have hem:e<=4611686018427387904:=by
  have h2:e<=m:=by rw[he];exact Nat.div_le_self _ _
  omega
 have M:dw p=true:=by simp only[dw,Es,L0];omega
 have u:dw (e:Int)=true:=by simp only[dw,Es,L0];omega
 have j:cf (e:Int)=az e:=rfl;have Y:(g<0->IntKind.i64.wrap (-g)=(G:Int))/\(¬g<0->g=(G:Int)):=⟨fun h=>by rw[ai];omega,fun h=>by omega⟩;have hlp:(cf p).length<=21:=by rw[UX];exact Lib.itoa_length_le p (by omega) (by omega)
 have hle:(az e).length<=19:=aV (by omega) (Nat.lt_of_le_of_lt hem (by decide));have R:(cf p).length+1<=9223372036854775807:=by omega
 have Q:(cf p).length+1+(az e).length<=9223372036854775807:=by omega
 by_cases J:g<0
 .have I:=Y.1 J
  by_cases X:e=1
  .simp[aa,hG,f116,af,ar,A,J,I,S,W,V,X,M,Z]
  .have B :¬(e:Int)=1:=by omega
   simp[aa,hG,f116,af,ar,A,J,I,S,W,V,X,B,M,u,j,Z,R,Q,ix]
 .have I:=Y.2 J
  have H:¬(G:Int)<0:=by omega
  by_cases X:e=1
  .simp[aa,hG,f116,af,ar,A,H,I,S,W,V,X,M,Z]
  .have B :¬(e:Int)=1:=by omega
   simp[aa,hG,f116,af,ar,A,H,I,S,W,V,X,B,M,u,j,Z,R,Q,ix]
end Go.Proofs
