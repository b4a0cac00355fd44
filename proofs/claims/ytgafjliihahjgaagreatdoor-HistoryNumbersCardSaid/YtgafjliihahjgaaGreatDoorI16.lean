/- See I36. -/
import Derived.Test.YtgafjliihahjgaaGreatDoorI15
set_option linter.all false
set_option maxRecDepth 100000
set_option maxHeartbeats 40000000
namespace Go.Proofs
open Go.Eng
open Tryz
theorem Rc(n:Int)(d:Nat)(hd:d≠0)(H:(az n.natAbs).length<=10000)(y:(az d).length<=10000)(mem:Mem):
  kO prog 97 [.str (cf n),.str (az d)] mem (.tuple [.str (aB (mkRat n d)),.int .i64 0]) mem:=by
 have Z:aS prog 97=some f97:=by kernel_rfl
 refine aD lx ?_ mem;have X:oz (d:Int)=1:=QA hd;have W:(az n.natAbs).length<=100000:=by omega
 have h3:(az d).length<=100000:=by omega
 simp[aa,Z,f97,af,ba,aX,cI,aL,aP,fg,ej,aW,X,hd,W,h3]
noncomputable def xn(f:FuncId)(args:List AV):Option AV:=
 match f,args with
 |97,[.str s,.str t]=>match mZ s,zW t with
  |some n,some d=>if d≠0/\(az n.natAbs).length<=10000/\(az d).length<=10000 then some (.tuple [.str (aB (mkRat n d)),.int .i64 0]) else none
  |_,_=>none
 |f,args=>aq f args
theorem CE:adM prog (af xn):=bX fun f Z v h mem=>by
 unfold xn at h;split at h
 .split at h
  .rename_i m n X W
   split at h
   next hc=>cases h;rw[dy X,jo W];exact Rc m n hc.1 hc.2.1 hc.2.2 mem
   .cases h
  .cases h
 .have:=cw.fn _ _ mem ⟨v,none,[]⟩ (by unfold af;simp only;rw[h])
  simpa [afA.mem] using this
theorem ij{n:Nat}(h:n<10 ^ 19):(az n).length<=20:=by exact aV (by omega) (by omega)
theorem Ty(n:Int)(d:Nat)(hd:d≠0)(H:dw n=true)(y:dw (d:Int)=true)(mem:Mem):
  kO prog 56 [.int .i64 n,.int .i64 d] mem (.tuple [.str (aB (mkRat n d)),.int .i64 0]) mem:=by
 have X:aS prog 56=some f56:=by kernel_rfl
 refine aD CE ?_ mem;have W:n.natAbs<10 ^ 19:=by unfold dw at H;simp at H;omega
 have Z:d<10 ^ 19:=by unfold dw at y;simp at y;omega
 have V:(az n.natAbs).length<=10000:=by have:=ij W;omega
 have h3:(az d).length<=10000:=by have:=ij Z;omega
 have S:cf (d:Int)=az d:=rfl;simp[aa,X,f56,af,xn,aq,aI,ba,aX,cI,aL,ej,aW,H,y,S,hd,V,h3]
end Go.Proofs
namespace Go.Eng
theorem Gr{a:Int}{b:Nat}(y:0<b)(h:0<=a\/a.natAbs%b=0):a.tdiv b=a / b/\a.tmod b=((a.natAbs%b:Nat):Int):=by
 by_cases V:0<=a
 .obtain⟨n,rfl⟩:∃n:Nat,a=n:=⟨a.toNat,by omega⟩
  rw[yd,ye,Int.natAbs_natCast,Int.natCast_ediv];exact⟨rfl,rfl⟩
 .have Z:a.natAbs%b=0:=by rcases h with h | h<;>omega
  have X:a= -((a.natAbs / b*b:Nat):Int):=by have:=Nat.div_add_mod a.natAbs b;rw[Z,Nat.add_zero,V1] at this;omega
  obtain⟨q,hq⟩:=xE (a.natAbs / b);rw[<-hq] at X;rw[Z,X,Int.natCast_mul,<-Int.neg_mul];have W :(b:Int)≠0:=by omega
  exact⟨by rw[Int.mul_tdiv_cancel _ W,Int.mul_ediv_cancel _ W],by rw[Int.mul_tmod_left];rfl⟩
end Go.Eng
namespace Go.Proofs
open Go.Eng
open Tryz
variable{K:Nat}{O:af3}{b:Code}
theorem ES(n m:Int)(I:m.natAbs<K)(H:ag f129=[b]):
  ∃F:Env->Bool->Env,∀Z d,(ad Z 5=.int .i64 n/\ad Z 6=.int .i64 m)->
   aT (aU prog) (fun _=>[5,6]) O K 36 0 true (.loop b) ⟨Z,[],d⟩=some (.exit 0,⟨F Z d,[],d⟩)/\(ad (F Z d) 5=.int .i64 (euc K n m)/\ad (F Z d) 0=ad Z 0/\ad (F Z d) 1=ad Z 1/\ad (F Z d) 4=ad Z 4):=by
 refine bG rfl (fun Z=>ad Z 5=.int .i64 n/\ad Z 6=.int .i64 m) (fun Z X =>ad X 5=.int .i64 (euc K n m)/\ad X 0=ad Z 0/\ad X 1=ad Z 1/\ad X 4=ad Z 4) ?_;rintro Z d ⟨h5,h6⟩;have S:au [5,6] (ab b) Z ((5,.int .i64 n)::(6,.int .i64 m)::Z)=au [5,6] (ab b) Z Z:=by simp[au,h5,h6]
 rw[<-S];have W:∀(k:Nat) (x y:Int),y.natAbs<k->∃X,fW [5,6] (ab b) Z 0 (aT (aU prog) (fun _=>[5,6]) O K 36 0 true b) k ⟨au [5,6] (ab b) Z ((5,.int .i64 x)::(6,.int .i64 y)::Z),[],d⟩=
   some (.exit 0,⟨X,[],d⟩)/\ad X 5=.int .i64 (euc k x y)/\ad X 0=ad Z 0/\ad X 1=ad Z 1/\ad X 4=ad Z 4:=by
  clear S;simp[ag,aH,f129] at H;intro k;induction k with
  |zero=>intro x y h;omega
  |succ k ih=>
   intro x y C;by_cases V:y=0
   .subst H
    subst V;simp[fW,euc]
   .have J:(x.tmod y).natAbs<k:=by rw[Int.natAbs_tmod];have:=Nat.mod_lt x.natAbs (show 0<y.natAbs by omega);omega
    obtain⟨X,M,G,D⟩:=ih y (x.tmod y) J;subst H;refine⟨X,?_,by rw[G,euc,if_neg V],D⟩;rw[fW];simp[V];simp at M;exact M
 exact W K n m I
theorem GI(n:Int)(m:Nat)(hn:n.natAbs<=4611686018427387904)(H:m≠0)(hm:m<=4611686018427387904)(mem:Mem):kO prog 129 [.int .i64 n,.int .i64 m] mem (.str (aB (mkRat n m))) mem:=by
 have Q:aS prog 129=some f129:=by kernel_rfl
 refine dv fh (lv:=fun _=>[5,6]) (K:=m+1) rfl rfl ?_ mem;obtain⟨b,I⟩:∃b,ag f129=[b]:=⟨_,rfl⟩
 obtain⟨N,hN⟩:=xE (α:=Nat) n.natAbs;obtain⟨F,hF⟩:=ES (O:=af ar) (K:=m+1) (N:Int) (m:Int) (by simp) I;simp[ag,aH,f129] at I;subst I;rw[zj n H,<-hN];have hgE:∀k (x y:Nat),0<=euc k (x:Int) (y:Int):=by
  intro k;induction k with
  |zero=>intro x y;unfold euc;omega
  |succ k ih=>
   intro x y;unfold euc;split
   .omega
   .rw[ye];exact ih y (x%y)
 have W:=tW (m+1) (N:Int) (m:Int) (by simp);have hg0:=hgE (m+1) N m;generalize euc (m+1) (N:Int) (m:Int)=gz at hF W hg0;rw[Int.natAbs_natCast,Int.natAbs_natCast] at W;obtain⟨g,rfl⟩:∃g:Nat,gz=g:=⟨gz.toNat,by omega⟩
 rw[Int.natAbs_natCast] at W;rw[<-W];have hgp:0<g:=by rw[W];exact Nat.gcd_pos_of_pos_right _ (by omega)
 have hgn:g∣N:=by rw[W];exact Nat.gcd_dvd_left _ _
 have hgd:g∣m:=by rw[W];exact Nat.gcd_dvd_right _ _
 have hgm:g<=m:=Nat.le_of_dvd (by omega) hgd;have R:=Gr (a:=n) hgp (.inr (by rw[<-hN];exact Nat.mod_eq_zero_of_dvd hgn));have hq1:(n / (g:Int)).natAbs<=n.natAbs:=Int.natAbs_ediv_le_natAbs _ _;obtain⟨Z,hZ⟩:=xE (n / (g:Int));rw[<-hZ] at hq1 R |-;obtain⟨D,M⟩:=xE (m / g);have hDm:D<=m:=by rw[M];exact Nat.div_le_self _ _
 rw[<-M];have w0:IntKind.i64.wrap (-n)= -n:=ai;have J:(if n< -n then -n else n)=(N:Int):=by split<;>omega
 have afL :(if -n<n then n else -n)=(N:Int):=by split<;>omega
 have w1:IntKind.i64.wrap (n.tdiv (g:Int))=Z:=by rw[R.1];exact ai
 have G :IntKind.i64.wrap Z=Z:=ai;have w2:IntKind.i64.wrap ((m:Int).tdiv (g:Int))=(D:Int):=by rw[yd,<-M];exact ai
 have C :IntKind.i64.wrap ((m:Int) / (g:Int))=(D:Int):=by rw[<-Int.natCast_ediv,<-M];exact ai
 have V:dw Z=true:=by unfold dw;simp;omega
 have hf2:dw (D:Int)=true:=by unfold dw;simp;omega
 have hDs:cf (D:Int)=az D:=rfl;have B :¬g=0:=by omega
 have lZ:(cf Z).length+1<=ix/\(cf Z).length+1+(az D).length<=ix:=by have h1:=dz Z;have h2:=aV (u:=Z.natAbs) (k:=20) (by omega) (by omega);have h3:=aV (u:=D) (k:=20) (by omega) (by omega);unfold ix;omega
 obtain⟨l1,l2⟩:=lZ;by_cases A:m=1
 .have z:g=1:=by omega
  have X:D=1:=by rw[M,A,z]
  have j:Z=n:=by rw[hZ,z];exact Int.ediv_one n
  have hfn:dw n=true:=by rw[<-j];exact V
  subst A;rw[if_pos X,j];simp[aa,Q,f129,af,ar,hfn]
 .have Y:¬(m:Int)=1:=by omega
  by_cases X:D=1
  .have S:(D:Int)=1:=by omega
   rw[if_pos X];simp[aa,Q,f129,Y,w0,J,hF,B,R,G,C,S,af,ar,V,Nat.testBit]
  .have S:¬(D:Int)=1:=by omega
   rw[if_neg X];simp[aa,Q,f129,Y,w0,J,hF,B,R,G,C,S,af,ar,V,hf2,hDs,l1,l2,Nat.testBit]
theorem AJ(n m:Int)(I:m.natAbs<K)(H:ag f99=[b]):
  ∃F:Env->Bool->Env,∀Z d,(ad Z 9=.int .i64 n/\ad Z 10=.int .i64 m)->
   aT (aU prog) (fun _=>[9,10]) O K 55 0 true (.loop b) ⟨Z,[],d⟩=some (.exit 0,⟨F Z d,[],d⟩)/\(ad (F Z d) 9=.int .i64 (euc K n m)/\ad (F Z d) 5=ad Z 5/\ad (F Z d) 7=ad Z 7/\ad (F Z d) 4=ad Z 4):=by
 refine bG rfl (fun Z=>ad Z 9=.int .i64 n/\ad Z 10=.int .i64 m) (fun Z X =>ad X 9=.int .i64 (euc K n m)/\ad X 5=ad Z 5/\ad X 7=ad Z 7/\ad X 4=ad Z 4) ?_;rintro Z d ⟨h5,h6⟩;have S:au [9,10] (ab b) Z ((9,.int .i64 n)::(10,.int .i64 m)::Z)=au [9,10] (ab b) Z Z:=by simp[au,h5,h6]
 rw[<-S];have W:∀(k:Nat) (x y:Int),y.natAbs<k->∃X,fW [9,10] (ab b) Z 0 (aT (aU prog) (fun _=>[9,10]) O K 55 0 true b) k ⟨au [9,10] (ab b) Z ((9,.int .i64 x)::(10,.int .i64 y)::Z),[],d⟩=
   some (.exit 0,⟨X,[],d⟩)/\ad X 9=.int .i64 (euc k x y)/\ad X 5=ad Z 5/\ad X 7=ad Z 7/\ad X 4=ad Z 4:=by
  clear S;simp[ag,aH,f99] at H;intro k;induction k with
  |zero=>intro x y h;omega
  |succ k ih=>
   intro x y C;by_cases V:y=0
   .subst H
    subst V;simp[fW,euc]
   .have J:(x.tmod y).natAbs<k:=by rw[Int.natAbs_tmod];have:=Nat.mod_lt x.natAbs (show 0<y.natAbs by omega);omega
    obtain⟨X,M,G,D⟩:=ih y (x.tmod y) J;subst H;refine⟨X,?_,by rw[G,euc,if_neg V],D⟩;rw[fW];simp[V];simp at M;exact M
 exact W K n m I
theorem Sn:∀(k x y:Nat),0<=euc k (x:Int) (y:Int):=by
 intro k;induction k with
 |zero=>intro x y;unfold euc;omega
 |succ k ih=>
  intro x y;unfold euc;split
  .omega
  .rw[ye];exact ih y (x%y)
theorem I2(n:Int)(m:Nat)(hm0:m≠0)(y:(cf n).length<=18)(H:(az m).length<=18)(mem:Mem):kO prog 99 [.str (cf n),.str (az m)] mem (.str (aB (mkRat n m))) mem:=by
 have hG:aS prog 99=some f99:=by kernel_rfl
 have hn:=kF y;have hm:m<10 ^ 18:=by have h1:=dC m;have h2:10 ^ (az m).length<=10 ^ 18:=P1 (by omega) H;omega
 refine dv fh (lv:=fun _=>[9,10]) (K:=m+1) rfl rfl ?_ mem;obtain⟨b,hb⟩:∃b,ag f99=[b]:=⟨_,rfl⟩
 obtain⟨N,hN⟩:=xE (α:=Nat) n.natAbs;rw[<-hN] at hn;obtain⟨F,B⟩:=AJ (O:=af ar) (K:=m+1) (N:Int) (m:Int) (by simp) hb;simp[ag,aH,f99] at hb;subst hb;rw[zj n hm0,<-hN];have A:=tW (m+1) (N:Int) (m:Int) (by simp);have hg0:=Sn (m+1) N m;generalize euc (m+1) (N:Int) (m:Int)=gz at B A hg0;rw[Int.natAbs_natCast,Int.natAbs_natCast] at A;obtain⟨g,rfl⟩:∃g:Nat,gz=g:=⟨gz.toNat,by omega⟩
 rw[Int.natAbs_natCast] at A;rw[<-A];have hgp:0<g:=by rw[A];exact Nat.gcd_pos_of_pos_right _ (by omega)
 have hgn:g∣N:=by rw[A];exact Nat.gcd_dvd_left _ _
 have z:=Gr (a:=n) hgp (.inr (by rw[<-hN];exact Nat.mod_eq_zero_of_dvd hgn));have hq1:(n / (g:Int)).natAbs<=n.natAbs:=Int.natAbs_ediv_le_natAbs _ _;obtain⟨Z,hZ⟩:=xE (n / (g:Int));rw[<-hZ] at hq1 z |-;obtain⟨D,hD⟩:=xE (m / g);have hDm:D<=m:=by rw[hD];exact Nat.div_le_self _ _
 rw[<-hD];have w1:IntKind.i64.wrap (n.tdiv (g:Int))=Z:=by rw[z.1];exact ai
 have V :IntKind.i64.wrap Z=Z:=ai;have w2:IntKind.i64.wrap ((m:Int).tdiv (g:Int))=(D:Int):=by rw[yd,<-hD];exact ai
 have S :IntKind.i64.wrap ((m:Int) / (g:Int))=(D:Int):=by rw[<-Int.natCast_ediv,<-hD];exact ai
 have M:dw Z=true:=by unfold dw;simp;omega
 have Y:dw (D:Int)=true:=by unfold dw;simp;omega
 have R:cf (D:Int)=az D:=rfl;have J :¬g=0:=by omega
 have lZ:(cf Z).length+1<=ix/\(cf Z).length+1+(az D).length<=ix:=by have h1:=dz Z;have h2:=aV (u:=Z.natAbs) (k:=20) (by omega) (by omega);have h3:=aV (u:=D) (k:=20) (by omega) (by omega);unfold ix;omega
 obtain⟨l1,l2⟩:=lZ;have G:Lib.atoi (az m)=some (m:Int):=oT (m:Int);have C:¬(m:Int)<0:=by omega
 have w0:IntKind.i64.wrap (-n)= -n:=ai;have abL:n<0-> -n=(N:Int):=by omega
 have Q:¬n<0->n=(N:Int):=by omega
 by_cases j:n<0
 .have I :IntKind.i64.wrap (-n)=(N:Int):=by rw[w0];exact abL j
  by_cases W:D=1
  .have X:(D:Int)=1:=by omega
   rw[if_pos W];simp[aa,hG,f99,af,ar,y,H,oT,G,C,j,I,B,J,z,V,S,X,M,Nat.testBit]
  .have X:¬(D:Int)=1:=by omega
   rw[if_neg W];simp[aa,hG,f99,af,ar,y,H,oT,G,C,j,I,B,J,z,V,S,X,M,Y,R,l1,l2,Nat.testBit]
 .have e:=Q j
  rw[<-e] at B;by_cases W:D=1
  .have X:(D:Int)=1:=by omega
   rw[if_pos W];simp[aa,hG,f99,af,ar,y,H,oT,G,C,j, B,J,z,V,S,X,M,Nat.testBit]
  .have X:¬(D:Int)=1:=by omega
   rw[if_neg W];simp[aa,hG,f99,af,ar,y,H,oT,G,C,j, B,J,z,V,S,X,M,Y,R,l1,l2,Nat.testBit]
theorem Ad{ds:List UInt8}(hd:ds.all isD=true)(y:ds.length<=9)(j:Nat):iU (ds.take j)<10 ^ 9:=by
 have W:iU (ds.take j)<10 ^ (ds.take j).length:=by
  have Z:(ds.take j).all isD=true:=by rw[List.all_eq_true] at hd |-;exact fun c hc=>hd c (List.mem_of_mem_take hc)
  have:=qt _ 0 Z;unfold iU;omega
 have X:(ds.take j).length<=9:=by rw[P3];omega
 have h3:10 ^ (ds.take j).length<=10 ^ 9:=P1 (by omega) X;omega
def lf(c:Code):List Nat:=if (ab c).contains 24 then [2,5] else [3,5]
variable{b2:Code}
theorem Az(s ds rest:List UInt8)(y:Nat)(hs:s.length<=9)(hst:y<=s.length)(hd:s.drop y=ds++rest)(I:rest=[]\/∃r,rest=47::r)(I':ds.all isD=true)(hK:10<K)(H:ag f128=[b,b2]):
  ∃F:Env->Bool->Env,∀Z d,(ad Z 0=.str s/\ad Z 2=.int .i64 0/\ad Z 5=.int .i64 (y:Int))->
   aT (aU prog) lf O K 57 0 true (.loop b) ⟨Z,[],d⟩=some (.exit 0,⟨F Z d,[],d⟩)/\(ad (F Z d) 2=.int .i64 ((iU ds:Nat):Int)/\ad (F Z d) 5=.int .i64 ((y+ds.length:Nat):Int)/\ad (F Z d) 0=ad Z 0/\ad (F Z d) 3=ad Z 3/\ad (F Z d) 6=ad Z 6):=by
 have B:lf b=[2,5]:=by simp[ag,aH,f128] at H;obtain⟨rfl,rfl⟩:=H;decide
 have Do:y+ds.length+rest.length=s.length:=by have:=congrArg List.length hd;simp at this;omega
 refine bG B (fun Z=>ad Z 0=.str s/\ad Z 2=.int .i64 0/\ad Z 5=.int .i64 (y:Int)) (fun Z M =>ad M 2=.int .i64 ((iU ds:Nat):Int)/\ad M 5=.int .i64 ((y+ds.length:Nat):Int)/\ad M 0=ad Z 0/\ad M 3=ad Z 3/\ad M 6=ad Z 6) ?_;rintro Z d ⟨h0,h2,h5⟩;have J:iU (ds.take 0)=0:=by rw[List.take_zero];unfold iU;rw[fD]
 have hn:au [2,5] (ab b) Z ((2,.int .i64 ((iU (ds.take 0):Nat):Int))::(5,.int .i64 ((y+0:Nat):Int))::Z)=au [2,5] (ab b) Z Z:=by rw[J];simp[au,h2,h5]
 rw[<-hn];refine bW (α:=Nat) (fun j=>⟨au [2,5] (ab b) Z ((2,.int .i64 ((iU (ds.take j):Nat):Int))::(5,.int .i64 ((y+j:Nat):Int))::Z),[],d⟩)
  (fun j=>ds.length-j) (fun j=>j<=ds.length) (.exit 0) _ d _ (by simp) ?_ K 0 (Nat.zero_le _) (by simp only[QXX];omega)
 intro j hj;clear hn J;simp[ag,aH,f128] at H;obtain⟨i,A⟩:=xE (y+j);have X:s[i]? =(ds++rest)[j]? :=by rw[<-hd,QQc,A]
 by_cases z:j=ds.length
 .right
  subst z;rw[O1,<-A];rw[Pi (L9 _),Nat.sub_self] at X;obtain⟨rfl,rfl⟩:=H;rcases I with h | ⟨r,h⟩
  .subst h
   have W:i=s.length:=by simp at Do;omega
   have h1:¬i<s.length:=by omega
   have u:¬(i:Int)<(s.length:Int):=by omega
   simp[h0,u]
  .subst h
   have W:i<s.length:=by simp at Do;omega
   have S:(i:Int)<(s.length:Int):=by omega
   have hc:s[i]? =some 47:=by simpa using X
   have m :s[i]=47:=(N4.1 hc).2;simp[h0,W,S,m]
 .left
  have Y:j<ds.length:=by omega
  obtain⟨c,hc⟩:∃c,ds[j]? =some c:=⟨ds[j],by simp[Y]⟩
  rw[Hi Y,hc] at X;have W:i<s.length:=gL X;have S:(i:Int)<(s.length:Int):=by omega
  have R :s[i]=c:=(N4.1 X).2;have V:=List.all_eq_true.1 I' c (Lo hc);have hcd:=zN V;have aeZ:48<=c.toNat/\c.toNat<=57:=by unfold isD at V;simp only[Es,L0] at V;exact V
  have Q:¬((c.toNat:Int)=47):=by omega
  have aaG:ds.take (j+1)=ds.take j++[c]:=by rw[List.take_add_one,hc];rfl
  have G:iU (ds.take (j+1))=10*iU (ds.take j)+(c.toNat-48):=by rw[aaG,yi]
  have hvb:=Ad I' (by omega) j;obtain⟨v,D⟩:=xE (iU (ds.take j));obtain⟨v2,C⟩:=xE (iU (ds.take (j+1)));rw[<-D] at hvb G;rw[<-C] at G;obtain⟨k,hk⟩:=xE (α:=Nat) (c.toNat-48);have w0:IntKind.u8.wrap ((c.toNat:Int)-48)=(k:Int):=by rw[Io (by omega) (by omega)];omega
  have w1:IntKind.i64.wrap (k:Int)=(k:Int):=ai;have w2:IntKind.i64.wrap (10*(v:Int))=10*(v:Int):=ai;have w3:IntKind.i64.wrap (10*(v:Int)+(k:Int))=(v2:Int):=by rw[ai];omega
  have w4:IntKind.i64.wrap ((i:Int)+1)=((y+(j+1):Nat):Int):=by rw[ai];omega
  rw[<-A];refine⟨j+1,?_⟩;refine bM (show j+1<=ds.length/\_ from⟨Y,by omega⟩) ?_;obtain⟨rfl,rfl⟩:=H;simp[h0,W,S,R,Q,<-D,<-C,w0,w1,w2,w3,w4];try omega
theorem AA(s ds:List UInt8)(y:Nat)(hs:s.length<=9)(hst:y<=s.length)(hd:s.drop y=ds)(I:ds.all isD=true)(hK:10<K)(H:ag f128=[b,b2]):
  ∃F:Env->Bool->Env,∀Z d,(ad Z 0=.str s/\ad Z 3=.int .i64 0/\ad Z 5=.int .i64 (y:Int))->
   aT (aU prog) lf O K 57 0 true (.loop b2) ⟨Z,[],d⟩=some (.exit 2,⟨F Z d,[],d⟩)/\(ad (F Z d) 3=.int .i64 ((iU ds:Nat):Int)/\ad (F Z d) 2=ad Z 2/\ad (F Z d) 6=ad Z 6):=by
 have G:lf b2=[3,5]:=by simp[ag,aH,f128] at H;obtain⟨rfl,rfl⟩:=H;decide
 have Do:y+ds.length=s.length:=by have:=congrArg List.length hd;simp at this;omega
 refine bG G (fun Z=>ad Z 0=.str s/\ad Z 3=.int .i64 0/\ad Z 5=.int .i64 (y:Int)) (fun Z D =>ad D 3=.int .i64 ((iU ds:Nat):Int)/\ad D 2=ad Z 2/\ad D 6=ad Z 6) ?_;rintro Z d ⟨h0,h2,h5⟩;have V:iU (ds.take 0)=0:=by rw[List.take_zero];unfold iU;rw[fD]
 have R:au [3,5] (ab b2) Z ((3,.int .i64 ((iU (ds.take 0):Nat):Int))::(5,.int .i64 ((y+0:Nat):Int))::Z)=au [3,5] (ab b2) Z Z:=by rw[V];simp[au,h2,h5]
 rw[<-R];refine bW (α:=Nat) (fun j=>⟨au [3,5] (ab b2) Z ((3,.int .i64 ((iU (ds.take j):Nat):Int))::(5,.int .i64 ((y+j:Nat):Int))::Z),[],d⟩)
  (fun j=>ds.length-j) (fun j=>j<=ds.length) (.exit 2) _ d _ (by simp) ?_ K 0 (Nat.zero_le _) (by simp only[QXX];omega)
 intro j hj;clear R V;simp[ag,aH,f128] at H;obtain⟨i,C⟩:=xE (y+j);have W:s[i]? =ds[j]? :=by rw[<-hd,QQc,C]
 by_cases B:j=ds.length
 .right
  subst B;rw[O1,<-C];obtain⟨rfl,rfl⟩:=H;have h1:¬i<s.length:=by omega
  have h1I:¬(i:Int)<(s.length:Int):=by omega
  simp[h0,h1]
 .left
  have Q:j<ds.length:=by omega
  obtain⟨c,hc⟩:∃c,ds[j]? =some c:=⟨ds[j],by simp[Q]⟩
  rw[hc] at W;have A:i<s.length:=gL W;have z:(i:Int)<(s.length:Int):=by omega
  have u :s[i]=c:=(N4.1 W).2;have X:=List.all_eq_true.1 I c (Lo hc);have hcd:=zN X;have aeZ:48<=c.toNat/\c.toNat<=57:=by unfold isD at X;simp only[Es,L0] at X;exact X
  have m:ds.take (j+1)=ds.take j++[c]:=by rw[List.take_add_one,hc];rfl
  have S:iU (ds.take (j+1))=10*iU (ds.take j)+(c.toNat-48):=by rw[m,yi]
  have Y:=Ad I (by omega) j;obtain⟨v,M⟩:=xE (iU (ds.take j));obtain⟨v2,J⟩:=xE (iU (ds.take (j+1)));rw[<-M] at Y S;rw[<-J] at S;obtain⟨k,hk⟩:=xE (α:=Nat) (c.toNat-48);have w0:IntKind.u8.wrap ((c.toNat:Int)-48)=(k:Int):=by rw[Io (by omega) (by omega)];omega
  have w1:IntKind.i64.wrap (k:Int)=(k:Int):=ai;have w2:IntKind.i64.wrap (10*(v:Int))=10*(v:Int):=ai;have w3:IntKind.i64.wrap (10*(v:Int)+(k:Int))=(v2:Int):=by rw[ai];omega
  have w4:IntKind.i64.wrap ((i:Int)+1)=((y+(j+1):Nat):Int):=by rw[ai];omega
  rw[<-C];refine⟨j+1,?_⟩;refine bM (show j+1<=ds.length/\_ from⟨Q,by omega⟩) ?_;obtain⟨rfl,rfl⟩:=H;simp[h0,A,z,u,<-M,<-J,w0,w1,w2,w3,w4];try omega
theorem IZ(q:Rat)(mem:Mem):kO prog 128 [.str (aB q)] mem (if (aB q).length<=9 then .tuple [.int .i64 q.num,.int .i64 q.den,.bool true] else .tuple [.int .i64 0,.int .i64 0,.bool false]) mem:=by
 have R:aS prog 128=some f128:=by kernel_rfl
 refine dv (aj _) (lv:=lf) (K:=11) rfl (by split<;>rfl) ?_ mem;by_cases Q:(aB q).length<=9
 .rw[if_pos Q]
  have S:¬(9<((aB q).length:Int)):=by omega
  obtain⟨b,b2,Y⟩:∃b b2,ag f128=[b,b2]:=⟨_,_,rfl⟩
  obtain⟨W,V,J⟩:=zk q;obtain⟨s,hs⟩:=xE (aB q);rw[<-hs] at Q S V |-;obtain⟨N,hN⟩:=xE q.num.natAbs;rw[<-hN] at V;have M:=ff N;have hvN:=fm N;have hpN:=uf N;have I:=kI N;have aar:W=[]\/∃r,W=47::r:=by rw[J];split<;>simp
  obtain⟨H,Z⟩:=xE (α:=Nat) (if q.num<0 then 1 else 0);have y:(if q.num<0 then [(45:UInt8)] else []).length=H:=by rw[Z];split<;>rfl
  have acM:s.drop H=az N++W:=by rw[V,<-y,List.drop_left]
  have Do:s.length=H+(az N).length+W.length:=by rw[V,Nm,y,Nm];omega
  obtain⟨F,G⟩:=Az (O:=bD) (K:=11) s (az N) W H Q (by omega) acM aar M (by omega) Y;rw[hvN] at G;obtain⟨X,hat⟩:=xE (H+(az N).length);rw[<-hat] at G Do;have afV:N<10 ^ 9:=by have h1:=dC N;have h2:10 ^ (az N).length<=10 ^ 9:=P1 (by omega) (by omega);omega
  have wn:IntKind.i64.wrap (-(N:Int))= -(N:Int):=ai;have wp:IntKind.i64.wrap (N:Int)=(N:Int):=ai;by_cases D:q.den=1
  .rw[if_pos D] at J
   subst J;have A:¬X<s.length:=by simp at Do;omega
   simp[ag,aH,f128] at Y;obtain⟨rfl,rfl⟩:=Y;by_cases C:q.num<0
   .rw[if_pos C] at Z
    subst Z;have hc:s[0]? =some 45:=by rw[V,if_pos C];rfl
    have e: -(N:Int)=q.num:=by omega
    have z :IntKind.i64.wrap (-(N:Int))=q.num:=by rw[wn,e]
    simp only[Int.natCast_one] at G;simp[aa,R,f128,S,hc,G,A,z,D]
   .rw[if_neg C] at Z
    subst Z;have hc:∃c,s[0]? =some c/\isD c=true:=by
     rw[V,if_neg C];cases hx:az N with
     |nil=>exact absurd hx I
     |cons c r=>
      rw[hx] at M;simp only[QQK,Es] at M;exact⟨c,by simp,M.1⟩
    obtain⟨c,hc,u⟩:=hc;have m:=iE u;have e:(N:Int)=q.num:=by omega
    have j :IntKind.i64.wrap (N:Int)=q.num:=by rw[wp,e]
    simp only[Int.natCast_zero] at G;simp[aa,R,f128,S,hc,m,G,A,j,D]
  .rw[if_neg D] at J
   subst J;have A:X<s.length:=by simp at Do;omega
   have acN:(X:Int)<(s.length:Int):=by omega
   have acQ:s.drop (X+1)=az q.den:=by
    have h1:s.drop X=47::az q.den:=by rw[hat,<-List.drop_drop,acM,List.drop_left]
    rw[<-List.drop_drop,h1];rfl
   obtain⟨F2,B⟩:=AA (O:=bD) (K:=11) s (az q.den) (X+1) Q (by omega) acQ (ff _) (by omega) Y;rw[fm] at B;have w1:IntKind.i64.wrap ((X:Int)+1)=((X+1:Nat):Int):=by rw[ai];omega
   obtain⟨at2,ae1⟩:=xE (X+1);rw[<-ae1] at w1 B;simp[ag,aH,f128] at Y;obtain⟨rfl,rfl⟩:=Y;by_cases C:q.num<0
   .rw[if_pos C] at Z
    subst Z;have hc:s[0]? =some 45:=by rw[V,if_pos C];rfl
    have e: -(N:Int)=q.num:=by omega
    have z :IntKind.i64.wrap (-(N:Int))=q.num:=by rw[wn,e]
    simp only[Int.natCast_one] at G;simp[aa,R,f128,S,hc,G,acN,w1,B,z]
   .rw[if_neg C] at Z
    subst Z;have hc:∃c,s[0]? =some c/\isD c=true:=by
     rw[V,if_neg C];cases hx:az N with
     |nil=>exact absurd hx I
     |cons c r=>
      rw[hx] at M;simp only[QQK,Es] at M;exact⟨c,by simp,M.1⟩
    obtain⟨c,hc,u⟩:=hc;have m:=iE u;have e:(N:Int)=q.num:=by omega
    have j :IntKind.i64.wrap (N:Int)=q.num:=by rw[wp,e]
    simp only[Int.natCast_zero] at G;simp[aa,R,f128,S,hc,m,G,acN,w1,B,j]
 .rw[if_neg Q]
  have S:(9<((aB q).length:Int)):=by omega
  simp[aa,R,f128,S]
theorem xw{q:Rat}(h:(aB q).length<=9):q.num.natAbs<10 ^ 9/\q.den<10 ^ 9:=lW h
noncomputable def mB(f:FuncId)(args:List AV):Option AV:=
 match f,args with
 |128,[.str s]=>match eS s with
  |some q=>some (if (aB q).length<=9 then .tuple [.int .i64 q.num,.int .i64 q.den,.bool true] else .tuple [.int .i64 0,.int .i64 0,.bool false])
  |none=>none
 |129,[.int .i64 n,.int .i64 m]=>if 0<m/\n.natAbs<=4611686018427387904/\m<=4611686018427387904 then some (.str (aB (mkRat n m.toNat))) else none
 |99,[.str s,.str t]=>match mZ s,zW t with
  |some n,some d=>if d≠0/\(cf n).length<=18/\(az d).length<=18 then some (.str (aB (mkRat n d))) else none
  |_,_=>none
 |58,[.int .i64 n]=>if dw n then some (.str (cf n)) else none
 |f,args=>ar f args
theorem Rg(n:Int)(y:dw n=true)(mem:Mem):kO prog 58 [.int .i64 n] mem (.str (cf n)) mem:=by
 have Z:aS prog 58=some f58:=by kernel_rfl
 refine aD fh ?_ mem;simp[aa,Z,f58,af,ar,y]
theorem pW:adM prog (af mB):=bX fun f Z v h mem=>by
 unfold mB at h;split at h
 .split at h
  next q hq=>cases h;rw[aA hq];exact IZ q mem
  .cases h
 .rename_i n m
  split at h
  .rename_i hc
   cases h;have:=GI n m.toNat hc.2.1 (by omega) (by omega) mem;rw[QQe (by omega)] at this;exact this
  .cases h
 .split at h
  .rename_i m n X W
   split at h
   next hc=>cases h;rw[dy X,jo W];exact I2 m n hc.1 hc.2.1 hc.2.2 mem
   .cases h
  .cases h
 .split at h
  next hc=>cases h;exact Rg _ hc mem
  .cases h
 .have:=fh.fn _ _ mem ⟨v,none,[]⟩ (by unfold af;simp only;rw[h])
  simpa [afA.mem] using this
theorem BZ(n:Int)(d:Nat)(hd:d≠0)(y:n.natAbs<10 ^ 8)(hd2:d<10 ^ 8)(mem:Mem):kO prog 57 [.str (cf n),.str (az d)] mem (.str (aB (mkRat n d))) mem:=by
 have Z:aS prog 57=some f57:=by kernel_rfl
 refine aD pW ?_ mem;have M:(az n.natAbs).length<=8:=aV (by omega) y;have J:(az d).length<=8:=aV (by omega) hd2;have G:(cf n).length<=9:=by have:=dz n;omega
 have X:((cf n).length:Int)<=9:=by omega
 have W:((az d).length:Int)<=9:=by omega
 have V:(cf n).length<=18:=by omega
 have S:(az d).length<=18:=by omega
 have F:(az d).length<=9:=by omega
 simp[aa,Z,f57,af,mB,aW,ej,X,W,V,S,hd]
noncomputable def CG(f:FuncId)(args:List AV):Option AV:=
 match f,args with
 |57,[.str s,.str t]=>match mZ s,zW t with
  |some n,some d=>if d≠0/\n.natAbs<10 ^ 8/\d<10 ^ 8 then some (.str (aB (mkRat n d))) else none
  |_,_=>none
 |f,args=>mB f args
theorem OG:adM prog (af CG):=bX fun f Z v h mem=>by
 unfold CG at h;split at h
 .split at h
  .rename_i m n X W
   split at h
   next hc=>cases h;rw[dy X,jo W];exact BZ m n hc.1 hc.2.1 hc.2.2 mem
   .cases h
  .cases h
 .have:=pW.fn _ _ mem ⟨v,none,[]⟩ (by unfold af;simp only;rw[h])
  simpa [afA.mem] using this
theorem I7(n:Int)(d:Nat)(hd:d≠0)(y:n.natAbs<10 ^ 8)(hd2:d<10 ^ 8)(mem:Mem):kO prog 34 [.int .i64 n,.int .i64 d] mem (.str (aB (mkRat n d))) mem:=by
 have W:aS prog 34=some f34:=by kernel_rfl
 refine aD OG ?_ mem;have f1:dw n=true:=by unfold dw;simp;omega
 have f2:dw (d:Int)=true:=by unfold dw;simp;omega
 have V:cf (d:Int)=az d:=rfl;have Z :n.natAbs<100000000:=y;have X :d<100000000:=hd2;simp[aa,W,f34,af,CG,mB,f1,f2,V,aW,ej,hd,Z,X]
theorem Fh(a b:Rat)(y:(aB a).length<=9)(H:(aB b).length<=9)(mem:Mem):
  kO prog 81 [.str (aB a),.str (aB b)] mem (.str (aB (a+b))) mem:=by
 have G:aS prog 81=some f81:=by kernel_rfl
 refine aD pW ?_ mem;have V:a.den*b.den≠0:=Nat.mul_ne_zero a.den_nz b.den_nz;have Z:=Rat.add_def' a b;obtain⟨X,S⟩:=xE (a.num*(b.den:Int));obtain⟨Y,M⟩:=xE (b.num*(a.den:Int));obtain⟨D,W⟩:=xE (a.den*b.den);rw[<-S,<-M,<-W] at Z;rw[<-W] at V;rw[Z];obtain⟨F,J⟩:=xw y;obtain⟨C,b2⟩:=xw H;have j:X.natAbs<10 ^ 9*10 ^ 9:=by rw[S];exact gb F (by simpa using b2)
 have R:Y.natAbs<10 ^ 9*10 ^ 9:=by rw[M];exact gb C (by simpa using J)
 have d1:D<10 ^ 9*10 ^ 9:=by rw[W];exact Nat.mul_lt_mul'' J b2
 have w1:IntKind.i64.wrap (a.num*(b.den:Int))=X:=by rw[<-S];exact ai
 have w2:IntKind.i64.wrap (b.num*(a.den:Int))=Y:=by rw[<-M];exact ai
 have w3:IntKind.i64.wrap (X+Y)=X+Y:=ai;have w4:IntKind.i64.wrap ((a.den:Int)*(b.den:Int))=(D:Int):=by rw[<-Int.natCast_mul,<-W];exact ai
 have B:(X+Y).natAbs<=4611686018427387904:=by omega
 have A:(D:Int)<=4611686018427387904:=by omega
 have z :D<=4611686018427387904:=by omega
 have u:0<D:=by omega
 have m :(0:Int)<D:=by omega
 simp[aa,G,f81,af,mB,aw,y,H,w1,w2,w3,w4,B,A,u]
theorem Rh(a b:Rat)(y:(aB a).length<=9)(H:(aB b).length<=9)(mem:Mem):
  kO prog 214 [.str (aB a),.str (aB b)] mem (.str (aB (a*b))) mem:=by
 have M:aS prog 214=some f214:=by kernel_rfl
 refine aD pW ?_ mem;have V:a.den*b.den≠0:=Nat.mul_ne_zero a.den_nz b.den_nz;have Z:=Rat.mul_def' a b;obtain⟨X,S⟩:=xE (a.num*b.num);obtain⟨D,W⟩:=xE (a.den*b.den);rw[<-S,<-W] at Z;rw[<-W] at V;rw[Z];obtain⟨J,G⟩:=xw y;obtain⟨F,b2⟩:=xw H;have m:X.natAbs<10 ^ 9*10 ^ 9:=by rw[S];exact gb J F
 have d1:D<10 ^ 9*10 ^ 9:=by rw[W];exact Nat.mul_lt_mul'' G b2
 have w1:IntKind.i64.wrap (a.num*b.num)=X:=by rw[<-S];exact ai
 have w4:IntKind.i64.wrap ((a.den:Int)*(b.den:Int))=(D:Int):=by rw[<-Int.natCast_mul,<-W];exact ai
 have C:X.natAbs<=4611686018427387904:=by omega
 have B:(D:Int)<=4611686018427387904:=by omega
 have A :D<=4611686018427387904:=by omega
 have z:0<D:=by omega
 have u :(0:Int)<D:=by omega
 simp[aa,M,f214,af,mB,aw,y,H,w1,w4,C,B,z]
end Go.Proofs
