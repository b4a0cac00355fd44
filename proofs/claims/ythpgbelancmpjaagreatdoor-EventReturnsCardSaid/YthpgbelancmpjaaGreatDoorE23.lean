/- See E54. -/
import Derived.Test.YthpgbelancmpjaaGreatDoorE22
set_option linter.all false
namespace Go.Proofs
open Go.Eng
end Go.Proofs
namespace Go.Proofs
open Go.Eng
open Tryz
variable{K:Nat}{O:y9}{b:Code}
theorem mw(n m:Int)(I:m.natAbs<K)(H:ah f145=[b]):
  ∃F:Env→Bool→Env,∀Z d,(ad Z 5=.int .i64 n∧ad Z 6=.int .i64 m)→
   aS (aV prog) (fun _=>[5,6]) O K 36 0 true (.loop b) ⟨Z,[],d⟩=some (.exit 0,⟨F Z d,[],d⟩)∧(ad (F Z d) 5=.int .i64 (euc K n m)∧ad (F Z d) 0=ad Z 0∧ad (F Z d) 1=ad Z 1∧ad (F Z d) 4=ad Z 4):=by
 refine bw rfl (fun Z=>ad Z 5=.int .i64 n∧ad Z 6=.int .i64 m) (fun Z X =>ad X 5=.int .i64 (euc K n m)∧ad X 0=ad Z 0∧ad X 1=ad Z 1∧ad X 4=ad Z 4) ?_;rintro Z d ⟨h5,h6⟩;have S:aw [5,6] (ae b) Z ((5,.int .i64 n)::(6,.int .i64 m)::Z)=aw [5,6] (ae b) Z Z:=by simp[aw,h5,h6]
 rw[←S];have V:∀(k:Nat) (x y:Int),y.natAbs<k→∃X,fy [5,6] (ae b) Z 0 (aS (aV prog) (fun _=>[5,6]) O K 36 0 true b) k ⟨aw [5,6] (ae b) Z ((5,.int .i64 x)::(6,.int .i64 y)::Z),[],d⟩=
   some (.exit 0,⟨X,[],d⟩)∧ad X 5=.int .i64 (euc k x y)∧ad X 0=ad Z 0∧ad X 1=ad Z 1∧ad X 4=ad Z 4:=by
  clear S;simp[ah,aG,f145] at H;intro k;induction k with
  |zero=>intro x y h;omega
  |succ k ih=>
   intro x y G;by_cases U:y=0
   ·subst H
    subst U;simp[fy,euc]
   ·have N:(x.tmod y).natAbs<k:=by rw[Int.natAbs_tmod];have:=Nat.mod_lt x.natAbs (show 0<y.natAbs by omega);omega
    obtain⟨X,R,M,L⟩:=ih y (x.tmod y) N;subst H;refine⟨X,?_,by rw[M,euc,if_neg U],L⟩;rw[fy];simp[U];simp at R;exact R
 exact V K n m I
theorem uQ(n:Int)(m:Nat)(hn:n.natAbs≤4611686018427387904)(Yh:m≠0)(hm:m≤4611686018427387904)(mem:Mem):kO prog 145 [.int .i64 n,.int .i64 m] mem (.str (aj (mkRat n m))) mem:=by
 have A:aT prog 145=some f145:=by kernel_rfl
 refine cE cW (lv:=fun _=>[5,6]) (K:=m+1) rfl rfl ?_ mem;obtain⟨b,o⟩:∃b,ah f145=[b]:=⟨_,rfl⟩
 obtain⟨N,hN⟩:=xE (α:=Nat) n.natAbs;obtain⟨F,j⟩:=mw (O:=ag an) (K:=m+1) (N:Int) (m:Int) (by simp) o;simp[ah,aG,f145] at o;subst o;rw[ni n Yh,←hN];have Y:∀k (x y:Nat),0≤euc k (x:Int) (y:Int):=by
  intro k;induction k with
  |zero=>intro x y;unfold euc;omega
  |succ k ih=>
   intro x y;unfold euc;split
   ·omega
   ·rw[pf];exact ih y (x%y)
 have X:=km (m+1) (N:Int) (m:Int) (by simp);have W:=Y (m+1) N m;generalize euc (m+1) (N:Int) (m:Int)=gz at j X W;rw[Int.natAbs_natCast,Int.natAbs_natCast] at X;obtain⟨g,rfl⟩:∃g:Nat,gz=g:=⟨gz.toNat,by omega⟩
 rw[Int.natAbs_natCast] at X;rw[←X];have J:0<g:=by rw[X];exact Nat.gcd_pos_of_pos_right _ (by omega)
 have I:g∣N:=by rw[X];exact Nat.gcd_dvd_left _ _
 have H:g∣m:=by rw[X];exact Nat.gcd_dvd_right _ _
 have hgm:g≤m:=Nat.le_of_dvd (by omega) H;have C:=sJ (a:=n) J (.inr (by rw[←hN];exact Nat.mod_eq_zero_of_dvd I));have hq1:(n / (g:Int)).natAbs≤n.natAbs:=Int.natAbs_ediv_le_natAbs _ _;obtain⟨Z,hZ⟩:=xE (n / (g:Int));rw[←hZ] at hq1 C ⊢;obtain⟨D,V⟩:=xE (m / g);have hDm:D≤m:=by rw[V];exact Nat.div_le_self _ _
 rw[←V];have w0:IntKind.i64.wrap (-n)= -n:=af;have U:(if n< -n then -n else n)=(N:Int):=by split<;>omega
 have acp :(if -n<n then n else -n)=(N:Int):=by split<;>omega
 have w1:IntKind.i64.wrap (n.tdiv (g:Int))=Z:=by rw[C.1];exact af
 have S :IntKind.i64.wrap Z=Z:=af;have w2:IntKind.i64.wrap ((m:Int).tdiv (g:Int))=(D:Int):=by rw[pe,←V];exact af
 have R :IntKind.i64.wrap ((m:Int) / (g:Int))=(D:Int):=by rw[←Int.natCast_ediv,←V];exact af
 have Yk:dG Z=true:=by unfold dG;simp;omega
 have hf2:dG (D:Int)=true:=by unfold dG;simp;omega
 have hDs:bL (D:Int)=au D:=rfl;have YM :¬g=0:=by omega
 have lZ:(bL Z).length+1≤gb∧(bL Z).length+1+(au D).length≤gb:=by have h1:=cj Z;have h2:=aI (u:=Z.natAbs) (k:=20) (by omega) (by omega);have h3:=aI (u:=D) (k:=20) (by omega) (by omega);unfold gb;omega
 obtain⟨l1,l2⟩:=lZ;by_cases Yp:m=1
 ·have M:g=1:=by omega
  have B:D=1:=by rw[V,Yp,M]
  have L:Z=n:=by rw[hZ,M];exact Int.ediv_one n
  have hfn:dG n=true:=by rw[←L];exact Yk
  subst Yp;rw[if_pos B,L];simp[aa,A,f145,ag,an,hfn]
 ·have G:¬(m:Int)=1:=by omega
  by_cases B:D=1
  ·have Yi:(D:Int)=1:=by omega
   rw[if_pos B];simp[aa,A,f145,G,w0,U,j,YM,C,S,R,Yi,ag,an,Yk,Nat.testBit]
  ·have Yi:¬(D:Int)=1:=by omega
   rw[if_neg B];simp[aa,A,f145,G,w0,U,j,YM,C,S,R,Yi,ag,an,Yk,hf2,hDs,l1,l2,Nat.testBit]
theorem jT(n m:Int)(I:m.natAbs<K)(H:ah f148=[b]):
  ∃F:Env→Bool→Env,∀Z d,(ad Z 9=.int .i64 n∧ad Z 10=.int .i64 m)→
   aS (aV prog) (fun _=>[9,10]) O K 55 0 true (.loop b) ⟨Z,[],d⟩=some (.exit 0,⟨F Z d,[],d⟩)∧(ad (F Z d) 9=.int .i64 (euc K n m)∧ad (F Z d) 5=ad Z 5∧ad (F Z d) 7=ad Z 7∧ad (F Z d) 4=ad Z 4):=by
 refine bw rfl (fun Z=>ad Z 9=.int .i64 n∧ad Z 10=.int .i64 m) (fun Z X =>ad X 9=.int .i64 (euc K n m)∧ad X 5=ad Z 5∧ad X 7=ad Z 7∧ad X 4=ad Z 4) ?_;rintro Z d ⟨h5,h6⟩;have S:aw [9,10] (ae b) Z ((9,.int .i64 n)::(10,.int .i64 m)::Z)=aw [9,10] (ae b) Z Z:=by simp[aw,h5,h6]
 rw[←S];have V:∀(k:Nat) (x y:Int),y.natAbs<k→∃X,fy [9,10] (ae b) Z 0 (aS (aV prog) (fun _=>[9,10]) O K 55 0 true b) k ⟨aw [9,10] (ae b) Z ((9,.int .i64 x)::(10,.int .i64 y)::Z),[],d⟩=
   some (.exit 0,⟨X,[],d⟩)∧ad X 9=.int .i64 (euc k x y)∧ad X 5=ad Z 5∧ad X 7=ad Z 7∧ad X 4=ad Z 4:=by
  clear S;simp[ah,aG,f148] at H;intro k;induction k with
  |zero=>intro x y h;omega
  |succ k ih=>
   intro x y G;by_cases U:y=0
   ·subst H
    subst U;simp[fy,euc]
   ·have N:(x.tmod y).natAbs<k:=by rw[Int.natAbs_tmod];have:=Nat.mod_lt x.natAbs (show 0<y.natAbs by omega);omega
    obtain⟨X,R,M,L⟩:=ih y (x.tmod y) N;subst H;refine⟨X,?_,by rw[M,euc,if_neg U],L⟩;rw[fy];simp[U];simp at R;exact R
 exact V K n m I
theorem xA:∀(k x y:Nat),0≤euc k (x:Int) (y:Int):=by
 intro k;induction k with
 |zero=>intro x y;unfold euc;omega
 |succ k ih=>
  intro x y;unfold euc;split
  ·omega
  ·rw[pf];exact ih y (x%y)
theorem ye(n:Int)(m:Nat)(Yh:m≠0)(H:(bL n).length≤18)(I:(au m).length≤18)(mem:Mem):kO prog 148 [.str (bL n),.str (au m)] mem (.str (aj (mkRat n m))) mem:=by
 have Y:aT prog 148=some f148:=by kernel_rfl
 have hn:=iD H;have hm:m<10 ^ 18:=by have h1:=cm m;have h2:10 ^ (au m).length≤10 ^ 18:=Nat.pow_le_pow_right (by omega) I;omega
 refine cE cW (lv:=fun _=>[9,10]) (K:=m+1) rfl rfl ?_ mem;obtain⟨b,hb⟩:∃b,ah f148=[b]:=⟨_,rfl⟩
 obtain⟨N,hN⟩:=xE (α:=Nat) n.natAbs;rw[←hN] at hn;obtain⟨F,R⟩:=jT (O:=ag an) (K:=m+1) (N:Int) (m:Int) (by simp) hb;simp[ah,aG,f148] at hb;subst hb;rw[ni n Yh,←hN];have M:=km (m+1) (N:Int) (m:Int) (by simp);have hg0:=xA (m+1) N m;generalize euc (m+1) (N:Int) (m:Int)=gz at R M hg0;rw[Int.natAbs_natCast,Int.natAbs_natCast] at M;obtain⟨g,rfl⟩:∃g:Nat,gz=g:=⟨gz.toNat,by omega⟩
 rw[Int.natAbs_natCast] at M;rw[←M];have hgp:0<g:=by rw[M];exact Nat.gcd_pos_of_pos_right _ (by omega)
 have hgn:g∣N:=by rw[M];exact Nat.gcd_dvd_left _ _
 have L:=sJ (a:=n) hgp (.inr (by rw[←hN];exact Nat.mod_eq_zero_of_dvd hgn));have hq1:(n / (g:Int)).natAbs≤n.natAbs:=Int.natAbs_ediv_le_natAbs _ _;obtain⟨Z,hZ⟩:=xE (n / (g:Int));rw[←hZ] at hq1 L ⊢;obtain⟨D,W⟩:=xE (m / g);have hDm:D≤m:=by rw[W];exact Nat.div_le_self _ _
 rw[←W];have w1:IntKind.i64.wrap (n.tdiv (g:Int))=Z:=by rw[L.1];exact af
 have X :IntKind.i64.wrap Z=Z:=af;have w2:IntKind.i64.wrap ((m:Int).tdiv (g:Int))=(D:Int):=by rw[pe,←W];exact af
 have V :IntKind.i64.wrap ((m:Int) / (g:Int))=(D:Int):=by rw[←Int.natCast_ediv,←W];exact af
 have J:dG Z=true:=by unfold dG;simp;omega
 have C:dG (D:Int)=true:=by unfold dG;simp;omega
 have B:bL (D:Int)=au D:=rfl;have YM :¬g=0:=by omega
 have lZ:(bL Z).length+1≤gb∧(bL Z).length+1+(au D).length≤gb:=by have h1:=cj Z;have h2:=aI (u:=Z.natAbs) (k:=20) (by omega) (by omega);have h3:=aI (u:=D) (k:=20) (by omega) (by omega);unfold gb;omega
 obtain⟨l1,l2⟩:=lZ;have ZR:Lib.atoi (au m)=some (m:Int):=gk (m:Int);have U:¬(m:Int)<0:=by omega
 have w0:IntKind.i64.wrap (-n)= -n:=af;have ZE:n<0→ -n=(N:Int):=by omega
 have A:¬n<0→n=(N:Int):=by omega
 by_cases G:n<0
 ·have o :IntKind.i64.wrap (-n)=(N:Int):=by rw[w0];exact ZE G
  by_cases j:D=1
  ·have S:(D:Int)=1:=by omega
   rw[if_pos j];simp[aa,Y,f148,ag,an,H,I,gk,ZR,U,G,o,R,YM,L,X,V,S,J,Nat.testBit]
  ·have S:¬(D:Int)=1:=by omega
   rw[if_neg j];simp[aa,Y,f148,ag,an,H,I,gk,ZR,U,G,o,R,YM,L,X,V,S,J,C,B,l1,l2,Nat.testBit]
 ·have e:=A G
  rw[←e] at R;by_cases j:D=1
  ·have S:(D:Int)=1:=by omega
   rw[if_pos j];simp[aa,Y,f148,ag,an,H,I,gk,ZR,U,G, R,YM,L,X,V,S,J,Nat.testBit]
  ·have S:¬(D:Int)=1:=by omega
   rw[if_neg j];simp[aa,Y,f148,ag,an,H,I,gk,ZR,U,G, R,YM,L,X,V,S,J,C,B,l1,l2,Nat.testBit]
end Go.Proofs
namespace Go.Proofs
open Go.Eng
end Go.Proofs
namespace Go.Proofs
open Go.Eng
open Tryz
theorem jQ{H:List UInt8}(hd:H.all isD=true)(I:H.length≤9)(j:Nat):fm (H.take j)<10 ^ 9:=by
 have X:=Tc (FC hd j);have Z:(H.take j).length≤9:=by rw[List.length_take];omega
 have h3:10 ^ (H.take j).length≤10 ^ 9:=Nat.pow_le_pow_right (by omega) Z;omega
def dR(c:Code):List Nat:=if (ae c).contains 24 then [2,5] else [3,5]
theorem jR{O:y9}{K:Nat}(s H rest:List UInt8)(I:Nat)(hs:s.length≤9)(XL:I≤s.length)(hd:s.drop I=H++rest)(XK:rest=[]∨∃r,rest=47::r)(W:H.all isD=true)(hK:10<K){b b2:Code}(J:ah f144=[b,b2]):
  ∃F:Env→Bool→Env,∀Z d,(ad Z 0=.str s∧ad Z 2=.int .i64 0∧ad Z 5=.int .i64 (I:Int))→
   aS (aV prog) dR O K 57 0 true (.loop b) ⟨Z,[],d⟩=some (.exit 0,⟨F Z d,[],d⟩)∧(ad (F Z d) 2=.int .i64 ((fm H:Nat):Int)∧ad (F Z d) 5=.int .i64 ((I+H.length:Nat):Int)∧ad (F Z d) 0=ad Z 0∧ad (F Z d) 3=ad Z 3∧ad (F Z d) 6=ad Z 6):=by
 have X':dR b=[2,5]:=by simp[ah,aG,f144] at J;obtain⟨rfl,rfl⟩:=J;decide
 have Y:I+H.length+rest.length=s.length:=by have:=congrArg List.length hd;simp at this;omega
 refine bw X' (fun Z=>ad Z 0=.str s∧ad Z 2=.int .i64 0∧ad Z 5=.int .i64 (I:Int)) (fun Z V =>ad V 2=.int .i64 ((fm H:Nat):Int)∧ad V 5=.int .i64 ((I+H.length:Nat):Int)∧ad V 0=ad Z 0∧ad V 3=ad Z 3∧ad V 6=ad Z 6) ?_;rintro Z d ⟨h0,h2,h5⟩;have U:fm (H.take 0)=0:=by rw[List.take_zero];unfold fm;rw[dP]
 have hn:aw [2,5] (ae b) Z ((2,.int .i64 ((fm (H.take 0):Nat):Int))::(5,.int .i64 ((I+0:Nat):Int))::Z)=aw [2,5] (ae b) Z Z:=by rw[U];simp[aw,h2,h5]
 rw[←hn];refine bO (α:=Nat) (fun j=>⟨aw [2,5] (ae b) Z ((2,.int .i64 ((fm (H.take j):Nat):Int))::(5,.int .i64 ((I+j:Nat):Int))::Z),[],d⟩)
  (fun j=>H.length-j) (fun j=>j≤H.length) (.exit 0) _ d _ (by simp) ?_ K 0 (Nat.zero_le _) (by simp only[Nat.sub_zero];omega)
 intro j hj;clear hn U;simp[ah,aG,f144] at J;obtain⟨i,G⟩:=xE (I+j);have S:s[i]? =(H++rest)[j]? :=by rw[←hd,List.getElem?_drop,G]
 by_cases ZL:j=H.length
 ·right
  subst ZL;rw[List.take_length,←G];rw[List.getElem?_append_right (Nat.le_refl _),Nat.sub_self] at S;obtain⟨rfl,rfl⟩:=J;rcases XK with h | ⟨r,h⟩
  ·subst h
   have X:i=s.length:=by simp at Y;omega
   have h1:¬i<s.length:=by omega
   have D:¬(i:Int)<(s.length:Int):=by omega
   simp[h0,D]
  ·subst h
   have X:i<s.length:=by simp at Y;omega
   have C:(i:Int)<(s.length:Int):=by omega
   have R:s[i]? =some 47:=by simpa using S
   have B :s[i]=47:=(List.getElem?_eq_some_iff.1 R).2;simp[h0,X,C,B]
 ·left
  have A:j<H.length:=by omega
  obtain⟨c,R⟩:∃c,H[j]? =some c:=⟨H[j],by simp[A]⟩
  rw[List.getElem?_append_left A,R] at S;have X:i<s.length:=gL S;have C:(i:Int)<(s.length:Int):=by omega
  have u :s[i]=c:=(List.getElem?_eq_some_iff.1 S).2;have L:=List.all_eq_true.1 W c (List.mem_of_getElem? R);have hcd:=sZ L;have ab8:48≤c.toNat∧c.toNat≤57:=by unfold isD at L;simp only[Bool.and_eq_true,decide_eq_true_eq] at L;exact L
  have o:¬((c.toNat:Int)=47):=by omega
  have Yn:H.take (j+1)=H.take j++[c]:=by rw[List.take_add_one,R];rfl
  have N:fm (H.take (j+1))=10*fm (H.take j)+(c.toNat-48):=by rw[Yn,nw]
  have m:=jQ W (by omega) j;obtain⟨v,M⟩:=xE (fm (H.take j));obtain⟨v2,Zr⟩:=xE (fm (H.take (j+1)));rw[←M] at m N;rw[←Zr] at N;obtain⟨k,hk⟩:=xE (α:=Nat) (c.toNat-48);have w0:IntKind.u8.wrap ((c.toNat:Int)-48)=(k:Int):=by rw[xX (by omega) (by omega)];omega
  have w1:IntKind.i64.wrap (k:Int)=(k:Int):=af;have w2:IntKind.i64.wrap (10*(v:Int))=10*(v:Int):=af;have w3:IntKind.i64.wrap (10*(v:Int)+(k:Int))=(v2:Int):=by rw[af];omega
  have w4:IntKind.i64.wrap ((i:Int)+1)=((I+(j+1):Nat):Int):=by rw[af];omega
  rw[←G];refine⟨j+1,?_⟩;refine bH (show j+1≤H.length∧_ from⟨A,by omega⟩) ?_;obtain⟨rfl,rfl⟩:=J;simp[h0,X,C,u,o,←M,←Zr,w0,w1,w2,w3,w4];try omega
theorem jS{O:y9}{K:Nat}(s H:List UInt8)(I:Nat)(hs:s.length≤9)(XL:I≤s.length)(hd:s.drop I=H)(Y:H.all isD=true)(hK:10<K){b J:Code}(W:ah f144=[b,J]):
  ∃F:Env→Bool→Env,∀Z d,(ad Z 0=.str s∧ad Z 3=.int .i64 0∧ad Z 5=.int .i64 (I:Int))→
   aS (aV prog) dR O K 57 0 true (.loop J) ⟨Z,[],d⟩=some (.exit 2,⟨F Z d,[],d⟩)∧(ad (F Z d) 3=.int .i64 ((fm H:Nat):Int)∧ad (F Z d) 2=ad Z 2∧ad (F Z d) 6=ad Z 6):=by
 have o:dR J=[3,5]:=by simp[ah,aG,f144] at W;obtain⟨rfl,rfl⟩:=W;decide
 have H':I+H.length=s.length:=by have:=congrArg List.length hd;simp at this;omega
 refine bw o (fun Z=>ad Z 0=.str s∧ad Z 3=.int .i64 0∧ad Z 5=.int .i64 (I:Int)) (fun Z R =>ad R 3=.int .i64 ((fm H:Nat):Int)∧ad R 2=ad Z 2∧ad R 6=ad Z 6) ?_;rintro Z d ⟨h0,h2,h5⟩;have X:fm (H.take 0)=0:=by rw[List.take_zero];unfold fm;rw[dP]
 have B:aw [3,5] (ae J) Z ((3,.int .i64 ((fm (H.take 0):Nat):Int))::(5,.int .i64 ((I+0:Nat):Int))::Z)=aw [3,5] (ae J) Z Z:=by rw[X];simp[aw,h2,h5]
 rw[←B];refine bO (α:=Nat) (fun j=>⟨aw [3,5] (ae J) Z ((3,.int .i64 ((fm (H.take j):Nat):Int))::(5,.int .i64 ((I+j:Nat):Int))::Z),[],d⟩)
  (fun j=>H.length-j) (fun j=>j≤H.length) (.exit 2) _ d _ (by simp) ?_ K 0 (Nat.zero_le _) (by simp only[Nat.sub_zero];omega)
 intro j hj;clear B X;simp[ah,aG,f144] at W;obtain⟨i,N⟩:=xE (I+j);have M:s[i]? =H[j]? :=by rw[←hd,List.getElem?_drop,N]
 by_cases m:j=H.length
 ·right
  subst m;rw[List.take_length,←N];obtain⟨rfl,rfl⟩:=W;have h1:¬i<s.length:=by omega
  have h1I:¬(i:Int)<(s.length:Int):=by omega
  simp[h0,h1]
 ·left
  have A:j<H.length:=by omega
  obtain⟨c,L⟩:∃c,H[j]? =some c:=⟨H[j],by simp[A]⟩
  rw[L] at M;have G:i<s.length:=gL M;have Zq:(i:Int)<(s.length:Int):=by omega
  have D :s[i]=c:=(List.getElem?_eq_some_iff.1 M).2;have S:=List.all_eq_true.1 Y c (List.mem_of_getElem? L);have hcd:=sZ S;have ab8:48≤c.toNat∧c.toNat≤57:=by unfold isD at S;simp only[Bool.and_eq_true,decide_eq_true_eq] at S;exact S
  have Yn:H.take (j+1)=H.take j++[c]:=by rw[List.take_add_one,L];rfl
  have V:fm (H.take (j+1))=10*fm (H.take j)+(c.toNat-48):=by rw[Yn,nw]
  have C:=jQ Y (by omega) j;obtain⟨v,U⟩:=xE (fm (H.take j));obtain⟨v2,u⟩:=xE (fm (H.take (j+1)));rw[←U] at C V;rw[←u] at V;obtain⟨k,hk⟩:=xE (α:=Nat) (c.toNat-48);have w0:IntKind.u8.wrap ((c.toNat:Int)-48)=(k:Int):=by rw[xX (by omega) (by omega)];omega
  have w1:IntKind.i64.wrap (k:Int)=(k:Int):=af;have w2:IntKind.i64.wrap (10*(v:Int))=10*(v:Int):=af;have w3:IntKind.i64.wrap (10*(v:Int)+(k:Int))=(v2:Int):=by rw[af];omega
  have w4:IntKind.i64.wrap ((i:Int)+1)=((I+(j+1):Nat):Int):=by rw[af];omega
  rw[←N];refine⟨j+1,?_⟩;refine bH (show j+1≤H.length∧_ from⟨A,by omega⟩) ?_;obtain⟨rfl,rfl⟩:=W;simp[h0,G,Zq,D,←U,←u,w0,w1,w2,w3,w4];try omega
theorem yd(q:Rat)(mem:Mem):kO prog 144 [.str (aj q)] mem (if (aj q).length≤9 then .tuple [.int .i64 q.num,.int .i64 q.den,.bool true] else .tuple [.int .i64 0,.int .i64 0,.bool false]) mem:=by
 have m:aT prog 144=some f144:=by kernel_rfl
 refine cE (az _) (lv:=dR) (K:=11) rfl (by split<;>rfl) ?_ mem;by_cases j:(aj q).length≤9
 ·rw[if_pos j]
  have X:¬(9<((aj q).length:Int)):=by omega
  obtain⟨b,b2,o⟩:∃b b2,ah f144=[b,b2]:=⟨_,_,rfl⟩
  obtain⟨Z,D,V⟩:=sG q;obtain⟨s,hs⟩:=xE (aj q);rw[←hs] at j X D ⊢;obtain⟨N,hN⟩:=xE q.num.natAbs;rw[←hN] at D;have C:=dC N;have hvN:=dJ N;have hpN:=oY N;have Y:=iS N;have XK:Z=[]∨∃r,Z=47::r:=by rw[V];split<;>simp
  obtain⟨W,R⟩:=xE (α:=Nat) (if q.num<0 then 1 else 0);have Yl:(if q.num<0 then [(45:UInt8)] else []).length=W:=by rw[R];split<;>rfl
  have J:s.drop W=au N++Z:=by rw[D,←Yl,List.drop_left]
  have H':s.length=W+(au N).length+Z.length:=by rw[D,List.length_append,Yl,List.length_append];omega
  obtain⟨F,S⟩:=jR (O:=cu) (K:=11) s (au N) Z W j (by omega) J XK C (by omega) o;rw[hvN] at S;obtain⟨M,I⟩:=xE (W+(au N).length);rw[←I] at S H';have adw:N<10 ^ 9:=by have h1:=cm N;have h2:10 ^ (au N).length≤10 ^ 9:=Nat.pow_le_pow_right (by omega) (by omega);omega
  have wn:IntKind.i64.wrap (-(N:Int))= -(N:Int):=af;have wp:IntKind.i64.wrap (N:Int)=(N:Int):=af;by_cases L:q.den=1
  ·rw[if_pos L] at V
   subst V;have B:¬M<s.length:=by simp at H';omega
   simp[ah,aG,f144] at o;obtain⟨rfl,rfl⟩:=o;by_cases G:q.num<0
   ·rw[if_pos G] at R
    subst R;have U:s[0]? =some 45:=by rw[D,if_pos G];rfl
    have e: -(N:Int)=q.num:=by omega
    have A :IntKind.i64.wrap (-(N:Int))=q.num:=by rw[wn,e]
    simp only[Int.natCast_one] at S;simp[aa,m,f144,X,U,S,B,A,L]
   ·rw[if_neg G] at R
    subst R;have U:∃c,s[0]? =some c∧isD c=true:=by
     rw[D,if_neg G];cases hx:au N with
     |nil=>exact absurd hx Y
     |cons c r=>
      rw[hx] at C;simp only[List.all_cons,Bool.and_eq_true] at C;exact⟨c,by simp,C.1⟩
    obtain⟨c,U,Y5⟩:=U;have YL:=eR Y5;have e:(N:Int)=q.num:=by omega
    have u :IntKind.i64.wrap (N:Int)=q.num:=by rw[wp,e]
    simp only[Int.natCast_zero] at S;simp[aa,m,f144,X,U,YL,S,B,u,L]
  ·rw[if_neg L] at V
   subst V;have B:M<s.length:=by simp at H';omega
   have H:(M:Int)<(s.length:Int):=by omega
   have aam:s.drop (M+1)=au q.den:=by
    have h1:s.drop M=47::au q.den:=by rw[I,←List.drop_drop,J,List.drop_left]
    rw[←List.drop_drop,h1];rfl
   obtain⟨F2,XZ⟩:=jS (O:=cu) (K:=11) s (au q.den) (M+1) j (by omega) aam (dC _) (by omega) o;rw[dJ] at XZ;have w1:IntKind.i64.wrap ((M:Int)+1)=((M+1:Nat):Int):=by rw[af];omega
   obtain⟨at2,ab'⟩:=xE (M+1);rw[←ab'] at w1 XZ;simp[ah,aG,f144] at o;obtain⟨rfl,rfl⟩:=o;by_cases G:q.num<0
   ·rw[if_pos G] at R
    subst R;have U:s[0]? =some 45:=by rw[D,if_pos G];rfl
    have e: -(N:Int)=q.num:=by omega
    have A :IntKind.i64.wrap (-(N:Int))=q.num:=by rw[wn,e]
    simp only[Int.natCast_one] at S;simp[aa,m,f144,X,U,S,H,w1,XZ,A]
   ·rw[if_neg G] at R
    subst R;have U:∃c,s[0]? =some c∧isD c=true:=by
     rw[D,if_neg G];cases hx:au N with
     |nil=>exact absurd hx Y
     |cons c r=>
      rw[hx] at C;simp only[List.all_cons,Bool.and_eq_true] at C;exact⟨c,by simp,C.1⟩
    obtain⟨c,U,Y5⟩:=U;have YL:=eR Y5;have e:(N:Int)=q.num:=by omega
    have u :IntKind.i64.wrap (N:Int)=q.num:=by rw[wp,e]
    simp only[Int.natCast_zero] at S;simp[aa,m,f144,X,U,YL,S,H,w1,XZ,u]
 ·rw[if_neg j]
  have X:(9<((aj q).length:Int)):=by omega
  simp[aa,m,f144,X]
def jZ(q:Rat):Prop:=(au q.num.natAbs).length≤2000∧(au q.den).length≤2000
end Go.Proofs
