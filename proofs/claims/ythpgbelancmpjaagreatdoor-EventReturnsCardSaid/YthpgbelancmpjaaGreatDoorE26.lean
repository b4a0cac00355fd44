/- See E54. -/
import Derived.Test.YthpgbelancmpjaaGreatDoorE24
set_option linter.all false
set_option maxRecDepth 100000
set_option maxHeartbeats 40000000
namespace Go.Proofs
open Go.Eng
open Tryz
variable{K:Nat}{O:y9}{b:Code}
theorem mw9x(n m:Int)(I:m.natAbs<K)(H:ah f145=[b]):
  ∃F:Env→Bool→Env,∀Z d,(ad Z 5=.int .i64 n∧ad Z 6=.int .i64 m)→
   aS (aV prog) (fun _=>[5,6]) O K 36 0 true (.loop b) ⟨Z,[],d⟩=some (.exit 0,⟨F Z d,[],d⟩)∧(ad (F Z d) 5=.int .i64 (euc K n m)∧ad (F Z d) 0=ad Z 0∧ad (F Z d) 1=ad Z 1∧ad (F Z d) 4=ad Z 4):=by
 refine bw rfl (fun Z=>ad Z 5=.int .i64 n∧ad Z 6=.int .i64 m) (fun Z X =>ad X 5=.int .i64 (euc K n m)∧ad X 0=ad Z 0∧ad X 1=ad Z 1∧ad X 4=ad Z 4) ?_;rintro Z d ⟨h5,h6⟩;have S:aw [5,6] (ae b) Z ((5,.int .i64 n)::(6,.int .i64 m)::Z)=aw [5,6] (ae b) Z Z:=by simp[aw,h5,h6]
 rw[←S];have V:∀(k:Nat) (x y:Int),y.natAbs<k→∃X,fy [5,6] (ae b) Z 0 (aS (aV prog) (fun _=>[5,6]) O K 36 0 true b) k ⟨aw [5,6] (ae b) Z ((5,.int .i64 x)::(6,.int .i64 y)::Z),[],d⟩=
   some (.exit 0,⟨X,[],d⟩)∧ad X 5=.int .i64 (euc k x y)∧ad X 0=ad Z 0∧ad X 1=ad Z 1∧ad X 4=ad Z 4:=by
  clear S;simp[ah,aG,f145] at H;intro k;induction k with
  |zero=>intro x y h;omega
  |succ k ih=>
   intro x y G;by_cases U:y=0
   ·subst H
    subst U;simp[fy,euc]
   ·have N:(x.tmod y).natAbs<k:=by rw[Int.natAbs_tmod];have:=Nat.mod_lt x.natAbs (show 0<y.natAbs by omega);omega
    obtain⟨X,R,M,L⟩:=ih y (x.tmod y) N;subst H;refine⟨X,?_,by rw[M,euc,if_neg U],L⟩;rw[fy];simp[U];simp at R;exact R
 exact V K n m I
theorem uQ9x(n:Int)(m:Nat)(hn:n.natAbs≤4611686018427387904)(Yh:m≠0)(hm:m≤4611686018427387904)(mem:Mem):kO prog 145 [.int .i64 n,.int .i64 m] mem (.str (aj (mkRat n m))) mem:=by
 have A:aT prog 145=some f145:=by kernel_rfl
 refine cE cW (lv:=fun _=>[5,6]) (K:=m+1) rfl rfl ?_ mem;obtain⟨b,o⟩:∃b,ah f145=[b]:=⟨_,rfl⟩
 obtain⟨N,hN⟩:=xE (α:=Nat) n.natAbs;obtain⟨F,j⟩:=mw9x (O:=ag an) (K:=m+1) (N:Int) (m:Int) (by simp) o;simp[ah,aG,f145] at o;subst o;rw[ni n Yh,←hN];have Y:∀k (x y:Nat),0≤euc k (x:Int) (y:Int):=by
  intro k;induction k with
  |zero=>intro x y;unfold euc;omega
  |succ k ih=>
   intro x y;unfold euc;split
   ·omega
   ·rw[pf];exact ih y (x%y)
 have X:=km (m+1) (N:Int) (m:Int) (by simp);have W:=Y (m+1) N m;generalize euc (m+1) (N:Int) (m:Int)=gz at j X W;rw[Int.natAbs_natCast,Int.natAbs_natCast] at X;obtain⟨g,rfl⟩:∃g:Nat,gz=g:=⟨gz.toNat,by omega⟩
 rw[Int.natAbs_natCast] at X;rw[←X];have J:0<g:=by rw[X];exact Nat.gcd_pos_of_pos_right _ (by omega)
 have I:g∣N:=by rw[X];exact Nat.gcd_dvd_left _ _
 have H:g∣m:=by rw[X];exact Nat.gcd_dvd_right _ _
 have hgm:g≤m:=Nat.le_of_dvd (by omega) H;have C:=sJ (a:=n) J (.inr (by rw[←hN];exact Nat.mod_eq_zero_of_dvd I));have hq1:(n / (g:Int)).natAbs≤n.natAbs:=Int.natAbs_ediv_le_natAbs _ _;obtain⟨Z,hZ⟩:=xE (n / (g:Int));rw[←hZ] at hq1 C ⊢;obtain⟨D,V⟩:=xE (m / g);have hDm:D≤m:=by rw[V];exact Nat.div_le_self _ _
 rw[←V];have w0:IntKind.i64.wrap (-n)= -n:=af;have U:(if n< -n then -n else n)=(N:Int):=by split<;>omega
 have acp :(if -n<n then n else -n)=(N:Int):=by split<;>omega
 have w1:IntKind.i64.wrap (n.tdiv (g:Int))=Z:=by rw[C.1];exact af
 have S :IntKind.i64.wrap Z=Z:=af;have w2:IntKind.i64.wrap ((m:Int).tdiv (g:Int))=(D:Int):=by rw[pe,←V];exact af
 have R :IntKind.i64.wrap ((m:Int) / (g:Int))=(D:Int):=by rw[←Int.natCast_ediv,←V];exact af
 have Yk:dG Z=true:=by unfold dG;simp;omega
 have hf2:dG (D:Int)=true:=by unfold dG;simp;omega
 have hDs:bL (D:Int)=au D:=rfl;have YM :¬g=0:=by omega
 have lZ:(bL Z).length+1≤gb∧(bL Z).length+1+(au D).length≤gb:=by have h1:=cj Z;have h2:=aI (u:=Z.natAbs) (k:=20) (by omega) (by omega);have h3:=aI (u:=D) (k:=20) (by omega) (by omega);unfold gb;omega
 obtain⟨l1,l2⟩:=lZ;by_cases Yp:m=1
 ·have M:g=1:=by omega
  have B:D=1:=by rw[V,Yp,M]
  have L:Z=n:=by rw[hZ,M];exact Int.ediv_one n
  have hfn:dG n=true:=by rw[←L];exact Yk
  subst Yp;rw[if_pos B,L];simp[aa,A,f145,ag,an,hfn]
 ·have G:¬(m:Int)=1:=by omega
  by_cases B:D=1
  ·have Yi:(D:Int)=1:=by omega
   rw[if_pos B];simp[aa,A,f145,G,w0,U,j,YM,C,S,R,Yi,ag,an,Yk,Nat.testBit]
  ·have Yi:¬(D:Int)=1:=by omega
   rw[if_neg B];simp[aa,A,f145,G,w0,U,j,YM,C,S,R,Yi,ag,an,Yk,hf2,hDs,l1,l2,Nat.testBit]
theorem jT9x(n m:Int)(I:m.natAbs<K)(H:ah f148=[b]):
  ∃F:Env→Bool→Env,∀Z d,(ad Z 9=.int .i64 n∧ad Z 10=.int .i64 m)→
   aS (aV prog) (fun _=>[9,10]) O K 55 0 true (.loop b) ⟨Z,[],d⟩=some (.exit 0,⟨F Z d,[],d⟩)∧(ad (F Z d) 9=.int .i64 (euc K n m)∧ad (F Z d) 5=ad Z 5∧ad (F Z d) 7=ad Z 7∧ad (F Z d) 4=ad Z 4):=by
 refine bw rfl (fun Z=>ad Z 9=.int .i64 n∧ad Z 10=.int .i64 m) (fun Z X =>ad X 9=.int .i64 (euc K n m)∧ad X 5=ad Z 5∧ad X 7=ad Z 7∧ad X 4=ad Z 4) ?_;rintro Z d ⟨h5,h6⟩;have S:aw [9,10] (ae b) Z ((9,.int .i64 n)::(10,.int .i64 m)::Z)=aw [9,10] (ae b) Z Z:=by simp[aw,h5,h6]
 rw[←S];have V:∀(k:Nat) (x y:Int),y.natAbs<k→∃X,fy [9,10] (ae b) Z 0 (aS (aV prog) (fun _=>[9,10]) O K 55 0 true b) k ⟨aw [9,10] (ae b) Z ((9,.int .i64 x)::(10,.int .i64 y)::Z),[],d⟩=
   some (.exit 0,⟨X,[],d⟩)∧ad X 9=.int .i64 (euc k x y)∧ad X 5=ad Z 5∧ad X 7=ad Z 7∧ad X 4=ad Z 4:=by
  clear S;simp[ah,aG,f148] at H;intro k;induction k with
  |zero=>intro x y h;omega
  |succ k ih=>
   intro x y G;by_cases U:y=0
   ·subst H
    subst U;simp[fy,euc]
   ·have N:(x.tmod y).natAbs<k:=by rw[Int.natAbs_tmod];have:=Nat.mod_lt x.natAbs (show 0<y.natAbs by omega);omega
    obtain⟨X,R,M,L⟩:=ih y (x.tmod y) N;subst H;refine⟨X,?_,by rw[M,euc,if_neg U],L⟩;rw[fy];simp[U];simp at R;exact R
 exact V K n m I
theorem xA9x:∀(k x y:Nat),0≤euc k (x:Int) (y:Int):=by
 intro k;induction k with
 |zero=>intro x y;unfold euc;omega
 |succ k ih=>
  intro x y;unfold euc;split
  ·omega
  ·rw[pf];exact ih y (x%y)
theorem ye9x(n:Int)(m:Nat)(Yh:m≠0)(H:(bL n).length≤18)(I:(au m).length≤18)(mem:Mem):kO prog 148 [.str (bL n),.str (au m)] mem (.str (aj (mkRat n m))) mem:=by
 have Y:aT prog 148=some f148:=by kernel_rfl
 have hn:=iD H;have hm:m<10 ^ 18:=by have h1:=cm m;have h2:10 ^ (au m).length≤10 ^ 18:=Nat.pow_le_pow_right (by omega) I;omega
 refine cE cW (lv:=fun _=>[9,10]) (K:=m+1) rfl rfl ?_ mem;obtain⟨b,hb⟩:∃b,ah f148=[b]:=⟨_,rfl⟩
 obtain⟨N,hN⟩:=xE (α:=Nat) n.natAbs;rw[←hN] at hn;obtain⟨F,R⟩:=jT9x (O:=ag an) (K:=m+1) (N:Int) (m:Int) (by simp) hb;simp[ah,aG,f148] at hb;subst hb;rw[ni n Yh,←hN];have M:=km (m+1) (N:Int) (m:Int) (by simp);have hg0:=xA9x (m+1) N m;generalize euc (m+1) (N:Int) (m:Int)=gz at R M hg0;rw[Int.natAbs_natCast,Int.natAbs_natCast] at M;obtain⟨g,rfl⟩:∃g:Nat,gz=g:=⟨gz.toNat,by omega⟩
 rw[Int.natAbs_natCast] at M;rw[←M];have hgp:0<g:=by rw[M];exact Nat.gcd_pos_of_pos_right _ (by omega)
 have hgn:g∣N:=by rw[M];exact Nat.gcd_dvd_left _ _
 have L:=sJ (a:=n) hgp (.inr (by rw[←hN];exact Nat.mod_eq_zero_of_dvd hgn));have hq1:(n / (g:Int)).natAbs≤n.natAbs:=Int.natAbs_ediv_le_natAbs _ _;obtain⟨Z,hZ⟩:=xE (n / (g:Int));rw[←hZ] at hq1 L ⊢;obtain⟨D,W⟩:=xE (m / g);have hDm:D≤m:=by rw[W];exact Nat.div_le_self _ _
 rw[←W];have w1:IntKind.i64.wrap (n.tdiv (g:Int))=Z:=by rw[L.1];exact af
 have X :IntKind.i64.wrap Z=Z:=af;have w2:IntKind.i64.wrap ((m:Int).tdiv (g:Int))=(D:Int):=by rw[pe,←W];exact af
 have V :IntKind.i64.wrap ((m:Int) / (g:Int))=(D:Int):=by rw[←Int.natCast_ediv,←W];exact af
 have J:dG Z=true:=by unfold dG;simp;omega
 have C:dG (D:Int)=true:=by unfold dG;simp;omega
 have B:bL (D:Int)=au D:=rfl;have YM :¬g=0:=by omega
 have lZ:(bL Z).length+1≤gb∧(bL Z).length+1+(au D).length≤gb:=by have h1:=cj Z;have h2:=aI (u:=Z.natAbs) (k:=20) (by omega) (by omega);have h3:=aI (u:=D) (k:=20) (by omega) (by omega);unfold gb;omega
 obtain⟨l1,l2⟩:=lZ;have ZR:Lib.atoi (au m)=some (m:Int):=gk (m:Int);have U:¬(m:Int)<0:=by omega
 have w0:IntKind.i64.wrap (-n)= -n:=af;have ZE:n<0→ -n=(N:Int):=by omega
 have A:¬n<0→n=(N:Int):=by omega
 by_cases G:n<0
 ·have o :IntKind.i64.wrap (-n)=(N:Int):=by rw[w0];exact ZE G
  by_cases j:D=1
  ·have S:(D:Int)=1:=by omega
   rw[if_pos j];simp[aa,Y,f148,ag,an,H,I,gk,ZR,U,G,o,R,YM,L,X,V,S,J,Nat.testBit]
  ·have S:¬(D:Int)=1:=by omega
   rw[if_neg j];simp[aa,Y,f148,ag,an,H,I,gk,ZR,U,G,o,R,YM,L,X,V,S,J,C,B,l1,l2,Nat.testBit]
 ·have e:=A G
  rw[←e] at R;by_cases j:D=1
  ·have S:(D:Int)=1:=by omega
   rw[if_pos j];simp[aa,Y,f148,ag,an,H,I,gk,ZR,U,G, R,YM,L,X,V,S,J,Nat.testBit]
  ·have S:¬(D:Int)=1:=by omega
   rw[if_neg j];simp[aa,Y,f148,ag,an,H,I,gk,ZR,U,G, R,YM,L,X,V,S,J,C,B,l1,l2,Nat.testBit]
theorem jQ9x{H:List UInt8}(hd:H.all isD=true)(I:H.length≤9)(j:Nat):fm (H.take j)<10 ^ 9:=by
 have U:fm (H.take j)<10 ^ (H.take j).length:=by
  have Z:(H.take j).all isD=true:=by rw[List.all_eq_true] at hd ⊢;exact fun c X=>hd c (List.mem_of_mem_take X)
  have:=ph _ 0 Z;unfold fm;omega
 have V:(H.take j).length≤9:=by rw[List.length_take];omega
 have h3:10 ^ (H.take j).length≤10 ^ 9:=Nat.pow_le_pow_right (by omega) V;omega
def dR9x(c:Code):List Nat:=if (ae c).contains 24 then [2,5] else [3,5]
variable{b2:Code}
theorem jR9x(s H rest:List UInt8)(I:Nat)(hs:s.length≤9)(XL:I≤s.length)(hd:s.drop I=H++rest)(XK:rest=[]∨∃r,rest=47::r)(W:H.all isD=true)(hK:10<K)(J:ah f144=[b,b2]):
  ∃F:Env→Bool→Env,∀Z d,(ad Z 0=.str s∧ad Z 2=.int .i64 0∧ad Z 5=.int .i64 (I:Int))→
   aS (aV prog) dR9x O K 57 0 true (.loop b) ⟨Z,[],d⟩=some (.exit 0,⟨F Z d,[],d⟩)∧(ad (F Z d) 2=.int .i64 ((fm H:Nat):Int)∧ad (F Z d) 5=.int .i64 ((I+H.length:Nat):Int)∧ad (F Z d) 0=ad Z 0∧ad (F Z d) 3=ad Z 3∧ad (F Z d) 6=ad Z 6):=by
 have X':dR9x b=[2,5]:=by simp[ah,aG,f144] at J;obtain⟨rfl,rfl⟩:=J;decide
 have Y:I+H.length+rest.length=s.length:=by have:=congrArg List.length hd;simp at this;omega
 refine bw X' (fun Z=>ad Z 0=.str s∧ad Z 2=.int .i64 0∧ad Z 5=.int .i64 (I:Int)) (fun Z V =>ad V 2=.int .i64 ((fm H:Nat):Int)∧ad V 5=.int .i64 ((I+H.length:Nat):Int)∧ad V 0=ad Z 0∧ad V 3=ad Z 3∧ad V 6=ad Z 6) ?_;rintro Z d ⟨h0,h2,h5⟩;have U:fm (H.take 0)=0:=by rw[List.take_zero];unfold fm;rw[dP]
 have hn:aw [2,5] (ae b) Z ((2,.int .i64 ((fm (H.take 0):Nat):Int))::(5,.int .i64 ((I+0:Nat):Int))::Z)=aw [2,5] (ae b) Z Z:=by rw[U];simp[aw,h2,h5]
 rw[←hn];refine bO (α:=Nat) (fun j=>⟨aw [2,5] (ae b) Z ((2,.int .i64 ((fm (H.take j):Nat):Int))::(5,.int .i64 ((I+j:Nat):Int))::Z),[],d⟩)
  (fun j=>H.length-j) (fun j=>j≤H.length) (.exit 0) _ d _ (by simp) ?_ K 0 (Nat.zero_le _) (by simp only[Nat.sub_zero];omega)
 intro j hj;clear hn U;simp[ah,aG,f144] at J;obtain⟨i,G⟩:=xE (I+j);have S:s[i]? =(H++rest)[j]? :=by rw[←hd,List.getElem?_drop,G]
 by_cases ZL:j=H.length
 ·right
  subst ZL;rw[List.take_length,←G];rw[List.getElem?_append_right (Nat.le_refl _),Nat.sub_self] at S;obtain⟨rfl,rfl⟩:=J;rcases XK with h | ⟨r,h⟩
  ·subst h
   have X:i=s.length:=by simp at Y;omega
   have h1:¬i<s.length:=by omega
   have D:¬(i:Int)<(s.length:Int):=by omega
   simp[h0,D]
  ·subst h
   have X:i<s.length:=by simp at Y;omega
   have C:(i:Int)<(s.length:Int):=by omega
   have R:s[i]? =some 47:=by simpa using S
   have B :s[i]=47:=(List.getElem?_eq_some_iff.1 R).2;simp[h0,X,C,B]
 ·left
  have A:j<H.length:=by omega
  obtain⟨c,R⟩:∃c,H[j]? =some c:=⟨H[j],by simp[A]⟩
  rw[List.getElem?_append_left A,R] at S;have X:i<s.length:=gL S;have C:(i:Int)<(s.length:Int):=by omega
  have u :s[i]=c:=(List.getElem?_eq_some_iff.1 S).2;have L:=List.all_eq_true.1 W c (List.mem_of_getElem? R);have hcd:=sZ L;have ab8:48≤c.toNat∧c.toNat≤57:=by unfold isD at L;simp only[Bool.and_eq_true,decide_eq_true_eq] at L;exact L
  have o:¬((c.toNat:Int)=47):=by omega
  have Yn:H.take (j+1)=H.take j++[c]:=by rw[List.take_add_one,R];rfl
  have N:fm (H.take (j+1))=10*fm (H.take j)+(c.toNat-48):=by rw[Yn,nw]
  have m:=jQ9x W (by omega) j;obtain⟨v,M⟩:=xE (fm (H.take j));obtain⟨v2,Zr⟩:=xE (fm (H.take (j+1)));rw[←M] at m N;rw[←Zr] at N;obtain⟨k,hk⟩:=xE (α:=Nat) (c.toNat-48);have w0:IntKind.u8.wrap ((c.toNat:Int)-48)=(k:Int):=by rw[xX (by omega) (by omega)];omega
  have w1:IntKind.i64.wrap (k:Int)=(k:Int):=af;have w2:IntKind.i64.wrap (10*(v:Int))=10*(v:Int):=af;have w3:IntKind.i64.wrap (10*(v:Int)+(k:Int))=(v2:Int):=by rw[af];omega
  have w4:IntKind.i64.wrap ((i:Int)+1)=((I+(j+1):Nat):Int):=by rw[af];omega
  rw[←G];refine⟨j+1,?_⟩;refine bH (show j+1≤H.length∧_ from⟨A,by omega⟩) ?_;obtain⟨rfl,rfl⟩:=J;simp[h0,X,C,u,o,←M,←Zr,w0,w1,w2,w3,w4];try omega
theorem jS9x(s H:List UInt8)(I:Nat)(hs:s.length≤9)(XL:I≤s.length)(hd:s.drop I=H)(W:H.all isD=true)(hK:10<K)(J:ah f144=[b,b2]):
  ∃F:Env→Bool→Env,∀Z d,(ad Z 0=.str s∧ad Z 3=.int .i64 0∧ad Z 5=.int .i64 (I:Int))→
   aS (aV prog) dR9x O K 57 0 true (.loop b2) ⟨Z,[],d⟩=some (.exit 2,⟨F Z d,[],d⟩)∧(ad (F Z d) 3=.int .i64 ((fm H:Nat):Int)∧ad (F Z d) 2=ad Z 2∧ad (F Z d) 6=ad Z 6):=by
 have o:dR9x b2=[3,5]:=by simp[ah,aG,f144] at J;obtain⟨rfl,rfl⟩:=J;decide
 have H':I+H.length=s.length:=by have:=congrArg List.length hd;simp at this;omega
 refine bw o (fun Z=>ad Z 0=.str s∧ad Z 3=.int .i64 0∧ad Z 5=.int .i64 (I:Int)) (fun Z R =>ad R 3=.int .i64 ((fm H:Nat):Int)∧ad R 2=ad Z 2∧ad R 6=ad Z 6) ?_;rintro Z d ⟨h0,h2,h5⟩;have X:fm (H.take 0)=0:=by rw[List.take_zero];unfold fm;rw[dP]
 have B:aw [3,5] (ae b2) Z ((3,.int .i64 ((fm (H.take 0):Nat):Int))::(5,.int .i64 ((I+0:Nat):Int))::Z)=aw [3,5] (ae b2) Z Z:=by rw[X];simp[aw,h2,h5]
 rw[←B];refine bO (α:=Nat) (fun j=>⟨aw [3,5] (ae b2) Z ((3,.int .i64 ((fm (H.take j):Nat):Int))::(5,.int .i64 ((I+j:Nat):Int))::Z),[],d⟩)
  (fun j=>H.length-j) (fun j=>j≤H.length) (.exit 2) _ d _ (by simp) ?_ K 0 (Nat.zero_le _) (by simp only[Nat.sub_zero];omega)
 intro j hj;clear B X;simp[ah,aG,f144] at J;obtain⟨i,N⟩:=xE (I+j);have M:s[i]? =H[j]? :=by rw[←hd,List.getElem?_drop,N]
 by_cases m:j=H.length
 ·right
  subst m;rw[List.take_length,←N];obtain⟨rfl,rfl⟩:=J;have Y:¬i<s.length:=by omega
  have h1I:¬(i:Int)<(s.length:Int):=by omega
  simp[h0,Y]
 ·left
  have A:j<H.length:=by omega
  obtain⟨c,L⟩:∃c,H[j]? =some c:=⟨H[j],by simp[A]⟩
  rw[L] at M;have G:i<s.length:=gL M;have Zq:(i:Int)<(s.length:Int):=by omega
  have D :s[i]=c:=(List.getElem?_eq_some_iff.1 M).2;have S:=List.all_eq_true.1 W c (List.mem_of_getElem? L);have hcd:=sZ S;have ab8:48≤c.toNat∧c.toNat≤57:=by unfold isD at S;simp only[Bool.and_eq_true,decide_eq_true_eq] at S;exact S
  have Yn:H.take (j+1)=H.take j++[c]:=by rw[List.take_add_one,L];rfl
  have V:fm (H.take (j+1))=10*fm (H.take j)+(c.toNat-48):=by rw[Yn,nw]
  have C:=jQ9x W (by omega) j;obtain⟨v,U⟩:=xE (fm (H.take j));obtain⟨v2,u⟩:=xE (fm (H.take (j+1)));rw[←U] at C V;rw[←u] at V;obtain⟨k,hk⟩:=xE (α:=Nat) (c.toNat-48);have w0:IntKind.u8.wrap ((c.toNat:Int)-48)=(k:Int):=by rw[xX (by omega) (by omega)];omega
  have w1:IntKind.i64.wrap (k:Int)=(k:Int):=af;have w2:IntKind.i64.wrap (10*(v:Int))=10*(v:Int):=af;have w3:IntKind.i64.wrap (10*(v:Int)+(k:Int))=(v2:Int):=by rw[af];omega
  have w4:IntKind.i64.wrap ((i:Int)+1)=((I+(j+1):Nat):Int):=by rw[af];omega
  rw[←N];refine⟨j+1,?_⟩;refine bH (show j+1≤H.length∧_ from⟨A,by omega⟩) ?_;obtain⟨rfl,rfl⟩:=J;simp[h0,G,Zq,D,←U,←u,w0,w1,w2,w3,w4];try omega
theorem yd9x(q:Rat)(mem:Mem):kO prog 144 [.str (aj q)] mem (if (aj q).length≤9 then .tuple [.int .i64 q.num,.int .i64 q.den,.bool true] else .tuple [.int .i64 0,.int .i64 0,.bool false]) mem:=by
 have m:aT prog 144=some f144:=by kernel_rfl
 refine cE (az _) (lv:=dR9x) (K:=11) rfl (by split<;>rfl) ?_ mem;by_cases j:(aj q).length≤9
 ·rw[if_pos j]
  have X:¬(9<((aj q).length:Int)):=by omega
  obtain⟨b,b2,o⟩:∃b b2,ah f144=[b,b2]:=⟨_,_,rfl⟩
  obtain⟨Z,D,V⟩:=sG q;obtain⟨s,hs⟩:=xE (aj q);rw[←hs] at j X D ⊢;obtain⟨N,hN⟩:=xE q.num.natAbs;rw[←hN] at D;have C:=dC N;have hvN:=dJ N;have hpN:=oY N;have Y:=iS N;have XK:Z=[]∨∃r,Z=47::r:=by rw[V];split<;>simp
  obtain⟨W,R⟩:=xE (α:=Nat) (if q.num<0 then 1 else 0);have Yl:(if q.num<0 then [(45:UInt8)] else []).length=W:=by rw[R];split<;>rfl
  have J:s.drop W=au N++Z:=by rw[D,←Yl,List.drop_left]
  have H':s.length=W+(au N).length+Z.length:=by rw[D,List.length_append,Yl,List.length_append];omega
  obtain⟨F,S⟩:=jR9x (O:=cu) (K:=11) s (au N) Z W j (by omega) J XK C (by omega) o;rw[hvN] at S;obtain⟨M,I⟩:=xE (W+(au N).length);rw[←I] at S H';have adw:N<10 ^ 9:=by have h1:=cm N;have h2:10 ^ (au N).length≤10 ^ 9:=Nat.pow_le_pow_right (by omega) (by omega);omega
  have wn:IntKind.i64.wrap (-(N:Int))= -(N:Int):=af;have wp:IntKind.i64.wrap (N:Int)=(N:Int):=af;by_cases L:q.den=1
  ·rw[if_pos L] at V
   subst V;have B:¬M<s.length:=by simp at H';omega
   simp[ah,aG,f144] at o;obtain⟨rfl,rfl⟩:=o;by_cases G:q.num<0
   ·rw[if_pos G] at R
    subst R;have U:s[0]? =some 45:=by rw[D,if_pos G];rfl
    have e: -(N:Int)=q.num:=by omega
    have A :IntKind.i64.wrap (-(N:Int))=q.num:=by rw[wn,e]
    simp only[Int.natCast_one] at S;simp[aa,m,f144,X,U,S,B,A,L]
   ·rw[if_neg G] at R
    subst R;have U:∃c,s[0]? =some c∧isD c=true:=by
     rw[D,if_neg G];cases hx:au N with
     |nil=>exact absurd hx Y
     |cons c r=>
      rw[hx] at C;simp only[List.all_cons,Bool.and_eq_true] at C;exact⟨c,by simp,C.1⟩
    obtain⟨c,U,Y5⟩:=U;have YL:=eR Y5;have e:(N:Int)=q.num:=by omega
    have u :IntKind.i64.wrap (N:Int)=q.num:=by rw[wp,e]
    simp only[Int.natCast_zero] at S;simp[aa,m,f144,X,U,YL,S,B,u,L]
  ·rw[if_neg L] at V
   subst V;have B:M<s.length:=by simp at H';omega
   have H:(M:Int)<(s.length:Int):=by omega
   have aam:s.drop (M+1)=au q.den:=by
    have h1:s.drop M=47::au q.den:=by rw[I,←List.drop_drop,J,List.drop_left]
    rw[←List.drop_drop,h1];rfl
   obtain⟨F2,XZ⟩:=jS9x (O:=cu) (K:=11) s (au q.den) (M+1) j (by omega) aam (dC _) (by omega) o;rw[dJ] at XZ;have w1:IntKind.i64.wrap ((M:Int)+1)=((M+1:Nat):Int):=by rw[af];omega
   obtain⟨at2,ab'⟩:=xE (M+1);rw[←ab'] at w1 XZ;simp[ah,aG,f144] at o;obtain⟨rfl,rfl⟩:=o;by_cases G:q.num<0
   ·rw[if_pos G] at R
    subst R;have U:s[0]? =some 45:=by rw[D,if_pos G];rfl
    have e: -(N:Int)=q.num:=by omega
    have A :IntKind.i64.wrap (-(N:Int))=q.num:=by rw[wn,e]
    simp only[Int.natCast_one] at S;simp[aa,m,f144,X,U,S,H,w1,XZ,A]
   ·rw[if_neg G] at R
    subst R;have U:∃c,s[0]? =some c∧isD c=true:=by
     rw[D,if_neg G];cases hx:au N with
     |nil=>exact absurd hx Y
     |cons c r=>
      rw[hx] at C;simp only[List.all_cons,Bool.and_eq_true] at C;exact⟨c,by simp,C.1⟩
    obtain⟨c,U,Y5⟩:=U;have YL:=eR Y5;have e:(N:Int)=q.num:=by omega
    have u :IntKind.i64.wrap (N:Int)=q.num:=by rw[wp,e]
    simp only[Int.natCast_zero] at S;simp[aa,m,f144,X,U,YL,S,H,w1,XZ,u]
 ·rw[if_neg j]
  have X:(9<((aj q).length:Int)):=by omega
  simp[aa,m,f144,X]
variable{q:Rat}
theorem vB(h:(aj q).length≤9):q.num.natAbs<10 ^ 9∧q.den<10 ^ 9:=FG h
noncomputable def kF(f:FuncId)(args:List AV):Option AV:=
 match f,args with
 |144,[.str s]=>match ek s with
  |some q=>some (if (aj q).length≤9 then .tuple [.int .i64 q.num,.int .i64 q.den,.bool true] else .tuple [.int .i64 0,.int .i64 0,.bool false])
  |none=>none
 |145,[.int .i64 n,.int .i64 m]=>if 0<m∧n.natAbs≤4611686018427387904∧m≤4611686018427387904 then some (.str (aj (mkRat n m.toNat))) else none
 |148,[.str s,.str t]=>match lh s,yL t with
  |some n,some d=>if d≠0∧(bL n).length≤18∧(au d).length≤18 then some (.str (aj (mkRat n d))) else none
  |_,_=>none
 |93,[.int .i64 n]=>if dG n then some (.str (bL n)) else none
 |f,args=>an f args
theorem OU(n:Int)(H:dG n=true)(mem:Mem):kO prog 93 [.int .i64 n] mem (.str (bL n)) mem:=by
 have Z:aT prog 93=some f93:=by kernel_rfl
 refine ak cW ?_ mem;simp[aa,Z,f93,ag,an,H]
theorem oG:qS prog (ag kF):=bM fun f X v h mem=>by
 unfold kF at h;split at h
 ·split at h
  next q V=>cases h;rw[aA V];exact yd9x q mem
  ·cases h
 ·rename_i n m
  split at h
  ·rename_i Z
   cases h;have:=uQ9x n m.toNat Z.2.1 (by omega) (by omega) mem;rw[Int.toNat_of_nonneg (by omega)] at this;exact this
  ·cases h
 ·split at h
  ·rename_i m n U S
   split at h
   next Z=>cases h;rw[cL U,ib S];exact ye9x m n Z.1 Z.2.1 Z.2.2 mem
   ·cases h
  ·cases h
 ·split at h
  next Z=>cases h;exact OU _ Z mem
  ·cases h
 ·have:=cW.fn _ _ mem ⟨v,none,[]⟩ (by unfold ag;simp only;rw[h])
  simpa [aee.mem] using this
theorem At(n:Int)(d:Nat)(hd:d≠0)(H:n.natAbs<10 ^ 8)(hd2:d<10 ^ 8)(mem:Mem):kO prog 92 [.str (bL n),.str (au d)] mem (.str (aj (mkRat n d))) mem:=by
 have Z:aT prog 92=some f92:=by kernel_rfl
 refine ak oG ?_ mem;have R:(au n.natAbs).length≤8:=aI (by omega) H;have N:(au d).length≤8:=aI (by omega) hd2;have M:(bL n).length≤9:=by have:=cj n;omega
 have X:((bL n).length:Int)≤9:=by omega
 have V:((au d).length:Int)≤9:=by omega
 have U:(bL n).length≤18:=by omega
 have S:(au d).length≤18:=by omega
 have L:(au d).length≤9:=by omega
 simp[aa,Z,f92,ag,kF,aU,dH,X,V,U,S,hd]
noncomputable def AW(f:FuncId)(args:List AV):Option AV:=
 match f,args with
 |92,[.str s,.str t]=>match lh s,yL t with
  |some n,some d=>if d≠0∧n.natAbs<10 ^ 8∧d<10 ^ 8 then some (.str (aj (mkRat n d))) else none
  |_,_=>none
 |f,args=>kF f args
theorem Mv:qS prog (ag AW):=bM fun f X v h mem=>by
 unfold AW at h;split at h
 ·split at h
  ·rename_i m n V U
   split at h
   next Z=>cases h;rw[cL V,ib U];exact At m n Z.1 Z.2.1 Z.2.2 mem
   ·cases h
  ·cases h
 ·have:=oG.fn _ _ mem ⟨v,none,[]⟩ (by unfold ag;simp only;rw[h])
  simpa [aee.mem] using this
theorem Au(n:Int)(d:Nat)(hd:d≠0)(H:n.natAbs<10 ^ 8)(hd2:d<10 ^ 8)(mem:Mem):kO prog 37 [.int .i64 n,.int .i64 d] mem (.str (aj (mkRat n d))) mem:=by
 have V:aT prog 37=some f37:=by kernel_rfl
 refine ak Mv ?_ mem;have f1:dG n=true:=by unfold dG;simp;omega
 have f2:dG (d:Int)=true:=by unfold dG;simp;omega
 have U:bL (d:Int)=au d:=rfl;have Z :n.natAbs<100000000:=H;have X :d<100000000:=hd2;simp[aa,V,f37,ag,AW,kF,f1,f2,U,aU,dH,hd,Z,X]
theorem OT(a b:Rat)(H:(aj a).length≤9)(I:(aj b).length≤9)(mem:Mem):
  kO prog 90 [.str (aj a),.str (aj b)] mem (.str (aj (a+b))) mem:=by
 have M:aT prog 90=some f90:=by kernel_rfl
 refine ak oG ?_ mem;have V:a.den*b.den≠0:=Nat.mul_ne_zero a.den_nz b.den_nz;have R:=Rat.add_def' a b;obtain⟨X,U⟩:=xE (a.num*(b.den:Int));obtain⟨Y,S⟩:=xE (b.num*(a.den:Int));obtain⟨D,Z⟩:=xE (a.den*b.den);rw[←U,←S,←Z] at R;rw[←Z] at V;rw[R];obtain⟨L,N⟩:=vB H;obtain⟨G,b2⟩:=vB I;have o:X.natAbs<10 ^ 9*10 ^ 9:=by rw[U];exact ft L (by simpa using b2)
 have m:Y.natAbs<10 ^ 9*10 ^ 9:=by rw[S];exact ft G (by simpa using N)
 have d1:D<10 ^ 9*10 ^ 9:=by rw[Z];exact Nat.mul_lt_mul'' N b2
 have w1:IntKind.i64.wrap (a.num*(b.den:Int))=X:=by rw[←U];exact af
 have w2:IntKind.i64.wrap (b.num*(a.den:Int))=Y:=by rw[←S];exact af
 have w3:IntKind.i64.wrap (X+Y)=X+Y:=af;have w4:IntKind.i64.wrap ((a.den:Int)*(b.den:Int))=(D:Int):=by rw[←Int.natCast_mul,←Z];exact af
 have F:(X+Y).natAbs≤4611686018427387904:=by omega
 have C:(D:Int)≤4611686018427387904:=by omega
 have B :D≤4611686018427387904:=by omega
 have A:0<D:=by omega
 have u :(0:Int)<D:=by omega
 simp[aa,M,f90,ag,kF,ar,H,I,w1,w2,w3,w4,F,C,A]
theorem OV(a b:Rat)(H:(aj a).length≤9)(I:(aj b).length≤9)(mem:Mem):
  kO prog 94 [.str (aj a),.str (aj b)] mem (.str (aj (a*b))) mem:=by
 have R:aT prog 94=some f94:=by kernel_rfl
 refine ak oG ?_ mem;have V:a.den*b.den≠0:=Nat.mul_ne_zero a.den_nz b.den_nz;have S:=Rat.mul_def' a b;obtain⟨X,U⟩:=xE (a.num*b.num);obtain⟨D,Z⟩:=xE (a.den*b.den);rw[←U,←Z] at S;rw[←Z] at V;rw[S];obtain⟨N,M⟩:=vB H;obtain⟨L,b2⟩:=vB I;have u:X.natAbs<10 ^ 9*10 ^ 9:=by rw[U];exact ft N L
 have d1:D<10 ^ 9*10 ^ 9:=by rw[Z];exact Nat.mul_lt_mul'' M b2
 have w1:IntKind.i64.wrap (a.num*b.num)=X:=by rw[←U];exact af
 have w4:IntKind.i64.wrap ((a.den:Int)*(b.den:Int))=(D:Int):=by rw[←Int.natCast_mul,←Z];exact af
 have G:X.natAbs≤4611686018427387904:=by omega
 have F:(D:Int)≤4611686018427387904:=by omega
 have C :D≤4611686018427387904:=by omega
 have B:0<D:=by omega
 have A :(0:Int)<D:=by omega
 simp[aa,R,f94,ag,kF,ar,H,I,w1,w4,G,F,B]
theorem OW(q:Rat)(H:(aj q).length≤1000000000)(mem:Mem):kO prog 107 [.str (aj q)] mem (.str (aj (-q))) mem:=by
 have X:aT prog 107=some f107:=by kernel_rfl
 refine ak (az _) ?_ mem;by_cases Z:q=0
 ·subst Z
  simp[aa,X,f107,bq]
 ·have M:¬q.num=0:=fun e=>Z (sD.1 e)
  by_cases S:q.num<0
  ·have e:=kU S
   have V:(45::aj (-q)==[48])=false:=by rw[←e,bq];simpa using Z
   rw[e];have h3:(1:Int)≤((aj (-q)).length:Int)+1:=by omega
   simp[aa,X,f107,V,h3]
  ·have e:=rH (q:=q) (by omega)
   obtain⟨c,r,U,R⟩:=nh (q:=q) (by omega);have V:(c::r==[48])=false:=by rw[←U,bq];simpa using Z
   have N:=eR R;rw[e,U];rw[U] at H;simp only[List.length_cons] at H;have h3:1+(r.length+1)≤9223372036854775807:=by omega
   simp[aa,X,f107,V,N,h3,gb]
noncomputable def fa(f:FuncId)(args:List AV):Option AV:=
 match f,args with
 |37,[.int .i64 n,.int .i64 d]=>if 0<d∧n.natAbs<10 ^ 8∧d.toNat<10 ^ 8 then some (.str (aj (mkRat n d.toNat))) else none
 |90,[.str s,.str t]=>match ek s,ek t with
  |some a,some b=>if (aj a).length≤9∧(aj b).length≤9 then some (.str (aj (a+b))) else none
  |_,_=>none
 |94,[.str s,.str t]=>match ek s,ek t with
  |some a,some b=>if (aj a).length≤9∧(aj b).length≤9 then some (.str (aj (a*b))) else none
  |_,_=>none
 |107,[.str s]=>match ek s with
  |some a=>if (aj a).length≤9 then some (.str (aj (-a))) else none
  |none=>none
 |_,_=>none
theorem im:qS prog (ag fa):=bM fun f U v h mem=>by
 unfold fa at h;split at h
 ·rename_i n d
  split at h
  ·rename_i Z
   cases h;have:=Au n d.toNat (by omega) Z.2.1 Z.2.2 mem;rw[Int.toNat_of_nonneg (by omega)] at this;exact this
  ·cases h
 ·split at h
  ·rename_i m n X V
   split at h
   next Z=>cases h;rw[aA X,aA V];exact OT m n Z.1 Z.2 mem
   ·cases h
  ·cases h
 ·split at h
  ·rename_i m n X V
   split at h
   next Z=>cases h;rw[aA X,aA V];exact OV m n Z.1 Z.2 mem
   ·cases h
  ·cases h
 ·split at h
  ·rename_i m X
   split at h
   next Z=>cases h;rw[aA X];exact OW m (by omega) mem
   ·cases h
  ·cases h
 ·cases h
theorem OX(a b:Rat)(H:(aj a).length≤9)(I:(aj b).length≤9)(J:(aj (-b)).length≤9)(mem:Mem):
  kO prog 53 [.str (aj a),.str (aj b)] mem (.str (aj (a-b))) mem:=by
 have Z:aT prog 53=some f53:=by kernel_rfl
 refine ak im ?_ mem;have e:a+ -b=a-b:=(Rat.sub_eq_add_neg a b).symm;simp[aa,Z,f53,ag,fa,ar,H,I,J,e]
def zS(n:Int):List UInt8:=aj (n:Rat)
variable{n:Int}
theorem tn(h:n.natAbs<10 ^ 4):(aj (n:Rat)).length≤9:=by
 have e:aj (n:Rat)=bL n:=by unfold aj;simp
 rw[e];have Z:=cj n;have X:(au n.natAbs).length≤4:=aI (by omega) h;omega
noncomputable def AX(f:FuncId)(args:List AV):Option AV:=
 match f,args with
 |53,[.str s,.str t]=>match ek s,ek t with
  |some a,some b=>if (aj a).length≤9∧(aj b).length≤9∧(aj (-b)).length≤9 then some (.str (aj (a-b))) else none
  |_,_=>none
 |f,args=>fa f args
theorem Mw:qS prog (ag AX):=bM fun f X v h mem=>by
 unfold AX at h;split at h
 ·split at h
  ·rename_i m n V U
   split at h
   next Z=>cases h;rw[aA V,aA U];exact OX m n Z.1 Z.2.1 Z.2.2 mem
   ·cases h
  ·cases h
 ·have:=im.fn _ _ mem ⟨v,none,[]⟩ (by unfold ag;simp only;rw[h])
  simpa [aee.mem] using this
theorem Ks{a b:Int}(H:a.natAbs≤30)(I:b.natAbs≤30):(a*b).natAbs≤900:=by rw[Int.natAbs_mul];exact Nat.mul_le_mul H I
abbrev Z3:=Int×Int×Int
def zA(v:Z3):AV:=.agg [.str (zS v.1),.str (zS v.2.1),.str (zS v.2.2)]
def Ox(n:Nat)(v:Z3):Prop:=v.1.natAbs≤n∧v.2.1.natAbs≤n∧v.2.2.natAbs≤n
instance (n:Nat) (v:Z3):Decidable (Ox n v):=inferInstanceAs (Decidable (v.1.natAbs≤n∧v.2.1.natAbs≤n∧v.2.2.natAbs≤n))
theorem jm(h0: -1000000≤n)(h1:n≤1000000):IntKind.i64.wrap n=n:=by rw[af]
def qY(a b:Z3):Z3:=(a.2.1*b.2.2-a.2.2*b.2.1,a.2.2*b.1-a.1*b.2.2,a.1*b.2.1-a.2.1*b.1)
def U6(v:Z3):Bool:=decide (v.1=0)&&decide (v.2.1=0)&&decide (v.2.2=0)
theorem mX(h:q.den=1):q=(q.num:Rat):=Rat.ext rfl h
end Go.Proofs
namespace Go.Eng
structure Hts where
 v:List Int
 half:Bool
def i8C(l:List Int):List AV:=l.map fun n=>.int .i8 n
def Hts.cells(h:Hts):List AV:=i8C h.v++[.bool h.half]
structure Hts.Ok (h:Hts):Prop where
 len:h.v.length=6
 ok:∀n∈h.v,z8 n
structure aed where
 kind:Nat
 base:Hts
 s0:Hts
 s1:Hts
 N:List Int
 T:List Int
def aed.cells(x:aed):List AV:=.int .u8 x.kind::(x.base.cells++(x.s0.cells++(x.s1.cells++(i8C x.N++i8C x.T))))
structure aed.Ok (x:aed):Prop where
 kind:x.kind<256
 base:x.base.Ok
 s0:x.s0.Ok
 s1:x.s1.Ok
 nl:x.N.length=8
 nk:∀n∈x.N,z8 n
 tl:x.T.length=4
 tk:∀n∈x.T,z8 n
theorem gG(l:List Int):(i8C l).length=l.length:=by simp[i8C]
theorem mV:∀l:List Int,AV.aej (i8C l)=true
 | []=>rfl
 |n::l=>by have:=mV l;simp only[i8C] at this;simp[i8C,AV.aej,AV.closed,this]
variable{k:Nat}
section
variable{l:List Int}
theorem Vf(h:k<l.length):(i8C l)[k]? =some (.int .i8 (l.getD k 0)):=by simp[i8C,List.getD_eq_getElem?_getD,List.getElem?_eq_getElem h]
theorem oQ(h:k<l.length):l.getD k 0∈l:=by rw[List.getD_eq_getElem?_getD,List.getElem?_eq_getElem h];exact List.getElem_mem _
end
def gd(n:Int):Int:=n.tmod 10
def ps9(n:Int):Int:=1+(n.tmod 9+9).tmod 9
def ct3(n:Int):Int:=1+(n.tmod 3+3).tmod 3
theorem cS(n:Int):(gd n).natAbs≤9:=by have:=zL n 10 (by decide);unfold gd;simp only[Int.cast_ofNat_Int] at this;omega
theorem lX(n:Int):1≤ps9 n∧ps9 n≤9:=by have h:=zL n 9 (by decide);have Z:=zL (n.tmod 9+9) 9 (by decide);have h3:=Int.tmod_nonneg 9 (a:=n.tmod 9+9) (by simp only[Int.cast_ofNat_Int] at h;omega);unfold ps9;simp only[Int.cast_ofNat_Int] at h Z;omega
theorem NO(n:Int):1≤ct3 n∧ct3 n≤3:=by have h:=zL n 3 (by decide);have Z:=zL (n.tmod 3+3) 3 (by decide);have h3:=Int.tmod_nonneg 3 (a:=n.tmod 3+3) (by simp only[Int.cast_ofNat_Int] at h;omega);unfold ct3;simp only[Int.cast_ofNat_Int] at h Z;omega
def aed.n(x:aed)(i:Nat):Int:=x.N.getD i 0
def aed.t(x:aed)(i:Nat):Int:=x.T.getD i 0
def Hts.z(h:Hts)(k:Nat):Int:=(if h.half then 1 else 2)*(h.v.getD (k%6) 0).tmod 20
def Hts.l(h:Hts)(n:Nat):List Int:=(List.range n).map h.z
theorem Hts.aeI(h:Hts)(n:Nat):(h.l n).length=n:=by simp[Hts.l]
theorem Hts.ags(h:Hts)(n:Nat):h.l (n+1)=h.l n++[h.z n]:=by simp[Hts.l,List.range_succ]
theorem Hts.af7(h:Hts)(k:Nat):(h.z k).natAbs≤38:=by have:=zL (h.v.getD (k%6) 0) 20 (by decide);unfold Hts.z;simp only[Int.cast_ofNat_Int] at this;split<;>omega
def upL(h:Hts)(L:List Int)(n:Nat):List Int:=(List.range n).map fun k=>L.getD k 0+(h.z k).natAbs
theorem fI(h:Hts)(L:List Int)(n:Nat):(upL h L n).length=n:=by simp[upL]
theorem Ou(h:Hts)(L:List Int)(n:Nat):upL h L (n+1)=upL h L n++[L.getD n 0+(h.z n).natAbs]:=by simp[upL,List.range_succ]
def aed.at(x:aed):Nat→Int
 |0=>gd (x.n 6)
 |i+1=>x.at i+ps9 (x.n ((i+3)%8))
def aed.val(x:aed)(i:Nat):Int:=gd (x.n ((i+7)%8))
def aed.agT(x:aed)(i:Nat):Rat×Rat:=((x.at i:Int),hQ (x.val i))
def aed.aeA(x:aed)(c:Nat):List (Rat×Rat):=(List.range c).map x.agT
theorem aed.aeL(x:aed)(c:Nat):(x.aeA c).length=c:=by simp[aed.aeA]
theorem aed.agt(x:aed):∀i,(x.at i).natAbs≤9+9*i
 |0=>cS _
 |i+1=>by
  have Z:=x.agt i;have X:=lX (x.n ((i+3)%8));show(x.at i+ps9 (x.n ((i+3)%8))).natAbs≤_
  omega
theorem aed.agP(x:aed)(i:Nat):x.at i<x.at (i+1):=by
 have Z:=lX (x.n ((i+3)%8));show x.at i<x.at i+ps9 (x.n ((i+3)%8))
 omega
variable{vs:List AV}
theorem er(h:AV.aej vs=true)(n:Nat):AV.aew n vs=[]:=AV.aeH (Nat.zero_le n) (aX h)
theorem gn(h:AV.aej vs=true)(f:Nat→Bool):AV.ael f vs=true:=AV.aeE (k:=0) (fun b Z=>absurd Z (Nat.not_lt_zero b)) (aX h)
theorem xt{a b:List AV}(H:AV.aej a=true)(I:AV.aej b=true):AV.aej (a++b)=true:=by
 induction a with
 |nil=>exact I
 |cons x a ih=>
  simp only[AV.aej,Bool.and_eq_true,List.cons_append] at H ⊢;exact⟨H.1,ih H.2⟩
theorem Hts.closed(h:Hts):AV.aej h.cells=true:=xt (mV _) rfl
theorem aed.closed(x:aed):AV.aej x.cells=true:=by
 show AV.aej ([.int .u8 x.kind]++(x.base.cells++(x.s0.cells++(x.s1.cells++(i8C x.N++i8C x.T)))))=true
 exact xt rfl (xt x.base.closed (xt x.s0.closed (xt x.s1.closed (xt (mV _) (mV _)))))
variable{h:Hts}
theorem Hts.aem(H:h.Ok):h.cells.length=7:=by unfold Hts.cells;rw[List.length_append,gG,H.len];rfl
section
variable {x:aed}(hx:x.Ok)
include hx
theorem aed.aem:x.cells.length=34:=by unfold aed.cells;simp only[List.length_cons,List.length_append,Hts.aem hx.base,Hts.aem hx.s0,Hts.aem hx.s1,gG,hx.nl,hx.tl]
theorem aed.ae3:x.cells[0]? =some (.int .u8 x.kind):=by rfl
theorem aed.aeq(hk:k<8):x.cells[22+k]? =some (.int .i8 (x.n k)):=by
 show(AV.int .u8 x.kind::(x.base.cells++(x.s0.cells++(x.s1.cells++(i8C x.N++i8C x.T)))))[22+k]? =_
 have e:22+k=(21+k)+1:=by omega
 have X:=Hts.aem hx.base;have V:=Hts.aem hx.s0;have U:=Hts.aem hx.s1;have S:=gG x.N;have R:=hx.nl;rw[e,List.getElem?_cons_succ,List.getElem?_append_right (by omega),List.getElem?_append_right (by omega),List.getElem?_append_right (by omega),List.getElem?_append_left (by omega)];have Z:21+k-x.base.cells.length-x.s0.cells.length-x.s1.cells.length=k:=by omega
 rw[Z];exact Vf (by omega)
theorem aed.aft:x.cells.drop 1=x.base.cells++(x.s0.cells++(x.s1.cells++(i8C x.N++i8C x.T))):=rfl
theorem aed.ae8:(x.cells.drop 1).take 7=x.base.cells:=by rw[aed.aft hx,List.take_left' (Hts.aem hx.base)]
theorem aed.afT:(x.cells.drop 8).take 7=x.s0.cells:=by
 have e:x.cells.drop 8=(x.cells.drop 1).drop 7:=by rw[List.drop_drop]
 rw[e,aed.aft hx,List.drop_left' (Hts.aem hx.base),List.take_left' (Hts.aem hx.s0)]
theorem aed.afU:(x.cells.drop 15).take 7=x.s1.cells:=by
 have e:x.cells.drop 15=((x.cells.drop 1).drop 7).drop 7:=by rw[List.drop_drop,List.drop_drop]
 rw[e,aed.aft hx,List.drop_left' (Hts.aem hx.base),List.drop_left' (Hts.aem hx.s0),List.take_left' (Hts.aem hx.s1)]
theorem aed.af8:(x.cells.drop 30).take 4=i8C x.T:=by
 have e:x.cells.drop 30=((((x.cells.drop 1).drop 7).drop 7).drop 7).drop 8:=by rw[List.drop_drop,List.drop_drop,List.drop_drop,List.drop_drop]
 have Z:(i8C x.N).length=8:=by rw[gG,hx.nl]
 have X:(i8C x.T).length=4:=by rw[gG,hx.tl]
 rw[e,aed.aft hx,List.drop_left' (Hts.aem hx.base),List.drop_left' (Hts.aem hx.s0),List.drop_left' (Hts.aem hx.s1),List.drop_left' Z,List.take_of_length_le (by omega)]
theorem aed.aeR(hk:k<8):z8 (x.n k):=hx.nk _ (oQ (by rw[hx.nl];exact hk))
end
theorem Hts.af9(H:h.Ok)(hk:k<6):h.cells[k]? =some (.int .i8 (h.v.getD k 0)):=by unfold Hts.cells;rw[List.getElem?_append_left (by rw[gG,H.len];exact hk)];exact Vf (by rw[H.len];exact hk)
theorem Hts.afx(H:h.Ok):h.cells[6]? =some (.bool h.half):=by unfold Hts.cells;rw[List.getElem?_append_right (by rw[gG,H.len];omega),gG,H.len];rfl
theorem Hts.agY(H:h.Ok)(hk:k<6):z8 (h.v.getD k 0):=H.ok _ (oQ (by rw[H.len];exact hk))
theorem cg{C:List AV}{i:Nat}{v:AV}(h:C[i]? =some v):∀h,C[i]'h=v:=fun Z=>Option.some.inj ((List.getElem?_eq_getElem Z).symm.trans h)
theorem gv(n:Int):mkRat n 1=(n:Rat):=Rat.mkRat_self (n:Rat)
def Hts.d(h:Hts):Nat:=if h.half then 2 else 1
theorem WD(n:Int):hQ (2*n)=(n:Rat):=by
 rw[lP,Rat.intCast_mul];have:((2:Int):Rat)=2:=rfl;rw[this]
 grind
theorem Hts.agZ(h:Hts)(k:Nat):mkRat ((h.v.getD (k%6) 0).tmod 20) h.d=hQ (h.z k):=by
 unfold Hts.d Hts.z;cases h.half
 ·simp only[Bool.false_eq_true,if_false]
  rw[gv,WD]
 ·simp only[if_true,Int.one_mul]
  rfl
end Go.Eng
namespace Go.Proofs
open Go.Eng
open Tryz
theorem Hb(n:Int)(h:z8 n)(M:Mem):kO prog 38 [.int .i8 n] M (.int .i64 (gd n)) M:=by
 have Z:aT prog 38=some f38:=by kernel_rfl
 refine ak (az _) ?_ M;unfold z8 at h;have w:IntKind.i64.wrap n=n:=jm (by omega) (by omega);simp[aa,Z,f38,w,gd]
theorem O5(n:Int)(h:z8 n)(M:Mem):kO prog 41 [.int .i8 n] M (.int .i64 (ps9 n)) M:=by
 have U:aT prog 41=some f41:=by kernel_rfl
 refine ak (az _) ?_ M;unfold z8 at h;have w:IntKind.i64.wrap n=n:=jm (by omega) (by omega);have q:=zL n 9 (by decide);simp only[Int.cast_ofNat_Int] at q;unfold ps9;obtain⟨a,Z⟩:=xE (n.tmod 9);rw[←Z] at q ⊢;have w1:IntKind.i64.wrap (a+9)=a+9:=jm (by omega) (by omega);have X:=zL (a+9) 9 (by decide);simp only[Int.cast_ofNat_Int] at X;obtain⟨b,V⟩:=xE ((a+9).tmod 9);rw[←V] at X ⊢;have w2:IntKind.i64.wrap (1+b)=1+b:=jm (by omega) (by omega);simp[aa,U,f41,w,←Z,w1,←V,w2]
theorem QK(v:Z3)(H:Ox 10000 v)(M:Mem):kO prog 30 [.int .i64 v.1,.int .i64 v.2.1,.int .i64 v.2.2] M (zA v) M:=by
 have Z:aT prog 30=some f30:=by kernel_rfl
 refine ak im ?_ M;obtain⟨a,b,c⟩:=v;obtain⟨X,V,h3⟩:=H;simp only at X V h3;have U:a.natAbs<100000000:=by omega
 have S:b.natAbs<100000000:=by omega
 have g3:c.natAbs<100000000:=by omega
 simp[aa,Z,f30,ag,fa,zA,zS,gv,U,S,g3,bJ,aD]
theorem Ha(a b c d:Int)(H:a.natAbs≤30)(I:b.natAbs≤30)(hc:c.natAbs≤30)(hd:d.natAbs≤30)(M:Mem):
  kO prog 153 [.str (zS a),.str (zS b),.str (zS c),.str (zS d)] M (.str (zS (a*b-c*d))) M:=by
 have U:aT prog 153=some f153:=by kernel_rfl
 have S:=Ks H I;have R:=Ks hc hd;have Z:(a:Rat)*(b:Rat)=((a*b:Int):Rat):=(Rat.intCast_mul a b).symm;have X:(c:Rat)*(d:Rat)=((c*d:Int):Rat):=(Rat.intCast_mul c d).symm;obtain⟨x,O⟩:=xE (a*b);obtain⟨y,N⟩:=xE (c*d);rw[←O] at S Z ⊢;rw[←N] at R X ⊢;have V:(x:Rat)-(y:Rat)=((x-y:Int):Rat):=(Rat.intCast_sub x y).symm;obtain⟨z,L⟩:=xE (x-y);rw[←L] at V ⊢;have K:=tn (n:=a) (by omega);have G:=tn (n:=b) (by omega);have F:=tn (n:=c) (by omega);have D:=tn (n:=d) (by omega);have C:=tn (n:=x) (by omega);have B:=tn (n:=y) (by omega);have A:(aj (-(y:Rat))).length≤9:=by rw[←Rat.intCast_neg];exact tn (n:= -y) (by omega)
 refine ak Mw ?_ M;simp[aa,U,f153,ag,AX,fa,zS,ar,K,G,F,D,C,B,A,Z,X,V]
noncomputable def A4(f:FuncId)(args:List AV):Option AV:=
 match f,args with
 |153,[.str s,.str t,.str u,.str v]=>match ek s,ek t,ek u,ek v with
  |some a,some b,some c,some d=>if (a.den=1∧b.den=1∧c.den=1∧d.den=1)∧a.num.natAbs≤30∧b.num.natAbs≤30∧c.num.natAbs≤30∧d.num.natAbs≤30 then some (.str (zS (a.num*b.num-c.num*d.num))) else none
  |_,_,_,_=>none
 |_,_=>none
theorem MF:qS prog (ag A4):=bM fun f Z v h mem=>by
 unfold A4 at h;split at h
 ·split at h
  ·rename_i a b c d X V U S
   split at h
   ·rename_i R
    obtain⟨⟨d1,d2,d3,d4⟩,O,N,M,L⟩:=R;cases h;rw[aA X,aA V,aA U,aA S];have:=Ha a.num b.num c.num d.num O N M L mem;unfold zS at this ⊢;rw[←mX d1,←mX d2,←mX d3,←mX d4] at this;exact this
   ·cases h
  ·cases h
 ·cases h
theorem G3(a b:Z3)(H:Ox 30 a)(I:Ox 30 b)(M:Mem):kO prog 95 [zA a,zA b] M (zA (qY a b)) M:=by
 have W:aT prog 95=some f95:=by kernel_rfl
 obtain⟨V,U,S⟩:=a;obtain⟨R,O,N⟩:=b;obtain⟨K,G,h3⟩:=H;obtain⟨F,D,C⟩:=I;simp only at K G h3 F D C;refine ak MF ?_ M;obtain⟨X,L⟩:∃X,aJ f95=[X]:=⟨_,rfl⟩
 obtain⟨J,YC⟩:=de L (l:=[0,1,0,4,0,16,0,64,255,0,512,0,2048,0,8192,0,32768,131071,0,262144,0,1048576,0,4194304,0,16777216,67108863,134217727,268435455]) (j:=28) (by kernel_rfl) (by decide);simp[aJ,bR,f95] at L;subst L;have Z:∀n:Int,ek (zS n)=some (n:Rat):=fun n=>ar _
 unfold zA qY;simp only;obtain⟨A1,B⟩:=xE (zS V);obtain⟨A2,A⟩:=xE (zS U);obtain⟨A3,u⟩:=xE (zS S);obtain⟨B1,o⟩:=xE (zS R);obtain⟨B2,m⟩:=xE (zS O);obtain⟨B3,Y⟩:=xE (zS N);have p1:ek A1=some (V:Rat):=by rw[B];exact Z _
 have p2:ek A2=some (U:Rat):=by rw[A];exact Z _
 have p3:ek A3=some (S:Rat):=by rw[u];exact Z _
 have p4:ek B1=some (R:Rat):=by rw[o];exact Z _
 have p5:ek B2=some (O:Rat):=by rw[m];exact Z _
 have p6:ek B3=some (N:Rat):=by rw[Y];exact Z _
 rw[←B,←A,←u,←o,←m,←Y];obtain⟨C1,f1⟩:=xE (zS (U*N-S*O));obtain⟨C2,f2⟩:=xE (zS (S*R-V*N));obtain⟨C3,f3⟩:=xE (zS (V*O-U*R));rw[←f1,←f2,←f3];simp[aa,W,f95,-aK,ao J,br,bk,bl,YC,ag,A4,p1,p2,p3,p4,p5,p6,K,G,h3,F,D,C,←f1,←f2,←f3,bJ,aD,Nat.testBit]
def zQ(v:Z3):V3:=((v.1:Rat),(v.2.1:Rat),(v.2.2:Rat))
def hV(v:Z3):V3:=(hQ v.1,hQ v.2.1,hQ v.2.2)
def dz(x:aed):Z3:=if gd (x.n 0)=0∧gd (x.n 1)=0∧gd (x.n 2)=0 then (0,0,1) else (gd (x.n 0),gd (x.n 1),gd (x.n 2))
def yy(x:aed):Z3:=qY (dz x) (gd (x.n 3),gd (x.n 4),gd (x.n 5))
theorem lV(x:aed):Ox 9 (dz x):=by
 unfold dz;split
 ·exact⟨by decide,by decide,by decide⟩
 ·exact⟨cS _,cS _,cS _⟩
theorem UI(x:aed):U6 (dz x)=false:=by
 unfold dz;split
 ·rfl
 ·rename_i h
  simp only[U6,Bool.and_eq_false_imp,Bool.and_eq_true,decide_eq_true_eq,decide_eq_false_iff_not];exact fun Z X=>h ⟨Z.1,Z.2,X⟩
theorem Wm{a b:Int}(H:a.natAbs≤9)(I:b.natAbs≤9):(a*b).natAbs≤81:=by rw[Int.natAbs_mul];exact Nat.mul_le_mul H I
theorem uk(x:aed):Ox 162 (yy x):=by obtain⟨Z,X,h3⟩:=lV x;have V:=cS (x.n 3);have U:=cS (x.n 4);have S:=cS (x.n 5);have R:=Wm X S;have O:=Wm h3 U;have N:=Wm h3 V;have M:=Wm Z S;have L:=Wm Z U;have K:=Wm X V;unfold yy qY Ox;simp only;omega
open Classical in
noncomputable def dS(f:FuncId)(args:List AV):Option AV:=
 match f,args with
 |38,[.int .i8 n]=>if -128≤n∧n≤127 then some (.int .i64 (gd n)) else none
 |41,[.int .i8 n]=>if -128≤n∧n≤127 then some (.int .i64 (ps9 n)) else none
 |30,[.int .i64 a,.int .i64 b,.int .i64 c]=>if a.natAbs≤10000∧b.natAbs≤10000∧c.natAbs≤10000 then some (zA (a,b,c)) else none
 |95,[.agg [.str s,.str t,.str u],.agg [.str s',.str t',.str u']]=>match ek s,ek t,ek u,ek s',ek t',ek u' with
  |some a,some b,some c,some d,some e,some f=>if (a.den=1∧b.den=1∧c.den=1∧d.den=1∧e.den=1∧f.den=1)∧Ox 30 (a.num,b.num,c.num)∧Ox 30 (d.num,e.num,f.num) then some (zA (qY (a.num,b.num,c.num) (d.num,e.num,f.num))) else none
  |_,_,_,_,_,_=>none
 |37,[.int .i64 n,.int .i64 d]=>if 0<d∧n.natAbs<10 ^ 8∧d.toNat<10 ^ 8 then some (.str (aj (mkRat n d.toNat))) else none
 |_,_=>none
theorem ui:qS prog (ag dS):=bM fun f X v h mem=>by
 unfold dS at h;split at h
 ·split at h
  next Z=>cases h;exact Hb _ Z mem
  ·cases h
 ·split at h
  next Z=>cases h;exact O5 _ Z mem
  ·cases h
 ·split at h
  next Z=>cases h;exact QK (_,_,_) Z mem
  ·cases h
 ·split at h
  ·rename_i a b c d e f V U Z S R O
   split at h
   ·rename_i N
    obtain⟨⟨d1,d2,d3,d4,d5,d6⟩,M,L⟩:=N;cases h;rw[aA V,aA U,aA Z,aA S,aA R,aA O];have:=G3 (a.num,b.num,c.num) (d.num,e.num,f.num) M L mem;unfold zA at this;simp only at this;have k:∀q:Rat,q.den=1→zS q.num=aj q:=fun q K=>by unfold zS;rw[←mX K]
    rw[k a d1,k b d2,k c d3,k d d4,k e d5,k f d6] at this;exact this
   ·cases h
  ·cases h
 ·split at h
  ·rename_i Z
   cases h;have:=Au _ _ (by omega) Z.2.1 Z.2.2 mem;rw[Int.toNat_of_nonneg (by omega)] at this;exact this
  ·cases h
 ·cases h
theorem EE(x:aed)(H:x.Ok)(M:Mem):kO prog 36 [.agg x.cells] M (zA (dz x)) M:=by
 have Y:aT prog 36=some f36:=by kernel_rfl
 refine cE ui (lv:=fun _=>[]) (K:=1) (by simp[AV.aej,AV.closed,x.closed]) rfl ?_ M;obtain⟨S,D'⟩:∃S,aJ f36=[S]:=⟨_,rfl⟩
 obtain⟨W,J⟩:=de D' (l:=[0,1,3,7,0,16,48,127,0,256,768,2047,4095,8191,16383]) (j:=14) (by kernel_rfl) (by decide);simp[aJ,bR,f36] at D';subst D';have R:=aed.aem H;have r0:=er x.closed;have o0:=gn x.closed;have I:=aed.aeq H (k:=0) (by decide);have i1:=aed.aeq H (k:=1) (by decide);have i2:=aed.aeq H (k:=2) (by decide);simp only[Nat.reduceAdd] at I i1 i2;have Z:=cg I;have X:=cg i1;have V:=cg i2;obtain⟨O,N⟩:=aed.aeR H (k:=0) (by decide);obtain⟨L,G⟩:=aed.aeR H (k:=1) (by decide);obtain⟨F,D⟩:=aed.aeR H (k:=2) (by decide);have s0:=cS (x.n 0);have s1:=cS (x.n 1);have s2:=cS (x.n 2);unfold dz;obtain⟨C,hC⟩:=xE x.cells;rw[←hC] at R r0 o0 I i1 i2 Z X V ⊢;obtain⟨p,hp⟩:=xE (x.n 0);obtain⟨q,hq⟩:=xE (x.n 1);obtain⟨r,hr⟩:=xE (x.n 2);rw[←hp] at I Z O N s0 ⊢;rw[←hq] at i1 X L G s1 ⊢;rw[←hr] at i2 V F D s2 ⊢;obtain⟨v,B⟩:=xE (gd q);obtain⟨w,A⟩:=xE (gd r);obtain⟨u,o⟩:=xE (gd p);rw[←o] at s0 ⊢;rw[←B] at s1 ⊢;rw[←A] at s2 ⊢;have g0:u.natAbs≤10000:=by omega
 have g1:v.natAbs≤10000:=by omega
 have g2:w.natAbs≤10000:=by omega
 have tk:C.take 34=C:=List.take_of_length_le (by omega);clear hC hp hq hr;by_cases U:u=0
 ·by_cases m:v=0
  ·by_cases k2:w=0
   ·rw[if_pos ⟨U,m,k2⟩]
    subst U m k2;simp[aa,Y,f36,-aK,ao W,br,bk,bl,J,ag,dS,R,Z,X,V,O,N,L,G,F,D,←o,←B,←A,Nat.testBit,zA]
   ·rw[if_neg fun h=>k2 h.2.2]
    subst U m;simp[aa,Y,f36,-aK,ao W,br,bk,bl,J,ag,dS,R,Z,X,V,O,N,L,G,F,D,←o,←B,←A,Nat.testBit,zA,k2,g2]
  ·rw[if_neg fun h=>m h.2.1]
   subst U;simp[aa,Y,f36,-aK,ao W,br,bk,bl,J,ag,dS,R,Z,X,V,O,N,L,G,F,D,←o,←B,←A,Nat.testBit,zA,m,g1,g2]
 ·rw[if_neg fun h=>U h.1]
  simp[aa,Y,f36,-aK,ao W,br,bk,bl,J,ag,dS,R,Z,X,V,O,N,L,G,F,D,←o,←B,←A,Nat.testBit,zA,U,g0,g1,g2]
open Classical in
noncomputable def gV(x:aed)(f:FuncId)(args:List AV):Option AV:=
 match f,args with
 |36,[.agg cs]=>if cs=x.cells then some (zA (dz x)) else none
 |f,args=>dS f args
theorem AZ{x:aed}(H:x.Ok):qS prog (ag (gV x)):=bM fun f Z v h mem=>by
 unfold gV at h;split at h
 ·split at h
  next X=>cases h;rw[X];exact EE x H mem
  ·cases h
 ·have:=ui.fn _ _ mem ⟨v,none,[]⟩ (by unfold ag;simp only;rw[h])
  simpa [aee.mem] using this
theorem Vl(n:Int):ek (zS n)=some (n:Rat):=ar _
theorem Ez(x:aed)(H:x.Ok)(M:Mem):kO prog 40 [.agg x.cells] M (zA (yy x)) M:=by
 have hG:aT prog 40=some f40:=by kernel_rfl
 refine cE (AZ H) (lv:=fun _=>[]) (K:=1) (by simp[AV.aej,AV.closed,x.closed]) rfl ?_ M;obtain⟨X,O⟩:∃X,aJ f40=[X]:=⟨_,rfl⟩
 obtain⟨UV,YC⟩:=de O (l:=[0,1,0,4,12,31,0,64,192,511,0,1024,3072,8191,16383,32767,65535]) (j:=16) (by kernel_rfl) (by decide);simp[aJ,bR,f40] at O;subst O;have A:=aed.aem H;have r0:=er x.closed;have o:=gn x.closed;have V:=aed.aeq H (k:=3) (by decide);have U:=aed.aeq H (k:=4) (by decide);have S:=aed.aeq H (k:=5) (by decide);simp only[Nat.reduceAdd] at V U S;have N:=cg V;have L:=cg U;have G:=cg S;obtain⟨m,Y⟩:=aed.aeR H (k:=3) (by decide);obtain⟨W,J⟩:=aed.aeR H (k:=4) (by decide);obtain⟨I,c2⟩:=aed.aeR H (k:=5) (by decide);have s0:=cS (x.n 3);have s1:=cS (x.n 4);have s2:=cS (x.n 5);have R:=lV x;have Z:yy x=qY (dz x) (gd (x.n 3),gd (x.n 4),gd (x.n 5)):=rfl;obtain⟨C,hC⟩:=xE x.cells;have ZO :x.cells=C:=hC.symm;rw[←hC] at A r0 o V U S N L G ⊢;obtain⟨p,hp⟩:=xE (x.n 3);obtain⟨q,hq⟩:=xE (x.n 4);obtain⟨r,hr⟩:=xE (x.n 5);rw[←hp] at V N m Y s0 Z;rw[←hq] at U L W J s1 Z;rw[←hr] at S G I c2 s2 Z;obtain⟨v,hv⟩:=xE (gd q);obtain⟨w,hw⟩:=xE (gd r);obtain⟨u,hu⟩:=xE (gd p);rw[←hu] at s0 Z;rw[←hv] at s1 Z;rw[←hw] at s2 Z;have g0:u.natAbs≤10000:=by omega
 have g1:v.natAbs≤10000:=by omega
 have g2:w.natAbs≤10000:=by omega
 have z2:Ox 30 (u,v,w):=⟨by show u.natAbs≤30;omega,by show v.natAbs≤30;omega,by show w.natAbs≤30;omega⟩;have tk:C.take 34=C:=List.take_of_length_le (by omega);obtain⟨⟨F,D,B⟩,hn⟩:∃n,n=dz x:=⟨_,rfl⟩
 rw[←hn] at R Z;have z1:Ox 30 (F,D,B):=⟨by have:=R.1;show F.natAbs≤30;simp only at this;omega,by have:=R.2.1;show D.natAbs≤30;simp only at this;omega,by have:=R.2.2;show B.natAbs≤30;simp only at this;omega⟩;rw[Z];clear Z;obtain⟨⟨cx,cy,cz⟩,hc⟩:∃n,n=qY (F,D,B) (u,v,w):=⟨_,rfl⟩
 rw[←hc];simp[aa,hG,f40,-aK,ao UV,br,bk,bl,YC,ag,gV,dS,ZO,A,o,N,L,G,tk,m,Y,W,J,I,c2,←hn,←hu,←hv,←hw,Nat.testBit,zA,g0,g1,g2,Vl,z1,z2,←hc]
theorem Wz(n:Int):(n:Rat)*hQ 1=hQ n:=by
 rw[lP,lP];have:((1:Int):Rat)=1:=rfl;rw[this]
 grind
theorem SB:ek [49,47,50]=some (hQ 1):=ar (hQ 1)
theorem LK(v:Z3)(H:Ox 162 v)(M:Mem):kO prog 39 [zA v,.str [49,47,50]] M (vA (hV v)) M:=by
 have V:aT prog 39=some f39:=by kernel_rfl
 refine ak im ?_ M;obtain⟨Z,X⟩:∃Z,aJ f39=[Z]:=⟨_,rfl⟩
 obtain⟨U,S⟩:=de X (l:=[0,1,0,7,0,16,0,127,0,256,0,2047,4095,8191]) (j:=13) (by kernel_rfl) (by decide);simp[aJ,bR,f39] at X;subst X;obtain⟨a,b,c⟩:=v;obtain⟨R,O,h3⟩:=H;simp only at R O h3;have N:=tn (n:=a) (by omega);have L:=tn (n:=b) (by omega);have K:=tn (n:=c) (by omega);have G:(aj (hQ 1)).length≤9:=Bs (by decide);simp[aa,V,f39,-aK,ao U,br,bk,bl,S,ag,fa,zA,vA,hV,Vl,SB,N,L,K,G,Wz,bJ,aD,Nat.testBit]
end Go.Proofs
