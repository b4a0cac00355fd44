/- See B54. -/
import Derived.Test.YtffdedmakncfmaaGreatDoorB15
set_option linter.all false
set_option maxRecDepth 100000
set_option maxHeartbeats 40000000
namespace Go.Eng
open Classical in
theorem TH{β:Type}[Inhabited β]{p:Env→Bool→Prop}{q:Env→Bool→β→Prop}(h:∀e d,p e d→∃x,q e d x):∃F:Env→Bool→β,∀e d,p e d→q e d (F e d):=
 ⟨fun e d=>if Z:p e d then Classical.choose (h e d Z) else default,fun e d Z=>by simp only[dif_pos Z];exact Classical.choose_spec (h e d Z)⟩
theorem sG{α:Type}{f:XS→Option (Exit×XS)}{lv wr:List Nat}{H:Env}{I:Nat}(S:α→XS)(m:α→Nat)(Inv:α→Prop)(y:Exit) (d' :Bool)(Q:Env→Mem→Prop)(J:y≠ .normal)
  (h:∀a,Inv a→(∃V U,f (S a)=some (.normal,U)∧uO lv wr H I U =S V ∧Inv V ∧m V <m a)∨(∃X Z,f (S a)=some (y,⟨X,Z,d'⟩)∧Q X Z)):
  ∀k a,Inv a→m a<k→∃X Z,gi lv wr H I f k (S a)=some (y,⟨X,Z,d'⟩)∧Q X Z
 |0,a,_,hk=>by omega
 |k+1,a,ha,hk=>by
  unfold gi;rcases h a ha with⟨V,U,R,O,h3,N⟩ | ⟨X,Z,R,h3⟩
  ·rw[R]
   simp only[O];exact sG S m Inv y d' Q J h k V h3 (by omega)
  ·rw[R]
   refine⟨X,Z,?_,h3⟩;cases y<;>first | rfl | exact absurd rfl J
theorem uJ{β:Type}[Inhabited β]{T:TypeId→Option TyI}{lv:Code→List Nat}{O:ae3}{K N m0:Nat}{tp:Bool}{b:Code}{L:List Nat}(I:lv b=L){mem:Mem}{e:Exit}(H:Env→Prop)(y:Env→Env→Mem→β→Prop)(h:∀Z d,H Z→∃V X,gi L (ad b) Z mem.length (bh T lv O K N m0 tp b) K ⟨ay L (ad b) Z Z,mem,d⟩=some (e,⟨V,X,d⟩)∧∃x,y Z V X x):
  ∃F:Env→Bool→Env×Mem×β,∀Z d,H Z→bh T lv O K N m0 tp (.loop b) ⟨Z,mem,d⟩=some (e,⟨(F Z d).1,(F Z d).2.1,d⟩)∧y Z (F Z d).1 (F Z d).2.1 (F Z d).2.2:=by
 refine TH (β:=Env×Mem×β) (p:=fun Z _=>H Z) (q:=fun Z d x=>bh T lv O K N m0 tp (.loop b) ⟨Z,mem,d⟩=some (e,⟨x.1,x.2.1,d⟩)∧y Z x.1 x.2.1 x.2.2) ?_;intro Z d U;obtain⟨V,X,S,x,R⟩:=h Z d U;exact⟨(V,X,x),by rw[bp,I];exact S,R⟩
end Go.Eng
namespace Go.Proofs
open Go.Eng
open Tryz
def gM(A B:List Nat)(a b:Nat):Nat→Mem
 |2 | 3=>[.cells true 1 (iN .u64 A),.cells true 1 (iN .u64 B),.cells true 1 (iN .u64 (dig 1000000000 b))]
 |6=>[.cells true 1 (iN .u64 A),.cells true 1 (iN .u64 B),.cells true 1 (iN .u64 (dig 1000000000 a)),.cells true 1 (iN .u64 (dig 1000000000 b))]
 |7=>[.cells true 1 (iN .u64 A),.cells true 1 (iN .u64 B),.cells true 1 (iN .u64 (dig 1000000000 a))]
 |_=>[.cells true 1 (iN .u64 A),.cells true 1 (iN .u64 B)]
def gX(a:Nat):Nat→Nat
 |0 | 2 | 4=>0
 |1 | 3 | 5=>1
 |_=>2
def gY(b:Nat):Nat→AV
 |0=>.slice 1 0 (dig 1000000000 b).length none
 |1=>.slice 0 0 (dig 1000000000 b).length none
 |2 | 3=>.slice 2 0 (dig 1000000000 b).length none
 |6=>.slice 3 0 (dig 1000000000 b).length none
 |_=>.qF
def gI(x y:Nat)(a b:Nat):Nat→Prop
 |0=>a=x∧b=y
 |1=>a=y∧b=x∧b<a
 |2=>a=x∧b<a
 |3=>a=y∧b<a
 |4=>a=x∧b=0
 |5=>a=y∧b=0
 |6=>b<a
 |7=>b=0
 |_=>False
theorem XT:List.idxOf? 2 [2,4]=some 0:=rfl
theorem XU:List.idxOf? 4 [2,4]=some 1:=rfl
theorem XX:List.idxOf? 3 [3,5]=some 0:=rfl
theorem XY:List.idxOf? 5 [3,5]=some 1:=rfl
theorem bL{α:Type}{p q:α→Prop}{r:Prop}(hr:r)(h:∃s,p s∧q s):∃s,p s∧q s∧r:=let ⟨s,a,b⟩:=h;⟨s,a,b,hr⟩
def jt(c:Code):List Nat:=if (ad c).contains 9 then [9,10] else [5,7]
variable{K:Nat}{b b0:Code}
theorem DF(x y:Nat)(hx:(dig 1000000000 x).length≤1000000)(hy:(dig 1000000000 y).length≤1000000)(hb:ah f109=[b0,b])(J:Env)(d:Bool)(s:Nat)(a c:Nat)(H:gI x y a c s)(I:(dig 1000000000 a).length≤1000000)(hc:(dig 1000000000 c).length≤1000000):
  (∃Y F D e',bh (ba prog) jt cj K 56 0 true b ⟨ay [9,10] (ad b) J ((9,.slice (gX a s) 0 (dig 1000000000 a).length none)::(10,gY c s)::J),gM (dig 1000000000 x) (dig 1000000000 y) a c s,d⟩=some (.normal,e')∧
    uO [9,10] (ad b) J 2 e' =⟨ay [9,10] (ad b) J ((9,.slice (gX F Y) 0 (dig 1000000000 F).length none)::(10,gY D Y)::J),gM (dig 1000000000 x) (dig 1000000000 y) F D Y,d⟩∧
    gI x y F D Y ∧F.gcd D =a.gcd c∧F ≤max a c∧D ≤max a c∧2*D +(if F <D then 1 else 0)<2*c+(if a<c then 1 else 0))∨
  (∃AC,bh (ba prog) jt cj K 56 0 true b ⟨ay [9,10] (ad b) J ((9,.slice (gX a s) 0 (dig 1000000000 a).length none)::(10,gY c s)::J),gM (dig 1000000000 x) (dig 1000000000 y) a c s,d⟩=some (.exit 2,⟨AC,gM (dig 1000000000 x) (dig 1000000000 y) a c s,d⟩)∧ab AC 9=.slice (gX a s) 0 (dig 1000000000 a).length none∧c=0):=by
 simp[ah,aE,f109] at hb;obtain⟨rfl,rfl⟩:=hb;have U:lok 1000000000 (dig 1000000000 a)=true:=bO (by omega) _;have S:lok 1000000000 (dig 1000000000 c)=true:=bO (by omega) _;have R:aU (dig 1000000000 a)=dig 1000000000 a:=bX (by omega) _;have Q:aU (dig 1000000000 c)=dig 1000000000 c:=bX (by omega) _;have O:au 1000000000 (dig 1000000000 a)=a:=bC (by omega) _;have N:au 1000000000 (dig 1000000000 c)=c:=bC (by omega) _;by_cases W:c=0
 ·right
  subst W;have m:dig 1000000000 0=[]:=dD _
  match s,H with
  |0,H=>simp[gM,gX,gY,m]
  |1,H=>simp[gM,gX,gY,m]
  |2,H=>simp[gM,gX,gY,m]
  |3,H=>simp[gM,gX,gY,m]
  |4,H=>simp[gM,gX,gY]
  |5,H=>simp[gM,gX,gY]
  |6,H=>simp[gM,gX,gY,m]
  |7,H=>simp[gM,gX,gY]
  |s+8,H=>exact absurd H (by simp[gI])
 ·left
  have X:0<c:=by omega
  have V:0<(dig 1000000000 c).length:=by
   rcases Nat.eq_zero_or_pos (dig 1000000000 c).length with h | h
   ·have:=(eH (B:=1000000000) (n:=c) (by omega)).1 (List.eq_nil_of_length_eq_zero h)
    omega
   ·exact h
  have acX :dig 1000000000 c≠[]:=List.length_pos_iff.1 V;have M:c.gcd (a%c)=a.gcd c:=by rw[Nat.gcd_comm a c,Nat.gcd_rec c a,Nat.gcd_comm]
  have Yv:c.gcd a=a.gcd c:=Nat.gcd_comm _ _;have C:a%c<c:=Nat.mod_lt _ X;have ZZ:a≤max a c:=Nat.le_max_left _ _;have L:c≤max a c:=Nat.le_max_right _ _;have G:2*(a%c)+(if c<a%c then 1 else 0)<2*c+(if a<c then 1 else 0):=by rw[if_neg (by omega)];split<;>omega
  by_cases Z:a<c
  ·have hs:s=0:=by
    match s,H with
    |0,_=>rfl
    |1,H=>exact absurd H.2.2 (by omega)
    |2,H=>exact absurd H.2 (by omega)
    |3,H=>exact absurd H.2 (by omega)
    |4,H=>exact absurd H.2 (by omega)
    |5,H=>exact absurd H.2 (by omega)
    |6,H=>exact absurd (show c<a from H) (by omega)
    |7,H=>exact absurd (show c=0 from H) (by omega)
    |s+8,H=>exact absurd H (by simp[gI])
   subst hs;obtain⟨rfl,rfl⟩:=H;refine⟨1,c,a,?_⟩;refine bL (show gI a c c a 1∧_∧_∧_∧_ from⟨⟨rfl,rfl,Z⟩,Yv,L,ZZ,by rw[if_neg (by omega),if_pos Z];omega⟩) ?_;simp[gM,gX,gY,cj,ae3.or,af,aO,aQ,ak,cg,bM,bF,cb,hs0,hs1,U,S,R,Q,O,N,I,X,Z,V]
  ·by_cases u:2≤(dig 1000000000 c).length∧a%c=0
   ·obtain⟨j,o⟩:=u
    rw[o] at M C G
    match s,H with
    |0,H=>
     obtain⟨rfl,rfl⟩:=H;refine⟨5,c,0,?_⟩;refine bL (show gI a c c 0 5∧_∧_∧_∧_ from⟨⟨rfl,rfl⟩,M,L,by omega,G⟩) ?_;simp[gM,gX,gY,cj,ae3.or,af,aO,aQ,ak,cg,bM,bF,cb,hs0,hs1,U,S,R,Q,O,N,I,X,Z,V,j,o]
    |1,H=>
     obtain⟨rfl,rfl,h⟩:=H;refine⟨4,c,0,?_⟩;refine bL (show gI c a c 0 4∧_∧_∧_∧_ from⟨⟨rfl,rfl⟩,M,L,by omega,G⟩) ?_;simp[gM,gX,gY,cj,ae3.or,af,aO,aQ,ak,cg,bM,bF,cb,hs0,hs1,U,S,R,Q,O,N,I,X,Z,V,j,o]
    |2,H=>
     obtain⟨rfl,h⟩:=H;refine⟨7,c,0,?_⟩;refine bL (show gI _ _ c 0 7∧_∧_∧_∧_ from⟨rfl,M,L,by omega,G⟩) ?_;simp[gM,gX,gY,cj,ae3.or,af,aO,aQ,ak,cg,bM,bF,cb,hs0,hs2,U,S,R,Q,O,N,I,X,Z,V,j,o]
    |3,H=>
     obtain⟨rfl,h⟩:=H;refine⟨7,c,0,?_⟩;refine bL (show gI _ _ c 0 7∧_∧_∧_∧_ from⟨rfl,M,L,by omega,G⟩) ?_;simp[gM,gX,gY,cj,ae3.or,af,aO,aQ,ak,cg,bM,bF,cb,hs1,hs2,U,S,R,Q,O,N,I,X,Z,V,j,o]
    |6,H=>
     refine⟨7,c,0,?_⟩;refine bL (show gI _ _ c 0 7∧_∧_∧_∧_ from⟨rfl,M,L,by omega,G⟩) ?_;simp[gM,gX,gY,cj,ae3.or,af,aO,aQ,ak,cg,bM,bF,cb,hs2,hs3,U,S,R,Q,O,N,I,X,Z,V,j,o]
    |4,H=>exact absurd H.2 (by omega)
    |5,H=>exact absurd H.2 (by omega)
    |7,H=>exact absurd (show c=0 from H) (by omega)
    |s+8,H=>exact absurd H (by simp[gI])
   ·match s,H with
    |0,H=>
     obtain⟨rfl,rfl⟩:=H;refine⟨3,c,a%c,?_⟩;refine bL (show gI a c c (a%c) 3∧_∧_∧_∧_ from⟨⟨rfl,C⟩,M,L,by omega,G⟩) ?_;simp[gM,gX,gY,cj,ae3.or,af,aO,aQ,ak,cg,bM,bF,cb,hs0,hs1,U,S,R,Q,O,N,I,X,Z,V,u]
    |1,H=>
     obtain⟨rfl,rfl,h⟩:=H;refine⟨2,c,a%c,?_⟩;refine bL (show gI c a c (a%c) 2∧_∧_∧_∧_ from⟨⟨rfl,C⟩,M,L,by omega,G⟩) ?_;simp[gM,gX,gY,cj,ae3.or,af,aO,aQ,ak,cg,bM,bF,cb,hs0,hs1,U,S,R,Q,O,N,I,X,Z,V,u]
    |2,H=>
     obtain⟨rfl,h⟩:=H;refine⟨6,c,a%c,?_⟩;refine bL (show gI _ _ c (a%c) 6∧_∧_∧_∧_ from⟨C,M,L,by omega,G⟩) ?_;simp[gM,gX,gY,cj,ae3.or,af,aO,aQ,ak,cg,bM,bF,cb,hs0,hs2,U,S,R,Q,O,N,I,X,XT,XU,Z,V,u]
    |3,H=>
     obtain⟨rfl,h⟩:=H;refine⟨6,c,a%c,?_⟩;refine bL (show gI _ _ c (a%c) 6∧_∧_∧_∧_ from⟨C,M,L,by omega,G⟩) ?_;simp[gM,gX,gY,cj,ae3.or,af,aO,aQ,ak,cg,bM,bF,cb,hs1,hs2,U,S,R,Q,O,N,I,X,XT,XU,Z,V,u]
    |6,H=>
     refine⟨6,c,a%c,?_⟩;refine bL (show gI _ _ c (a%c) 6∧_∧_∧_∧_ from⟨C,M,L,by omega,G⟩) ?_;simp[gM,gX,gY,cj,ae3.or,af,aO,aQ,ak,cg,bM,bF,cb,hs2,hs3,U,S,R,Q,O,N,I,X,XX,XY,Z,V,u]
    |4,H=>exact absurd H.2 (by omega)
    |5,H=>exact absurd H.2 (by omega)
    |7,H=>exact absurd (show c=0 from H) (by omega)
    |s+8,H=>exact absurd H (by simp[gI])
theorem kX{B a b:Nat}(y:2≤B)(h:a≤b):(dig B a).length≤(dig B b).length:=by
 rcases Nat.lt_or_ge (dig B b).length (dig B a).length with h1 | h1
 ·have:=dz y h1;omega
 ·exact h1
theorem FZ(x y:Nat)(I:(ai x).length≤1000000)(J:(ai y).length≤1000000)(W:2*y+1<K)(H:ah f109=[b0,b]):
  ∃F:Env→Bool→Env×Mem×Nat,∀Z d,(ab Z 9=.slice 0 0 (dig 1000000000 x).length none∧ab Z 10=.slice 1 0 (dig 1000000000 y).length none)→
   bh (ba prog) jt cj K 56 0 true (.loop b) ⟨Z,[.cells true 1 (iN .u64 (dig 1000000000 x)),.cells true 1 (iN .u64 (dig 1000000000 y))],d⟩=some (.exit 2,⟨(F Z d).1,(F Z d).2.1,d⟩)∧
   (ab (F Z d).1 9=.slice (F Z d).2.2 0 (dig 1000000000 (x.gcd y)).length none∧aW .u64 (F Z d).2.1 (.slice (F Z d).2.2 0 (dig 1000000000 (x.gcd y)).length none)=some (dig 1000000000 (x.gcd y))):=by
 have N:jt b=[9,10]:=by simp[ah,aE,f109] at H;obtain⟨rfl,rfl⟩:=H;decide
 refine uJ (β:=Nat) N (fun Z=>ab Z 9=.slice 0 0 (dig 1000000000 x).length none∧ab Z 10=.slice 1 0 (dig 1000000000 y).length none)
  (fun Z V X k=>ab V 9=.slice k 0 (dig 1000000000 (x.gcd y)).length none∧aW .u64 X (.slice k 0 (dig 1000000000 (x.gcd y)).length none)=some (dig 1000000000 (x.gcd y))) ?_
 rintro Z d ⟨h9,YT⟩;have M:ay [9,10] (ad b) Z ((9,.slice (gX x 0) 0 (dig 1000000000 x).length none)::(10,gY y 0)::Z)=ay [9,10] (ad b) Z Z:=by simp[ay,h9,YT,gX,gY]
 rw[←M];have U:(dig 1000000000 x).length≤1000000:=by have:=cP x;omega
 have S:(dig 1000000000 y).length≤1000000:=by have:=cP y;omega
 have O:∀a,a≤max x y→(dig 1000000000 a).length≤1000000:=by
  intro a R;by_cases m:x≤y
  ·have:=kX (B:=1000000000) (a:=a) (b:=y) (by omega) (by omega);omega
  ·have:=kX (B:=1000000000) (a:=a) (b:=x) (by omega) (by omega);omega
 refine sG (α:=Nat×Nat×Nat) (fun s=>⟨ay [9,10] (ad b) Z ((9,.slice (gX s.2.1 s.1) 0 (dig 1000000000 s.2.1).length none)::(10,gY s.2.2 s.1)::Z),gM (dig 1000000000 x) (dig 1000000000 y) s.2.1 s.2.2 s.1,d⟩)
  (fun s=>2*s.2.2+(if s.2.1<s.2.2 then 1 else 0)) (fun s=>gI x y s.2.1 s.2.2 s.1∧s.2.1.gcd s.2.2=x.gcd y∧s.2.1≤max x y∧s.2.2≤max x y) (.exit 2) d _ (by simp) ?_ K (0,x,y) ⟨⟨rfl,rfl⟩,rfl,Nat.le_max_left _ _,Nat.le_max_right _ _⟩ (by simp only;split<;>omega)
 rintro ⟨s,a,c⟩ ⟨hI,hg,R,hc⟩;simp only at hI hg R hc ⊢;rcases DF (K:=K) x y U S H Z d s a c hI (O a R) (O c hc) with⟨L,G,D,C,r1,r2,Q,u,j,Y,o⟩ | ⟨V,r1,r2,Q⟩
 ·left
  exact⟨(L,G,D),C,r1,r2,⟨Q,by rw[u,hg],by simp only;omega,by simp only;omega⟩,o⟩
 ·right
  refine⟨V,_,r1,gX a s,?_⟩;subst Q;rw[Nat.gcd_zero_right] at hg;rw[←hg];refine⟨r2,?_⟩
  match s,hI with
  |0,hI=>obtain⟨rfl,_⟩:=hI;exact hs0 true _
  |1,hI=>obtain⟨rfl,_⟩:=hI;exact hs1 true _ _
  |2,hI=>obtain⟨rfl,_⟩:=hI;exact hs0 true _
  |3,hI=>obtain⟨rfl,_⟩:=hI;exact hs1 true _ _
  |4,hI=>obtain⟨rfl,_⟩:=hI;exact hs0 true _
  |5,hI=>obtain⟨rfl,_⟩:=hI;exact hs1 true _ _
  |6,hI=>exact hs2 true _ _ _
  |7,hI=>exact hs2 true _ _ _
  |s+8,hI=>exact absurd hI (by simp[gI])
theorem DE{O:ae3}(n m:Int)(I:m.natAbs<K)(H:ah f109=[b0,b]):
  ∃F:Env→Bool→Env,∀Z d,(ab Z 5=.int .i64 n∧ab Z 7=.int .i64 m)→
   bh (ba prog) jt O K 56 0 true (.loop b0) ⟨Z,[],d⟩=some (.exit 0,⟨F Z d,[],d⟩)∧(∃g:Int,ab (F Z d) 5=.int .i64 g∧g.natAbs=n.natAbs.gcd m.natAbs):=by
 have V:jt b0=[5,7]:=by simp[ah,aE,f109] at H;obtain⟨rfl,rfl⟩:=H;decide
 refine bj V (fun Z=>ab Z 5=.int .i64 n∧ab Z 7=.int .i64 m) (fun _ U =>∃g:Int,ab U 5=.int .i64 g∧g.natAbs=n.natAbs.gcd m.natAbs) ?_;rintro Z d ⟨h5,h7⟩;have S:ay [5,7] (ad b0) Z ((5,.int .i64 n)::(7,.int .i64 m)::Z)=ay [5,7] (ad b0) Z Z:=by simp[ay,h5,h7]
 rw[←S];refine bx (α:=Int×Int) (fun s=>⟨ay [5,7] (ad b0) Z ((5,.int .i64 s.1)::(7,.int .i64 s.2)::Z),[],d⟩) (fun s=>s.2.natAbs) (fun s=>s.1.natAbs.gcd s.2.natAbs=n.natAbs.gcd m.natAbs) (.exit 0) _ d _ (by simp) ?_ K (n,m) rfl I;rintro ⟨x,y⟩ hg;simp only at hg ⊢;simp[ah,aE,f109] at H;obtain⟨rfl,rfl⟩:=H;by_cases X:y=0
 ·right
  subst X;simp only[Int.natAbs_zero,Nat.gcd_zero_right] at hg;simp[hg]
 ·left
  have R:(x.tmod y).natAbs<y.natAbs:=by rw[Int.natAbs_tmod];exact Nat.mod_lt _ (by omega)
  refine⟨(y,x.tmod y),?_⟩;refine bt (show y.natAbs.gcd (x.tmod y).natAbs=n.natAbs.gcd m.natAbs∧_ from⟨by rw[Int.natAbs_tmod,←hg,Nat.gcd_comm x.natAbs,Nat.gcd_rec y.natAbs x.natAbs,Nat.gcd_comm],R⟩) ?_;simp[X]
theorem PB(a b:Int)(ha:(ai a.natAbs).length≤100000)(hb:(ai b.natAbs).length≤100000)(mem:Mem):
  kO prog 109 [.str (bB a),.str (bB b)] mem (.str (ai (a.natAbs.gcd b.natAbs))) mem:=by
 have Q:aT prog 109=some f109:=by kernel_rfl
 refine cH oM (lv:=jt) (K:=2*b.natAbs+2) rfl rfl ?_ mem;obtain⟨b0,b1,Z⟩:∃b0 b1,ah f109=[b0,b1]:=⟨_,_,rfl⟩
 have la:=cQ a;have lb:=cQ b;have N:(bB a).length≤1000000000:=by omega
 have Y6:(bB b).length≤1000000000:=by omega
 by_cases M:(bB a).length≤18∧(bB b).length≤18
 ·have R:((bB a).length:Int)≤18:=by omega
  have L:((bB b).length:Int)≤18:=by omega
  have s1:=jA M.1;have s2:=jA M.2;obtain⟨F,X⟩:=DE (O:=cj) (K:=2*b.natAbs+2) a b (by omega) Z;obtain⟨G,S⟩:=TH (β:=Int) (p:=fun V _=>ab V 5=.int .i64 a∧ab V 7=.int .i64 b) (q:=fun V d g=>ab (F V d) 5=.int .i64 g∧g.natAbs=a.natAbs.gcd b.natAbs) (fun V d h=>(X V d h).2);have C:a.natAbs.gcd b.natAbs<10 ^ 18:=by
   by_cases u:a.natAbs=0
   ·rw[u,Nat.gcd_zero_left];exact s2
   ·exact Nat.lt_of_le_of_lt (Nat.gcd_le_left _ (by omega)) s1
  obtain⟨g,U⟩:=xE (a.natAbs.gcd b.natAbs);rw[←U] at C S ⊢;have w1:∀z:Int,z.natAbs=g→IntKind.i64.wrap (-z)= -z:=fun z hz=>ae
  have w2:∀z:Int,z.natAbs=g→(if z< -z then -z else z)=(g:Int):=fun z hz=>by split<;>omega
  have hf:dF (g:Int)=true:=by unfold dF;simp;omega
  have o:bB (g:Int)=ai g:=rfl;simp[ah,aE,f109] at Z;obtain⟨rfl,rfl⟩:=Z;simp[aa,Q,f109,cj,ae3.or,af,aO,aA,N,Y6,R,L,X,S,w1,w2,hf,o]
 ·have da:=cP a.natAbs
  have db:=cP b.natAbs;have m:(ai a.natAbs).length≤1000000:=by omega
  have j:(ai b.natAbs).length≤1000000:=by omega
  obtain⟨F,X⟩:=FZ (K:=2*b.natAbs+2) a.natAbs b.natAbs m j (by omega) Z;obtain⟨g,U⟩:=xE (a.natAbs.gcd b.natAbs);have Y:lok 1000000000 (dig 1000000000 g)=true:=bO (by omega) _;have W:aU (dig 1000000000 g)=dig 1000000000 g:=bX (by omega) _;have J:au 1000000000 (dig 1000000000 g)=g:=bC (by omega) _;have I:(dig 1000000000 g).length≤1000000:=by
   have h1:=cP g;by_cases u:a.natAbs=0
   ·rw[u,Nat.gcd_zero_left] at U
    rw[U] at h1 ⊢;omega
   ·have h2:=bw (show g≤a.natAbs by rw[U];exact Nat.gcd_le_left _ (by omega))
    omega
  rw[←U] at X ⊢;obtain⟨A,H⟩:=xE (dig 1000000000 a.natAbs);obtain⟨B,y⟩:=xE (dig 1000000000 b.natAbs);obtain⟨D,hD⟩:=xE (dig 1000000000 g);rw[←H,←y,←hD] at X;rw[←hD] at Y W J I;simp[ah,aE,f109] at Z;obtain⟨rfl,rfl⟩:=Z;by_cases R:((bB a).length:Int)≤18
  ·have L:¬((bB b).length:Int)≤18:=fun e=>M (by omega)
   simp[aa,Q,f109,cj,ae3.or,af,aO,aQ,ak,aA,N,Y6,R,L,cg,m,j,←H,←y,X,bW,aH,Y,W,J,I,mh]
  ·simp[aa,Q,f109,cj,ae3.or,af,aO,aQ,ak,aA,N,R,cg,m,j,←H,←y,X,bW,aH,Y,W,J,I,mh]
end Go.Proofs
