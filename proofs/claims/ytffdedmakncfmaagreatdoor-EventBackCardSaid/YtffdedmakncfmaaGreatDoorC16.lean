/- See C54. -/
import Derived.Test.YtffdedmakncfmaaGreatDoorC15
set_option linter.all false
set_option maxRecDepth 100000
set_option maxHeartbeats 40000000
namespace Go.Eng
open Classical in
theorem Va{β:Type}[Inhabited β]{p:Env→Bool→Prop}{q:Env→Bool→β→Prop}(h:∀e d,p e d→∃x,q e d x):∃F:Env→Bool→β,∀e d,p e d→q e d (F e d):=
 ⟨fun e d=>if Z:p e d then Classical.choose (h e d Z) else default,fun e d Z=>by simp only[dif_pos Z];exact Classical.choose_spec (h e d Z)⟩
theorem oP{α:Type}{f:XS→Option (Exit×XS)}{lv wr:List Nat}{H:Env}{I:Nat}(S:α→XS)(m:α→Nat)(Inv:α→Prop)(y:Exit) (d' :Bool)(Q:Env→Mem→Prop)(J:y≠ .normal)
  (h:∀a,Inv a→(∃V U,f (S a)=some (.normal,U)∧sS lv wr H I U =S V ∧Inv V ∧m V <m a)∨(∃X Z,f (S a)=some (y,⟨X,Z,d'⟩)∧Q X Z)):
  ∀k a,Inv a→m a<k→∃X Z,ga lv wr H I f k (S a)=some (y,⟨X,Z,d'⟩)∧Q X Z
 |0,a,_,hk=>by omega
 |k+1,a,ha,hk=>by
  unfold ga;rcases h a ha with⟨V,U,R,O,h3,N⟩ | ⟨X,Z,R,h3⟩
  ·rw[R]
   simp only[O];exact oP S m Inv y d' Q J h k V h3 (by omega)
  ·rw[R]
   refine⟨X,Z,?_,h3⟩;cases y<;>first | rfl | exact absurd rfl J
theorem qu{β:Type}[Inhabited β]{T:TypeId→Option TyI}{lv:Code→List Nat}{O:afF}{K N m0:Nat}{tp:Bool}{b:Code}{L:List Nat}(I:lv b=L){mem:Mem}{e:Exit}(H:Env→Prop)(y:Env→Env→Mem→β→Prop)(h:∀Z d,H Z→∃V X,ga L (ae b) Z mem.length (aW T lv O K N m0 tp b) K ⟨aA L (ae b) Z Z,mem,d⟩=some (e,⟨V,X,d⟩)∧∃x,y Z V X x):
  ∃F:Env→Bool→Env×Mem×β,∀Z d,H Z→aW T lv O K N m0 tp (.loop b) ⟨Z,mem,d⟩=some (e,⟨(F Z d).1,(F Z d).2.1,d⟩)∧y Z (F Z d).1 (F Z d).2.1 (F Z d).2.2:=by
 refine Va (β:=Env×Mem×β) (p:=fun Z _=>H Z) (q:=fun Z d x=>aW T lv O K N m0 tp (.loop b) ⟨Z,mem,d⟩=some (e,⟨x.1,x.2.1,d⟩)∧y Z x.1 x.2.1 x.2.2) ?_;intro Z d U;obtain⟨V,X,S,x,R⟩:=h Z d U;exact⟨(V,X,x),by rw[aT,I];exact S,R⟩
end Go.Eng
namespace Go.Proofs
open Go.Eng
open Tryz
def gM(A B:List Nat)(a b:Nat):Nat→Mem
 |2 | 3=>[.cells true 1 (iN .u64 A),.cells true 1 (iN .u64 B),.cells true 1 (iN .u64 (dig 1000000000 b))]
 |6=>[.cells true 1 (iN .u64 A),.cells true 1 (iN .u64 B),.cells true 1 (iN .u64 (dig 1000000000 a)),.cells true 1 (iN .u64 (dig 1000000000 b))]
 |7=>[.cells true 1 (iN .u64 A),.cells true 1 (iN .u64 B),.cells true 1 (iN .u64 (dig 1000000000 a))]
 |_=>[.cells true 1 (iN .u64 A),.cells true 1 (iN .u64 B)]
def gX(a:Nat):Nat→Nat
 |0 | 2 | 4=>0
 |1 | 3 | 5=>1
 |_=>2
def gY(b:Nat):Nat→AV
 |0=>.slice 1 0 (dig 1000000000 b).length none
 |1=>.slice 0 0 (dig 1000000000 b).length none
 |2 | 3=>.slice 2 0 (dig 1000000000 b).length none
 |6=>.slice 3 0 (dig 1000000000 b).length none
 |_=>.qF
def gI(x y:Nat)(a b:Nat):Nat→Prop
 |0=>a=x∧b=y
 |1=>a=y∧b=x∧b<a
 |2=>a=x∧b<a
 |3=>a=y∧b<a
 |4=>a=x∧b=0
 |5=>a=y∧b=0
 |6=>b<a
 |7=>b=0
 |_=>False
theorem ZU:List.idxOf? 2 [2,4]=some 0:=rfl
theorem ZV:List.idxOf? 4 [2,4]=some 1:=rfl
theorem ZZ:List.idxOf? 3 [3,5]=some 0:=rfl
theorem Z0:List.idxOf? 5 [3,5]=some 1:=rfl
theorem bP{α:Type}{p q:α→Prop}{r:Prop}(hr:r)(h:∃s,p s∧q s):∃s,p s∧q s∧r:=let ⟨s,a,b⟩:=h;⟨s,a,b,hr⟩
def jV(c:Code):List Nat:=if (ae c).contains 9 then [9,10] else [5,7]
variable{K:Nat}{b b0:Code}
theorem Eu(x y:Nat)(hx:(dig 1000000000 x).length≤1000000)(hy:(dig 1000000000 y).length≤1000000)(hb:ah f109=[b0,b])(J:Env)(d:Bool)(s:Nat)(a c:Nat)(H:gI x y a c s)(I:(dig 1000000000 a).length≤1000000)(hc:(dig 1000000000 c).length≤1000000):
  (∃Y C u e',aW (bh prog) jV cm K 56 0 true b ⟨aA [9,10] (ae b) J ((9,.slice (gX a s) 0 (dig 1000000000 a).length none)::(10,gY c s)::J),gM (dig 1000000000 x) (dig 1000000000 y) a c s,d⟩=some (.normal,e')∧
    sS [9,10] (ae b) J 2 e' =⟨aA [9,10] (ae b) J ((9,.slice (gX C Y) 0 (dig 1000000000 C).length none)::(10,gY u Y)::J),gM (dig 1000000000 x) (dig 1000000000 y) C u Y,d⟩∧
    gI x y C u Y ∧C.gcd u =a.gcd c∧C ≤max a c∧u ≤max a c∧2*u +(if C <u then 1 else 0)<2*c+(if a<c then 1 else 0))∨
  (∃AC,aW (bh prog) jV cm K 56 0 true b ⟨aA [9,10] (ae b) J ((9,.slice (gX a s) 0 (dig 1000000000 a).length none)::(10,gY c s)::J),gM (dig 1000000000 x) (dig 1000000000 y) a c s,d⟩=some (.exit 2,⟨AC,gM (dig 1000000000 x) (dig 1000000000 y) a c s,d⟩)∧ad AC 9=.slice (gX a s) 0 (dig 1000000000 a).length none∧c=0):=by
 simp[ah,aE,f109] at hb;obtain⟨rfl,rfl⟩:=hb;have Q:lok 1000000000 (dig 1000000000 a)=true:=bT (by omega) _;have O:lok 1000000000 (dig 1000000000 c)=true:=bT (by omega) _;have N:aU (dig 1000000000 a)=dig 1000000000 a:=bY (by omega) _;have M:aU (dig 1000000000 c)=dig 1000000000 c:=bY (by omega) _;have L:au 1000000000 (dig 1000000000 a)=a:=bC (by omega) _;have G:au 1000000000 (dig 1000000000 c)=c:=bC (by omega) _;by_cases W:c=0
 ·right
  subst W;have j:dig 1000000000 0=[]:=dK _
  match s,H with
  |0,H=>simp[gM,gX,gY,j]
  |1,H=>simp[gM,gX,gY,j]
  |2,H=>simp[gM,gX,gY,j]
  |3,H=>simp[gM,gX,gY,j]
  |4,H=>simp[gM,gX,gY]
  |5,H=>simp[gM,gX,gY]
  |6,H=>simp[gM,gX,gY,j]
  |7,H=>simp[gM,gX,gY]
  |s+8,H=>exact absurd H (by simp[gI])
 ·left
  have X:0<c:=by omega
  have R:0<(dig 1000000000 c).length:=by
   rcases Nat.eq_zero_or_pos (dig 1000000000 c).length with h | h
   ·have:=(eU (B:=1000000000) (n:=c) (by omega)).1 (List.eq_nil_of_length_eq_zero h)
    omega
   ·exact h
  have adI :dig 1000000000 c≠[]:=List.length_pos_iff.1 R;have F:c.gcd (a%c)=a.gcd c:=by rw[Nat.gcd_comm a c,Nat.gcd_rec c a,Nat.gcd_comm]
  have hg2:c.gcd a=a.gcd c:=Nat.gcd_comm _ _;have o:a%c<c:=Nat.mod_lt _ X;have acd:a≤max a c:=Nat.le_max_left _ _;have V:c≤max a c:=Nat.le_max_right _ _;have U:2*(a%c)+(if c<a%c then 1 else 0)<2*c+(if a<c then 1 else 0):=by rw[if_neg (by omega)];split<;>omega
  by_cases Z:a<c
  ·have hs:s=0:=by
    match s,H with
    |0,_=>rfl
    |1,H=>exact absurd H.2.2 (by omega)
    |2,H=>exact absurd H.2 (by omega)
    |3,H=>exact absurd H.2 (by omega)
    |4,H=>exact absurd H.2 (by omega)
    |5,H=>exact absurd H.2 (by omega)
    |6,H=>exact absurd (show c<a from H) (by omega)
    |7,H=>exact absurd (show c=0 from H) (by omega)
    |s+8,H=>exact absurd H (by simp[gI])
   subst hs;obtain⟨rfl,rfl⟩:=H;refine⟨1,c,a,?_⟩;refine bP (show gI a c c a 1∧_∧_∧_∧_ from⟨⟨rfl,rfl,Z⟩,hg2,V,acd,by rw[if_neg (by omega),if_pos Z];omega⟩) ?_;simp[gM,gX,gY,cm,afF.or,ag,aM,aN,aq,cj,bR,bI,cb,hs0,hs1,Q,O,N,M,L,G,I,X,Z,R]
  ·by_cases m:2≤(dig 1000000000 c).length∧a%c=0
   ·obtain⟨D,S⟩:=m
    rw[S] at F o U
    match s,H with
    |0,H=>
     obtain⟨rfl,rfl⟩:=H;refine⟨5,c,0,?_⟩;refine bP (show gI a c c 0 5∧_∧_∧_∧_ from⟨⟨rfl,rfl⟩,F,V,by omega,U⟩) ?_;simp[gM,gX,gY,cm,afF.or,ag,aM,aN,aq,cj,bR,bI,cb,hs0,hs1,Q,O,N,M,L,G,I,X,Z,R,D,S]
    |1,H=>
     obtain⟨rfl,rfl,h⟩:=H;refine⟨4,c,0,?_⟩;refine bP (show gI c a c 0 4∧_∧_∧_∧_ from⟨⟨rfl,rfl⟩,F,V,by omega,U⟩) ?_;simp[gM,gX,gY,cm,afF.or,ag,aM,aN,aq,cj,bR,bI,cb,hs0,hs1,Q,O,N,M,L,G,I,X,Z,R,D,S]
    |2,H=>
     obtain⟨rfl,h⟩:=H;refine⟨7,c,0,?_⟩;refine bP (show gI _ _ c 0 7∧_∧_∧_∧_ from⟨rfl,F,V,by omega,U⟩) ?_;simp[gM,gX,gY,cm,afF.or,ag,aM,aN,aq,cj,bR,bI,cb,hs0,hs2,Q,O,N,M,L,G,I,X,Z,R,D,S]
    |3,H=>
     obtain⟨rfl,h⟩:=H;refine⟨7,c,0,?_⟩;refine bP (show gI _ _ c 0 7∧_∧_∧_∧_ from⟨rfl,F,V,by omega,U⟩) ?_;simp[gM,gX,gY,cm,afF.or,ag,aM,aN,aq,cj,bR,bI,cb,hs1,hs2,Q,O,N,M,L,G,I,X,Z,R,D,S]
    |6,H=>
     refine⟨7,c,0,?_⟩;refine bP (show gI _ _ c 0 7∧_∧_∧_∧_ from⟨rfl,F,V,by omega,U⟩) ?_;simp[gM,gX,gY,cm,afF.or,ag,aM,aN,aq,cj,bR,bI,cb,hs2,hs3,Q,O,N,M,L,G,I,X,Z,R,D,S]
    |4,H=>exact absurd H.2 (by omega)
    |5,H=>exact absurd H.2 (by omega)
    |7,H=>exact absurd (show c=0 from H) (by omega)
    |s+8,H=>exact absurd H (by simp[gI])
   ·match s,H with
    |0,H=>
     obtain⟨rfl,rfl⟩:=H;refine⟨3,c,a%c,?_⟩;refine bP (show gI a c c (a%c) 3∧_∧_∧_∧_ from⟨⟨rfl,o⟩,F,V,by omega,U⟩) ?_;simp[gM,gX,gY,cm,afF.or,ag,aM,aN,aq,cj,bR,bI,cb,hs0,hs1,Q,O,N,M,L,G,I,X,Z,R,m]
    |1,H=>
     obtain⟨rfl,rfl,h⟩:=H;refine⟨2,c,a%c,?_⟩;refine bP (show gI c a c (a%c) 2∧_∧_∧_∧_ from⟨⟨rfl,o⟩,F,V,by omega,U⟩) ?_;simp[gM,gX,gY,cm,afF.or,ag,aM,aN,aq,cj,bR,bI,cb,hs0,hs1,Q,O,N,M,L,G,I,X,Z,R,m]
    |2,H=>
     obtain⟨rfl,h⟩:=H;refine⟨6,c,a%c,?_⟩;refine bP (show gI _ _ c (a%c) 6∧_∧_∧_∧_ from⟨o,F,V,by omega,U⟩) ?_;simp[gM,gX,gY,cm,afF.or,ag,aM,aN,aq,cj,bR,bI,cb,hs0,hs2,Q,O,N,M,L,G,I,X,ZU,ZV,Z,R,m]
    |3,H=>
     obtain⟨rfl,h⟩:=H;refine⟨6,c,a%c,?_⟩;refine bP (show gI _ _ c (a%c) 6∧_∧_∧_∧_ from⟨o,F,V,by omega,U⟩) ?_;simp[gM,gX,gY,cm,afF.or,ag,aM,aN,aq,cj,bR,bI,cb,hs1,hs2,Q,O,N,M,L,G,I,X,ZU,ZV,Z,R,m]
    |6,H=>
     refine⟨6,c,a%c,?_⟩;refine bP (show gI _ _ c (a%c) 6∧_∧_∧_∧_ from⟨o,F,V,by omega,U⟩) ?_;simp[gM,gX,gY,cm,afF.or,ag,aM,aN,aq,cj,bR,bI,cb,hs2,hs3,Q,O,N,M,L,G,I,X,ZZ,Z0,Z,R,m]
    |4,H=>exact absurd H.2 (by omega)
    |5,H=>exact absurd H.2 (by omega)
    |7,H=>exact absurd (show c=0 from H) (by omega)
    |s+8,H=>exact absurd H (by simp[gI])
theorem lW{B a b:Nat}(y:2≤B)(h:a≤b):(dig B a).length≤(dig B b).length:=by
 rcases Nat.lt_or_ge (dig B b).length (dig B a).length with h1 | h1
 ·have:=dI y h1;omega
 ·exact h1
theorem GQ(x y:Nat)(I:(ai x).length≤1000000)(J:(ai y).length≤1000000)(W:2*y+1<K)(H:ah f109=[b0,b]):
  ∃F:Env→Bool→Env×Mem×Nat,∀Z d,(ad Z 9=.slice 0 0 (dig 1000000000 x).length none∧ad Z 10=.slice 1 0 (dig 1000000000 y).length none)→
   aW (bh prog) jV cm K 56 0 true (.loop b) ⟨Z,[.cells true 1 (iN .u64 (dig 1000000000 x)),.cells true 1 (iN .u64 (dig 1000000000 y))],d⟩=some (.exit 2,⟨(F Z d).1,(F Z d).2.1,d⟩)∧
   (ad (F Z d).1 9=.slice (F Z d).2.2 0 (dig 1000000000 (x.gcd y)).length none∧aZ .u64 (F Z d).2.1 (.slice (F Z d).2.2 0 (dig 1000000000 (x.gcd y)).length none)=some (dig 1000000000 (x.gcd y))):=by
 have U:jV b=[9,10]:=by simp[ah,aE,f109] at H;obtain⟨rfl,rfl⟩:=H;decide
 refine qu (β:=Nat) U (fun Z=>ad Z 9=.slice 0 0 (dig 1000000000 x).length none∧ad Z 10=.slice 1 0 (dig 1000000000 y).length none)
  (fun Z S X k=>ad S 9=.slice k 0 (dig 1000000000 (x.gcd y)).length none∧aZ .u64 X (.slice k 0 (dig 1000000000 (x.gcd y)).length none)=some (dig 1000000000 (x.gcd y))) ?_
 rintro Z d ⟨h9,h10⟩;have M:aA [9,10] (ae b) Z ((9,.slice (gX x 0) 0 (dig 1000000000 x).length none)::(10,gY y 0)::Z)=aA [9,10] (ae b) Z Z:=by simp[aA,h9,h10,gX,gY]
 rw[←M];have R:(dig 1000000000 x).length≤1000000:=by have:=cQ x;omega
 have Q:(dig 1000000000 y).length≤1000000:=by have:=cQ y;omega
 have V:∀a,a≤max x y→(dig 1000000000 a).length≤1000000:=by
  intro a O;by_cases L:x≤y
  ·have:=lW (B:=1000000000) (a:=a) (b:=y) (by omega) (by omega);omega
  ·have:=lW (B:=1000000000) (a:=a) (b:=x) (by omega) (by omega);omega
 refine oP (α:=Nat×Nat×Nat) (fun s=>⟨aA [9,10] (ae b) Z ((9,.slice (gX s.2.1 s.1) 0 (dig 1000000000 s.2.1).length none)::(10,gY s.2.2 s.1)::Z),gM (dig 1000000000 x) (dig 1000000000 y) s.2.1 s.2.2 s.1,d⟩)
  (fun s=>2*s.2.2+(if s.2.1<s.2.2 then 1 else 0)) (fun s=>gI x y s.2.1 s.2.2 s.1∧s.2.1.gcd s.2.2=x.gcd y∧s.2.1≤max x y∧s.2.2≤max x y) (.exit 2) d _ (by simp) ?_ K (0,x,y) ⟨⟨rfl,rfl⟩,rfl,Nat.le_max_left _ _,Nat.le_max_right _ _⟩ (by simp only;split<;>omega)
 rintro ⟨s,a,c⟩ ⟨hI,hg,O,hc⟩;simp only at hI hg O hc ⊢;rcases Eu (K:=K) x y R Q H Z d s a c hI (V a O) (V c hc) with⟨G,D,C,u,r1,r2,N,o,j,Y,m⟩ | ⟨S,r1,r2,N⟩
 ·left
  exact⟨(G,D,C),u,r1,r2,⟨N,by rw[o,hg],by simp only;omega,by simp only;omega⟩,m⟩
 ·right
  refine⟨S,_,r1,gX a s,?_⟩;subst N;rw[Nat.gcd_zero_right] at hg;rw[←hg];refine⟨r2,?_⟩
  match s,hI with
  |0,hI=>obtain⟨rfl,_⟩:=hI;exact hs0 true _
  |1,hI=>obtain⟨rfl,_⟩:=hI;exact hs1 true _ _
  |2,hI=>obtain⟨rfl,_⟩:=hI;exact hs0 true _
  |3,hI=>obtain⟨rfl,_⟩:=hI;exact hs1 true _ _
  |4,hI=>obtain⟨rfl,_⟩:=hI;exact hs0 true _
  |5,hI=>obtain⟨rfl,_⟩:=hI;exact hs1 true _ _
  |6,hI=>exact hs2 true _ _ _
  |7,hI=>exact hs2 true _ _ _
  |s+8,hI=>exact absurd hI (by simp[gI])
theorem Et{O:afF}(n m:Int)(I:m.natAbs<K)(H:ah f109=[b0,b]):
  ∃F:Env→Bool→Env,∀Z d,(ad Z 5=.int .i64 n∧ad Z 7=.int .i64 m)→
   aW (bh prog) jV O K 56 0 true (.loop b0) ⟨Z,[],d⟩=some (.exit 0,⟨F Z d,[],d⟩)∧(∃g:Int,ad (F Z d) 5=.int .i64 g∧g.natAbs=n.natAbs.gcd m.natAbs):=by
 have X:jV b0=[5,7]:=by simp[ah,aE,f109] at H;obtain⟨rfl,rfl⟩:=H;decide
 refine bj X (fun Z=>ad Z 5=.int .i64 n∧ad Z 7=.int .i64 m) (fun _ U =>∃g:Int,ad U 5=.int .i64 g∧g.natAbs=n.natAbs.gcd m.natAbs) ?_;rintro Z d ⟨h5,h7⟩;have S:aA [5,7] (ae b0) Z ((5,.int .i64 n)::(7,.int .i64 m)::Z)=aA [5,7] (ae b0) Z Z:=by simp[aA,h5,h7]
 rw[←S];refine bz (α:=Int×Int) (fun s=>⟨aA [5,7] (ae b0) Z ((5,.int .i64 s.1)::(7,.int .i64 s.2)::Z),[],d⟩) (fun s=>s.2.natAbs) (fun s=>s.1.natAbs.gcd s.2.natAbs=n.natAbs.gcd m.natAbs) (.exit 0) _ d _ (by simp) ?_ K (n,m) rfl I;rintro ⟨x,y⟩ hg;simp only at hg ⊢;simp[ah,aE,f109] at H;obtain⟨rfl,rfl⟩:=H;by_cases V:y=0
 ·right
  subst V;simp only[Int.natAbs_zero,Nat.gcd_zero_right] at hg;simp[hg]
 ·left
  have R:(x.tmod y).natAbs<y.natAbs:=by rw[Int.natAbs_tmod];exact Nat.mod_lt _ (by omega)
  refine⟨(y,x.tmod y),?_⟩;refine br (show y.natAbs.gcd (x.tmod y).natAbs=n.natAbs.gcd m.natAbs∧_ from⟨by rw[Int.natAbs_tmod,←hg,Nat.gcd_comm x.natAbs,Nat.gcd_rec y.natAbs x.natAbs,Nat.gcd_comm],R⟩) ?_;simp[V]
theorem QW(a b:Int)(ha:(ai a.natAbs).length≤100000)(hb:(ai b.natAbs).length≤100000)(mem:Mem):
  kO prog 109 [.str (bB a),.str (bB b)] mem (.str (ai (a.natAbs.gcd b.natAbs))) mem:=by
 have C:aS prog 109=some f109:=by kernel_rfl
 refine cK pY (lv:=jV) (K:=2*b.natAbs+2) rfl rfl ?_ mem;obtain⟨b0,b1,Z⟩:∃b0 b1,ah f109=[b0,b1]:=⟨_,_,rfl⟩
 have la:=cR a;have lb:=cR b;have X:(bB a).length≤1000000000:=by omega
 have N:(bB b).length≤1000000000:=by omega
 by_cases u:(bB a).length≤18∧(bB b).length≤18
 ·have L:((bB a).length:Int)≤18:=by omega
  have o:((bB b).length:Int)≤18:=by omega
  have s1:=j8 u.1;have s2:=j8 u.2;obtain⟨F,V⟩:=Et (O:=cm) (K:=2*b.natAbs+2) a b (by omega) Z;obtain⟨G,M⟩:=Va (β:=Int) (p:=fun R _=>ad R 5=.int .i64 a∧ad R 7=.int .i64 b) (q:=fun R d g=>ad (F R d) 5=.int .i64 g∧g.natAbs=a.natAbs.gcd b.natAbs) (fun R d h=>(V R d h).2);have m:a.natAbs.gcd b.natAbs<10 ^ 18:=by
   by_cases j:a.natAbs=0
   ·rw[j,Nat.gcd_zero_left];exact s2
   ·exact Nat.lt_of_le_of_lt (Nat.gcd_le_left _ (by omega)) s1
  obtain⟨g,Q⟩:=xE (a.natAbs.gcd b.natAbs);rw[←Q] at m M ⊢;have w1:∀z:Int,z.natAbs=g→IntKind.i64.wrap (-z)= -z:=fun z hz=>af
  have w2:∀z:Int,z.natAbs=g→(if z< -z then -z else z)=(g:Int):=fun z hz=>by split<;>omega
  have hf:dL (g:Int)=true:=by unfold dL;simp;omega
  have Y:bB (g:Int)=ai g:=rfl;simp[ah,aE,f109] at Z;obtain⟨rfl,rfl⟩:=Z;simp[aa,C,f109,cm,afF.or,ag,aM,aB,X,N,L,o,V,M,w1,w2,hf,Y]
 ·have da:=cQ a.natAbs
  have db:=cQ b.natAbs;have U:(ai a.natAbs).length≤1000000:=by omega
  have S:(ai b.natAbs).length≤1000000:=by omega
  obtain⟨F,V⟩:=GQ (K:=2*b.natAbs+2) a.natAbs b.natAbs U S (by omega) Z;obtain⟨g,Q⟩:=xE (a.natAbs.gcd b.natAbs);have W:lok 1000000000 (dig 1000000000 g)=true:=bT (by omega) _;have J:aU (dig 1000000000 g)=dig 1000000000 g:=bY (by omega) _;have I:au 1000000000 (dig 1000000000 g)=g:=bC (by omega) _;have H:(dig 1000000000 g).length≤1000000:=by
   have h1:=cQ g;by_cases j:a.natAbs=0
   ·rw[j,Nat.gcd_zero_left] at Q
    rw[Q] at h1 ⊢;omega
   ·have h2:=bx (show g≤a.natAbs by rw[Q];exact Nat.gcd_le_left _ (by omega))
    omega
  rw[←Q] at V ⊢;obtain⟨A,y⟩:=xE (dig 1000000000 a.natAbs);obtain⟨B,hB⟩:=xE (dig 1000000000 b.natAbs);obtain⟨D,hD⟩:=xE (dig 1000000000 g);rw[←y,←hB,←hD] at V;rw[←hD] at W J I H;simp[ah,aE,f109] at Z;obtain⟨rfl,rfl⟩:=Z;by_cases L:((bB a).length:Int)≤18
  ·have o:¬((bB b).length:Int)≤18:=fun e=>u (by omega)
   simp[aa,C,f109,cm,afF.or,ag,aM,aN,aq,aB,X,N,L,o,cj,U,S,←y,←hB,V,bN,aF,W,J,I,H,mY]
  ·simp[aa,C,f109,cm,afF.or,ag,aM,aN,aq,aB,X,L,cj,U,S,←y,←hB,V,bN,aF,W,J,I,H,mY]
end Go.Proofs
