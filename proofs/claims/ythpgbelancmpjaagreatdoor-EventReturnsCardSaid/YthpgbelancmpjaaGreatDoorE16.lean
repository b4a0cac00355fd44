/- See E54. -/
import Derived.Test.YthpgbelancmpjaaGreatDoorE15
set_option linter.all false
set_option maxRecDepth 100000
set_option maxHeartbeats 40000000
namespace Go.Eng
open Classical in
theorem Ck{β:Type}[Inhabited β]{p:Env→Bool→Prop}{q:Env→Bool→β→Prop}(h:∀e d,p e d→∃x,q e d x):∃F:Env→Bool→β,∀e d,p e d→q e d (F e d):=
 ⟨fun e d=>if Z:p e d then Classical.choose (h e d Z) else default,fun e d Z=>by simp only[dif_pos Z];exact Classical.choose_spec (h e d Z)⟩
theorem xD{α:Type}{f:XS→Option (Exit×XS)}{lv wr:List Nat}{I:Env}{J:Nat}(S:α→XS)(m:α→Nat)(Inv:α→Prop)(H:Exit) (d' :Bool)(Q:Env→Mem→Prop)(W:H≠ .normal)
  (h:∀a,Inv a→(∃V U,f (S a)=some (.normal,U)∧mD lv wr I J U =S V ∧Inv V ∧m V <m a)∨(∃X Z,f (S a)=some (H,⟨X,Z,d'⟩)∧Q X Z)):
  ∀k a,Inv a→m a<k→∃X Z,fy lv wr I J f k (S a)=some (H,⟨X,Z,d'⟩)∧Q X Z
 |0,a,_,hk=>by omega
 |k+1,a,ha,hk=>by
  unfold fy;rcases h a ha with⟨V,U,R,O,h3,N⟩ | ⟨X,Z,R,h3⟩
  ·rw[R]
   simp only[O];exact xD S m Inv H d' Q W h k V h3 (by omega)
  ·rw[R]
   refine⟨X,Z,?_,h3⟩;cases H<;>first | rfl | exact absurd rfl W
theorem BD{β:Type}[Inhabited β]{T:TypeId→Option TyI}{lv:Code→List Nat}{O:y9}{K N m0:Nat}{tp:Bool}{b:Code}{L:List Nat}(J:lv b=L){mem:Mem}{e:Exit}(I:Env→Prop)(H:Env→Env→Mem→β→Prop)(h:∀Z d,I Z→∃V X,fy L (ae b) Z mem.length (aS T lv O K N m0 tp b) K ⟨aw L (ae b) Z Z,mem,d⟩=some (e,⟨V,X,d⟩)∧∃x,H Z V X x):
  ∃F:Env→Bool→Env×Mem×β,∀Z d,I Z→aS T lv O K N m0 tp (.loop b) ⟨Z,mem,d⟩=some (e,⟨(F Z d).1,(F Z d).2.1,d⟩)∧H Z (F Z d).1 (F Z d).2.1 (F Z d).2.2:=by
 refine Ck (β:=Env×Mem×β) (p:=fun Z _=>I Z) (q:=fun Z d x=>aS T lv O K N m0 tp (.loop b) ⟨Z,mem,d⟩=some (e,⟨x.1,x.2.1,d⟩)∧H Z x.1 x.2.1 x.2.2) ?_;intro Z d U;obtain⟨V,X,S,x,R⟩:=h Z d U;exact⟨(V,X,x),by rw[bh,J];exact S,R⟩
end Go.Eng
namespace Go.Proofs
open Go.Eng
open Tryz
def gM(A B:List Nat)(a b:Nat):Nat→Mem
 |2 | 3=>[.cells true 1 (iN .u64 A),.cells true 1 (iN .u64 B),.cells true 1 (iN .u64 (dig 1000000000 b))]
 |6=>[.cells true 1 (iN .u64 A),.cells true 1 (iN .u64 B),.cells true 1 (iN .u64 (dig 1000000000 a)),.cells true 1 (iN .u64 (dig 1000000000 b))]
 |7=>[.cells true 1 (iN .u64 A),.cells true 1 (iN .u64 B),.cells true 1 (iN .u64 (dig 1000000000 a))]
 |_=>[.cells true 1 (iN .u64 A),.cells true 1 (iN .u64 B)]
def gX(a:Nat):Nat→Nat
 |0 | 2 | 4=>0
 |1 | 3 | 5=>1
 |_=>2
def gY(b:Nat):Nat→AV
 |0=>.slice 1 0 (dig 1000000000 b).length none
 |1=>.slice 0 0 (dig 1000000000 b).length none
 |2 | 3=>.slice 2 0 (dig 1000000000 b).length none
 |6=>.slice 3 0 (dig 1000000000 b).length none
 |_=>.qF
def gI(x y:Nat)(a b:Nat):Nat→Prop
 |0=>a=x∧b=y
 |1=>a=y∧b=x∧b<a
 |2=>a=x∧b<a
 |3=>a=y∧b<a
 |4=>a=x∧b=0
 |5=>a=y∧b=0
 |6=>b<a
 |7=>b=0
 |_=>False
theorem XA:List.idxOf? 2 [2,4]=some 0:=rfl
theorem XB:List.idxOf? 4 [2,4]=some 1:=rfl
theorem XF:List.idxOf? 3 [3,5]=some 0:=rfl
theorem XG:List.idxOf? 5 [3,5]=some 1:=rfl
theorem cH{α:Type}{p q:α→Prop}{r:Prop}(hr:r)(h:∃s,p s∧q s):∃s,p s∧q s∧r:=let ⟨s,a,b⟩:=h;⟨s,a,b,hr⟩
def jb(c:Code):List Nat:=if (ae c).contains 9 then [9,10] else [5,7]
variable{K:Nat}{b b0:Code}
theorem CQ(x y:Nat)(hx:(dig 1000000000 x).length≤1000000)(hy:(dig 1000000000 y).length≤1000000)(hb:ah f140=[b0,b])(J:Env)(d:Bool)(s:Nat)(a c:Nat)(H:gI x y a c s)(I:(dig 1000000000 a).length≤1000000)(hc:(dig 1000000000 c).length≤1000000):
  (∃Y D C e',aS (aV prog) jb bV K 56 0 true b ⟨aw [9,10] (ae b) J ((9,.slice (gX a s) 0 (dig 1000000000 a).length none)::(10,gY c s)::J),gM (dig 1000000000 x) (dig 1000000000 y) a c s,d⟩=some (.normal,e')∧
    mD [9,10] (ae b) J 2 e' =⟨aw [9,10] (ae b) J ((9,.slice (gX D Y) 0 (dig 1000000000 D).length none)::(10,gY C Y)::J),gM (dig 1000000000 x) (dig 1000000000 y) D C Y,d⟩∧
    gI x y D C Y ∧D.gcd C =a.gcd c∧D ≤max a c∧C ≤max a c∧2*C +(if D <C then 1 else 0)<2*c+(if a<c then 1 else 0))∨
  (∃AC,aS (aV prog) jb bV K 56 0 true b ⟨aw [9,10] (ae b) J ((9,.slice (gX a s) 0 (dig 1000000000 a).length none)::(10,gY c s)::J),gM (dig 1000000000 x) (dig 1000000000 y) a c s,d⟩=some (.exit 2,⟨AC,gM (dig 1000000000 x) (dig 1000000000 y) a c s,d⟩)∧ad AC 9=.slice (gX a s) 0 (dig 1000000000 a).length none∧c=0):=by
 simp[ah,aG,f140] at hb;obtain⟨rfl,rfl⟩:=hb;have U:lok 1000000000 (dig 1000000000 a)=true:=cR (by omega) _;have S:lok 1000000000 (dig 1000000000 c)=true:=cR (by omega) _;have R:bD (dig 1000000000 a)=dig 1000000000 a:=dv (by omega) _;have O:bD (dig 1000000000 c)=dig 1000000000 c:=dv (by omega) _;have N:aF 1000000000 (dig 1000000000 a)=a:=ct (by omega) _;have M:aF 1000000000 (dig 1000000000 c)=c:=ct (by omega) _;by_cases W:c=0
 ·right
  subst W;have m:dig 1000000000 0=[]:=eF _
  match s,H with
  |0,H=>simp[gM,gX,gY,m]
  |1,H=>simp[gM,gX,gY,m]
  |2,H=>simp[gM,gX,gY,m]
  |3,H=>simp[gM,gX,gY,m]
  |4,H=>simp[gM,gX,gY]
  |5,H=>simp[gM,gX,gY]
  |6,H=>simp[gM,gX,gY,m]
  |7,H=>simp[gM,gX,gY]
  |s+8,H=>exact absurd H (by simp[gI])
 ·left
  have X:0<c:=by omega
  have V:0<(dig 1000000000 c).length:=by
   rcases Nat.eq_zero_or_pos (dig 1000000000 c).length with h | h
   ·have:=(sk (B:=1000000000) (n:=c) (by omega)).1 (List.eq_nil_of_length_eq_zero h)
    omega
   ·exact h
  have acC :dig 1000000000 c≠[]:=List.length_pos_iff.1 V;have L:c.gcd (a%c)=a.gcd c:=by rw[Nat.gcd_comm a c,Nat.gcd_rec c a,Nat.gcd_comm]
  have Ym:c.gcd a=a.gcd c:=Nat.gcd_comm _ _;have A:a%c<c:=Nat.mod_lt _ X;have ZG:a≤max a c:=Nat.le_max_left _ _;have G:c≤max a c:=Nat.le_max_right _ _;have F:2*(a%c)+(if c<a%c then 1 else 0)<2*c+(if a<c then 1 else 0):=by rw[if_neg (by omega)];split<;>omega
  by_cases Z:a<c
  ·have hs:s=0:=by
    match s,H with
    |0,_=>rfl
    |1,H=>exact absurd H.2.2 (by omega)
    |2,H=>exact absurd H.2 (by omega)
    |3,H=>exact absurd H.2 (by omega)
    |4,H=>exact absurd H.2 (by omega)
    |5,H=>exact absurd H.2 (by omega)
    |6,H=>exact absurd (show c<a from H) (by omega)
    |7,H=>exact absurd (show c=0 from H) (by omega)
    |s+8,H=>exact absurd H (by simp[gI])
   subst hs;obtain⟨rfl,rfl⟩:=H;refine⟨1,c,a,?_⟩;refine cH (show gI a c c a 1∧_∧_∧_∧_ from⟨⟨rfl,rfl,Z⟩,Ym,G,ZG,by rw[if_neg (by omega),if_pos Z];omega⟩) ?_;simp[gM,gX,gY,bV,y9.or,ag,aN,aP,an,bT,bF,bC,bQ,hs0,hs1,U,S,R,O,N,M,I,X,Z,V]
  ·by_cases u:2≤(dig 1000000000 c).length∧a%c=0
   ·obtain⟨j,o⟩:=u
    rw[o] at L A F
    match s,H with
    |0,H=>
     obtain⟨rfl,rfl⟩:=H;refine⟨5,c,0,?_⟩;refine cH (show gI a c c 0 5∧_∧_∧_∧_ from⟨⟨rfl,rfl⟩,L,G,by omega,F⟩) ?_;simp[gM,gX,gY,bV,y9.or,ag,aN,aP,an,bT,bF,bC,bQ,hs0,hs1,U,S,R,O,N,M,I,X,Z,V,j,o]
    |1,H=>
     obtain⟨rfl,rfl,h⟩:=H;refine⟨4,c,0,?_⟩;refine cH (show gI c a c 0 4∧_∧_∧_∧_ from⟨⟨rfl,rfl⟩,L,G,by omega,F⟩) ?_;simp[gM,gX,gY,bV,y9.or,ag,aN,aP,an,bT,bF,bC,bQ,hs0,hs1,U,S,R,O,N,M,I,X,Z,V,j,o]
    |2,H=>
     obtain⟨rfl,h⟩:=H;refine⟨7,c,0,?_⟩;refine cH (show gI _ _ c 0 7∧_∧_∧_∧_ from⟨rfl,L,G,by omega,F⟩) ?_;simp[gM,gX,gY,bV,y9.or,ag,aN,aP,an,bT,bF,bC,bQ,hs0,hs2,U,S,R,O,N,M,I,X,Z,V,j,o]
    |3,H=>
     obtain⟨rfl,h⟩:=H;refine⟨7,c,0,?_⟩;refine cH (show gI _ _ c 0 7∧_∧_∧_∧_ from⟨rfl,L,G,by omega,F⟩) ?_;simp[gM,gX,gY,bV,y9.or,ag,aN,aP,an,bT,bF,bC,bQ,hs1,hs2,U,S,R,O,N,M,I,X,Z,V,j,o]
    |6,H=>
     refine⟨7,c,0,?_⟩;refine cH (show gI _ _ c 0 7∧_∧_∧_∧_ from⟨rfl,L,G,by omega,F⟩) ?_;simp[gM,gX,gY,bV,y9.or,ag,aN,aP,an,bT,bF,bC,bQ,hs2,hs3,U,S,R,O,N,M,I,X,Z,V,j,o]
    |4,H=>exact absurd H.2 (by omega)
    |5,H=>exact absurd H.2 (by omega)
    |7,H=>exact absurd (show c=0 from H) (by omega)
    |s+8,H=>exact absurd H (by simp[gI])
   ·match s,H with
    |0,H=>
     obtain⟨rfl,rfl⟩:=H;refine⟨3,c,a%c,?_⟩;refine cH (show gI a c c (a%c) 3∧_∧_∧_∧_ from⟨⟨rfl,A⟩,L,G,by omega,F⟩) ?_;simp[gM,gX,gY,bV,y9.or,ag,aN,aP,an,bT,bF,bC,bQ,hs0,hs1,U,S,R,O,N,M,I,X,Z,V,u]
    |1,H=>
     obtain⟨rfl,rfl,h⟩:=H;refine⟨2,c,a%c,?_⟩;refine cH (show gI c a c (a%c) 2∧_∧_∧_∧_ from⟨⟨rfl,A⟩,L,G,by omega,F⟩) ?_;simp[gM,gX,gY,bV,y9.or,ag,aN,aP,an,bT,bF,bC,bQ,hs0,hs1,U,S,R,O,N,M,I,X,Z,V,u]
    |2,H=>
     obtain⟨rfl,h⟩:=H;refine⟨6,c,a%c,?_⟩;refine cH (show gI _ _ c (a%c) 6∧_∧_∧_∧_ from⟨A,L,G,by omega,F⟩) ?_;simp[gM,gX,gY,bV,y9.or,ag,aN,aP,an,bT,bF,bC,bQ,hs0,hs2,U,S,R,O,N,M,I,X,XA,XB,Z,V,u]
    |3,H=>
     obtain⟨rfl,h⟩:=H;refine⟨6,c,a%c,?_⟩;refine cH (show gI _ _ c (a%c) 6∧_∧_∧_∧_ from⟨A,L,G,by omega,F⟩) ?_;simp[gM,gX,gY,bV,y9.or,ag,aN,aP,an,bT,bF,bC,bQ,hs1,hs2,U,S,R,O,N,M,I,X,XA,XB,Z,V,u]
    |6,H=>
     refine⟨6,c,a%c,?_⟩;refine cH (show gI _ _ c (a%c) 6∧_∧_∧_∧_ from⟨A,L,G,by omega,F⟩) ?_;simp[gM,gX,gY,bV,y9.or,ag,aN,aP,an,bT,bF,bC,bQ,hs2,hs3,U,S,R,O,N,M,I,X,XF,XG,Z,V,u]
    |4,H=>exact absurd H.2 (by omega)
    |5,H=>exact absurd H.2 (by omega)
    |7,H=>exact absurd (show c=0 from H) (by omega)
    |s+8,H=>exact absurd H (by simp[gI])
theorem qZ{B a b:Nat}(H:2≤B)(h:a≤b):(dig B a).length≤(dig B b).length:=by
 rcases Nat.lt_or_ge (dig B b).length (dig B a).length with h1 | h1
 ·have:=ez H h1;omega
 ·exact h1
theorem Fb(x y:Nat)(I:(au x).length≤1000000)(J:(au y).length≤1000000)(W:2*y+1<K)(H:ah f140=[b0,b]):
  ∃F:Env→Bool→Env×Mem×Nat,∀Z d,(ad Z 9=.slice 0 0 (dig 1000000000 x).length none∧ad Z 10=.slice 1 0 (dig 1000000000 y).length none)→
   aS (aV prog) jb bV K 56 0 true (.loop b) ⟨Z,[.cells true 1 (iN .u64 (dig 1000000000 x)),.cells true 1 (iN .u64 (dig 1000000000 y))],d⟩=some (.exit 2,⟨(F Z d).1,(F Z d).2.1,d⟩)∧
   (ad (F Z d).1 9=.slice (F Z d).2.2 0 (dig 1000000000 (x.gcd y)).length none∧bP .u64 (F Z d).2.1 (.slice (F Z d).2.2 0 (dig 1000000000 (x.gcd y)).length none)=some (dig 1000000000 (x.gcd y))):=by
 have M:jb b=[9,10]:=by simp[ah,aG,f140] at H;obtain⟨rfl,rfl⟩:=H;decide
 refine BD (β:=Nat) M (fun Z=>ad Z 9=.slice 0 0 (dig 1000000000 x).length none∧ad Z 10=.slice 1 0 (dig 1000000000 y).length none)
  (fun Z V X k=>ad V 9=.slice k 0 (dig 1000000000 (x.gcd y)).length none∧bP .u64 X (.slice k 0 (dig 1000000000 (x.gcd y)).length none)=some (dig 1000000000 (x.gcd y))) ?_
 rintro Z d ⟨h9,YK⟩;have L:aw [9,10] (ae b) Z ((9,.slice (gX x 0) 0 (dig 1000000000 x).length none)::(10,gY y 0)::Z)=aw [9,10] (ae b) Z Z:=by simp[aw,h9,YK,gX,gY]
 rw[←L];have U:(dig 1000000000 x).length≤1000000:=by have:=cG x;omega
 have S:(dig 1000000000 y).length≤1000000:=by have:=cG y;omega
 have N:∀a,a≤max x y→(dig 1000000000 a).length≤1000000:=by
  intro a R;by_cases m:x≤y
  ·have:=qZ (B:=1000000000) (a:=a) (b:=y) (by omega) (by omega);omega
  ·have:=qZ (B:=1000000000) (a:=a) (b:=x) (by omega) (by omega);omega
 refine xD (α:=Nat×Nat×Nat) (fun s=>⟨aw [9,10] (ae b) Z ((9,.slice (gX s.2.1 s.1) 0 (dig 1000000000 s.2.1).length none)::(10,gY s.2.2 s.1)::Z),gM (dig 1000000000 x) (dig 1000000000 y) s.2.1 s.2.2 s.1,d⟩)
  (fun s=>2*s.2.2+(if s.2.1<s.2.2 then 1 else 0)) (fun s=>gI x y s.2.1 s.2.2 s.1∧s.2.1.gcd s.2.2=x.gcd y∧s.2.1≤max x y∧s.2.2≤max x y) (.exit 2) d _ (by simp) ?_ K (0,x,y) ⟨⟨rfl,rfl⟩,rfl,Nat.le_max_left _ _,Nat.le_max_right _ _⟩ (by simp only;split<;>omega)
 rintro ⟨s,a,c⟩ ⟨hI,hg,R,hc⟩;simp only at hI hg R hc ⊢;rcases CQ (K:=K) x y U S H Z d s a c hI (N a R) (N c hc) with⟨G,D,C,A,r1,r2,O,u,j,Y,o⟩ | ⟨V,r1,r2,O⟩
 ·left
  exact⟨(G,D,C),A,r1,r2,⟨O,by rw[u,hg],by simp only;omega,by simp only;omega⟩,o⟩
 ·right
  refine⟨V,_,r1,gX a s,?_⟩;subst O;rw[Nat.gcd_zero_right] at hg;rw[←hg];refine⟨r2,?_⟩
  match s,hI with
  |0,hI=>obtain⟨rfl,_⟩:=hI;exact hs0 true _
  |1,hI=>obtain⟨rfl,_⟩:=hI;exact hs1 true _ _
  |2,hI=>obtain⟨rfl,_⟩:=hI;exact hs0 true _
  |3,hI=>obtain⟨rfl,_⟩:=hI;exact hs1 true _ _
  |4,hI=>obtain⟨rfl,_⟩:=hI;exact hs0 true _
  |5,hI=>obtain⟨rfl,_⟩:=hI;exact hs1 true _ _
  |6,hI=>exact hs2 true _ _ _
  |7,hI=>exact hs2 true _ _ _
  |s+8,hI=>exact absurd hI (by simp[gI])
theorem CO{O:y9}(n m:Int)(I:m.natAbs<K)(H:ah f140=[b0,b]):
  ∃F:Env→Bool→Env,∀Z d,(ad Z 5=.int .i64 n∧ad Z 7=.int .i64 m)→
   aS (aV prog) jb O K 56 0 true (.loop b0) ⟨Z,[],d⟩=some (.exit 0,⟨F Z d,[],d⟩)∧(∃g:Int,ad (F Z d) 5=.int .i64 g∧g.natAbs=n.natAbs.gcd m.natAbs):=by
 have V:jb b0=[5,7]:=by simp[ah,aG,f140] at H;obtain⟨rfl,rfl⟩:=H;decide
 refine bw V (fun Z=>ad Z 5=.int .i64 n∧ad Z 7=.int .i64 m) (fun _ U =>∃g:Int,ad U 5=.int .i64 g∧g.natAbs=n.natAbs.gcd m.natAbs) ?_;rintro Z d ⟨h5,h7⟩;have S:aw [5,7] (ae b0) Z ((5,.int .i64 n)::(7,.int .i64 m)::Z)=aw [5,7] (ae b0) Z Z:=by simp[aw,h5,h7]
 rw[←S];refine bO (α:=Int×Int) (fun s=>⟨aw [5,7] (ae b0) Z ((5,.int .i64 s.1)::(7,.int .i64 s.2)::Z),[],d⟩) (fun s=>s.2.natAbs) (fun s=>s.1.natAbs.gcd s.2.natAbs=n.natAbs.gcd m.natAbs) (.exit 0) _ d _ (by simp) ?_ K (n,m) rfl I;rintro ⟨x,y⟩ hg;simp only at hg ⊢;simp[ah,aG,f140] at H;obtain⟨rfl,rfl⟩:=H;by_cases X:y=0
 ·right
  subst X;simp only[Int.natAbs_zero,Nat.gcd_zero_right] at hg;simp[hg]
 ·left
  have R:(x.tmod y).natAbs<y.natAbs:=by rw[Int.natAbs_tmod];exact Nat.mod_lt _ (by omega)
  refine⟨(y,x.tmod y),?_⟩;refine bH (show y.natAbs.gcd (x.tmod y).natAbs=n.natAbs.gcd m.natAbs∧_ from⟨by rw[Int.natAbs_tmod,←hg,Nat.gcd_comm x.natAbs,Nat.gcd_rec y.natAbs x.natAbs,Nat.gcd_comm],R⟩) ?_;simp[X]
theorem OM(a b:Int)(ha:(au a.natAbs).length≤100000)(hb:(au b.natAbs).length≤100000)(mem:Mem):
  kO prog 140 [.str (bL a),.str (bL b)] mem (.str (au (a.natAbs.gcd b.natAbs))) mem:=by
 have L:aT prog 140=some f140:=by kernel_rfl
 refine cE oB (lv:=jb) (K:=2*b.natAbs+2) rfl rfl ?_ mem;obtain⟨b0,b1,Z⟩:∃b0 b1,ah f140=[b0,b1]:=⟨_,_,rfl⟩
 have la:=cj a;have lb:=cj b;have X:(bL a).length≤1000000000:=by omega
 have R:(bL b).length≤1000000000:=by omega
 by_cases C:(bL a).length≤18∧(bL b).length≤18
 ·have M:((bL a).length:Int)≤18:=by omega
  have u:((bL b).length:Int)≤18:=by omega
  have s1:=iD C.1;have s2:=iD C.2;obtain⟨F,V⟩:=CO (O:=bV) (K:=2*b.natAbs+2) a b (by omega) Z;obtain⟨G,N⟩:=Ck (β:=Int) (p:=fun U _=>ad U 5=.int .i64 a∧ad U 7=.int .i64 b) (q:=fun U d g=>ad (F U d) 5=.int .i64 g∧g.natAbs=a.natAbs.gcd b.natAbs) (fun U d h=>(V U d h).2);have o:a.natAbs.gcd b.natAbs<10 ^ 18:=by
   by_cases m:a.natAbs=0
   ·rw[m,Nat.gcd_zero_left];exact s2
   ·exact Nat.lt_of_le_of_lt (Nat.gcd_le_left _ (by omega)) s1
  obtain⟨g,S⟩:=xE (a.natAbs.gcd b.natAbs);rw[←S] at o N ⊢;have w1:∀z:Int,z.natAbs=g→IntKind.i64.wrap (-z)= -z:=fun z hz=>af
  have w2:∀z:Int,z.natAbs=g→(if z< -z then -z else z)=(g:Int):=fun z hz=>by split<;>omega
  have hf:dG (g:Int)=true:=by unfold dG;simp;omega
  have j:bL (g:Int)=au g:=rfl;simp[ah,aG,f140] at Z;obtain⟨rfl,rfl⟩:=Z;simp[aa,L,f140,bV,y9.or,ag,aN,aU,X,R,M,u,V,N,w1,w2,hf,j]
 ·have da:=cG a.natAbs
  have db:=cG b.natAbs;have Y:(au a.natAbs).length≤1000000:=by omega
  have W:(au b.natAbs).length≤1000000:=by omega
  obtain⟨F,V⟩:=Fb (K:=2*b.natAbs+2) a.natAbs b.natAbs Y W (by omega) Z;obtain⟨g,S⟩:=xE (a.natAbs.gcd b.natAbs);have J:lok 1000000000 (dig 1000000000 g)=true:=cR (by omega) _;have I:bD (dig 1000000000 g)=dig 1000000000 g:=dv (by omega) _;have H:aF 1000000000 (dig 1000000000 g)=g:=ct (by omega) _;have gg:(dig 1000000000 g).length≤1000000:=by
   have h1:=cG g;by_cases m:a.natAbs=0
   ·rw[m,Nat.gcd_zero_left] at S
    rw[S] at h1 ⊢;omega
   ·have h2:=cV (show g≤a.natAbs by rw[S];exact Nat.gcd_le_left _ (by omega))
    omega
  rw[←S] at V ⊢;obtain⟨A,hA⟩:=xE (dig 1000000000 a.natAbs);obtain⟨B,hB⟩:=xE (dig 1000000000 b.natAbs);obtain⟨D,hD⟩:=xE (dig 1000000000 g);rw[←hA,←hB,←hD] at V;rw[←hD] at J I H gg;simp[ah,aG,f140] at Z;obtain⟨rfl,rfl⟩:=Z;by_cases M:((bL a).length:Int)≤18
  ·have u:¬((bL b).length:Int)≤18:=fun e=>C (by omega)
   simp[aa,L,f140,bV,y9.or,ag,aN,aP,an,aU,X,R,M,u,bT,Y,W,←hA,←hB,V,bJ,aD,J,I,H,gg,qX]
  ·simp[aa,L,f140,bV,y9.or,ag,aN,aP,an,aU,X,M,bT,Y,W,←hA,←hB,V,bJ,aD,J,I,H,gg,qX]
end Go.Proofs
