/- See K51. -/
import Derived.Test.YtffdedmakncfmaaGreatDoorK16
set_option linter.all false
namespace Go.Eng
open Classical in
theorem OA{β:Type}[Inhabited β] {p:Env→Bool→Prop}{q:Env→Bool→β→Prop}(h:∀e d,p e d→∃x,q e d x):∃F:Env→Bool→β,∀e d,p e d→q e d (F e d):=
 ⟨fun e d=>if hp:p e d then Classical.choose (h e d hp) else default,fun e d hp=>by simp only[dif_pos hp];exact Classical.choose_spec (h e d hp)⟩
theorem uP{α:Type}{f:XS→Option (Exit×XS)}{lv wr:List Nat}{env0:Env}{m1:Nat}(S:α→XS) (m:α→Nat) (Inv:α→Prop) (e0:Exit) (d' :Bool) (Q:Env→Mem→Prop) (he:e0≠ .normal)
  (h:∀a,Inv a→(∃a' s',f (S a)=some (.normal,s')∧rM lv wr env0 m1 s' =S a' ∧Inv a' ∧m a' <m a)∨(∃env' mem',f (S a)=some (e0,⟨env',mem',d'⟩)∧Q env' mem')):
  ∀k a,Inv a→m a<k→∃env' mem',fA lv wr env0 m1 f k (S a)=some (e0,⟨env',mem',d'⟩)∧Q env' mem'
 |0,a,_,hk=>by omega
 |k+1,a,ha,hk=>by
  unfold fA
  rcases h a ha with⟨a',s',h1,h2,h3,h4⟩ | ⟨env',mem',h1,h3⟩
  ·rw[h1]
   simp only[h2]
   exact uP S m Inv e0 d' Q he h k a' h3 (by omega)
  ·rw[h1]
   refine⟨env',mem',?_,h3⟩
   cases e0<;>first | rfl | exact absurd rfl he
theorem zh{β:Type}[Inhabited β] {T:TypeId→Option TyI}{lv:Code→List Nat}{O:Oracle}{K N m0:Nat}{tp:Bool}{b:Code}{L:List Nat}(hlv:lv b=L) {mem:Mem}{e:Exit}(pre:Env→Prop) (post:Env→Env→Mem→β→Prop)
  (h:∀env0 d,pre env0→∃env' mem',fA L (ad b) env0 mem.length (aU T lv O K N m0 tp b) K ⟨az L (ad b) env0 env0,mem,d⟩=some (e,⟨env',mem',d⟩)∧∃x,post env0 env' mem' x):
  ∃F:Env→Bool→Env×Mem×β,∀env0 d,pre env0→aU T lv O K N m0 tp (.loop b) ⟨env0,mem,d⟩=some (e,⟨(F env0 d).1,(F env0 d).2.1,d⟩)∧post env0 (F env0 d).1 (F env0 d).2.1 (F env0 d).2.2:=by
 refine OA (β:=Env×Mem×β) (p:=fun env0 _=>pre env0) (q:=fun env0 d x=>aU T lv O K N m0 tp (.loop b) ⟨env0,mem,d⟩=some (e,⟨x.1,x.2.1,d⟩)∧post env0 x.1 x.2.1 x.2.2) ?_
 intro env0 d hp
 obtain⟨env',mem',h1,x,h2⟩:=h env0 d hp
 exact⟨(env',mem',x),by rw[aZ,hlv];exact h1,h2⟩
end Go.Eng
namespace Go.Proofs
open Go.Eng
def gM(A B:List Nat) (a b:Nat):Nat→Mem
 |2 | 3=>[.cells true 1 (iN .u64 A),.cells true 1 (iN .u64 B),.cells true 1 (iN .u64 (dig 1000000000 b))]
 |6=>[.cells true 1 (iN .u64 A),.cells true 1 (iN .u64 B),.cells true 1 (iN .u64 (dig 1000000000 a)),.cells true 1 (iN .u64 (dig 1000000000 b))]
 |7=>[.cells true 1 (iN .u64 A),.cells true 1 (iN .u64 B),.cells true 1 (iN .u64 (dig 1000000000 a))]
 |_=>[.cells true 1 (iN .u64 A),.cells true 1 (iN .u64 B)]
def gX(a:Nat):Nat→Nat
 |0 | 2 | 4=>0
 |1 | 3 | 5=>1
 |_=>2
def gY(b:Nat):Nat→AV
 |0=>.slice 1 0 (dig 1000000000 b).length none
 |1=>.slice 0 0 (dig 1000000000 b).length none
 |2 | 3=>.slice 2 0 (dig 1000000000 b).length none
 |6=>.slice 3 0 (dig 1000000000 b).length none
 |_=>.nilslice
def gI(x y:Nat) (a b:Nat):Nat→Prop
 |0=>a=x∧b=y
 |1=>a=y∧b=x∧b<a
 |2=>a=x∧b<a
 |3=>a=y∧b<a
 |4=>a=x∧b=0
 |5=>a=y∧b=0
 |6=>b<a
 |7=>b=0
 |_=>False
theorem SC:List.idxOf? 2 [2,4]=some 0:=rfl
theorem SD:List.idxOf? 4 [2,4]=some 1:=rfl
theorem SG:List.idxOf? 3 [3,5]=some 0:=rfl
theorem SH:List.idxOf? 5 [3,5]=some 1:=rfl
theorem bZ{α:Type}{p q:α→Prop}{r:Prop}(hr:r) (h:∃s,p s∧q s):∃s,p s∧q s∧r:=let ⟨s,a,b⟩:=h;⟨s,a,b,hr⟩
def gH(c:Code):List Nat:=if (ad c).contains 9 then [9,10] else [5,7]
set_option maxHeartbeats 3200000 in
theorem Aq{K:Nat}(x y:Nat) (hx:(dig 1000000000 x).length≤1000000) (hy:(dig 1000000000 y).length≤1000000) {b0 b:Code}(hb:aj Tryz.f109=[b0,b]) (env0:Env) (d:Bool)
  (s:Nat) (a c:Nat) (hI:gI x y a c s) (ha:(dig 1000000000 a).length≤1000000) (hc:(dig 1000000000 c).length≤1000000):
  (∃s' a' c' e',aU (aO Tryz.prog) gH bJ K 56 0 true b ⟨az [9,10] (ad b) env0 ((9,.slice (gX a s) 0 (dig 1000000000 a).length none)::(10,gY c s)::env0),gM (dig 1000000000 x) (dig 1000000000 y) a c s,d⟩=some (.normal,e')∧
    rM [9,10] (ad b) env0 2 e' =⟨az [9,10] (ad b) env0 ((9,.slice (gX a' s') 0 (dig 1000000000 a').length none)::(10,gY c' s')::env0),gM (dig 1000000000 x) (dig 1000000000 y) a' c' s',d⟩∧
    gI x y a' c' s' ∧a'.gcd c' =a.gcd c∧a' ≤max a c∧c' ≤max a c∧2*c' +(if a' <c' then 1 else 0)<2*c+(if a<c then 1 else 0))∨
  (∃env',aU (aO Tryz.prog) gH bJ K 56 0 true b ⟨az [9,10] (ad b) env0 ((9,.slice (gX a s) 0 (dig 1000000000 a).length none)::(10,gY c s)::env0),gM (dig 1000000000 x) (dig 1000000000 y) a c s,d⟩=some (.exit 2,⟨env',gM (dig 1000000000 x) (dig 1000000000 y) a c s,d⟩)∧ab env' 9=.slice (gX a s) 0 (dig 1000000000 a).length none∧c=0):=by
 simp[aj,aM,Tryz.f109] at hb
 obtain⟨rfl,rfl⟩:=hb
 have oa:lok 1000000000 (dig 1000000000 a)=true:=ct (by omega) _
 have oc:lok 1000000000 (dig 1000000000 c)=true:=ct (by omega) _
 have ta:bd (dig 1000000000 a)=dig 1000000000 a:=cE (by omega) _
 have tc:bd (dig 1000000000 c)=dig 1000000000 c:=cE (by omega) _
 have va:ay 1000000000 (dig 1000000000 a)=a:=bU (by omega) _
 have vc:ay 1000000000 (dig 1000000000 c)=c:=bU (by omega) _
 by_cases hc0:c=0
 ·right
  subst hc0
  have h0:dig 1000000000 0=[]:=dq _
  match s,hI with
  |0,hI=>simp[gM,gX,gY,h0]
  |1,hI=>simp[gM,gX,gY,h0]
  |2,hI=>simp[gM,gX,gY,h0]
  |3,hI=>simp[gM,gX,gY,h0]
  |4,hI=>simp[gM,gX,gY]
  |5,hI=>simp[gM,gX,gY]
  |6,hI=>simp[gM,gX,gY,h0]
  |7,hI=>simp[gM,gX,gY]
  |s+8,hI=>exact absurd hI (by simp[gI])
 ·left
  have hcp:0<c:=by omega
  have hne:0<(dig 1000000000 c).length:=by
   rcases Nat.eq_zero_or_pos (dig 1000000000 c).length with h | h
   ·have:=(pz (B:=1000000000) (n:=c) (by omega)).1 (List.eq_nil_of_length_eq_zero h)
    omega
   ·exact h
  have hne' :dig 1000000000 c≠[]:=List.length_pos_iff.1 hne
  have hg:c.gcd (a%c)=a.gcd c:=by rw[Nat.gcd_comm a c,Nat.gcd_rec c a,Nat.gcd_comm]
  have hg2:c.gcd a=a.gcd c:=Nat.gcd_comm _ _
  have hlt:a%c<c:=Nat.mod_lt _ hcp
  have hle1:a≤max a c:=Nat.le_max_left _ _
  have hle2:c≤max a c:=Nat.le_max_right _ _
  have hms:2*(a%c)+(if c<a%c then 1 else 0)<2*c+(if a<c then 1 else 0):=by
   rw[if_neg (by omega)];split<;>omega
  by_cases hac:a<c
  ·have hs:s=0:=by
    match s,hI with
    |0,_=>rfl
    |1,hI=>exact absurd hI.2.2 (by omega)
    |2,hI=>exact absurd hI.2 (by omega)
    |3,hI=>exact absurd hI.2 (by omega)
    |4,hI=>exact absurd hI.2 (by omega)
    |5,hI=>exact absurd hI.2 (by omega)
    |6,hI=>exact absurd (show c<a from hI) (by omega)
    |7,hI=>exact absurd (show c=0 from hI) (by omega)
    |s+8,hI=>exact absurd hI (by simp[gI])
   subst hs
   obtain⟨rfl,rfl⟩:=hI
   refine⟨1,c,a,?_⟩
   refine bZ (show gI a c c a 1∧_∧_∧_∧_ from⟨⟨rfl,rfl,hac⟩,hg2,hle2,hle1,by rw[if_neg (by omega),if_pos hac];omega⟩) ?_
   simp[gM,gX,gY,bJ,Oracle.or,ai,aF,aH,ao,bH,bm,bh,bD,hs0,hs1,oa,oc,ta,tc,va,vc,ha,hcp,hac,hne]
  ·by_cases hr:2≤(dig 1000000000 c).length∧a%c=0
   ·obtain⟨hr1,hr2⟩:=hr
    rw[hr2] at hg hlt hms
    match s,hI with
    |0,hI=>
     obtain⟨rfl,rfl⟩:=hI
     refine⟨5,c,0,?_⟩
     refine bZ (show gI a c c 0 5∧_∧_∧_∧_ from⟨⟨rfl,rfl⟩,hg,hle2,by omega,hms⟩) ?_
     simp[gM,gX,gY,bJ,Oracle.or,ai,aF,aH,ao,bH,bm,bh,bD,hs0,hs1,oa,oc,ta,tc,va,vc,ha,hcp,hac,hne,hr1,hr2]
    |1,hI=>
     obtain⟨rfl,rfl,h⟩:=hI
     refine⟨4,c,0,?_⟩
     refine bZ (show gI c a c 0 4∧_∧_∧_∧_ from⟨⟨rfl,rfl⟩,hg,hle2,by omega,hms⟩) ?_
     simp[gM,gX,gY,bJ,Oracle.or,ai,aF,aH,ao,bH,bm,bh,bD,hs0,hs1,oa,oc,ta,tc,va,vc,ha,hcp,hac,hne,hr1,hr2]
    |2,hI=>
     obtain⟨rfl,h⟩:=hI
     refine⟨7,c,0,?_⟩
     refine bZ (show gI _ _ c 0 7∧_∧_∧_∧_ from⟨rfl,hg,hle2,by omega,hms⟩) ?_
     simp[gM,gX,gY,bJ,Oracle.or,ai,aF,aH,ao,bH,bm,bh,bD,hs0,hs2,oa,oc,ta,tc,va,vc,ha,hcp,hac,hne,hr1,hr2]
    |3,hI=>
     obtain⟨rfl,h⟩:=hI
     refine⟨7,c,0,?_⟩
     refine bZ (show gI _ _ c 0 7∧_∧_∧_∧_ from⟨rfl,hg,hle2,by omega,hms⟩) ?_
     simp[gM,gX,gY,bJ,Oracle.or,ai,aF,aH,ao,bH,bm,bh,bD,hs1,hs2,oa,oc,ta,tc,va,vc,ha,hcp,hac,hne,hr1,hr2]
    |6,hI=>
     refine⟨7,c,0,?_⟩
     refine bZ (show gI _ _ c 0 7∧_∧_∧_∧_ from⟨rfl,hg,hle2,by omega,hms⟩) ?_
     simp[gM,gX,gY,bJ,Oracle.or,ai,aF,aH,ao,bH,bm,bh,bD,hs2,hs3,oa,oc,ta,tc,va,vc,ha,hcp,hac,hne,hr1,hr2]
    |4,hI=>exact absurd hI.2 (by omega)
    |5,hI=>exact absurd hI.2 (by omega)
    |7,hI=>exact absurd (show c=0 from hI) (by omega)
    |s+8,hI=>exact absurd hI (by simp[gI])
   ·match s,hI with
    |0,hI=>
     obtain⟨rfl,rfl⟩:=hI
     refine⟨3,c,a%c,?_⟩
     refine bZ (show gI a c c (a%c) 3∧_∧_∧_∧_ from⟨⟨rfl,hlt⟩,hg,hle2,by omega,hms⟩) ?_
     simp[gM,gX,gY,bJ,Oracle.or,ai,aF,aH,ao,bH,bm,bh,bD,hs0,hs1,oa,oc,ta,tc,va,vc,ha,hcp,hac,hne,hr]
    |1,hI=>
     obtain⟨rfl,rfl,h⟩:=hI
     refine⟨2,c,a%c,?_⟩
     refine bZ (show gI c a c (a%c) 2∧_∧_∧_∧_ from⟨⟨rfl,hlt⟩,hg,hle2,by omega,hms⟩) ?_
     simp[gM,gX,gY,bJ,Oracle.or,ai,aF,aH,ao,bH,bm,bh,bD,hs0,hs1,oa,oc,ta,tc,va,vc,ha,hcp,hac,hne,hr]
    |2,hI=>
     obtain⟨rfl,h⟩:=hI
     refine⟨6,c,a%c,?_⟩
     refine bZ (show gI _ _ c (a%c) 6∧_∧_∧_∧_ from⟨hlt,hg,hle2,by omega,hms⟩) ?_
     simp[gM,gX,gY,bJ,Oracle.or,ai,aF,aH,ao,bH,bm,bh,bD,hs0,hs2,oa,oc,ta,tc,va,vc,ha,hcp,SC,SD,hac,hne,hr]
    |3,hI=>
     obtain⟨rfl,h⟩:=hI
     refine⟨6,c,a%c,?_⟩
     refine bZ (show gI _ _ c (a%c) 6∧_∧_∧_∧_ from⟨hlt,hg,hle2,by omega,hms⟩) ?_
     simp[gM,gX,gY,bJ,Oracle.or,ai,aF,aH,ao,bH,bm,bh,bD,hs1,hs2,oa,oc,ta,tc,va,vc,ha,hcp,SC,SD,hac,hne,hr]
    |6,hI=>
     refine⟨6,c,a%c,?_⟩
     refine bZ (show gI _ _ c (a%c) 6∧_∧_∧_∧_ from⟨hlt,hg,hle2,by omega,hms⟩) ?_
     simp[gM,gX,gY,bJ,Oracle.or,ai,aF,aH,ao,bH,bm,bh,bD,hs2,hs3,oa,oc,ta,tc,va,vc,ha,hcp,SG,SH,hac,hne,hr]
    |4,hI=>exact absurd hI.2 (by omega)
    |5,hI=>exact absurd hI.2 (by omega)
    |7,hI=>exact absurd (show c=0 from hI) (by omega)
    |s+8,hI=>exact absurd hI (by simp[gI])
theorem ov{B a b:Nat}(hB:2≤B) (h:a≤b):(dig B a).length≤(dig B b).length:=by
 rcases Nat.lt_or_ge (dig B b).length (dig B a).length with h1 | h1
 ·have:=dp hB h1;omega
 ·exact h1
theorem Cd{K:Nat}(x y:Nat) (hx:(au x).length≤1000000) (hy:(au y).length≤1000000) (hK:2*y+1<K) {b0 b:Code}(hb:aj Tryz.f109=[b0,b]):
  ∃F:Env→Bool→Env×Mem×Nat,∀env0 d,(ab env0 9=.slice 0 0 (dig 1000000000 x).length none∧ab env0 10=.slice 1 0 (dig 1000000000 y).length none)→
   aU (aO Tryz.prog) gH bJ K 56 0 true (.loop b) ⟨env0,[.cells true 1 (iN .u64 (dig 1000000000 x)),.cells true 1 (iN .u64 (dig 1000000000 y))],d⟩=some (.exit 2,⟨(F env0 d).1,(F env0 d).2.1,d⟩)∧
   (ab (F env0 d).1 9=.slice (F env0 d).2.2 0 (dig 1000000000 (x.gcd y)).length none∧bB .u64 (F env0 d).2.1 (.slice (F env0 d).2.2 0 (dig 1000000000 (x.gcd y)).length none)=some (dig 1000000000 (x.gcd y))):=by
 have hlv:gH b=[9,10]:=by
  simp[aj,aM,Tryz.f109] at hb
  obtain⟨rfl,rfl⟩:=hb
  decide
 refine zh (β:=Nat) hlv (fun env0=>ab env0 9=.slice 0 0 (dig 1000000000 x).length none∧ab env0 10=.slice 1 0 (dig 1000000000 y).length none)
  (fun env0 env' mem' k=>ab env' 9=.slice k 0 (dig 1000000000 (x.gcd y)).length none∧bB .u64 mem' (.slice k 0 (dig 1000000000 (x.gcd y)).length none)=some (dig 1000000000 (x.gcd y))) ?_
 rintro env0 d ⟨h9,h10⟩
 have hn:az [9,10] (ad b) env0 ((9,.slice (gX x 0) 0 (dig 1000000000 x).length none)::(10,gY y 0)::env0)=az [9,10] (ad b) env0 env0:=by simp[az,h9,h10,gX,gY]
 rw[←hn]
 have hdx:(dig 1000000000 x).length≤1000000:=by have:=bY x;omega
 have hdy:(dig 1000000000 y).length≤1000000:=by have:=bY y;omega
 have hsz:∀a,a≤max x y→(dig 1000000000 a).length≤1000000:=by
  intro a ha
  by_cases hxy:x≤y
  ·have:=ov (B:=1000000000) (a:=a) (b:=y) (by omega) (by omega);omega
  ·have:=ov (B:=1000000000) (a:=a) (b:=x) (by omega) (by omega);omega
 refine uP (α:=Nat×Nat×Nat) (fun s=>⟨az [9,10] (ad b) env0 ((9,.slice (gX s.2.1 s.1) 0 (dig 1000000000 s.2.1).length none)::(10,gY s.2.2 s.1)::env0),gM (dig 1000000000 x) (dig 1000000000 y) s.2.1 s.2.2 s.1,d⟩)
  (fun s=>2*s.2.2+(if s.2.1<s.2.2 then 1 else 0)) (fun s=>gI x y s.2.1 s.2.2 s.1∧s.2.1.gcd s.2.2=x.gcd y∧s.2.1≤max x y∧s.2.2≤max x y) (.exit 2) d _ (by simp) ?_ K (0,x,y) ⟨⟨rfl,rfl⟩,rfl,Nat.le_max_left _ _,Nat.le_max_right _ _⟩ (by simp only;split<;>omega)
 rintro ⟨s,a,c⟩ ⟨hI,hg,ha,hc⟩
 simp only at hI hg ha hc ⊢
 rcases Aq (K:=K) x y hdx hdy hb env0 d s a c hI (hsz a ha) (hsz c hc) with⟨s',a',c',e',r1,r2,r3,r4,r5,r6,r7⟩ | ⟨env',r1,r2,r3⟩
 ·left
  exact⟨(s',a',c'),e',r1,r2,⟨r3,by rw[r4,hg],by simp only;omega,by simp only;omega⟩,r7⟩
 ·right
  refine⟨env',_,r1,gX a s,?_⟩
  subst r3
  rw[Nat.gcd_zero_right] at hg
  rw[←hg]
  refine⟨r2,?_⟩
  match s,hI with
  |0,hI=>obtain⟨rfl,_⟩:=hI;exact hs0 true _
  |1,hI=>obtain⟨rfl,_⟩:=hI;exact hs1 true _ _
  |2,hI=>obtain⟨rfl,_⟩:=hI;exact hs0 true _
  |3,hI=>obtain⟨rfl,_⟩:=hI;exact hs1 true _ _
  |4,hI=>obtain⟨rfl,_⟩:=hI;exact hs0 true _
  |5,hI=>obtain⟨rfl,_⟩:=hI;exact hs1 true _ _
  |6,hI=>exact hs2 true _ _ _
  |7,hI=>exact hs2 true _ _ _
  |s+8,hI=>exact absurd hI (by simp[gI])
theorem Ap{O:Oracle}{K:Nat}(n m:Int) (hK:m.natAbs<K) {b0 b:Code}(hb:aj Tryz.f109=[b0,b]):
  ∃F:Env→Bool→Env,∀env0 d,(ab env0 5=.int .i64 n∧ab env0 7=.int .i64 m)→
   aU (aO Tryz.prog) gH O K 56 0 true (.loop b0) ⟨env0,[],d⟩=some (.exit 0,⟨F env0 d,[],d⟩)∧(∃g:Int,ab (F env0 d) 5=.int .i64 g∧g.natAbs=n.natAbs.gcd m.natAbs):=by
 have hlv:gH b0=[5,7]:=by
  simp[aj,aM,Tryz.f109] at hb
  obtain⟨rfl,rfl⟩:=hb
  decide
 refine bp hlv (fun env0=>ab env0 5=.int .i64 n∧ab env0 7=.int .i64 m) (fun _ env' =>∃g:Int,ab env' 5=.int .i64 g∧g.natAbs=n.natAbs.gcd m.natAbs) ?_
 rintro env0 d ⟨h5,h7⟩
 have hn:az [5,7] (ad b0) env0 ((5,.int .i64 n)::(7,.int .i64 m)::env0)=az [5,7] (ad b0) env0 env0:=by simp[az,h5,h7]
 rw[←hn]
 refine bK (α:=Int×Int) (fun s=>⟨az [5,7] (ad b0) env0 ((5,.int .i64 s.1)::(7,.int .i64 s.2)::env0),[],d⟩) (fun s=>s.2.natAbs) (fun s=>s.1.natAbs.gcd s.2.natAbs=n.natAbs.gcd m.natAbs) (.exit 0) _ d _ (by simp) ?_ K (n,m) rfl hK
 rintro ⟨x,y⟩ hg
 simp only at hg ⊢
 simp[aj,aM,Tryz.f109] at hb
 obtain⟨rfl,rfl⟩:=hb
 by_cases hy:y=0
 ·right
  subst hy
  simp only[Int.natAbs_zero,Nat.gcd_zero_right] at hg
  simp[hg]
 ·left
  have hlt:(x.tmod y).natAbs<y.natAbs:=by
   rw[Int.natAbs_tmod]
   exact Nat.mod_lt _ (by omega)
  refine⟨(y,x.tmod y),?_⟩
  refine bC (show y.natAbs.gcd (x.tmod y).natAbs=n.natAbs.gcd m.natAbs∧_ from⟨by rw[Int.natAbs_tmod,←hg,Nat.gcd_comm x.natAbs,Nat.gcd_rec y.natAbs x.natAbs,Nat.gcd_comm],hlt⟩) ?_
  simp[hy]
set_option maxHeartbeats 1600000 in
theorem KI(a b:Int) (ha:(au a.natAbs).length≤100000) (hb:(au b.natAbs).length≤100000) (mem:Mem):
  ACallsTo Tryz.prog 109 [.str (bE a),.str (bE b)] mem (.str (au (a.natAbs.gcd b.natAbs))) mem:=by
 have hG:aN Tryz.prog 109=some Tryz.f109:=by kernel_rfl
 refine aq l8 (lv:=gH) (K:=2*b.natAbs+2) rfl rfl ?_ mem
 obtain⟨b0,b1,hb1⟩:∃b0 b1,aj Tryz.f109=[b0,b1]:=⟨_,_,rfl⟩
 have la:=cm a
 have lb:=cm b
 have la1:(bE a).length≤1000000000:=by omega
 have lb1:(bE b).length≤1000000000:=by omega
 by_cases hq:(bE a).length≤18∧(bE b).length≤18
 ·have q1:((bE a).length:Int)≤18:=by omega
  have q2:((bE b).length:Int)≤18:=by omega
  have s1:=gQ hq.1
  have s2:=gQ hq.2
  obtain⟨F,hF⟩:=Ap (O:=bJ) (K:=2*b.natAbs+2) a b (by omega) hb1
  obtain⟨G,hG2⟩:=OA (β:=Int) (p:=fun env0 _=>ab env0 5=.int .i64 a∧ab env0 7=.int .i64 b) (q:=fun env0 d g=>ab (F env0 d) 5=.int .i64 g∧g.natAbs=a.natAbs.gcd b.natAbs) (fun env0 d h=>(hF env0 d h).2)
  have hgl:a.natAbs.gcd b.natAbs<10 ^ 18:=by
   by_cases h0:a.natAbs=0
   ·rw[h0,Nat.gcd_zero_left];exact s2
   ·exact Nat.lt_of_le_of_lt (Nat.gcd_le_left _ (by omega)) s1
  obtain⟨g,hg⟩:∃g,g=a.natAbs.gcd b.natAbs:=⟨_,rfl⟩
  rw[←hg] at hgl hG2 ⊢
  have w1:∀z:Int,z.natAbs=g→IntKind.i64.wrap (-z)= -z:=fun z hz=>ag (by omega) (by omega)
  have w2:∀z:Int,z.natAbs=g→(if z< -z then -z else z)=(g:Int):=fun z hz=>by split<;>omega
  have hf:dD (g:Int)=true:=by unfold dD;simp;omega
  have hgs:bE (g:Int)=au g:=rfl
  simp[aj,aM,Tryz.f109] at hb1
  obtain⟨rfl,rfl⟩:=hb1
  simp[aa,hG,Tryz.f109,bJ,Oracle.or,ai,aF,aL,la1,lb1,q1,q2,hF,hG2,w1,w2,hf,hgs]
 ·have da:=bY a.natAbs
  have db:=bY b.natAbs
  have la2:(au a.natAbs).length≤1000000:=by omega
  have lb2:(au b.natAbs).length≤1000000:=by omega
  obtain⟨F,hF⟩:=Cd (K:=2*b.natAbs+2) a.natAbs b.natAbs la2 lb2 (by omega) hb1
  obtain⟨g,hg⟩:∃g,g=a.natAbs.gcd b.natAbs:=⟨_,rfl⟩
  have og:lok 1000000000 (dig 1000000000 g)=true:=ct (by omega) _
  have tg:bd (dig 1000000000 g)=dig 1000000000 g:=cE (by omega) _
  have vg:ay 1000000000 (dig 1000000000 g)=g:=bU (by omega) _
  have gg:(dig 1000000000 g).length≤1000000:=by
   have h1:=bY g
   by_cases h0:a.natAbs=0
   ·rw[h0,Nat.gcd_zero_left] at hg
    rw[hg] at h1 ⊢;omega
   ·have h2:=cv (show g≤a.natAbs by rw[hg];exact Nat.gcd_le_left _ (by omega))
    omega
  rw[←hg] at hF ⊢
  obtain⟨A,hA⟩:∃A,A=dig 1000000000 a.natAbs:=⟨_,rfl⟩
  obtain⟨B,hB⟩:∃B,B=dig 1000000000 b.natAbs:=⟨_,rfl⟩
  obtain⟨D,hD⟩:∃D,D=dig 1000000000 g:=⟨_,rfl⟩
  rw[←hA,←hB,←hD] at hF
  rw[←hD] at og tg vg gg
  simp[aj,aM,Tryz.f109] at hb1
  obtain⟨rfl,rfl⟩:=hb1
  by_cases q1:((bE a).length:Int)≤18
  ·have q2:¬((bE b).length:Int)≤18:=fun e=>hq (by omega)
   simp[aa,hG,Tryz.f109,bJ,Oracle.or,ai,aF,aH,ao,aL,la1,lb1,q1,q2,bH,la2,lb2,←hA,←hB,hF,bx,aG,og,tg,vg,gg,om]
  ·simp[aa,hG,Tryz.f109,bJ,Oracle.or,ai,aF,aH,ao,aL,la1,q1,bH,la2,lb2,←hA,←hB,hF,bx,aG,og,tg,vg,gg,om]
end Go.Proofs
