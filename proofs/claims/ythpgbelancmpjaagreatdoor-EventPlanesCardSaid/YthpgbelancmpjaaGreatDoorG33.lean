/- See G38. -/
import Derived.Test.YthpgbelancmpjaaGreatDoorG32
set_option linter.all false
namespace Go.Proofs
open Go.Eng
theorem xX(H I J y2 a b r u v:Rat):bD ((H+a)*r,(I+b)*r) ((J+a)*r,(y2+b)*r) ((u+a)*r,(v+b)*r)=r*r*((J-H)*(v-I)-(y2-I)*(u-H)):=by
 unfold bD
 grind
variable{x:Rat}
theorem ia{r:Rat}(hr:0<r)(h:0<=r*r*x):0<=x:=by
 have Z:=Rat.mul_pos hr hr;rcases (Rat.le_total:0<=x\/x<=0) with h1 | h1
 .exact h1
 .have:=Rat.mul_nonneg (show 0<=r*r by grind) (show 0<= -x by grind)
  have e:r*r*x=0:=by grind
  have:x=0:=by
   by_cases X:x=0
   .exact X
   .have:=Rat.mul_pos Z (show 0< -x by grind)
    grind
  grind
theorem LG{y s t:Rat}(hs:s≠0)(H:t≠0)(h:x*t=y*s):x / s=y / t:=by
 have d1:=QXg (a:=x) hs;have d2:=QXg (a:=y) H;obtain⟨u,Z⟩:=xE (x / s);obtain⟨v,X⟩:=xE (y / t);rw[<-Z] at d1 |-;rw[<-X] at d2 |-;rw[<-d1,<-d2] at h;have V:(u-v)*(s*t)=0:=by grind
 rcases Rat.mul_eq_zero.1 V with h | h
 .grind
 .rcases Rat.mul_eq_zero.1 h with h | h
  .exact absurd h hs
  .exact absurd h H
variable{f g h:Rat}
theorem EN{r:Rat}(hr:0<r){I J Y m1 m2 m3 f' g' h' :Rat}(hs:I+J+Y≠0)(ht:m1+m2+m3≠0)(H:(I*f+J*g+Y*h)*(m1+m2+m3)=(m1*f' +m2*g' +m3*h')*(I+J+Y)):
  mz (r*r*I,r*r*J,r*r*Y) f g h=mz (r*r*m1,r*r*m2,r*r*m3) f' g' h' :=by
 have Z:=Rat.mul_pos hr hr;have k:∀{x y z:Rat},x+y+z≠0->r*r*x+r*r*y+r*r*z≠0:=fun {x y z} h e=>by
  rcases Rat.mul_eq_zero.1 (show r*r*(x+y+z)=0 by grind) with h | h
  .grind
  .contradiction
 exact LG (k hs) (k ht) (by grind)
variable{q:P2}
theorem TM{A B C D:P2}{k:Rat}(h1:inQ (gZ A B C q))(h2:inQ (gZ B A D q))(hs:bD A B C≠0)(H:bD B A D≠0):mz (gZ A B C q) f g h=mz (gZ B A D q) g f k:=by
 have a:=cM.1 h1.2.2;have b:=cM.1 h2.2.2;rw[<-wH A B C q] at hs;rw[<-wH B A D q] at H;have e:bD B C q*bD A D q-bD C A q*bD D B q= -(bD A B q*bD C D q):=by unfold bD;grind
 have n:bD B A q= -bD A B q:=by unfold bD;grind
 unfold gZ at a b;simp only at a b;have z:bD A B q=0:=by grind
 rw[z] at n e hs;rw[n] at H;unfold mz gZ;simp only;rw[z,n];refine LG hs H ?_;clear hs H h1 h2 a b n;obtain⟨w1,Z⟩:=xE (bD B C q);obtain⟨w2,X⟩:=xE (bD C A q);obtain⟨S,V⟩:=xE (bD A D q);obtain⟨R,U⟩:=xE (bD D B q);rw[<-Z,<-X,<-V,<-U] at e |-;clear Z X V U z
 grind
def YP(t:Tr):List Tr:=[t,(t.2.1,t.2.2,t.1),(t.2.2,t.1,t.2.1)]
variable{t:Tr}
theorem WE{P:List P2}{a:Tr}(h:a∈YP t)(F:Nat->Rat):(inQ (qc P q t)↔inQ (qc P q a))/\mz (qc P q t) (F t.1) (F t.2.1) (F t.2.2)=mz (qc P q a) (F a.1) (F a.2.1) (F a.2.2)/\bD (P.getD t.1 (0,0)) (P.getD t.2.1 (0,0)) (P.getD t.2.2 (0,0))=bD (P.getD a.1 (0,0)) (P.getD a.2.1 (0,0)) (P.getD a.2.2 (0,0)):=by
 obtain⟨x,y,z⟩:=t;simp only[YP,lM] at h;have e:∀{a b c f g h:Rat},mz (a,b,c) f g h=mz (b,c,a) g h f:=fun {a b c f g h}=>by unfold mz;simp only;rw[show a*f+b*g+c*h=b*g+c*h+a*f by grind,show a+b+c=b+c+a by grind]
 rcases h with rfl | rfl | rfl
 .exact⟨Iff.rfl,rfl,rfl⟩
 .exact⟨⟨fun ⟨a,b,c⟩=>⟨b,c,a⟩,fun ⟨b,c,a⟩=>⟨a,b,c⟩⟩,e,by unfold bD;grind⟩
 .exact⟨⟨fun ⟨a,b,c⟩=>⟨c,a,b⟩,fun ⟨c,a,b⟩=>⟨a,b,c⟩⟩,e.trans e,by unfold bD;grind⟩
def XY(t u:Tr):Bool:=(YP t).any fun a=>(YP u).any fun b=>a.1==b.2.1&&a.2.1==b.1
section
variable {a b r u v:Rat}(hr:0<r)(F:Nat->Rat)
include hr
theorem Lu(h:inQ (gZ ((0+a)*r,(0+b)*r) ((4+a)*r,(0+b)*r) ((2+a)*r,(1+b)*r) ((u+a)*r,(v+b)*r)))(h' :inQ (gZ ((4+a)*r,(4+b)*r) ((0+a)*r,(4+b)*r) ((2+a)*r,(1+b)*r) ((u+a)*r,(v+b)*r))):mz (gZ ((0+a)*r,(0+b)*r) ((4+a)*r,(0+b)*r) ((2+a)*r,(1+b)*r) ((u+a)*r,(v+b)*r)) (F 0) (F 1) (F 4)=mz (gZ ((4+a)*r,(4+b)*r) ((0+a)*r,(4+b)*r) ((2+a)*r,(1+b)*r) ((u+a)*r,(v+b)*r)) (F 2) (F 3) (F 4):=by
 unfold gZ inQ at*;simp only[xX] at*;obtain⟨Z,X,h3⟩:=h;obtain⟨V,U,S⟩:=h';replace Z:=ia hr (cM.1 Z);replace X:=ia hr (cM.1 X);replace h3:=ia hr (cM.1 h3);replace V:=ia hr (cM.1 V);replace U:=ia hr (cM.1 U);replace S:=ia hr (cM.1 S);refine EN hr (by grind) (by grind) ?_;clear hr;have R:u=2:=by grind
 have O:v=1:=by grind
 subst R O
 grind
theorem Lv(h:inQ (gZ ((4+a)*r,(0+b)*r) ((4+a)*r,(4+b)*r) ((2+a)*r,(1+b)*r) ((u+a)*r,(v+b)*r)))(h' :inQ (gZ ((0+a)*r,(4+b)*r) ((0+a)*r,(0+b)*r) ((2+a)*r,(1+b)*r) ((u+a)*r,(v+b)*r))):mz (gZ ((4+a)*r,(0+b)*r) ((4+a)*r,(4+b)*r) ((2+a)*r,(1+b)*r) ((u+a)*r,(v+b)*r)) (F 1) (F 2) (F 4)=mz (gZ ((0+a)*r,(4+b)*r) ((0+a)*r,(0+b)*r) ((2+a)*r,(1+b)*r) ((u+a)*r,(v+b)*r)) (F 3) (F 0) (F 4):=by
 unfold gZ inQ at*;simp only[xX] at*;obtain⟨Z,X,h3⟩:=h;obtain⟨V,U,S⟩:=h';replace Z:=ia hr (cM.1 Z);replace X:=ia hr (cM.1 X);replace h3:=ia hr (cM.1 h3);replace V:=ia hr (cM.1 V);replace U:=ia hr (cM.1 U);replace S:=ia hr (cM.1 S);refine EN hr (by grind) (by grind) ?_;clear hr;have R:u=2:=by grind
 have O:v=1:=by grind
 subst R O
 grind
theorem Lw(h:inQ (gZ ((0+a)*r,(0+b)*r) ((2+a)*r,(0+b)*r) ((2+a)*r,(2+b)*r) ((u+a)*r,(v+b)*r)))(h' :inQ (gZ ((2+a)*r,(0+b)*r) ((4+a)*r,(0+b)*r) ((4+a)*r,(2+b)*r) ((u+a)*r,(v+b)*r))):mz (gZ ((0+a)*r,(0+b)*r) ((2+a)*r,(0+b)*r) ((2+a)*r,(2+b)*r) ((u+a)*r,(v+b)*r)) (F 0) (F 1) (F 4)=mz (gZ ((2+a)*r,(0+b)*r) ((4+a)*r,(0+b)*r) ((4+a)*r,(2+b)*r) ((u+a)*r,(v+b)*r)) (F 1) (F 2) (F 5):=by
 unfold gZ inQ at*;simp only[xX] at*;obtain⟨Z,X,h3⟩:=h;obtain⟨V,U,S⟩:=h';replace Z:=ia hr (cM.1 Z);replace X:=ia hr (cM.1 X);replace h3:=ia hr (cM.1 h3);replace V:=ia hr (cM.1 V);replace U:=ia hr (cM.1 U);replace S:=ia hr (cM.1 S);refine EN hr (by grind) (by grind) ?_;clear hr;have R:u=2:=by grind
 have O:v=0:=by grind
 subst R O
 grind
theorem Lx(h:inQ (gZ ((0+a)*r,(0+b)*r) ((2+a)*r,(2+b)*r) ((0+a)*r,(2+b)*r) ((u+a)*r,(v+b)*r)))(h' :inQ (gZ ((2+a)*r,(0+b)*r) ((4+a)*r,(0+b)*r) ((4+a)*r,(2+b)*r) ((u+a)*r,(v+b)*r))):mz (gZ ((0+a)*r,(0+b)*r) ((2+a)*r,(2+b)*r) ((0+a)*r,(2+b)*r) ((u+a)*r,(v+b)*r)) (F 0) (F 4) (F 3)=mz (gZ ((2+a)*r,(0+b)*r) ((4+a)*r,(0+b)*r) ((4+a)*r,(2+b)*r) ((u+a)*r,(v+b)*r)) (F 1) (F 2) (F 5):=by unfold gZ inQ at*;simp only[xX] at*;obtain⟨Z,X,h3⟩:=h;obtain⟨V,U,S⟩:=h';replace Z:=ia hr (cM.1 Z);replace X:=ia hr (cM.1 X);replace h3:=ia hr (cM.1 h3);replace V:=ia hr (cM.1 V);replace U:=ia hr (cM.1 U);replace S:=ia hr (cM.1 S);refine EN hr (by grind) (by grind) ?_;clear hr;exfalso;grind
theorem Ly(h:inQ (gZ ((0+a)*r,(0+b)*r) ((2+a)*r,(2+b)*r) ((0+a)*r,(2+b)*r) ((u+a)*r,(v+b)*r)))(h' :inQ (gZ ((2+a)*r,(0+b)*r) ((4+a)*r,(2+b)*r) ((2+a)*r,(2+b)*r) ((u+a)*r,(v+b)*r))):mz (gZ ((0+a)*r,(0+b)*r) ((2+a)*r,(2+b)*r) ((0+a)*r,(2+b)*r) ((u+a)*r,(v+b)*r)) (F 0) (F 4) (F 3)=mz (gZ ((2+a)*r,(0+b)*r) ((4+a)*r,(2+b)*r) ((2+a)*r,(2+b)*r) ((u+a)*r,(v+b)*r)) (F 1) (F 5) (F 4):=by
 unfold gZ inQ at*;simp only[xX] at*;obtain⟨Z,X,h3⟩:=h;obtain⟨V,U,S⟩:=h';replace Z:=ia hr (cM.1 Z);replace X:=ia hr (cM.1 X);replace h3:=ia hr (cM.1 h3);replace V:=ia hr (cM.1 V);replace U:=ia hr (cM.1 U);replace S:=ia hr (cM.1 S);refine EN hr (by grind) (by grind) ?_;clear hr;have R:u=2:=by grind
 have O:v=2:=by grind
 subst R O
 grind
theorem Lz(h:inQ (gZ ((0+a)*r,(0+b)*r) ((2+a)*r,(0+b)*r) ((0+a)*r,(4+b)*r) ((u+a)*r,(v+b)*r)))(h' :inQ (gZ ((2+a)*r,(0+b)*r) ((4+a)*r,(0+b)*r) ((4+a)*r,(4+b)*r) ((u+a)*r,(v+b)*r))):mz (gZ ((0+a)*r,(0+b)*r) ((2+a)*r,(0+b)*r) ((0+a)*r,(4+b)*r) ((u+a)*r,(v+b)*r)) (F 0) (F 4) (F 3)=mz (gZ ((2+a)*r,(0+b)*r) ((4+a)*r,(0+b)*r) ((4+a)*r,(4+b)*r) ((u+a)*r,(v+b)*r)) (F 4) (F 1) (F 2):=by
 unfold gZ inQ at*;simp only[xX] at*;obtain⟨Z,X,h3⟩:=h;obtain⟨V,U,S⟩:=h';replace Z:=ia hr (cM.1 Z);replace X:=ia hr (cM.1 X);replace h3:=ia hr (cM.1 h3);replace V:=ia hr (cM.1 V);replace U:=ia hr (cM.1 U);replace S:=ia hr (cM.1 S);refine EN hr (by grind) (by grind) ?_;clear hr;have R:u=2:=by grind
 have O:v=0:=by grind
 subst R O
 grind
end
theorem Y3(s:afv):∃a b r:Rat,0<r/\∀x y:Int,s.pt 1 x y=(((x:Rat)+a)*r,((y:Rat)+b)*r):=by
 refine⟨(s.sx.tmod 8:Int),(s.sy.tmod 8:Int),mkRat 1 (if s.half then 2 else 1),by cases s.half<;>decide +kernel,fun x y=>?_⟩;have Z:∀(n:Int) (d:Nat),mkRat n d=(n:Rat)*mkRat 1 d:=fun n d=>by rw[Rat.mkRat_eq_div,Rat.mkRat_eq_div,Rat.div_def,Rat.div_def,show((1:Int):Rat)=1 from rfl,Rat.one_mul]
 unfold afv.pt;simp only[Nat.mul_one,show((1:Nat):Int)=1 from rfl,Int.mul_one];rw[Z (x+_),Z (y+_),Rat.intCast_add,Rat.intCast_add]
def YT:List (Nat×Tr×Tr):=[(2,(0,1,4),(2,3,4)),(2,(1,2,4),(3,0,4)),(4,(0,1,4),(1,2,5)),(4,(0,4,3),(1,2,5)),(4,(0,4,3),(1,5,4)),(6,(0,4,3),(4,1,2))]
theorem VO(s:afv){i j:Nat}{H :Tr}(I:s.T[i]? =some t)(J:s.T[j]? =some H)(h:inQ (qc s.P q t))(h' :inQ (qc s.P q H))(F:Nat->Rat):mz (qc s.P q t) (F t.1) (F t.2.1) (F t.2.2)=mz (qc s.P q H) (F H.1) (F H.2.1) (F H.2.2):=by
 have U:((List.range 8).all fun k=>(bY k).all fun t=>(bY k).all fun u=>t==u||XY t u||YT.contains (k,t,u)||YT.contains (k,u,t))=true:=by decide
 have S:∀{i:Nat}{t:Tr},s.T[i]? =some t->bD (s.P.getD t.1 (0,0)) (s.P.getD t.2.1 (0,0)) (s.P.getD t.2.2 (0,0))≠0:=fun h=>by
  obtain⟨A,B,C,L,K,h3,h4⟩:=sF s h;simp only[List.getD,L,K,h3,Option.getD_some]
  grind
 have c:=List.all_eq_true.1 (List.all_eq_true.1 (List.all_eq_true.1 U (s.kind%8) (List.mem_range.2 (Nat.mod_lt _ (by decide)))) t (J1 I)) H (J1 J);simp only[QXa,beq_iff_eq] at c;rcases c with ((c | c) | c) | c
 .rw[c]
 .unfold XY at c
  obtain⟨a,G,c⟩:=List.any_eq_true.1 c;obtain⟨b,o,c⟩:=List.any_eq_true.1 c;simp only[Es,beq_iff_eq] at c;obtain⟨r1,r2,m⟩:=WE (P:=s.P) (q:=q) G F;obtain⟨Y,s2,s3⟩:=WE (P:=s.P) (q:=q) o F;obtain⟨x,y,z⟩:=a;obtain⟨x',y',z'⟩:=b;simp only at c;obtain⟨rfl,rfl⟩:=c;rw[r2,s2];exact TM (r1.1 h) (Y.1 h') (by have:=S I;rw[m] at this;exact this) (by have:=S J;rw[s3] at this;exact this)
 all_goals
  have hT:s.T=bY (s.kind%8):=rfl;obtain⟨a,b,r,Z,V⟩:=Y3 s;have R:r≠0:=by grind
  obtain⟨u,O⟩:∃u,q.1=(u+a)*r:=⟨q.1 / r-a,by
   have:=QXg (a:=q.1) R
   grind⟩
  obtain⟨v,N⟩:∃u,q.2=(u+b)*r:=⟨q.2 / r-b,by
   have:=QXg (a:=q.2) R
   grind⟩
  obtain⟨x,y⟩:=q;simp only at O N;subst O N;have M:s.P=(ef (s.kind%8)).map fun p=>(((p.1:Rat)+a)*r,((p.2:Rat)+b)*r):=by unfold afv.P;simp only[V]
  rw[M] at h h' |-;clear hT M V R S I J;simp only[YT,List.contains_iff_mem,lM,Prod.mk.injEq] at c;rcases c with⟨X,rfl,rfl⟩ | ⟨X,rfl,rfl⟩ | ⟨X,rfl,rfl⟩ | ⟨X,rfl,rfl⟩ | ⟨X,rfl,rfl⟩ | ⟨X,rfl,rfl⟩<;>rw[X] at h h' |-
 .exact Lu Z F h h'
 .exact Lv Z F h h'
 .exact Lw Z F h h'
 .exact Lx Z F h h'
 .exact Ly Z F h h'
 .exact Lz Z F h h'
 .exact(Lu Z F h' h).symm
 .exact(Lv Z F h' h).symm
 .exact(Lw Z F h' h).symm
 .exact(Lx Z F h' h).symm
 .exact(Ly Z F h' h).symm
 .exact(Lz Z F h' h).symm
end Go.Proofs
