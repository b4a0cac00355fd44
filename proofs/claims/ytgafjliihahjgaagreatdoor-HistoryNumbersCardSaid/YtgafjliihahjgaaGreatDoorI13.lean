/- See I36. -/
import Derived.Test.YtgafjliihahjgaaGreatDoorI12
set_option linter.all false
namespace Go.Eng
def Pq(w x:Nat):List UInt8:=List.replicate (w-(az x).length) 48++az x
theorem Tf(k:Nat)(r:List UInt8):wK 0 (List.replicate k 48++r)=wK 0 r:=by
 induction k with
 |zero=>rfl
 |succ k ih=>
  rw[List.replicate_succ,List.cons_append,fq];exact ih
theorem VS(w x:Nat):iU (Pq w x)=x:=by unfold Pq iU;rw[Tf];exact fm x
theorem Xl(w x:Nat):(Pq w x).all isD=true:=by unfold Pq;rw[List.all_append,ff,Bool.and_true,List.all_eq_true];intro c hc;rw[(List.mem_replicate.1 hc).2];rfl
variable{w x:Nat}
theorem Pr(y:0<w)(hx:x<10 ^ w):(Pq w x).length=w:=by have:=aV y hx;unfold Pq;simp only[Nm,QXa];omega
variable{v:Nat}
theorem HK(y:0<v){t:List UInt8}(H:t.all isD=true):jW (az v++t)=true:=by
 have Z:=ff v;have X:=kI v;have h3:=DH v y;cases hl:az v with
 |nil=>exact absurd hl X
 |cons c r=>
  rw[hl] at Z h3;simp only[QQK,Es] at Z;simp only[List.head?_cons,ne_eq,N3] at h3;simp only[List.cons_append,jW,List.all_append,Z.1,Z.2,H];simp[h3]
theorem Qo(y:0<w)(hx:x<10 ^ w)(H:0<v):az (x+10 ^ w*v)=az v++Pq w x:=by have h:=xU (HK H (Xl w x));rw[D8,fm,VS,Pr y hx] at h;rw[<-h,V1,QXJ]
variable{B j:Nat}
theorem xO{l:List Nat}{d:Nat}(h:l[j]? =some d):aG B (l.drop j)=d+B*aG B (l.drop (j+1)):=by have Z:=(N4.1 h);obtain⟨Z,rfl⟩:=Z;rw[N2 Z];rfl
theorem xP{n:Nat}(y:2<=B)(H:j<(dig B n).length):0<aG B ((dig B n).drop j):=by
 rcases QQY (aG B ((dig B n).drop j)) with h | h
 .exfalso
  have X:=gP y (ma (dI y n) j);rw[h,fz] at X;have W:bB (dig B n)=(dig B n):=ed y n;have h3:=ud B (l:=dig B n) (n:=j) (by omega);rw[h,Nat.mul_zero,Nat.add_zero,cY y] at h3;have Z:=jJ (kU (dI y n) j);rw[<-h3,P3,Nat.min_eq_left (by omega)] at Z;have V:=gO y Z;omega
 .exact h
end Go.Eng
namespace Go.Proofs
open Go.Eng
open Tryz
def RA(e:Nat)(t:List UInt8):Mem:=List.replicate e .HS++[.cells true 6001 (iB t)]
theorem kZ(e:Nat)(t:List UInt8):(RA e t).length=e+1:=by simp[RA]
theorem Tn(e:Nat)(t:List UInt8)(h:e<(RA e t).length):(RA e t)[e]=.cells true 6001 (iB t):=by simp[RA]
theorem To(e:Nat)(t s:List UInt8):(RA e t).set e .HS++[.cells true 6001 (iB s)]=RA (e+1) s:=by simp[RA,List.replicate_succ']
variable{k:Nat}
theorem Gu(h:k<=9):(([48,48,48,48,48,48,48,48,48]:List UInt8).drop k).take (9-k)=List.replicate (9-k) 48:=by
 have:k=0\/k=1\/k=2\/k=3\/k=4\/k=5\/k=6\/k=7\/k=8\/k=9:=by omega
 rcases this with rfl | rfl | rfl | rfl | rfl | rfl | rfl | rfl | rfl | rfl<;>rfl
noncomputable def lS:af3:=(af bw).or gW
theorem pE:adM prog lS:=Cz.or zu
variable{J' body:Code}{ps:Array Tmp}
section
variable (A0:af6)(mn:Bool)(n:Nat)(bc:af6)(z':Env)(h1:ad z' 1=.ptr 1 0)(h3:ad z' 3=.ptr 2 0)(hb:dD f149=[(ps,J',body)])
include A0 mn n bc z' h1 h3 hb
theorem AF(j x e:Nat)(t:List UInt8)(y:j+1<n)(H:n<=1000000)(hx:x<1000000000)(I:t.length<=90000000):
  gV prog 4 [.int .i64 (j:Int),.int .u64 (x:Int)] (A0::.cells true 0 [.bool mn,.slice 0 0 n none]::.cells true aK [.ptr 2 0,.slice (e+5) 0 t.length none]::bc::.loop ⟨.ready,none,z',34,ps,J',body⟩::RA e t) (.bool true)
   (A0::.cells true 0 [.bool mn,.slice 0 0 n none]::.cells true aK [.ptr 2 0,.slice (e+2+5) 0 (t++Pq 9 x).length none]::bc::.loop ⟨.ready,none,z',34,ps,J',body⟩::RA (e+2) (t++Pq 9 x)):=by
 have V:cQ J'=true/\cQ body=true/\ps= #[17,18]:=by simp[dD,fP,f149] at hb;obtain⟨rfl,rfl,rfl⟩:=hb;exact⟨by decide,by decide,rfl⟩
 obtain⟨Z,X,rfl⟩:=V;obtain⟨k,W⟩:=xE ((az x).length);obtain⟨d,S⟩:=xE (az x);have O:k<=9:=by rw[W];exact aV (by omega) hx
 have D:Pq 9 x=List.replicate (9-k) 48++d:=by rw[W,S];rfl
 have C:=Gu O;have w1:IntKind.i64.wrap ((n:Int)-1)=(n:Int)-1:=ai;have M:(j:Int)<(n:Int)-1:=by omega
 have K:(x:Int)<=18446744073709551615:=by omega
 have J:(k:Int)<=9:=by omega
 have G:t.length+(9-k)<=100000000:=by omega
 have F:t.length+(9-k)+k<=100000000:=by omega
 rw[<-S] at W;rw[D];have hc:fZ (aU prog) (fun _=>[]) lS 1 4 [.int .i64 (j:Int),.int .u64 (x:Int)] (A0::.cells true 0 [.bool mn,.slice 0 0 n none]::.cells true aK [.ptr 2 0,.slice (e+5) 0 t.length none]::bc::.loop ⟨.ready,none,z',34,#[17,18],J',body⟩::RA e t)=
  some (.bool true,A0::.cells true 0 [.bool mn,.slice 0 0 n none]::.cells true aK [.ptr 2 0,.slice (e+2+5) 0 (t++(List.replicate (9-k) 48++d)).length none]::bc::.loop ⟨.ready,none,z',34,#[17,18],J',body⟩::RA (e+2) (t++(List.replicate (9-k) 48++d))):=by
  simp[fZ,Z,X];simp[dD,fP,f149] at hb;obtain⟨rfl,rfl⟩:=hb;clear Z X;simp[h1,h3,w1,M,K,J,C,<-S,<-W,lS,af3.or,af,bw,gW,qJ,lD,kZ,Tn,To,ar,lz,G,F];omega
 exact ia ae (al _) pE hc
theorem yD(j x e:Nat)(t:List UInt8)(y:j+1<n)(H:n<=1000000)(hx:x<1000000000)(I:t.length<=90000000):
  gV prog 6 [.int .i64 (j:Int),.int .u64 (x:Int)] (A0::.cells true 0 [.bool mn,.slice 0 0 n none]::.cells true aK [.ptr 2 0,.slice (e+7) 0 t.length none]::.cells true 1 (iB [45])::.HS::bc::.loop ⟨.ready,none,z',34,ps,J',body⟩::RA e t) (.bool true)
   (A0::.cells true 0 [.bool mn,.slice 0 0 n none]::.cells true aK [.ptr 2 0,.slice (e+2+7) 0 (t++Pq 9 x).length none]::.cells true 1 (iB [45])::.HS::bc::.loop ⟨.ready,none,z',34,ps,J',body⟩::RA (e+2) (t++Pq 9 x)):=by
 have V:cQ J'=true/\cQ body=true/\ps= #[17,18]:=by simp[dD,fP,f149] at hb;obtain⟨rfl,rfl,rfl⟩:=hb;exact⟨by decide,by decide,rfl⟩
 obtain⟨Z,X,rfl⟩:=V;obtain⟨k,W⟩:=xE ((az x).length);obtain⟨d,S⟩:=xE (az x);have O:k<=9:=by rw[W];exact aV (by omega) hx
 have D:Pq 9 x=List.replicate (9-k) 48++d:=by rw[W,S];rfl
 have C:=Gu O;have w1:IntKind.i64.wrap ((n:Int)-1)=(n:Int)-1:=ai;have M:(j:Int)<(n:Int)-1:=by omega
 have K:(x:Int)<=18446744073709551615:=by omega
 have J:(k:Int)<=9:=by omega
 have G:t.length+(9-k)<=100000000:=by omega
 have F:t.length+(9-k)+k<=100000000:=by omega
 rw[<-S] at W;rw[D];have hc:fZ (aU prog) (fun _=>[]) lS 1 6 [.int .i64 (j:Int),.int .u64 (x:Int)] (A0::.cells true 0 [.bool mn,.slice 0 0 n none]::.cells true aK [.ptr 2 0,.slice (e+7) 0 t.length none]::.cells true 1 (iB [45])::.HS::bc::.loop ⟨.ready,none,z',34,#[17,18],J',body⟩::RA e t)=
  some (.bool true,A0::.cells true 0 [.bool mn,.slice 0 0 n none]::.cells true aK [.ptr 2 0,.slice (e+2+7) 0 (t++(List.replicate (9-k) 48++d)).length none]::.cells true 1 (iB [45])::.HS::bc::.loop ⟨.ready,none,z',34,#[17,18],J',body⟩::RA (e+2) (t++(List.replicate (9-k) 48++d))):=by
  simp[fZ,Z,X];simp[dD,fP,f149] at hb;obtain⟨rfl,rfl⟩:=hb;clear Z X;simp[h1,h3,w1,M,K,J,C,<-S,<-W,lS,af3.or,af,bw,gW,qJ,lD,kZ,Tn,To,ar,lz,G,F];omega
 exact ia ae (al _) pE hc
theorem AE(j x:Nat)(y:j+1=n)(H:n<=1000000)(hx:x<1000000000):
  gV prog 4 [.int .i64 (j:Int),.int .u64 (x:Int)] (A0::.cells true 0 [.bool mn,.slice 0 0 n none]::.cells true aK [.agk,.y9]::bc::[.loop ⟨.ready,none,z',34,ps,J',body⟩]) (.bool true)
   (A0::.cells true 0 [.bool mn,.slice 0 0 n none]::.cells true aK [.ptr 2 0,.slice (0+5) 0 (az x).length none]::bc::.loop ⟨.ready,none,z',34,ps,J',body⟩::RA 0 (az x)):=by
 have V:cQ J'=true/\cQ body=true/\ps= #[17,18]:=by simp[dD,fP,f149] at hb;obtain⟨rfl,rfl,rfl⟩:=hb;exact⟨by decide,by decide,rfl⟩
 obtain⟨Z,X,rfl⟩:=V;obtain⟨d,W⟩:=xE (az x);have J:d.length<=9:=by rw[W];exact aV (by omega) hx
 have S:d≠[]:=by rw[W];exact kI x
 have w1:IntKind.i64.wrap ((n:Int)-1)=(n:Int)-1:=ai;have O:¬(j:Int)<(n:Int)-1:=by omega
 have M:(x:Int)<=18446744073709551615:=by omega
 have K:d.length<=100000000:=by omega
 have G:1+d.length<=100000000:=by omega
 have F:jV (iB [45])=some [45]:=lz _;rw[<-W];have hc:fZ (aU prog) (fun _=>[]) lS 1 4 [.int .i64 (j:Int),.int .u64 (x:Int)] (A0::.cells true 0 [.bool mn,.slice 0 0 n none]::.cells true aK [.agk,.y9]::bc::[.loop ⟨.ready,none,z',34,#[17,18],J',body⟩])=
  some (.bool true,A0::.cells true 0 [.bool mn,.slice 0 0 n none]::.cells true aK [.ptr 2 0,.slice (0+5) 0 (d).length none]::bc::.loop ⟨.ready,none,z',34,#[17,18],J',body⟩::[.cells true 6001 (iB (d))]):=by
  simp[fZ,Z,X];simp[dD,fP,f149] at hb;obtain⟨rfl,rfl⟩:=hb;clear Z X;simp[h1,h3,w1,O,M,<-W,lS,af3.or,af,bw,gW,qJ,lD,ar,K,S];try omega
 exact ia ae (al _) pE hc
theorem yC(j x:Nat)(y:j+1=n)(H:n<=1000000)(hx:x<1000000000):
  gV prog 6 [.int .i64 (j:Int),.int .u64 (x:Int)] (A0::.cells true 0 [.bool mn,.slice 0 0 n none]::.cells true aK [.ptr 2 0,.slice 4 0 1 none]::.cells true 1 (iB [45])::.cells true 6001 (iB [45])::bc::[.loop ⟨.ready,none,z',34,ps,J',body⟩]) (.bool true)
   (A0::.cells true 0 [.bool mn,.slice 0 0 n none]::.cells true aK [.ptr 2 0,.slice (0+7) 0 (45::az x).length none]::.cells true 1 (iB [45])::.HS::bc::.loop ⟨.ready,none,z',34,ps,J',body⟩::RA 0 (45::az x)):=by
 have V:cQ J'=true/\cQ body=true/\ps= #[17,18]:=by simp[dD,fP,f149] at hb;obtain⟨rfl,rfl,rfl⟩:=hb;exact⟨by decide,by decide,rfl⟩
 obtain⟨Z,X,rfl⟩:=V;obtain⟨d,W⟩:=xE (az x);have J:d.length<=9:=by rw[W];exact aV (by omega) hx
 have G:d≠[]:=by rw[W];exact kI x
 have w1:IntKind.i64.wrap ((n:Int)-1)=(n:Int)-1:=ai;have S:¬(j:Int)<(n:Int)-1:=by omega
 have O:(x:Int)<=18446744073709551615:=by omega
 have F:d.length<=100000000:=by omega
 have M:1+d.length<=100000000:=by omega
 have K:jV (iB [45])=some [45]:=lz _;rw[<-W];have hc:fZ (aU prog) (fun _=>[]) lS 1 6 [.int .i64 (j:Int),.int .u64 (x:Int)] (A0::.cells true 0 [.bool mn,.slice 0 0 n none]::.cells true aK [.ptr 2 0,.slice 4 0 1 none]::.cells true 1 (iB [45])::.cells true 6001 (iB [45])::bc::[.loop ⟨.ready,none,z',34,#[17,18],J',body⟩])=
  some (.bool true,A0::.cells true 0 [.bool mn,.slice 0 0 n none]::.cells true aK [.ptr 2 0,.slice (0+7) 0 (45::d).length none]::.cells true 1 (iB [45])::.HS::bc::.loop ⟨.ready,none,z',34,#[17,18],J',body⟩::[.cells true 6001 (iB (45::d))]):=by
  simp[fZ,Z,X];simp[dD,fP,f149] at hb;obtain⟨rfl,rfl⟩:=hb;clear Z X;simp[h1,h3,w1,S,O,<-W,lS,af3.or,af,bw,gW,qJ,lD,ar,M,K];try omega
 exact ia ae (al _) pE hc
end
theorem Mt{l:List Nat}{j:Nat}(h:j+1=l.length):l.drop (j+1)=[]:=Mp (by omega)
theorem M7{m:Nat}{mem:Mem}{s:af6}(h:mem[k]? =some s)(hr:s.refs m=[]):pg m mem 1000 [k] []=[k]:=by
 have:mem.getD k .HS=s:=by simp[List.getD,h]
 unfold pg;rw[this,hr];simp only[List.contains_nil,Bool.false_eq_true,if_false,List.nil_append,List.append_nil];rfl
def pD(A:List Nat)(mn:Bool)(y:af6)(j:Nat):Mem:=
 if j=A.length then .cells false 1 (iN .u64 A)::.cells true 0 [.bool mn,.slice 0 0 A.length none]::.cells true aK [.agk,.y9]::.cells true 0 [.slice 0 0 A.length none]::[y]
 else .cells false 1 (iN .u64 A)::.cells true 0 [.bool mn,.slice 0 0 A.length none]::.cells true aK [.ptr 2 0,.slice (2*(A.length-1-j)+5) 0 (az (aG 1000000000 (A.drop j))).length none]::.cells true 0 [.slice 0 0 A.length none]::y::RA (2*(A.length-1-j)) (az (aG 1000000000 (A.drop j)))
theorem AG(v:Nat)(mn:Bool)(hv:0<v)(H:(dig 1000000000 v).length<=1000000)(I:dD f149=[(ps,J',body)])(y:Env)(h1:ad y 1=.ptr 1 0)(h3:ad y 3=.ptr 2 0)(he:y.flatMap (fun e=>e.2.refs 5)=[]):
  kO prog 265 [.yield 4,.ptr 3 0] [.cells false 1 (iN .u64 (dig 1000000000 v)),.cells true 0 [.bool mn,.slice 0 0 (dig 1000000000 v).length none],.cells true aK [.agk,.y9],.cells true 0 [.slice 0 0 (dig 1000000000 v).length none],.loop ⟨.ready,none,y,34,ps,J',body⟩] (.tuple [])
   [.cells false 1 (iN .u64 (dig 1000000000 v)),.cells true 0 [.bool mn,.slice 0 0 (dig 1000000000 v).length none],.cells true aK [.ptr 2 0,.slice 5 0 (az v).length none],.cells true 0 [.slice 0 0 (dig 1000000000 v).length none],.loop ⟨.ready,none,y,34,ps,J',body⟩,.cells true 6001 (iB (az v))]:=by
 obtain⟨A,F⟩:=xE (dig 1000000000 v);have D:lok 1000000000 A=true:=by rw[F];exact dI (by omega) v
 have M:aG 1000000000 A=v:=by rw[F];exact cY (by omega) v
 have C:∀j,j<A.length->0<aG 1000000000 (A.drop j):=fun j W=>by rw[F] at W |-;exact xP (by omega) W
 rw[<-F] at H |-;have hn:0<A.length:=by
  rcases QQY A.length with h | h
  .rw[M0 h] at M;simp[aG] at M;omega
  .exact h
 clear F;obtain⟨S,O⟩:=xE (af6.loop ⟨.ready,none,y,34,ps,J',body⟩);have u:af6.refs 5 S=[]:=by rw[O];exact xZ he
 have m:∀Q,af6.ren (rho 5 Q) S=S:=fun Q=>by rw[O];exact Qx he
 have K:pD A mn S 0=.cells false 1 (iN .u64 A)::.cells true 0 [.bool mn,.slice 0 0 A.length none]::.cells true aK [.ptr 2 0,.slice (2*(A.length-1)+5) 0 (az v).length none]::.cells true 0 [.slice 0 0 A.length none]::S::RA (2*(A.length-1)) (az v):=by unfold pD;rw[if_neg (by omega),List.drop_zero,M,QXX]
 have V:pD A mn S A.length=[.cells false 1 (iN .u64 A),.cells true 0 [.bool mn,.slice 0 0 A.length none],.cells true aK [.agk,.y9],.cells true 0 [.slice 0 0 A.length none],S]:=by unfold pD;rw[if_pos rfl]
 have X:∀j,j<A.length->pD A mn S j=.cells false 1 (iN .u64 A)::.cells true 0 [.bool mn,.slice 0 0 A.length none]::.cells true aK [.ptr 2 0,.slice (2*(A.length-1-j)+5) 0 (az (aG 1000000000 (A.drop j))).length none]::.cells true 0 [.slice 0 0 A.length none]::S::RA (2*(A.length-1-j)) (az (aG 1000000000 (A.drop j))):=fun j W=>by unfold pD;rw[if_neg (by omega)]
 have J:=uG (n:=A.length) (A:=A) rfl hn (by omega) 3 0 4 5 0 true false (pD A mn S) (by rw[V];rfl)
  (fun j W=>by
   rw[X j W];by_cases Z:j+1=A.length
   .rw[Z,V];simp[kZ]
   .rw[X (j+1) (by omega)];simp[kZ];omega)
  (fun j W=>by
   by_cases Z:j=A.length
   .rw[Z,V];rfl
   .rw[X j (by omega)];rfl)
  (fun j W=>by
   by_cases Z:j=A.length
   .rw[Z,V];rfl
   .rw[X j (by omega)];rfl)
  (fun j W=>by
   rw[X j W];have B:∀e,¬e+5<5:=fun e=>by omega
   simp[B])
  (fun j W=>by
   obtain⟨x,z,hx'⟩:=fe W;have hg:A.getD j 0=x:=by simp[List.getD,z]
   have G:=im D z;rw[hg];by_cases Z:j+1=A.length
   .rw[Z,V,X j W]
    have Y:A.length-1-j=0:=by omega
    have R:aG 1000000000 (A.drop j)=x:=by rw[xO z,Mt Z];simp[aG]
    rw[Y,R,O];exact AE _ mn A.length _ y h1 h3 I j x Z H G
   .rw[X j W,X (j+1) (by omega)]
    have Y:2*(A.length-1-j)=2*(A.length-1-(j+1))+2:=by omega
    have R:az (aG 1000000000 (A.drop j))=az (aG 1000000000 (A.drop (j+1)))++Pq 9 x:=by rw[xO z];exact Qo (w:=9) (by omega) G (C (j+1) (by omega))
    have e3:(az (aG 1000000000 (A.drop (j+1)))).length<=89000000:=by
     have h1:=jJ (ma D (j+1));have h2:(1000000000:Nat) ^ (A.drop (j+1)).length=10 ^ (9*(A.drop (j+1)).length):=by rw[Nat.pow_mul]
     rw[h2] at h1;have h3:0<9*(A.drop (j+1)).length:=by simp;omega
     have h4:=aV h3 h1;simp at h4;omega
    rw[Y,R,O];exact AF _ mn A.length _ y h1 h3 I j x _ (az (aG 1000000000 (A.drop (j+1)))) (by omega) H G (by first | omega | (simp only[List.length_cons];omega)))
  [2*(A.length-1)+5] (by
   rw[K];have B:¬2*(A.length-1)+5<5:=by omega
   have hf:List.flatMap (af6.refs 5) (List.take 5 (.cells false 1 (iN .u64 A)::.cells true 0 [.bool mn,.slice 0 0 A.length none]::.cells true aK [.ptr 2 0,.slice (2*(A.length-1)+5) 0 (az v).length none]::.cells true 0 [.slice 0 0 A.length none]::S::RA (2*(A.length-1)) (az v)))=[2*(A.length-1)+5]:=by simp only[List.take_succ_cons,List.take_zero,List.flatMap_cons,List.flatMap_nil,u];simp[B]
   rw[hf];exact M7 (s:=.cells true 6001 (iB (az v))) (by simp[RA]) (by simp)) (by
   rw[K];simp[kZ])
 have B:¬2*(A.length-1)+5<5:=by omega
 rw[K,V] at J;simp only[List.take_succ_cons,List.take_zero,List.map_cons,List.map_nil,m] at J;simpa [O,List.idxOf?,RA,B] using J
def my(A:List Nat)(mn:Bool)(y:af6)(j:Nat):Mem:=
 if j=A.length then .cells false 1 (iN .u64 A)::.cells true 0 [.bool mn,.slice 0 0 A.length none]::.cells true aK [.ptr 2 0,.slice 4 0 1 none]::.cells true 1 (iB [45])::.cells true 6001 (iB [45])::.cells true 0 [.slice 0 0 A.length none]::[y]
 else .cells false 1 (iN .u64 A)::.cells true 0 [.bool mn,.slice 0 0 A.length none]::.cells true aK [.ptr 2 0,.slice (2*(A.length-1-j)+7) 0 (45::az (aG 1000000000 (A.drop j))).length none]::.cells true 1 (iB [45])::.HS::.cells true 0 [.slice 0 0 A.length none]::y::RA (2*(A.length-1-j)) (45::az (aG 1000000000 (A.drop j)))
theorem yF(v:Nat)(mn:Bool)(hv:0<v)(H:(dig 1000000000 v).length<=1000000)(I:dD f149=[(ps,J',body)])(y:Env)(h1:ad y 1=.ptr 1 0)(h3:ad y 3=.ptr 2 0)(he:y.flatMap (fun e=>e.2.refs 7)=[]):
  kO prog 265 [.yield 6,.ptr 5 0] [.cells false 1 (iN .u64 (dig 1000000000 v)),.cells true 0 [.bool mn,.slice 0 0 (dig 1000000000 v).length none],.cells true aK [.ptr 2 0,.slice 4 0 1 none],.cells true 1 (iB [45]),.cells true 6001 (iB [45]),.cells true 0 [.slice 0 0 (dig 1000000000 v).length none],.loop ⟨.ready,none,y,34,ps,J',body⟩] (.tuple [])
   [.cells false 1 (iN .u64 (dig 1000000000 v)),.cells true 0 [.bool mn,.slice 0 0 (dig 1000000000 v).length none],.cells true aK [.ptr 2 0,.slice 7 0 (45::az v).length none],.cells true 1 (iB [45]),.HS,.cells true 0 [.slice 0 0 (dig 1000000000 v).length none],.loop ⟨.ready,none,y,34,ps,J',body⟩,.cells true 6001 (iB (45::az v))]:=by
 obtain⟨A,F⟩:=xE (dig 1000000000 v);have D:lok 1000000000 A=true:=by rw[F];exact dI (by omega) v
 have M:aG 1000000000 A=v:=by rw[F];exact cY (by omega) v
 have C:∀j,j<A.length->0<aG 1000000000 (A.drop j):=fun j W=>by rw[F] at W |-;exact xP (by omega) W
 rw[<-F] at H |-;have hn:0<A.length:=by
  rcases QQY A.length with h | h
  .rw[M0 h] at M;simp[aG] at M;omega
  .exact h
 clear F;obtain⟨S,O⟩:=xE (af6.loop ⟨.ready,none,y,34,ps,J',body⟩);have u:af6.refs 7 S=[]:=by rw[O];exact xZ he
 have m:∀Q,af6.ren (rho 7 Q) S=S:=fun Q=>by rw[O];exact Qx he
 have K:my A mn S 0=.cells false 1 (iN .u64 A)::.cells true 0 [.bool mn,.slice 0 0 A.length none]::.cells true aK [.ptr 2 0,.slice (2*(A.length-1)+7) 0 (45::az v).length none]::.cells true 1 (iB [45])::.HS::.cells true 0 [.slice 0 0 A.length none]::S::RA (2*(A.length-1)) (45::az v):=by unfold my;rw[if_neg (by omega),List.drop_zero,M,QXX]
 have V:my A mn S A.length=[.cells false 1 (iN .u64 A),.cells true 0 [.bool mn,.slice 0 0 A.length none],.cells true aK [.ptr 2 0,.slice 4 0 1 none],.cells true 1 (iB [45]),.cells true 6001 (iB [45]),.cells true 0 [.slice 0 0 A.length none],S]:=by unfold my;rw[if_pos rfl]
 have X:∀j,j<A.length->my A mn S j=.cells false 1 (iN .u64 A)::.cells true 0 [.bool mn,.slice 0 0 A.length none]::.cells true aK [.ptr 2 0,.slice (2*(A.length-1-j)+7) 0 (45::az (aG 1000000000 (A.drop j))).length none]::.cells true 1 (iB [45])::.HS::.cells true 0 [.slice 0 0 A.length none]::S::RA (2*(A.length-1-j)) (45::az (aG 1000000000 (A.drop j))):=fun j W=>by unfold my;rw[if_neg (by omega)]
 have J:=uG (n:=A.length) (A:=A) rfl hn (by omega) 5 0 6 7 0 true false (my A mn S) (by rw[V];rfl)
  (fun j W=>by
   rw[X j W];by_cases Z:j+1=A.length
   .rw[Z,V];simp[kZ]
   .rw[X (j+1) (by omega)];simp[kZ];omega)
  (fun j W=>by
   by_cases Z:j=A.length
   .rw[Z,V];rfl
   .rw[X j (by omega)];rfl)
  (fun j W=>by
   by_cases Z:j=A.length
   .rw[Z,V];rfl
   .rw[X j (by omega)];rfl)
  (fun j W=>by
   rw[X j W];have B:∀e,¬e+7<7:=fun e=>by omega
   simp[B])
  (fun j W=>by
   obtain⟨x,z,hx'⟩:=fe W;have hg:A.getD j 0=x:=by simp[List.getD,z]
   have G:=im D z;rw[hg];by_cases Z:j+1=A.length
   .rw[Z,V,X j W]
    have Y:A.length-1-j=0:=by omega
    have R:aG 1000000000 (A.drop j)=x:=by rw[xO z,Mt Z];simp[aG]
    rw[Y,R,O];exact yC _ mn A.length _ y h1 h3 I j x Z H G
   .rw[X j W,X (j+1) (by omega)]
    have Y:2*(A.length-1-j)=2*(A.length-1-(j+1))+2:=by omega
    have R:az (aG 1000000000 (A.drop j))=az (aG 1000000000 (A.drop (j+1)))++Pq 9 x:=by rw[xO z];exact Qo (w:=9) (by omega) G (C (j+1) (by omega))
    have e3:(az (aG 1000000000 (A.drop (j+1)))).length<=89000000:=by
     have h1:=jJ (ma D (j+1));have h2:(1000000000:Nat) ^ (A.drop (j+1)).length=10 ^ (9*(A.drop (j+1)).length):=by rw[Nat.pow_mul]
     rw[h2] at h1;have h3:0<9*(A.drop (j+1)).length:=by simp;omega
     have h4:=aV h3 h1;simp at h4;omega
    rw[Y,R,O];exact yD _ mn A.length _ y h1 h3 I j x _ (45::az (aG 1000000000 (A.drop (j+1)))) (by omega) H G (by first | omega | (simp only[List.length_cons];omega)))
  [2*(A.length-1)+7] (by
   rw[K];have B:¬2*(A.length-1)+7<7:=by omega
   have hf:List.flatMap (af6.refs 7) (List.take 7 (.cells false 1 (iN .u64 A)::.cells true 0 [.bool mn,.slice 0 0 A.length none]::.cells true aK [.ptr 2 0,.slice (2*(A.length-1)+7) 0 (45::az v).length none]::.cells true 1 (iB [45])::.HS::.cells true 0 [.slice 0 0 A.length none]::S::RA (2*(A.length-1)) (45::az v)))=[2*(A.length-1)+7]:=by simp only[List.take_succ_cons,List.take_zero,List.flatMap_cons,List.flatMap_nil,u];simp[B]
   rw[hf];exact M7 (s:=.cells true 6001 (iB (45::az v))) (by simp[RA]) (by simp)) (by
   rw[K];simp[kZ])
 have B:¬2*(A.length-1)+7<7:=by omega
 rw[K,V] at J;simp only[List.take_succ_cons,List.take_zero,List.map_cons,List.map_nil,m] at J;simpa [O,List.idxOf?,RA,B] using J
end Go.Proofs
