/- See H38. -/
import Derived.Test.YthpgbelancmpjaaGreatDoorH13
set_option linter.all false
namespace Go.Eng
def Mr(w x:Nat):List UInt8:=List.replicate (w-(aj x).length) 48++aj x
theorem RP(k:Nat)(r:List UInt8):vN 0 (List.replicate k 48++r)=vN 0 r:=by
 induction k with
 |zero=>rfl
 |succ k ih=>
  rw[List.replicate_succ,List.cons_append,eR];exact ih
theorem Vg(w x:Nat):eP (Mr w x)=x:=by unfold Mr eP;rw[RP];exact dP x
theorem WO(w x:Nat):(Mr w x).all isD=true:=by unfold Mr;rw[List.all_append,dM,Bool.and_true,List.all_eq_true];intro c Z;rw[(List.mem_replicate.1 Z).2];rfl
variable{w x:Nat}
theorem N6(H:0<w)(hx:x<10 ^ w):(Mr w x).length=w:=by have:=ba H hx;unfold Mr;simp only[Nm,QXa];omega
variable{v:Nat}
theorem G6(H:0<v){t:List UInt8}(I:t.all isD=true):gA (aj v++t)=true:=by
 have Z:=dM v;have X:=jC v;have h3:=xg v H;cases hl:aj v with
 |nil=>exact absurd hl X
 |cons c r=>
  rw[hl] at Z h3;simp only[QQX,Ar] at Z;simp only[List.head?_cons,ne_eq,Mp] at h3;simp only[List.cons_append,gA,List.all_append,Z.1,Z.2,I];simp[h3]
theorem AZ(H:0<w)(hx:x<10 ^ w)(I:0<v):aj (x+10 ^ w*v)=aj v++Mr w x:=by have h:=sn (G6 I (WO w x));rw[vI,dP,Vg,N6 H hx] at h;rw[<-h,SP,QXX]
theorem UI(H:0<w)(hx:x<10 ^ w):(aj (10 ^ w+x)).drop 1=Mr w x:=by have:=AZ H hx (v:=1) (by omega);rw[Nat.mul_one,QXX] at this;rw[this];rfl
variable{B j:Nat}
theorem oI{l:List Nat}{d:Nat}(h:l[j]? =some d):aq B (l.drop j)=d+B*aq B (l.drop (j+1)):=by have Z:=(Hi.1 h);obtain⟨Z,rfl⟩:=Z;rw[LU Z];rfl
theorem pZ{n:Nat}(H:2<=B)(I:j<(dig B n).length):0<aq B ((dig B n).drop j):=by
 rcases P1 (aq B ((dig B n).drop j)) with h | h
 .exfalso
  have X:=dW H (jw (cc H n) j);rw[h,dX] at X;have V:bd (dig B n)=(dig B n):=cB H n;have h3:=sZ B (l:=dig B n) (n:=j) (by omega);rw[h,Nat.mul_zero,Nat.add_zero,bN H] at h3;have Z:=gN (jx (cc H n) j);rw[<-h3,M0,Nat.min_eq_left (by omega)] at Z;have U:=fm H Z;omega
 .exact h
end Go.Eng
namespace Go.Proofs
open Go.Eng
open Tryz
def RA(e:Nat)(t:List UInt8):Mem:=List.replicate e .y9++[.cells true 6001 (iB t)]
theorem ke(e:Nat)(t:List UInt8):(RA e t).length=e+1:=by simp[RA]
theorem RZ(e:Nat)(t:List UInt8)(h:e<(RA e t).length):(RA e t)[e]=.cells true 6001 (iB t):=by simp[RA]
theorem R1(e:Nat)(t s:List UInt8):(RA e t).set e .y9++[.cells true 6001 (iB s)]=RA (e+1) s:=by simp[RA,List.replicate_succ']
variable{k:Nat}
theorem FM(h:k<=9):(([48,48,48,48,48,48,48,48,48]:List UInt8).drop k).take (9-k)=List.replicate (9-k) 48:=by
 have:k=0\/k=1\/k=2\/k=3\/k=4\/k=5\/k=6\/k=7\/k=8\/k=9:=by omega
 rcases this with rfl | rfl | rfl | rfl | rfl | rfl | rfl | rfl | rfl | rfl<;>rfl
noncomputable def kZ:afu:=(ai bQ).or gw
theorem oY:afs prog kZ:=BR.or yU
variable{asg body:Code}{ps:Array Tmp}
section
variable (A0:afz)(mn:Bool)(n:Nat)(bc:afz)(z':Env)(h1:aa z' 1=.ptr 1 0)(h3:aa z' 3=.ptr 2 0)(hb:eL f212=[(ps,asg,body)])
include A0 mn n bc z' h1 h3 hb
theorem Ab(j x e:Nat)(t:List UInt8)(H:j+1<n)(I:n<=1000000)(hx:x<1000000000)(J:t.length<=90000000):
  gp prog 4 [.int .i64 (j:Int),.int .u64 (x:Int)] (A0::.cells true 0 [.bool mn,.slice 0 0 n none]::.cells true aT [.ptr 2 0,.slice (e+5) 0 t.length none]::bc::.loop ⟨.ready,none,z',34,ps,asg,body⟩::RA e t) (.bool true)
   (A0::.cells true 0 [.bool mn,.slice 0 0 n none]::.cells true aT [.ptr 2 0,.slice (e+2+5) 0 (t++Mr 9 x).length none]::bc::.loop ⟨.ready,none,z',34,ps,asg,body⟩::RA (e+2) (t++Mr 9 x)):=by
 have U:dm asg=true/\dm body=true/\ps= #[17,18]:=by simp[eL,fX,f212] at hb;obtain⟨rfl,rfl,rfl⟩:=hb;exact⟨by decide,by decide,rfl⟩
 obtain⟨Z,X,rfl⟩:=U;obtain⟨k,V⟩:=xE ((aj x).length);obtain⟨d,S⟩:=xE (aj x);have R:k<=9:=by rw[V];exact ba (by omega) hx
 have K:Mr 9 x=List.replicate (9-k) 48++d:=by rw[V,S];rfl
 have G:=FM R;have w1:IntKind.i64.wrap ((n:Int)-1)=(n:Int)-1:=af;have Q:(j:Int)<(n:Int)-1:=by omega
 have O:(x:Int)<=18446744073709551615:=by omega
 have N:(k:Int)<=9:=by omega
 have M:t.length+(9-k)<=100000000:=by omega
 have F:t.length+(9-k)+k<=100000000:=by omega
 rw[<-S] at V;rw[K];have D:gE (aL prog) (fun _=>[]) kZ 1 4 [.int .i64 (j:Int),.int .u64 (x:Int)] (A0::.cells true 0 [.bool mn,.slice 0 0 n none]::.cells true aT [.ptr 2 0,.slice (e+5) 0 t.length none]::bc::.loop ⟨.ready,none,z',34,#[17,18],asg,body⟩::RA e t)=
  some (.bool true,A0::.cells true 0 [.bool mn,.slice 0 0 n none]::.cells true aT [.ptr 2 0,.slice (e+2+5) 0 (t++(List.replicate (9-k) 48++d)).length none]::bc::.loop ⟨.ready,none,z',34,#[17,18],asg,body⟩::RA (e+2) (t++(List.replicate (9-k) 48++d))):=by
  simp[gE,Z,X];simp[eL,fX,f212] at hb;obtain⟨rfl,rfl⟩:=hb;clear Z X;simp[h1,h3,w1,Q,O,N,G,<-S,<-V,kZ,afu.or,ai,bQ,gw,sc,nC,ke,RZ,R1,an,kI,M,F];omega
 exact iL ak (aI _) oY D
theorem xQ(j x e:Nat)(t:List UInt8)(H:j+1<n)(I:n<=1000000)(hx:x<1000000000)(J:t.length<=90000000):
  gp prog 6 [.int .i64 (j:Int),.int .u64 (x:Int)] (A0::.cells true 0 [.bool mn,.slice 0 0 n none]::.cells true aT [.ptr 2 0,.slice (e+7) 0 t.length none]::.cells true 1 (iB [45])::.y9::bc::.loop ⟨.ready,none,z',34,ps,asg,body⟩::RA e t) (.bool true)
   (A0::.cells true 0 [.bool mn,.slice 0 0 n none]::.cells true aT [.ptr 2 0,.slice (e+2+7) 0 (t++Mr 9 x).length none]::.cells true 1 (iB [45])::.y9::bc::.loop ⟨.ready,none,z',34,ps,asg,body⟩::RA (e+2) (t++Mr 9 x)):=by
 have U:dm asg=true/\dm body=true/\ps= #[17,18]:=by simp[eL,fX,f212] at hb;obtain⟨rfl,rfl,rfl⟩:=hb;exact⟨by decide,by decide,rfl⟩
 obtain⟨Z,X,rfl⟩:=U;obtain⟨k,V⟩:=xE ((aj x).length);obtain⟨d,S⟩:=xE (aj x);have R:k<=9:=by rw[V];exact ba (by omega) hx
 have K:Mr 9 x=List.replicate (9-k) 48++d:=by rw[V,S];rfl
 have G:=FM R;have w1:IntKind.i64.wrap ((n:Int)-1)=(n:Int)-1:=af;have Q:(j:Int)<(n:Int)-1:=by omega
 have O:(x:Int)<=18446744073709551615:=by omega
 have N:(k:Int)<=9:=by omega
 have M:t.length+(9-k)<=100000000:=by omega
 have F:t.length+(9-k)+k<=100000000:=by omega
 rw[<-S] at V;rw[K];have D:gE (aL prog) (fun _=>[]) kZ 1 6 [.int .i64 (j:Int),.int .u64 (x:Int)] (A0::.cells true 0 [.bool mn,.slice 0 0 n none]::.cells true aT [.ptr 2 0,.slice (e+7) 0 t.length none]::.cells true 1 (iB [45])::.y9::bc::.loop ⟨.ready,none,z',34,#[17,18],asg,body⟩::RA e t)=
  some (.bool true,A0::.cells true 0 [.bool mn,.slice 0 0 n none]::.cells true aT [.ptr 2 0,.slice (e+2+7) 0 (t++(List.replicate (9-k) 48++d)).length none]::.cells true 1 (iB [45])::.y9::bc::.loop ⟨.ready,none,z',34,#[17,18],asg,body⟩::RA (e+2) (t++(List.replicate (9-k) 48++d))):=by
  simp[gE,Z,X];simp[eL,fX,f212] at hb;obtain⟨rfl,rfl⟩:=hb;clear Z X;simp[h1,h3,w1,Q,O,N,G,<-S,<-V,kZ,afu.or,ai,bQ,gw,sc,nC,ke,RZ,R1,an,kI,M,F];omega
 exact iL ak (aI _) oY D
theorem Aa(j x:Nat)(H:j+1=n)(I:n<=1000000)(hx:x<1000000000):
  gp prog 4 [.int .i64 (j:Int),.int .u64 (x:Int)] (A0::.cells true 0 [.bool mn,.slice 0 0 n none]::.cells true aT [.afL,.kO]::bc::[.loop ⟨.ready,none,z',34,ps,asg,body⟩]) (.bool true)
   (A0::.cells true 0 [.bool mn,.slice 0 0 n none]::.cells true aT [.ptr 2 0,.slice (0+5) 0 (aj x).length none]::bc::.loop ⟨.ready,none,z',34,ps,asg,body⟩::RA 0 (aj x)):=by
 have U:dm asg=true/\dm body=true/\ps= #[17,18]:=by simp[eL,fX,f212] at hb;obtain⟨rfl,rfl,rfl⟩:=hb;exact⟨by decide,by decide,rfl⟩
 obtain⟨Z,X,rfl⟩:=U;obtain⟨d,V⟩:=xE (aj x);have N:d.length<=9:=by rw[V];exact ba (by omega) hx
 have S:d≠[]:=by rw[V];exact jC x
 have w1:IntKind.i64.wrap ((n:Int)-1)=(n:Int)-1:=af;have R:¬(j:Int)<(n:Int)-1:=by omega
 have Q:(x:Int)<=18446744073709551615:=by omega
 have O:d.length<=100000000:=by omega
 have G:1+d.length<=100000000:=by omega
 have M:jt (iB [45])=some [45]:=kI _;rw[<-V];have K:gE (aL prog) (fun _=>[]) kZ 1 4 [.int .i64 (j:Int),.int .u64 (x:Int)] (A0::.cells true 0 [.bool mn,.slice 0 0 n none]::.cells true aT [.afL,.kO]::bc::[.loop ⟨.ready,none,z',34,#[17,18],asg,body⟩])=
  some (.bool true,A0::.cells true 0 [.bool mn,.slice 0 0 n none]::.cells true aT [.ptr 2 0,.slice (0+5) 0 (d).length none]::bc::.loop ⟨.ready,none,z',34,#[17,18],asg,body⟩::[.cells true 6001 (iB (d))]):=by
  simp[gE,Z,X];simp[eL,fX,f212] at hb;obtain⟨rfl,rfl⟩:=hb;clear Z X;simp[h1,h3,w1,R,Q,<-V,kZ,afu.or,ai,bQ,gw,sc,nC,an,O,S];try omega
 exact iL ak (aI _) oY K
theorem xP(j x:Nat)(H:j+1=n)(I:n<=1000000)(hx:x<1000000000):
  gp prog 6 [.int .i64 (j:Int),.int .u64 (x:Int)] (A0::.cells true 0 [.bool mn,.slice 0 0 n none]::.cells true aT [.ptr 2 0,.slice 4 0 1 none]::.cells true 1 (iB [45])::.cells true 6001 (iB [45])::bc::[.loop ⟨.ready,none,z',34,ps,asg,body⟩]) (.bool true)
   (A0::.cells true 0 [.bool mn,.slice 0 0 n none]::.cells true aT [.ptr 2 0,.slice (0+7) 0 (45::aj x).length none]::.cells true 1 (iB [45])::.y9::bc::.loop ⟨.ready,none,z',34,ps,asg,body⟩::RA 0 (45::aj x)):=by
 have U:dm asg=true/\dm body=true/\ps= #[17,18]:=by simp[eL,fX,f212] at hb;obtain⟨rfl,rfl,rfl⟩:=hb;exact⟨by decide,by decide,rfl⟩
 obtain⟨Z,X,rfl⟩:=U;obtain⟨d,V⟩:=xE (aj x);have O:d.length<=9:=by rw[V];exact ba (by omega) hx
 have N:d≠[]:=by rw[V];exact jC x
 have w1:IntKind.i64.wrap ((n:Int)-1)=(n:Int)-1:=af;have S:¬(j:Int)<(n:Int)-1:=by omega
 have R:(x:Int)<=18446744073709551615:=by omega
 have M:d.length<=100000000:=by omega
 have K:1+d.length<=100000000:=by omega
 have Q:jt (iB [45])=some [45]:=kI _;rw[<-V];have G:gE (aL prog) (fun _=>[]) kZ 1 6 [.int .i64 (j:Int),.int .u64 (x:Int)] (A0::.cells true 0 [.bool mn,.slice 0 0 n none]::.cells true aT [.ptr 2 0,.slice 4 0 1 none]::.cells true 1 (iB [45])::.cells true 6001 (iB [45])::bc::[.loop ⟨.ready,none,z',34,#[17,18],asg,body⟩])=
  some (.bool true,A0::.cells true 0 [.bool mn,.slice 0 0 n none]::.cells true aT [.ptr 2 0,.slice (0+7) 0 (45::d).length none]::.cells true 1 (iB [45])::.y9::bc::.loop ⟨.ready,none,z',34,#[17,18],asg,body⟩::[.cells true 6001 (iB (45::d))]):=by
  simp[gE,Z,X];simp[eL,fX,f212] at hb;obtain⟨rfl,rfl⟩:=hb;clear Z X;simp[h1,h3,w1,S,R,<-V,kZ,afu.or,ai,bQ,gw,sc,nC,an,K,Q];try omega
 exact iL ak (aI _) oY G
end
theorem Ln{l:List Nat}{j:Nat}(h:j+1=l.length):l.drop (j+1)=[]:=M6 (by omega)
theorem LX{m:Nat}{mem:Mem}{s:afz}(h:mem[k]? =some s)(hr:s.refs m=[]):qM m mem 1000 [k] []=[k]:=by
 have:mem.getD k .y9=s:=by simp[List.getD,h]
 unfold qM;rw[this,hr];simp only[List.contains_nil,Bool.false_eq_true,if_false,List.nil_append,List.append_nil];rfl
def oW(A:List Nat)(mn:Bool)(H:afz)(j:Nat):Mem:=
 if j=A.length then .cells false 1 (iN .u64 A)::.cells true 0 [.bool mn,.slice 0 0 A.length none]::.cells true aT [.afL,.kO]::.cells true 0 [.slice 0 0 A.length none]::[H]
 else .cells false 1 (iN .u64 A)::.cells true 0 [.bool mn,.slice 0 0 A.length none]::.cells true aT [.ptr 2 0,.slice (2*(A.length-1-j)+5) 0 (aj (aq 1000000000 (A.drop j))).length none]::.cells true 0 [.slice 0 0 A.length none]::H::RA (2*(A.length-1-j)) (aj (aq 1000000000 (A.drop j)))
theorem Ac(v:Nat)(mn:Bool)(hv:0<v)(I:(dig 1000000000 v).length<=1000000)(J:eL f212=[(ps,asg,body)])(H:Env)(h1:aa H 1=.ptr 1 0)(h3:aa H 3=.ptr 2 0)(W:H.flatMap (fun e=>e.2.refs 5)=[]):
  bz prog 279 [.yield 4,.ptr 3 0] [.cells false 1 (iN .u64 (dig 1000000000 v)),.cells true 0 [.bool mn,.slice 0 0 (dig 1000000000 v).length none],.cells true aT [.afL,.kO],.cells true 0 [.slice 0 0 (dig 1000000000 v).length none],.loop ⟨.ready,none,H,34,ps,asg,body⟩] (.tuple [])
   [.cells false 1 (iN .u64 (dig 1000000000 v)),.cells true 0 [.bool mn,.slice 0 0 (dig 1000000000 v).length none],.cells true aT [.ptr 2 0,.slice 5 0 (aj v).length none],.cells true 0 [.slice 0 0 (dig 1000000000 v).length none],.loop ⟨.ready,none,H,34,ps,asg,body⟩,.cells true 6001 (iB (aj v))]:=by
 obtain⟨A,K⟩:=xE (dig 1000000000 v);have G:lok 1000000000 A=true:=by rw[K];exact cc (by omega) v
 have Q:aq 1000000000 A=v:=by rw[K];exact bN (by omega) v
 have F:∀j,j<A.length->0<aq 1000000000 (A.drop j):=fun j V=>by rw[K] at V |-;exact pZ (by omega) V
 rw[<-K] at I |-;have Y:0<A.length:=by
  rcases P1 A.length with h | h
  .rw[GT h] at Q;simp[aq] at Q;omega
  .exact h
 clear K;obtain⟨S,R⟩:=xE (afz.loop ⟨.ready,none,H,34,ps,asg,body⟩);have B:afz.refs 5 S=[]:=by rw[R];exact xm W
 have y:∀m,afz.ren (rho 5 m) S=S:=fun m=>by rw[R];exact O5 W
 have O:oW A mn S 0=.cells false 1 (iN .u64 A)::.cells true 0 [.bool mn,.slice 0 0 A.length none]::.cells true aT [.ptr 2 0,.slice (2*(A.length-1)+5) 0 (aj v).length none]::.cells true 0 [.slice 0 0 A.length none]::S::RA (2*(A.length-1)) (aj v):=by unfold oW;rw[if_neg (by omega),List.drop_zero,Q,QQg]
 have U:oW A mn S A.length=[.cells false 1 (iN .u64 A),.cells true 0 [.bool mn,.slice 0 0 A.length none],.cells true aT [.afL,.kO],.cells true 0 [.slice 0 0 A.length none],S]:=by unfold oW;rw[if_pos rfl]
 have X:∀j,j<A.length->oW A mn S j=.cells false 1 (iN .u64 A)::.cells true 0 [.bool mn,.slice 0 0 A.length none]::.cells true aT [.ptr 2 0,.slice (2*(A.length-1-j)+5) 0 (aj (aq 1000000000 (A.drop j))).length none]::.cells true 0 [.slice 0 0 A.length none]::S::RA (2*(A.length-1-j)) (aj (aq 1000000000 (A.drop j))):=fun j V=>by unfold oW;rw[if_neg (by omega)]
 have N:=tN (n:=A.length) (A:=A) rfl Y (by omega) 3 0 4 5 0 true false (oW A mn S) (by rw[U];rfl)
  (fun j V=>by
   rw[X j V];by_cases Z:j+1=A.length
   .rw[Z,U];simp[ke]
   .rw[X (j+1) (by omega)];simp[ke];omega)
  (fun j V=>by
   by_cases Z:j=A.length
   .rw[Z,U];rfl
   .rw[X j (by omega)];rfl)
  (fun j V=>by
   by_cases Z:j=A.length
   .rw[Z,U];rfl
   .rw[X j (by omega)];rfl)
  (fun j V=>by
   rw[X j V];have D:∀e,¬e+5<5:=fun e=>by omega
   simp[D])
  (fun j V=>by
   obtain⟨x,C,hx'⟩:=dp V;have hg:A.getD j 0=x:=by simp[List.getD,C]
   have M:=eK G C;rw[hg];by_cases Z:j+1=A.length
   .rw[Z,U,X j V]
    have u:A.length-1-j=0:=by omega
    have o:aq 1000000000 (A.drop j)=x:=by rw[oI C,Ln Z];simp[aq]
    rw[u,o,R];exact Aa _ mn A.length _ H h1 h3 J j x Z I M
   .rw[X j V,X (j+1) (by omega)]
    have u:2*(A.length-1-j)=2*(A.length-1-(j+1))+2:=by omega
    have o:aj (aq 1000000000 (A.drop j))=aj (aq 1000000000 (A.drop (j+1)))++Mr 9 x:=by rw[oI C];exact AZ (w:=9) (by omega) M (F (j+1) (by omega))
    have e3:(aj (aq 1000000000 (A.drop (j+1)))).length<=89000000:=by
     have h1:=gN (jw G (j+1));have h2:(1000000000:Nat) ^ (A.drop (j+1)).length=10 ^ (9*(A.drop (j+1)).length):=by rw[Nat.pow_mul]
     rw[h2] at h1;have h3:0<9*(A.drop (j+1)).length:=by simp;omega
     have h4:=ba h3 h1;simp at h4;omega
    rw[u,o,R];exact Ab _ mn A.length _ H h1 h3 J j x _ (aj (aq 1000000000 (A.drop (j+1)))) (by omega) I M (by first | omega | (simp only[List.length_cons];omega)))
  [2*(A.length-1)+5] (by
   rw[O];have D:¬2*(A.length-1)+5<5:=by omega
   have hf:List.flatMap (afz.refs 5) (List.take 5 (.cells false 1 (iN .u64 A)::.cells true 0 [.bool mn,.slice 0 0 A.length none]::.cells true aT [.ptr 2 0,.slice (2*(A.length-1)+5) 0 (aj v).length none]::.cells true 0 [.slice 0 0 A.length none]::S::RA (2*(A.length-1)) (aj v)))=[2*(A.length-1)+5]:=by simp only[List.take_succ_cons,List.take_zero,List.flatMap_cons,List.flatMap_nil,B];simp[D]
   rw[hf];exact LX (s:=.cells true 6001 (iB (aj v))) (by simp[RA]) (by simp)) (by
   rw[O];simp[ke])
 have D:¬2*(A.length-1)+5<5:=by omega
 rw[O,U] at N;simp only[List.take_succ_cons,List.take_zero,List.map_cons,List.map_nil,y] at N;simpa [R,List.idxOf?,RA,D] using N
def lK(A:List Nat)(mn:Bool)(H:afz)(j:Nat):Mem:=
 if j=A.length then .cells false 1 (iN .u64 A)::.cells true 0 [.bool mn,.slice 0 0 A.length none]::.cells true aT [.ptr 2 0,.slice 4 0 1 none]::.cells true 1 (iB [45])::.cells true 6001 (iB [45])::.cells true 0 [.slice 0 0 A.length none]::[H]
 else .cells false 1 (iN .u64 A)::.cells true 0 [.bool mn,.slice 0 0 A.length none]::.cells true aT [.ptr 2 0,.slice (2*(A.length-1-j)+7) 0 (45::aj (aq 1000000000 (A.drop j))).length none]::.cells true 1 (iB [45])::.y9::.cells true 0 [.slice 0 0 A.length none]::H::RA (2*(A.length-1-j)) (45::aj (aq 1000000000 (A.drop j)))
theorem xS(v:Nat)(mn:Bool)(hv:0<v)(I:(dig 1000000000 v).length<=1000000)(J:eL f212=[(ps,asg,body)])(H:Env)(h1:aa H 1=.ptr 1 0)(h3:aa H 3=.ptr 2 0)(W:H.flatMap (fun e=>e.2.refs 7)=[]):
  bz prog 279 [.yield 6,.ptr 5 0] [.cells false 1 (iN .u64 (dig 1000000000 v)),.cells true 0 [.bool mn,.slice 0 0 (dig 1000000000 v).length none],.cells true aT [.ptr 2 0,.slice 4 0 1 none],.cells true 1 (iB [45]),.cells true 6001 (iB [45]),.cells true 0 [.slice 0 0 (dig 1000000000 v).length none],.loop ⟨.ready,none,H,34,ps,asg,body⟩] (.tuple [])
   [.cells false 1 (iN .u64 (dig 1000000000 v)),.cells true 0 [.bool mn,.slice 0 0 (dig 1000000000 v).length none],.cells true aT [.ptr 2 0,.slice 7 0 (45::aj v).length none],.cells true 1 (iB [45]),.y9,.cells true 0 [.slice 0 0 (dig 1000000000 v).length none],.loop ⟨.ready,none,H,34,ps,asg,body⟩,.cells true 6001 (iB (45::aj v))]:=by
 obtain⟨A,K⟩:=xE (dig 1000000000 v);have G:lok 1000000000 A=true:=by rw[K];exact cc (by omega) v
 have Q:aq 1000000000 A=v:=by rw[K];exact bN (by omega) v
 have F:∀j,j<A.length->0<aq 1000000000 (A.drop j):=fun j V=>by rw[K] at V |-;exact pZ (by omega) V
 rw[<-K] at I |-;have Y:0<A.length:=by
  rcases P1 A.length with h | h
  .rw[GT h] at Q;simp[aq] at Q;omega
  .exact h
 clear K;obtain⟨S,R⟩:=xE (afz.loop ⟨.ready,none,H,34,ps,asg,body⟩);have B:afz.refs 7 S=[]:=by rw[R];exact xm W
 have y:∀m,afz.ren (rho 7 m) S=S:=fun m=>by rw[R];exact O5 W
 have O:lK A mn S 0=.cells false 1 (iN .u64 A)::.cells true 0 [.bool mn,.slice 0 0 A.length none]::.cells true aT [.ptr 2 0,.slice (2*(A.length-1)+7) 0 (45::aj v).length none]::.cells true 1 (iB [45])::.y9::.cells true 0 [.slice 0 0 A.length none]::S::RA (2*(A.length-1)) (45::aj v):=by unfold lK;rw[if_neg (by omega),List.drop_zero,Q,QQg]
 have U:lK A mn S A.length=[.cells false 1 (iN .u64 A),.cells true 0 [.bool mn,.slice 0 0 A.length none],.cells true aT [.ptr 2 0,.slice 4 0 1 none],.cells true 1 (iB [45]),.cells true 6001 (iB [45]),.cells true 0 [.slice 0 0 A.length none],S]:=by unfold lK;rw[if_pos rfl]
 have X:∀j,j<A.length->lK A mn S j=.cells false 1 (iN .u64 A)::.cells true 0 [.bool mn,.slice 0 0 A.length none]::.cells true aT [.ptr 2 0,.slice (2*(A.length-1-j)+7) 0 (45::aj (aq 1000000000 (A.drop j))).length none]::.cells true 1 (iB [45])::.y9::.cells true 0 [.slice 0 0 A.length none]::S::RA (2*(A.length-1-j)) (45::aj (aq 1000000000 (A.drop j))):=fun j V=>by unfold lK;rw[if_neg (by omega)]
 have N:=tN (n:=A.length) (A:=A) rfl Y (by omega) 5 0 6 7 0 true false (lK A mn S) (by rw[U];rfl)
  (fun j V=>by
   rw[X j V];by_cases Z:j+1=A.length
   .rw[Z,U];simp[ke]
   .rw[X (j+1) (by omega)];simp[ke];omega)
  (fun j V=>by
   by_cases Z:j=A.length
   .rw[Z,U];rfl
   .rw[X j (by omega)];rfl)
  (fun j V=>by
   by_cases Z:j=A.length
   .rw[Z,U];rfl
   .rw[X j (by omega)];rfl)
  (fun j V=>by
   rw[X j V];have D:∀e,¬e+7<7:=fun e=>by omega
   simp[D])
  (fun j V=>by
   obtain⟨x,C,hx'⟩:=dp V;have hg:A.getD j 0=x:=by simp[List.getD,C]
   have M:=eK G C;rw[hg];by_cases Z:j+1=A.length
   .rw[Z,U,X j V]
    have u:A.length-1-j=0:=by omega
    have o:aq 1000000000 (A.drop j)=x:=by rw[oI C,Ln Z];simp[aq]
    rw[u,o,R];exact xP _ mn A.length _ H h1 h3 J j x Z I M
   .rw[X j V,X (j+1) (by omega)]
    have u:2*(A.length-1-j)=2*(A.length-1-(j+1))+2:=by omega
    have o:aj (aq 1000000000 (A.drop j))=aj (aq 1000000000 (A.drop (j+1)))++Mr 9 x:=by rw[oI C];exact AZ (w:=9) (by omega) M (F (j+1) (by omega))
    have e3:(aj (aq 1000000000 (A.drop (j+1)))).length<=89000000:=by
     have h1:=gN (jw G (j+1));have h2:(1000000000:Nat) ^ (A.drop (j+1)).length=10 ^ (9*(A.drop (j+1)).length):=by rw[Nat.pow_mul]
     rw[h2] at h1;have h3:0<9*(A.drop (j+1)).length:=by simp;omega
     have h4:=ba h3 h1;simp at h4;omega
    rw[u,o,R];exact xQ _ mn A.length _ H h1 h3 J j x _ (45::aj (aq 1000000000 (A.drop (j+1)))) (by omega) I M (by first | omega | (simp only[List.length_cons];omega)))
  [2*(A.length-1)+7] (by
   rw[O];have D:¬2*(A.length-1)+7<7:=by omega
   have hf:List.flatMap (afz.refs 7) (List.take 7 (.cells false 1 (iN .u64 A)::.cells true 0 [.bool mn,.slice 0 0 A.length none]::.cells true aT [.ptr 2 0,.slice (2*(A.length-1)+7) 0 (45::aj v).length none]::.cells true 1 (iB [45])::.y9::.cells true 0 [.slice 0 0 A.length none]::S::RA (2*(A.length-1)) (45::aj v)))=[2*(A.length-1)+7]:=by simp only[List.take_succ_cons,List.take_zero,List.flatMap_cons,List.flatMap_nil,B];simp[D]
   rw[hf];exact LX (s:=.cells true 6001 (iB (45::aj v))) (by simp[RA]) (by simp)) (by
   rw[O];simp[ke])
 have D:¬2*(A.length-1)+7<7:=by omega
 rw[O,U] at N;simp only[List.take_succ_cons,List.take_zero,List.map_cons,List.map_nil,y] at N;simpa [R,List.idxOf?,RA,D] using N
end Go.Proofs
