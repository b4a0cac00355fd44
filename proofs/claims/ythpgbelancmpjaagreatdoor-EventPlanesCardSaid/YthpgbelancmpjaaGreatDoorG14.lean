/- See G38. -/
import Derived.Test.YthpgbelancmpjaaGreatDoorG13
set_option linter.all false
namespace Go.Eng
def MI(w x:Nat):List UInt8:=List.replicate (w-(ai x).length) 48++ai x
theorem RY(k:Nat)(r:List UInt8):vK 0 (List.replicate k 48++r)=vK 0 r:=by
 induction k with
 |zero=>rfl
 |succ k ih=>
  rw[List.replicate_succ,List.cons_append,fh];exact ih
theorem Uu(w x:Nat):fg (MI w x)=x:=by unfold MI fg;rw[RY];exact dM x
theorem V6(w x:Nat):(MI w x).all isD=true:=by unfold MI;rw[List.all_append,dI,Bool.and_true,List.all_eq_true];intro c Z;rw[(List.mem_replicate.1 Z).2];rfl
variable{w x:Nat}
theorem OC(H:0<w)(I:x<10 ^ w):(MI w x).length=w:=by have:=aN H I;unfold MI;simp only[Qs,QXh];omega
variable{v:Nat}
theorem GQ(H:0<v){t:List UInt8}(I:t.all isD=true):gJ (ai v++t)=true:=by
 have Z:=dI v;have X:=jN v;have h3:=wZ v H;cases hl:ai v with
 |nil=>exact absurd hl X
 |cons c r=>
  rw[hl] at Z h3;simp only[QQg,Es] at Z;simp only[List.head?_cons,ne_eq,Pi] at h3;simp only[List.cons_append,gJ,List.all_append,Z.1,Z.2,I];simp[h3]
theorem AX(H:0<w)(I:x<10 ^ w)(J:0<v):ai (x+10 ^ w*v)=ai v++MI w x:=by have h:=sj (GQ J (V6 w x));rw[vE,dM,Uu,OC H I] at h;rw[<-h,QQZ,QXc]
theorem TO(H:0<w)(I:x<10 ^ w):(ai (10 ^ w+x)).drop 1=MI w x:=by have:=AX H I (v:=1) (by omega);rw[Nat.mul_one,QXc] at this;rw[this];rfl
variable{B j:Nat}
theorem n9{l:List Nat}{d:Nat}(h:l[j]? =some d):ao B (l.drop j)=d+B*ao B (l.drop (j+1)):=by have Z:=(O2.1 h);obtain⟨Z,rfl⟩:=Z;rw[N0 Z];rfl
theorem pM{n:Nat}(H:2<=B)(I:j<(dig B n).length):0<ao B ((dig B n).drop j):=by
 rcases QQK (ao B ((dig B n).drop j)) with h | h
 .exfalso
  have X:=dV H (jI (ca H n) j);rw[h,dW] at X;have V:aW (dig B n)=(dig B n):=cm H n;have h3:=sZ B (l:=dig B n) (n:=j) (by omega);rw[h,Nat.mul_zero,Nat.add_zero,bL H] at h3;have Z:=gW (jJ (ca H n) j);rw[<-h3,SP,Nat.min_eq_left (by omega)] at Z;have U:=fH H Z;omega
 .exact h
end Go.Eng
namespace Go.Proofs
open Go.Eng
open Tryz
def RA(e:Nat)(t:List UInt8):Mem:=List.replicate e .qK++[.cells true 6001 (iB t)]
theorem kD(e:Nat)(t:List UInt8):(RA e t).length=e+1:=by simp[RA]
theorem R4(e:Nat)(t:List UInt8)(h:e<(RA e t).length):(RA e t)[e]=.cells true 6001 (iB t):=by simp[RA]
theorem R5(e:Nat)(t s:List UInt8):(RA e t).set e .qK++[.cells true 6001 (iB s)]=RA (e+1) s:=by simp[RA,List.replicate_succ']
variable{k:Nat}
theorem Fj(h:k<=9):(([48,48,48,48,48,48,48,48,48]:List UInt8).drop k).take (9-k)=List.replicate (9-k) 48:=by
 have:k=0\/k=1\/k=2\/k=3\/k=4\/k=5\/k=6\/k=7\/k=8\/k=9:=by omega
 rcases this with rfl | rfl | rfl | rfl | rfl | rfl | rfl | rfl | rfl | rfl<;>rfl
noncomputable def lh:y9:=(ah bS).or gH
theorem oK:qS prog lh:=By.or yM
variable{Zx body:Code}{ps:Array Tmp}
section
variable (A0:afq)(mn:Bool)(n:Nat)(bc:afq)(AC:Env)(h1:ad AC 1=.ptr 1 0)(h3:ad AC 3=.ptr 2 0)(hb:fc f212=[(ps,Zx,body)])
include A0 mn n bc AC h1 h3 hb
theorem zY(j x e:Nat)(t:List UInt8)(I:j+1<n)(J:n<=1000000)(H:x<1000000000)(Y:t.length<=90000000):
  gG prog 4 [.int .i64 (j:Int),.int .u64 (x:Int)] (A0::.cells true 0 [.bool mn,.slice 0 0 n none]::.cells true aO [.ptr 2 0,.slice (e+5) 0 t.length none]::bc::.loop ⟨.ready,none,AC,34,ps,Zx,body⟩::RA e t) (.bool true)
   (A0::.cells true 0 [.bool mn,.slice 0 0 n none]::.cells true aO [.ptr 2 0,.slice (e+2+5) 0 (t++MI 9 x).length none]::bc::.loop ⟨.ready,none,AC,34,ps,Zx,body⟩::RA (e+2) (t++MI 9 x)):=by
 have L:cY Zx=true/\cY body=true/\ps= #[17,18]:=by simp[fc,gw,f212] at hb;obtain⟨rfl,rfl,rfl⟩:=hb;exact⟨by decide,by decide,rfl⟩
 obtain⟨Z,M,rfl⟩:=L;obtain⟨k,X⟩:=xE ((ai x).length);obtain⟨d,V⟩:=xE (ai x);have U:k<=9:=by rw[X];exact aN (by omega) H
 have K:MI 9 x=List.replicate (9-k) 48++d:=by rw[X,V];rfl
 have G:=Fj U;have w1:IntKind.i64.wrap ((n:Int)-1)=(n:Int)-1:=af;have S:(j:Int)<(n:Int)-1:=by omega
 have R:(x:Int)<=18446744073709551615:=by omega
 have O:(k:Int)<=9:=by omega
 have N:t.length+(9-k)<=100000000:=by omega
 have F:t.length+(9-k)+k<=100000000:=by omega
 rw[<-V] at X;rw[K];have C:gQ (aX prog) (fun _=>[]) lh 1 4 [.int .i64 (j:Int),.int .u64 (x:Int)] (A0::.cells true 0 [.bool mn,.slice 0 0 n none]::.cells true aO [.ptr 2 0,.slice (e+5) 0 t.length none]::bc::.loop ⟨.ready,none,AC,34,#[17,18],Zx,body⟩::RA e t)=
  some (.bool true,A0::.cells true 0 [.bool mn,.slice 0 0 n none]::.cells true aO [.ptr 2 0,.slice (e+2+5) 0 (t++(List.replicate (9-k) 48++d)).length none]::bc::.loop ⟨.ready,none,AC,34,#[17,18],Zx,body⟩::RA (e+2) (t++(List.replicate (9-k) 48++d))):=by
  simp[gQ,Z,M];simp[fc,gw,f212] at hb;obtain⟨rfl,rfl⟩:=hb;clear Z M;simp[h1,h3,w1,S,R,O,G,<-V,<-X,lh,y9.or,ah,bS,gH,rZ,np,kD,R4,R5,ak,kK,N,F];omega
 exact iX aj (aI _) oK C
theorem xA(j x e:Nat)(t:List UInt8)(I:j+1<n)(J:n<=1000000)(H:x<1000000000)(Y:t.length<=90000000):
  gG prog 6 [.int .i64 (j:Int),.int .u64 (x:Int)] (A0::.cells true 0 [.bool mn,.slice 0 0 n none]::.cells true aO [.ptr 2 0,.slice (e+7) 0 t.length none]::.cells true 1 (iB [45])::.qK::bc::.loop ⟨.ready,none,AC,34,ps,Zx,body⟩::RA e t) (.bool true)
   (A0::.cells true 0 [.bool mn,.slice 0 0 n none]::.cells true aO [.ptr 2 0,.slice (e+2+7) 0 (t++MI 9 x).length none]::.cells true 1 (iB [45])::.qK::bc::.loop ⟨.ready,none,AC,34,ps,Zx,body⟩::RA (e+2) (t++MI 9 x)):=by
 have L:cY Zx=true/\cY body=true/\ps= #[17,18]:=by simp[fc,gw,f212] at hb;obtain⟨rfl,rfl,rfl⟩:=hb;exact⟨by decide,by decide,rfl⟩
 obtain⟨Z,M,rfl⟩:=L;obtain⟨k,X⟩:=xE ((ai x).length);obtain⟨d,V⟩:=xE (ai x);have U:k<=9:=by rw[X];exact aN (by omega) H
 have K:MI 9 x=List.replicate (9-k) 48++d:=by rw[X,V];rfl
 have G:=Fj U;have w1:IntKind.i64.wrap ((n:Int)-1)=(n:Int)-1:=af;have S:(j:Int)<(n:Int)-1:=by omega
 have R:(x:Int)<=18446744073709551615:=by omega
 have O:(k:Int)<=9:=by omega
 have N:t.length+(9-k)<=100000000:=by omega
 have F:t.length+(9-k)+k<=100000000:=by omega
 rw[<-V] at X;rw[K];have C:gQ (aX prog) (fun _=>[]) lh 1 6 [.int .i64 (j:Int),.int .u64 (x:Int)] (A0::.cells true 0 [.bool mn,.slice 0 0 n none]::.cells true aO [.ptr 2 0,.slice (e+7) 0 t.length none]::.cells true 1 (iB [45])::.qK::bc::.loop ⟨.ready,none,AC,34,#[17,18],Zx,body⟩::RA e t)=
  some (.bool true,A0::.cells true 0 [.bool mn,.slice 0 0 n none]::.cells true aO [.ptr 2 0,.slice (e+2+7) 0 (t++(List.replicate (9-k) 48++d)).length none]::.cells true 1 (iB [45])::.qK::bc::.loop ⟨.ready,none,AC,34,#[17,18],Zx,body⟩::RA (e+2) (t++(List.replicate (9-k) 48++d))):=by
  simp[gQ,Z,M];simp[fc,gw,f212] at hb;obtain⟨rfl,rfl⟩:=hb;clear Z M;simp[h1,h3,w1,S,R,O,G,<-V,<-X,lh,y9.or,ah,bS,gH,rZ,np,kD,R4,R5,ak,kK,N,F];omega
 exact iX aj (aI _) oK C
theorem zX(j x:Nat)(I:j+1=n)(J:n<=1000000)(H:x<1000000000):
  gG prog 4 [.int .i64 (j:Int),.int .u64 (x:Int)] (A0::.cells true 0 [.bool mn,.slice 0 0 n none]::.cells true aO [.afB,.qF]::bc::[.loop ⟨.ready,none,AC,34,ps,Zx,body⟩]) (.bool true)
   (A0::.cells true 0 [.bool mn,.slice 0 0 n none]::.cells true aO [.ptr 2 0,.slice (0+5) 0 (ai x).length none]::bc::.loop ⟨.ready,none,AC,34,ps,Zx,body⟩::RA 0 (ai x)):=by
 have N:cY Zx=true/\cY body=true/\ps= #[17,18]:=by simp[fc,gw,f212] at hb;obtain⟨rfl,rfl,rfl⟩:=hb;exact⟨by decide,by decide,rfl⟩
 obtain⟨Z,O,rfl⟩:=N;obtain⟨d,X⟩:=xE (ai x);have M:d.length<=9:=by rw[X];exact aN (by omega) H
 have V:d≠[]:=by rw[X];exact jN x
 have w1:IntKind.i64.wrap ((n:Int)-1)=(n:Int)-1:=af;have U:¬(j:Int)<(n:Int)-1:=by omega
 have S:(x:Int)<=18446744073709551615:=by omega
 have R:d.length<=100000000:=by omega
 have G:1+d.length<=100000000:=by omega
 have L:jD (iB [45])=some [45]:=kK _;rw[<-X];have K:gQ (aX prog) (fun _=>[]) lh 1 4 [.int .i64 (j:Int),.int .u64 (x:Int)] (A0::.cells true 0 [.bool mn,.slice 0 0 n none]::.cells true aO [.afB,.qF]::bc::[.loop ⟨.ready,none,AC,34,#[17,18],Zx,body⟩])=
  some (.bool true,A0::.cells true 0 [.bool mn,.slice 0 0 n none]::.cells true aO [.ptr 2 0,.slice (0+5) 0 (d).length none]::bc::.loop ⟨.ready,none,AC,34,#[17,18],Zx,body⟩::[.cells true 6001 (iB (d))]):=by
  simp[gQ,Z,O];simp[fc,gw,f212] at hb;obtain⟨rfl,rfl⟩:=hb;clear Z O;simp[h1,h3,w1,U,S,<-X,lh,y9.or,ah,bS,gH,rZ,np,ak,R,V];try omega
 exact iX aj (aI _) oK K
theorem xz(j x:Nat)(I:j+1=n)(J:n<=1000000)(H:x<1000000000):
  gG prog 6 [.int .i64 (j:Int),.int .u64 (x:Int)] (A0::.cells true 0 [.bool mn,.slice 0 0 n none]::.cells true aO [.ptr 2 0,.slice 4 0 1 none]::.cells true 1 (iB [45])::.cells true 6001 (iB [45])::bc::[.loop ⟨.ready,none,AC,34,ps,Zx,body⟩]) (.bool true)
   (A0::.cells true 0 [.bool mn,.slice 0 0 n none]::.cells true aO [.ptr 2 0,.slice (0+7) 0 (45::ai x).length none]::.cells true 1 (iB [45])::.qK::bc::.loop ⟨.ready,none,AC,34,ps,Zx,body⟩::RA 0 (45::ai x)):=by
 have O:cY Zx=true/\cY body=true/\ps= #[17,18]:=by simp[fc,gw,f212] at hb;obtain⟨rfl,rfl,rfl⟩:=hb;exact⟨by decide,by decide,rfl⟩
 obtain⟨Z,R,rfl⟩:=O;obtain⟨d,X⟩:=xE (ai x);have N:d.length<=9:=by rw[X];exact aN (by omega) H
 have M:d≠[]:=by rw[X];exact jN x
 have w1:IntKind.i64.wrap ((n:Int)-1)=(n:Int)-1:=af;have V:¬(j:Int)<(n:Int)-1:=by omega
 have U:(x:Int)<=18446744073709551615:=by omega
 have L:d.length<=100000000:=by omega
 have K:1+d.length<=100000000:=by omega
 have S:jD (iB [45])=some [45]:=kK _;rw[<-X];have G:gQ (aX prog) (fun _=>[]) lh 1 6 [.int .i64 (j:Int),.int .u64 (x:Int)] (A0::.cells true 0 [.bool mn,.slice 0 0 n none]::.cells true aO [.ptr 2 0,.slice 4 0 1 none]::.cells true 1 (iB [45])::.cells true 6001 (iB [45])::bc::[.loop ⟨.ready,none,AC,34,#[17,18],Zx,body⟩])=
  some (.bool true,A0::.cells true 0 [.bool mn,.slice 0 0 n none]::.cells true aO [.ptr 2 0,.slice (0+7) 0 (45::d).length none]::.cells true 1 (iB [45])::.qK::bc::.loop ⟨.ready,none,AC,34,#[17,18],Zx,body⟩::[.cells true 6001 (iB (45::d))]):=by
  simp[gQ,Z,R];simp[fc,gw,f212] at hb;obtain⟨rfl,rfl⟩:=hb;clear Z R;simp[h1,h3,w1,V,U,<-X,lh,y9.or,ah,bS,gH,rZ,np,ak,K,S];try omega
 exact iX aj (aI _) oK G
end
theorem LH{l:List Nat}{j:Nat}(h:j+1=l.length):l.drop (j+1)=[]:=ZN (by omega)
theorem Mh{m:Nat}{mem:Mem}{s:afq}(h:mem[k]? =some s)(hr:s.refs m=[]):qv m mem 1000 [k] []=[k]:=by
 have:mem.getD k .qK=s:=by simp[List.getD,h]
 unfold qv;rw[this,hr];simp only[List.contains_nil,Bool.false_eq_true,if_false,List.nil_append,List.append_nil];rfl
def oJ(A:List Nat)(mn:Bool)(H:afq)(j:Nat):Mem:=
 if j=A.length then .cells false 1 (iN .u64 A)::.cells true 0 [.bool mn,.slice 0 0 A.length none]::.cells true aO [.afB,.qF]::.cells true 0 [.slice 0 0 A.length none]::[H]
 else .cells false 1 (iN .u64 A)::.cells true 0 [.bool mn,.slice 0 0 A.length none]::.cells true aO [.ptr 2 0,.slice (2*(A.length-1-j)+5) 0 (ai (ao 1000000000 (A.drop j))).length none]::.cells true 0 [.slice 0 0 A.length none]::H::RA (2*(A.length-1-j)) (ai (ao 1000000000 (A.drop j)))
theorem zZ(v:Nat)(mn:Bool)(hv:0<v)(I:(dig 1000000000 v).length<=1000000)(J:fc f212=[(ps,Zx,body)])(H:Env)(h1:ad H 1=.ptr 1 0)(h3:ad H 3=.ptr 2 0)(he:H.flatMap (fun e=>e.2.refs 5)=[]):
  kO prog 279 [.yield 4,.ptr 3 0] [.cells false 1 (iN .u64 (dig 1000000000 v)),.cells true 0 [.bool mn,.slice 0 0 (dig 1000000000 v).length none],.cells true aO [.afB,.qF],.cells true 0 [.slice 0 0 (dig 1000000000 v).length none],.loop ⟨.ready,none,H,34,ps,Zx,body⟩] (.tuple [])
   [.cells false 1 (iN .u64 (dig 1000000000 v)),.cells true 0 [.bool mn,.slice 0 0 (dig 1000000000 v).length none],.cells true aO [.ptr 2 0,.slice 5 0 (ai v).length none],.cells true 0 [.slice 0 0 (dig 1000000000 v).length none],.loop ⟨.ready,none,H,34,ps,Zx,body⟩,.cells true 6001 (iB (ai v))]:=by
 obtain⟨A,L⟩:=xE (dig 1000000000 v);have K:lok 1000000000 A=true:=by rw[L];exact ca (by omega) v
 have O:ao 1000000000 A=v:=by rw[L];exact bL (by omega) v
 have G:∀j,j<A.length->0<ao 1000000000 (A.drop j):=fun j V=>by rw[L] at V |-;exact pM (by omega) V
 rw[<-L] at I |-;have hn:0<A.length:=by
  rcases QQK A.length with h | h
  .rw[Mp h] at O;simp[ao] at O;omega
  .exact h
 clear L;obtain⟨S,R⟩:=xE (afq.loop ⟨.ready,none,H,34,ps,Zx,body⟩);have B:afq.refs 5 S=[]:=by rw[R];exact xd he
 have u:∀ks,afq.ren (rho 5 ks) S=S:=fun ks=>by rw[R];exact PD he
 have N:oJ A mn S 0=.cells false 1 (iN .u64 A)::.cells true 0 [.bool mn,.slice 0 0 A.length none]::.cells true aO [.ptr 2 0,.slice (2*(A.length-1)+5) 0 (ai v).length none]::.cells true 0 [.slice 0 0 A.length none]::S::RA (2*(A.length-1)) (ai v):=by unfold oJ;rw[if_neg (by omega),List.drop_zero,O,QXQ]
 have U:oJ A mn S A.length=[.cells false 1 (iN .u64 A),.cells true 0 [.bool mn,.slice 0 0 A.length none],.cells true aO [.afB,.qF],.cells true 0 [.slice 0 0 A.length none],S]:=by unfold oJ;rw[if_pos rfl]
 have X:∀j,j<A.length->oJ A mn S j=.cells false 1 (iN .u64 A)::.cells true 0 [.bool mn,.slice 0 0 A.length none]::.cells true aO [.ptr 2 0,.slice (2*(A.length-1-j)+5) 0 (ai (ao 1000000000 (A.drop j))).length none]::.cells true 0 [.slice 0 0 A.length none]::S::RA (2*(A.length-1-j)) (ai (ao 1000000000 (A.drop j))):=fun j V=>by unfold oJ;rw[if_neg (by omega)]
 have M:=tK (n:=A.length) (A:=A) rfl hn (by omega) 3 0 4 5 0 true false (oJ A mn S) (by rw[U];rfl)
  (fun j V=>by
   rw[X j V];by_cases Z:j+1=A.length
   .rw[Z,U];simp[kD]
   .rw[X (j+1) (by omega)];simp[kD];omega)
  (fun j V=>by
   by_cases Z:j=A.length
   .rw[Z,U];rfl
   .rw[X j (by omega)];rfl)
  (fun j V=>by
   by_cases Z:j=A.length
   .rw[Z,U];rfl
   .rw[X j (by omega)];rfl)
  (fun j V=>by
   rw[X j V];have F:∀e,¬e+5<5:=fun e=>by omega
   simp[F])
  (fun j V=>by
   obtain⟨x,C,Zw⟩:=de V;have hg:A.getD j 0=x:=by simp[List.getD,C]
   have o:=fa K C;rw[hg];by_cases Z:j+1=A.length
   .rw[Z,U,X j V]
    have m:A.length-1-j=0:=by omega
    have Y:ao 1000000000 (A.drop j)=x:=by rw[n9 C,LH Z];simp[ao]
    rw[m,Y,R];exact zX _ mn A.length _ H h1 h3 J j x Z I o
   .rw[X j V,X (j+1) (by omega)]
    have m:2*(A.length-1-j)=2*(A.length-1-(j+1))+2:=by omega
    have Y:ai (ao 1000000000 (A.drop j))=ai (ao 1000000000 (A.drop (j+1)))++MI 9 x:=by rw[n9 C];exact AX (w:=9) (by omega) o (G (j+1) (by omega))
    have e3:(ai (ao 1000000000 (A.drop (j+1)))).length<=89000000:=by
     have h1:=gW (jI K (j+1));have h2:(1000000000:Nat) ^ (A.drop (j+1)).length=10 ^ (9*(A.drop (j+1)).length):=by rw[Nat.pow_mul]
     rw[h2] at h1;have h3:0<9*(A.drop (j+1)).length:=by simp;omega
     have h4:=aN h3 h1;simp at h4;omega
    rw[m,Y,R];exact zY _ mn A.length _ H h1 h3 J j x _ (ai (ao 1000000000 (A.drop (j+1)))) (by omega) I o (by first | omega | (simp only[List.length_cons];omega)))
  [2*(A.length-1)+5] (by
   rw[N];have F:¬2*(A.length-1)+5<5:=by omega
   have hf:List.flatMap (afq.refs 5) (List.take 5 (.cells false 1 (iN .u64 A)::.cells true 0 [.bool mn,.slice 0 0 A.length none]::.cells true aO [.ptr 2 0,.slice (2*(A.length-1)+5) 0 (ai v).length none]::.cells true 0 [.slice 0 0 A.length none]::S::RA (2*(A.length-1)) (ai v)))=[2*(A.length-1)+5]:=by simp only[List.take_succ_cons,List.take_zero,List.flatMap_cons,List.flatMap_nil,B];simp[F]
   rw[hf];exact Mh (s:=.cells true 6001 (iB (ai v))) (by simp[RA]) (by simp)) (by
   rw[N];simp[kD])
 have F:¬2*(A.length-1)+5<5:=by omega
 rw[N,U] at M;simp only[List.take_succ_cons,List.take_zero,List.map_cons,List.map_nil,u] at M;simpa [R,List.idxOf?,RA,F] using M
def lL(A:List Nat)(mn:Bool)(H:afq)(j:Nat):Mem:=
 if j=A.length then .cells false 1 (iN .u64 A)::.cells true 0 [.bool mn,.slice 0 0 A.length none]::.cells true aO [.ptr 2 0,.slice 4 0 1 none]::.cells true 1 (iB [45])::.cells true 6001 (iB [45])::.cells true 0 [.slice 0 0 A.length none]::[H]
 else .cells false 1 (iN .u64 A)::.cells true 0 [.bool mn,.slice 0 0 A.length none]::.cells true aO [.ptr 2 0,.slice (2*(A.length-1-j)+7) 0 (45::ai (ao 1000000000 (A.drop j))).length none]::.cells true 1 (iB [45])::.qK::.cells true 0 [.slice 0 0 A.length none]::H::RA (2*(A.length-1-j)) (45::ai (ao 1000000000 (A.drop j)))
theorem xC(v:Nat)(mn:Bool)(hv:0<v)(I:(dig 1000000000 v).length<=1000000)(J:fc f212=[(ps,Zx,body)])(H:Env)(h1:ad H 1=.ptr 1 0)(h3:ad H 3=.ptr 2 0)(he:H.flatMap (fun e=>e.2.refs 7)=[]):
  kO prog 279 [.yield 6,.ptr 5 0] [.cells false 1 (iN .u64 (dig 1000000000 v)),.cells true 0 [.bool mn,.slice 0 0 (dig 1000000000 v).length none],.cells true aO [.ptr 2 0,.slice 4 0 1 none],.cells true 1 (iB [45]),.cells true 6001 (iB [45]),.cells true 0 [.slice 0 0 (dig 1000000000 v).length none],.loop ⟨.ready,none,H,34,ps,Zx,body⟩] (.tuple [])
   [.cells false 1 (iN .u64 (dig 1000000000 v)),.cells true 0 [.bool mn,.slice 0 0 (dig 1000000000 v).length none],.cells true aO [.ptr 2 0,.slice 7 0 (45::ai v).length none],.cells true 1 (iB [45]),.qK,.cells true 0 [.slice 0 0 (dig 1000000000 v).length none],.loop ⟨.ready,none,H,34,ps,Zx,body⟩,.cells true 6001 (iB (45::ai v))]:=by
 obtain⟨A,L⟩:=xE (dig 1000000000 v);have K:lok 1000000000 A=true:=by rw[L];exact ca (by omega) v
 have O:ao 1000000000 A=v:=by rw[L];exact bL (by omega) v
 have G:∀j,j<A.length->0<ao 1000000000 (A.drop j):=fun j V=>by rw[L] at V |-;exact pM (by omega) V
 rw[<-L] at I |-;have hn:0<A.length:=by
  rcases QQK A.length with h | h
  .rw[Mp h] at O;simp[ao] at O;omega
  .exact h
 clear L;obtain⟨S,R⟩:=xE (afq.loop ⟨.ready,none,H,34,ps,Zx,body⟩);have B:afq.refs 7 S=[]:=by rw[R];exact xd he
 have u:∀ks,afq.ren (rho 7 ks) S=S:=fun ks=>by rw[R];exact PD he
 have N:lL A mn S 0=.cells false 1 (iN .u64 A)::.cells true 0 [.bool mn,.slice 0 0 A.length none]::.cells true aO [.ptr 2 0,.slice (2*(A.length-1)+7) 0 (45::ai v).length none]::.cells true 1 (iB [45])::.qK::.cells true 0 [.slice 0 0 A.length none]::S::RA (2*(A.length-1)) (45::ai v):=by unfold lL;rw[if_neg (by omega),List.drop_zero,O,QXQ]
 have U:lL A mn S A.length=[.cells false 1 (iN .u64 A),.cells true 0 [.bool mn,.slice 0 0 A.length none],.cells true aO [.ptr 2 0,.slice 4 0 1 none],.cells true 1 (iB [45]),.cells true 6001 (iB [45]),.cells true 0 [.slice 0 0 A.length none],S]:=by unfold lL;rw[if_pos rfl]
 have X:∀j,j<A.length->lL A mn S j=.cells false 1 (iN .u64 A)::.cells true 0 [.bool mn,.slice 0 0 A.length none]::.cells true aO [.ptr 2 0,.slice (2*(A.length-1-j)+7) 0 (45::ai (ao 1000000000 (A.drop j))).length none]::.cells true 1 (iB [45])::.qK::.cells true 0 [.slice 0 0 A.length none]::S::RA (2*(A.length-1-j)) (45::ai (ao 1000000000 (A.drop j))):=fun j V=>by unfold lL;rw[if_neg (by omega)]
 have M:=tK (n:=A.length) (A:=A) rfl hn (by omega) 5 0 6 7 0 true false (lL A mn S) (by rw[U];rfl)
  (fun j V=>by
   rw[X j V];by_cases Z:j+1=A.length
   .rw[Z,U];simp[kD]
   .rw[X (j+1) (by omega)];simp[kD];omega)
  (fun j V=>by
   by_cases Z:j=A.length
   .rw[Z,U];rfl
   .rw[X j (by omega)];rfl)
  (fun j V=>by
   by_cases Z:j=A.length
   .rw[Z,U];rfl
   .rw[X j (by omega)];rfl)
  (fun j V=>by
   rw[X j V];have F:∀e,¬e+7<7:=fun e=>by omega
   simp[F])
  (fun j V=>by
   obtain⟨x,C,Zw⟩:=de V;have hg:A.getD j 0=x:=by simp[List.getD,C]
   have o:=fa K C;rw[hg];by_cases Z:j+1=A.length
   .rw[Z,U,X j V]
    have m:A.length-1-j=0:=by omega
    have Y:ao 1000000000 (A.drop j)=x:=by rw[n9 C,LH Z];simp[ao]
    rw[m,Y,R];exact xz _ mn A.length _ H h1 h3 J j x Z I o
   .rw[X j V,X (j+1) (by omega)]
    have m:2*(A.length-1-j)=2*(A.length-1-(j+1))+2:=by omega
    have Y:ai (ao 1000000000 (A.drop j))=ai (ao 1000000000 (A.drop (j+1)))++MI 9 x:=by rw[n9 C];exact AX (w:=9) (by omega) o (G (j+1) (by omega))
    have e3:(ai (ao 1000000000 (A.drop (j+1)))).length<=89000000:=by
     have h1:=gW (jI K (j+1));have h2:(1000000000:Nat) ^ (A.drop (j+1)).length=10 ^ (9*(A.drop (j+1)).length):=by rw[Nat.pow_mul]
     rw[h2] at h1;have h3:0<9*(A.drop (j+1)).length:=by simp;omega
     have h4:=aN h3 h1;simp at h4;omega
    rw[m,Y,R];exact xA _ mn A.length _ H h1 h3 J j x _ (45::ai (ao 1000000000 (A.drop (j+1)))) (by omega) I o (by first | omega | (simp only[List.length_cons];omega)))
  [2*(A.length-1)+7] (by
   rw[N];have F:¬2*(A.length-1)+7<7:=by omega
   have hf:List.flatMap (afq.refs 7) (List.take 7 (.cells false 1 (iN .u64 A)::.cells true 0 [.bool mn,.slice 0 0 A.length none]::.cells true aO [.ptr 2 0,.slice (2*(A.length-1)+7) 0 (45::ai v).length none]::.cells true 1 (iB [45])::.qK::.cells true 0 [.slice 0 0 A.length none]::S::RA (2*(A.length-1)) (45::ai v)))=[2*(A.length-1)+7]:=by simp only[List.take_succ_cons,List.take_zero,List.flatMap_cons,List.flatMap_nil,B];simp[F]
   rw[hf];exact Mh (s:=.cells true 6001 (iB (45::ai v))) (by simp[RA]) (by simp)) (by
   rw[N];simp[kD])
 have F:¬2*(A.length-1)+7<7:=by omega
 rw[N,U] at M;simp only[List.take_succ_cons,List.take_zero,List.map_cons,List.map_nil,u] at M;simpa [R,List.idxOf?,RA,F] using M
end Go.Proofs
