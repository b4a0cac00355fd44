/- See D38. -/
import Derived.Test.YthpgbelancmpjaaGreatDoorD13
set_option linter.all false
namespace Go.Eng
def Mw(w x:Nat):List UInt8:=List.replicate (w-(ai x).length) 48++ai x
theorem RO(k:Nat)(r:List UInt8):vw 0 (List.replicate k 48++r)=vw 0 r:=by
 induction k with
 |zero=>rfl
 |succ k ih=>
  rw[List.replicate_succ,List.cons_append,fm];exact ih
theorem Ui(w x:Nat):fl (Mw w x)=x:=by unfold Mw fl;rw[RO];exact dK x
theorem VV(w x:Nat):(Mw w x).all isD=true:=by unfold Mw;rw[List.all_append,dH,Bool.and_true,List.all_eq_true];intro c Z;rw[(List.mem_replicate.1 Z).2];rfl
variable{w x:Nat}
theorem Ou(H:0<w)(I:x<10 ^ w):(Mw w x).length=w:=by have:=aN H I;unfold Mw;simp only[SP,QXb];omega
variable{v:Nat}
theorem GB(H:0<v){t:List UInt8}(I:t.all isD=true):gK (ai v++t)=true:=by
 have Z:=dH v;have X:=jQ v;have h3:=wN v H;cases hl:ai v with
 |nil=>exact absurd hl X
 |cons c r=>
  rw[hl] at Z h3;simp only[QQb,C0] at Z;simp only[List.head?_cons,ne_eq,Pi] at h3;simp only[List.cons_append,gK,List.all_append,Z.1,Z.2,I];simp[h3]
theorem AJ(H:0<w)(I:x<10 ^ w)(J:0<v):ai (x+10 ^ w*v)=ai v++Mw w x:=by have h:=sh (GB J (VV w x));rw[vp,dK,Ui,Ou H I] at h;rw[<-h,Zq,QXJ]
theorem TC(H:0<w)(I:x<10 ^ w):(ai (10 ^ w+x)).drop 1=Mw w x:=by have:=AJ H I (v:=1) (by omega);rw[Nat.mul_one,QXJ] at this;rw[this];rfl
variable{B j:Nat}
theorem om{l:List Nat}{d:Nat}(h:l[j]? =some d):aq B (l.drop j)=d+B*aq B (l.drop (j+1)):=by have Z:=(Ns.1 h);obtain⟨Z,rfl⟩:=Z;rw[N0 Z];rfl
theorem pL{n:Nat}(H:2<=B)(I:j<(dig B n).length):0<aq B ((dig B n).drop j):=by
 rcases QQX (aq B ((dig B n).drop j)) with h | h
 .exfalso
  have X:=dS H (jK (bX H n) j);rw[h,dT] at X;have V:aW (dig B n)=(dig B n):=cj H n;have h3:=sV B (l:=dig B n) (n:=j) (by omega);rw[h,Nat.mul_zero,Nat.add_zero,bO H] at h3;have Z:=ia (jL (bX H n) j);rw[<-h3,S2,Nat.min_eq_left (by omega)] at Z;have U:=fH H Z;omega
 .exact h
end Go.Eng
namespace Go.Proofs
open Go.Eng
open Tryz
def RA(e:Nat)(t:List UInt8):Mem:=List.replicate e .qK++[.cells true 6001 (iB t)]
theorem kD(e:Nat)(t:List UInt8):(RA e t).length=e+1:=by simp[RA]
theorem RU(e:Nat)(t:List UInt8)(h:e<(RA e t).length):(RA e t)[e]=.cells true 6001 (iB t):=by simp[RA]
theorem RV(e:Nat)(t s:List UInt8):(RA e t).set e .qK++[.cells true 6001 (iB s)]=RA (e+1) s:=by simp[RA,List.replicate_succ']
variable{k:Nat}
theorem E5(h:k<=9):(([48,48,48,48,48,48,48,48,48]:List UInt8).drop k).take (9-k)=List.replicate (9-k) 48:=by
 have:k=0\/k=1\/k=2\/k=3\/k=4\/k=5\/k=6\/k=7\/k=8\/k=9:=by omega
 rcases this with rfl | rfl | rfl | rfl | rfl | rfl | rfl | rfl | rfl | rfl<;>rfl
noncomputable def lg:y9:=(ag bS).or gJ
theorem oL:qS prog lg:=Bn.or yx
variable{Zb body:Code}{ps:Array Tmp}
section
variable (A0:afl)(mn:Bool)(n:Nat)(bc:afl)(z':Env)(h1:ae z' 1=.ptr 1 0)(h3:ae z' 3=.ptr 2 0)(hb:fh f212=[(ps,Zb,body)])
include A0 mn n bc z' h1 h3 hb
theorem zF(j x e:Nat)(t:List UInt8)(I:j+1<n)(J:n<=1000000)(H:x<1000000000)(W:t.length<=90000000):
  gH prog 4 [.int .i64 (j:Int),.int .u64 (x:Int)] (A0::.cells true 0 [.bool mn,.slice 0 0 n none]::.cells true aO [.ptr 2 0,.slice (e+5) 0 t.length none]::bc::.loop ⟨.ready,none,z',34,ps,Zb,body⟩::RA e t) (.bool true)
   (A0::.cells true 0 [.bool mn,.slice 0 0 n none]::.cells true aO [.ptr 2 0,.slice (e+2+5) 0 (t++Mw 9 x).length none]::bc::.loop ⟨.ready,none,z',34,ps,Zb,body⟩::RA (e+2) (t++Mw 9 x)):=by
 have M:dc Zb=true/\dc body=true/\ps= #[17,18]:=by simp[fh,gv,f212] at hb;obtain⟨rfl,rfl,rfl⟩:=hb;exact⟨by decide,by decide,rfl⟩
 obtain⟨O,N,rfl⟩:=M;obtain⟨k,Z⟩:=xE ((ai x).length);obtain⟨d,X⟩:=xE (ai x);have V:k<=9:=by rw[Z];exact aN (by omega) H
 have L:Mw 9 x=List.replicate (9-k) 48++d:=by rw[Z,X];rfl
 have K:=E5 V;have w1:IntKind.i64.wrap ((n:Int)-1)=(n:Int)-1:=af;have U:(j:Int)<(n:Int)-1:=by omega
 have S:(x:Int)<=18446744073709551615:=by omega
 have R:(k:Int)<=9:=by omega
 have G:t.length+(9-k)<=100000000:=by omega
 have F:t.length+(9-k)+k<=100000000:=by omega
 rw[<-X] at Z;rw[L];have D:gR (bd prog) (fun _=>[]) lg 1 4 [.int .i64 (j:Int),.int .u64 (x:Int)] (A0::.cells true 0 [.bool mn,.slice 0 0 n none]::.cells true aO [.ptr 2 0,.slice (e+5) 0 t.length none]::bc::.loop ⟨.ready,none,z',34,#[17,18],Zb,body⟩::RA e t)=
  some (.bool true,A0::.cells true 0 [.bool mn,.slice 0 0 n none]::.cells true aO [.ptr 2 0,.slice (e+2+5) 0 (t++(List.replicate (9-k) 48++d)).length none]::bc::.loop ⟨.ready,none,z',34,#[17,18],Zb,body⟩::RA (e+2) (t++(List.replicate (9-k) 48++d))):=by
  simp[gR,O,N];simp[fh,gv,f212] at hb;obtain⟨rfl,rfl⟩:=hb;clear O N;simp[h1,h3,w1,U,S,R,K,<-X,<-Z,lg,y9.or,ag,bS,gJ,rY,nC,kD,RU,RV,ak,kK,G,F];omega
 exact jb aj (aJ _) oL D
theorem xn(j x e:Nat)(t:List UInt8)(I:j+1<n)(J:n<=1000000)(H:x<1000000000)(W:t.length<=90000000):
  gH prog 6 [.int .i64 (j:Int),.int .u64 (x:Int)] (A0::.cells true 0 [.bool mn,.slice 0 0 n none]::.cells true aO [.ptr 2 0,.slice (e+7) 0 t.length none]::.cells true 1 (iB [45])::.qK::bc::.loop ⟨.ready,none,z',34,ps,Zb,body⟩::RA e t) (.bool true)
   (A0::.cells true 0 [.bool mn,.slice 0 0 n none]::.cells true aO [.ptr 2 0,.slice (e+2+7) 0 (t++Mw 9 x).length none]::.cells true 1 (iB [45])::.qK::bc::.loop ⟨.ready,none,z',34,ps,Zb,body⟩::RA (e+2) (t++Mw 9 x)):=by
 have M:dc Zb=true/\dc body=true/\ps= #[17,18]:=by simp[fh,gv,f212] at hb;obtain⟨rfl,rfl,rfl⟩:=hb;exact⟨by decide,by decide,rfl⟩
 obtain⟨O,N,rfl⟩:=M;obtain⟨k,Z⟩:=xE ((ai x).length);obtain⟨d,X⟩:=xE (ai x);have V:k<=9:=by rw[Z];exact aN (by omega) H
 have L:Mw 9 x=List.replicate (9-k) 48++d:=by rw[Z,X];rfl
 have K:=E5 V;have w1:IntKind.i64.wrap ((n:Int)-1)=(n:Int)-1:=af;have U:(j:Int)<(n:Int)-1:=by omega
 have S:(x:Int)<=18446744073709551615:=by omega
 have R:(k:Int)<=9:=by omega
 have G:t.length+(9-k)<=100000000:=by omega
 have F:t.length+(9-k)+k<=100000000:=by omega
 rw[<-X] at Z;rw[L];have D:gR (bd prog) (fun _=>[]) lg 1 6 [.int .i64 (j:Int),.int .u64 (x:Int)] (A0::.cells true 0 [.bool mn,.slice 0 0 n none]::.cells true aO [.ptr 2 0,.slice (e+7) 0 t.length none]::.cells true 1 (iB [45])::.qK::bc::.loop ⟨.ready,none,z',34,#[17,18],Zb,body⟩::RA e t)=
  some (.bool true,A0::.cells true 0 [.bool mn,.slice 0 0 n none]::.cells true aO [.ptr 2 0,.slice (e+2+7) 0 (t++(List.replicate (9-k) 48++d)).length none]::.cells true 1 (iB [45])::.qK::bc::.loop ⟨.ready,none,z',34,#[17,18],Zb,body⟩::RA (e+2) (t++(List.replicate (9-k) 48++d))):=by
  simp[gR,O,N];simp[fh,gv,f212] at hb;obtain⟨rfl,rfl⟩:=hb;clear O N;simp[h1,h3,w1,U,S,R,K,<-X,<-Z,lg,y9.or,ag,bS,gJ,rY,nC,kD,RU,RV,ak,kK,G,F];omega
 exact jb aj (aJ _) oL D
theorem zE(j x:Nat)(I:j+1=n)(J:n<=1000000)(H:x<1000000000):
  gH prog 4 [.int .i64 (j:Int),.int .u64 (x:Int)] (A0::.cells true 0 [.bool mn,.slice 0 0 n none]::.cells true aO [.afw,.qF]::bc::[.loop ⟨.ready,none,z',34,ps,Zb,body⟩]) (.bool true)
   (A0::.cells true 0 [.bool mn,.slice 0 0 n none]::.cells true aO [.ptr 2 0,.slice (0+5) 0 (ai x).length none]::bc::.loop ⟨.ready,none,z',34,ps,Zb,body⟩::RA 0 (ai x)):=by
 have O:dc Zb=true/\dc body=true/\ps= #[17,18]:=by simp[fh,gv,f212] at hb;obtain⟨rfl,rfl,rfl⟩:=hb;exact⟨by decide,by decide,rfl⟩
 obtain⟨S,R,rfl⟩:=O;obtain⟨d,Z⟩:=xE (ai x);have N:d.length<=9:=by rw[Z];exact aN (by omega) H
 have X:d≠[]:=by rw[Z];exact jQ x
 have w1:IntKind.i64.wrap ((n:Int)-1)=(n:Int)-1:=af;have V:¬(j:Int)<(n:Int)-1:=by omega
 have U:(x:Int)<=18446744073709551615:=by omega
 have M:d.length<=100000000:=by omega
 have G:1+d.length<=100000000:=by omega
 have L:jF (iB [45])=some [45]:=kK _;rw[<-Z];have K:gR (bd prog) (fun _=>[]) lg 1 4 [.int .i64 (j:Int),.int .u64 (x:Int)] (A0::.cells true 0 [.bool mn,.slice 0 0 n none]::.cells true aO [.afw,.qF]::bc::[.loop ⟨.ready,none,z',34,#[17,18],Zb,body⟩])=
  some (.bool true,A0::.cells true 0 [.bool mn,.slice 0 0 n none]::.cells true aO [.ptr 2 0,.slice (0+5) 0 (d).length none]::bc::.loop ⟨.ready,none,z',34,#[17,18],Zb,body⟩::[.cells true 6001 (iB (d))]):=by
  simp[gR,S,R];simp[fh,gv,f212] at hb;obtain⟨rfl,rfl⟩:=hb;clear S R;simp[h1,h3,w1,V,U,<-Z,lg,y9.or,ag,bS,gJ,rY,nC,ak,M,X];try omega
 exact jb aj (aJ _) oL K
theorem xm(j x:Nat)(I:j+1=n)(J:n<=1000000)(H:x<1000000000):
  gH prog 6 [.int .i64 (j:Int),.int .u64 (x:Int)] (A0::.cells true 0 [.bool mn,.slice 0 0 n none]::.cells true aO [.ptr 2 0,.slice 4 0 1 none]::.cells true 1 (iB [45])::.cells true 6001 (iB [45])::bc::[.loop ⟨.ready,none,z',34,ps,Zb,body⟩]) (.bool true)
   (A0::.cells true 0 [.bool mn,.slice 0 0 n none]::.cells true aO [.ptr 2 0,.slice (0+7) 0 (45::ai x).length none]::.cells true 1 (iB [45])::.qK::bc::.loop ⟨.ready,none,z',34,ps,Zb,body⟩::RA 0 (45::ai x)):=by
 have O:dc Zb=true/\dc body=true/\ps= #[17,18]:=by simp[fh,gv,f212] at hb;obtain⟨rfl,rfl,rfl⟩:=hb;exact⟨by decide,by decide,rfl⟩
 obtain⟨S,R,rfl⟩:=O;obtain⟨d,Z⟩:=xE (ai x);have N:d.length<=9:=by rw[Z];exact aN (by omega) H
 have M:d≠[]:=by rw[Z];exact jQ x
 have w1:IntKind.i64.wrap ((n:Int)-1)=(n:Int)-1:=af;have X:¬(j:Int)<(n:Int)-1:=by omega
 have V:(x:Int)<=18446744073709551615:=by omega
 have G:d.length<=100000000:=by omega
 have L:1+d.length<=100000000:=by omega
 have U:jF (iB [45])=some [45]:=kK _;rw[<-Z];have K:gR (bd prog) (fun _=>[]) lg 1 6 [.int .i64 (j:Int),.int .u64 (x:Int)] (A0::.cells true 0 [.bool mn,.slice 0 0 n none]::.cells true aO [.ptr 2 0,.slice 4 0 1 none]::.cells true 1 (iB [45])::.cells true 6001 (iB [45])::bc::[.loop ⟨.ready,none,z',34,#[17,18],Zb,body⟩])=
  some (.bool true,A0::.cells true 0 [.bool mn,.slice 0 0 n none]::.cells true aO [.ptr 2 0,.slice (0+7) 0 (45::d).length none]::.cells true 1 (iB [45])::.qK::bc::.loop ⟨.ready,none,z',34,#[17,18],Zb,body⟩::[.cells true 6001 (iB (45::d))]):=by
  simp[gR,S,R];simp[fh,gv,f212] at hb;obtain⟨rfl,rfl⟩:=hb;clear S R;simp[h1,h3,w1,X,V,<-Z,lg,y9.or,ag,bS,gJ,rY,nC,ak,L,U];try omega
 exact jb aj (aJ _) oL K
end
theorem Ll{l:List Nat}{j:Nat}(h:j+1=l.length):l.drop (j+1)=[]:=ZN (by omega)
theorem LZ{m:Nat}{mem:Mem}{s:afl}(h:mem[k]? =some s)(hr:s.refs m=[]):qs m mem 1000 [k] []=[k]:=by
 have:mem.getD k .qK=s:=by simp[List.getD,h]
 unfold qs;rw[this,hr];simp only[List.contains_nil,Bool.false_eq_true,if_false,List.nil_append,List.append_nil];rfl
def oK(A:List Nat)(mn:Bool)(H:afl)(j:Nat):Mem:=
 if j=A.length then .cells false 1 (iN .u64 A)::.cells true 0 [.bool mn,.slice 0 0 A.length none]::.cells true aO [.afw,.qF]::.cells true 0 [.slice 0 0 A.length none]::[H]
 else .cells false 1 (iN .u64 A)::.cells true 0 [.bool mn,.slice 0 0 A.length none]::.cells true aO [.ptr 2 0,.slice (2*(A.length-1-j)+5) 0 (ai (aq 1000000000 (A.drop j))).length none]::.cells true 0 [.slice 0 0 A.length none]::H::RA (2*(A.length-1-j)) (ai (aq 1000000000 (A.drop j)))
theorem zG(v:Nat)(mn:Bool)(hv:0<v)(I:(dig 1000000000 v).length<=1000000)(J:fh f212=[(ps,Zb,body)])(H:Env)(h1:ae H 1=.ptr 1 0)(h3:ae H 3=.ptr 2 0)(W:H.flatMap (fun e=>e.2.refs 5)=[]):
  kO prog 279 [.yield 4,.ptr 3 0] [.cells false 1 (iN .u64 (dig 1000000000 v)),.cells true 0 [.bool mn,.slice 0 0 (dig 1000000000 v).length none],.cells true aO [.afw,.qF],.cells true 0 [.slice 0 0 (dig 1000000000 v).length none],.loop ⟨.ready,none,H,34,ps,Zb,body⟩] (.tuple [])
   [.cells false 1 (iN .u64 (dig 1000000000 v)),.cells true 0 [.bool mn,.slice 0 0 (dig 1000000000 v).length none],.cells true aO [.ptr 2 0,.slice 5 0 (ai v).length none],.cells true 0 [.slice 0 0 (dig 1000000000 v).length none],.loop ⟨.ready,none,H,34,ps,Zb,body⟩,.cells true 6001 (iB (ai v))]:=by
 obtain⟨A,L⟩:=xE (dig 1000000000 v);have K:lok 1000000000 A=true:=by rw[L];exact bX (by omega) v
 have O:aq 1000000000 A=v:=by rw[L];exact bO (by omega) v
 have G:∀j,j<A.length->0<aq 1000000000 (A.drop j):=fun j V=>by rw[L] at V |-;exact pL (by omega) V
 rw[<-L] at I |-;have hn:0<A.length:=by
  rcases QQX A.length with h | h
  .rw[Mp h] at O;simp[aq] at O;omega
  .exact h
 clear L;obtain⟨S,R⟩:=xE (afl.loop ⟨.ready,none,H,34,ps,Zb,body⟩);have C:afl.refs 5 S=[]:=by rw[R];exact wS W
 have B:∀Y,afl.ren (rho 5 Y) S=S:=fun Y=>by rw[R];exact Pr W
 have N:oK A mn S 0=.cells false 1 (iN .u64 A)::.cells true 0 [.bool mn,.slice 0 0 A.length none]::.cells true aO [.ptr 2 0,.slice (2*(A.length-1)+5) 0 (ai v).length none]::.cells true 0 [.slice 0 0 A.length none]::S::RA (2*(A.length-1)) (ai v):=by unfold oK;rw[if_neg (by omega),List.drop_zero,O,QQi]
 have U:oK A mn S A.length=[.cells false 1 (iN .u64 A),.cells true 0 [.bool mn,.slice 0 0 A.length none],.cells true aO [.afw,.qF],.cells true 0 [.slice 0 0 A.length none],S]:=by unfold oK;rw[if_pos rfl]
 have X:∀j,j<A.length->oK A mn S j=.cells false 1 (iN .u64 A)::.cells true 0 [.bool mn,.slice 0 0 A.length none]::.cells true aO [.ptr 2 0,.slice (2*(A.length-1-j)+5) 0 (ai (aq 1000000000 (A.drop j))).length none]::.cells true 0 [.slice 0 0 A.length none]::S::RA (2*(A.length-1-j)) (ai (aq 1000000000 (A.drop j))):=fun j V=>by unfold oK;rw[if_neg (by omega)]
 have M:=tK (n:=A.length) (A:=A) rfl hn (by omega) 3 0 4 5 0 true false (oK A mn S) (by rw[U];rfl)
  (fun j V=>by
   rw[X j V];by_cases Z:j+1=A.length
   .rw[Z,U];simp[kD]
   .rw[X (j+1) (by omega)];simp[kD];omega)
  (fun j V=>by
   by_cases Z:j=A.length
   .rw[Z,U];rfl
   .rw[X j (by omega)];rfl)
  (fun j V=>by
   by_cases Z:j=A.length
   .rw[Z,U];rfl
   .rw[X j (by omega)];rfl)
  (fun j V=>by
   rw[X j V];have F:∀e,¬e+5<5:=fun e=>by omega
   simp[F])
  (fun j V=>by
   obtain⟨x,D,Y9⟩:=dh V;have hg:A.getD j 0=x:=by simp[List.getD,D]
   have u:=ff K D;rw[hg];by_cases Z:j+1=A.length
   .rw[Z,U,X j V]
    have o:A.length-1-j=0:=by omega
    have m:aq 1000000000 (A.drop j)=x:=by rw[om D,Ll Z];simp[aq]
    rw[o,m,R];exact zE _ mn A.length _ H h1 h3 J j x Z I u
   .rw[X j V,X (j+1) (by omega)]
    have o:2*(A.length-1-j)=2*(A.length-1-(j+1))+2:=by omega
    have m:ai (aq 1000000000 (A.drop j))=ai (aq 1000000000 (A.drop (j+1)))++Mw 9 x:=by rw[om D];exact AJ (w:=9) (by omega) u (G (j+1) (by omega))
    have e3:(ai (aq 1000000000 (A.drop (j+1)))).length<=89000000:=by
     have h1:=ia (jK K (j+1));have h2:(1000000000:Nat) ^ (A.drop (j+1)).length=10 ^ (9*(A.drop (j+1)).length):=by rw[Nat.pow_mul]
     rw[h2] at h1;have h3:0<9*(A.drop (j+1)).length:=by simp;omega
     have h4:=aN h3 h1;simp at h4;omega
    rw[o,m,R];exact zF _ mn A.length _ H h1 h3 J j x _ (ai (aq 1000000000 (A.drop (j+1)))) (by omega) I u (by first | omega | (simp only[List.length_cons];omega)))
  [2*(A.length-1)+5] (by
   rw[N];have F:¬2*(A.length-1)+5<5:=by omega
   have hf:List.flatMap (afl.refs 5) (List.take 5 (.cells false 1 (iN .u64 A)::.cells true 0 [.bool mn,.slice 0 0 A.length none]::.cells true aO [.ptr 2 0,.slice (2*(A.length-1)+5) 0 (ai v).length none]::.cells true 0 [.slice 0 0 A.length none]::S::RA (2*(A.length-1)) (ai v)))=[2*(A.length-1)+5]:=by simp only[List.take_succ_cons,List.take_zero,List.flatMap_cons,List.flatMap_nil,C];simp[F]
   rw[hf];exact LZ (s:=.cells true 6001 (iB (ai v))) (by simp[RA]) (by simp)) (by
   rw[N];simp[kD])
 have F:¬2*(A.length-1)+5<5:=by omega
 rw[N,U] at M;simp only[List.take_succ_cons,List.take_zero,List.map_cons,List.map_nil,B] at M;simpa [R,List.idxOf?,RA,F] using M
def lP(A:List Nat)(mn:Bool)(H:afl)(j:Nat):Mem:=
 if j=A.length then .cells false 1 (iN .u64 A)::.cells true 0 [.bool mn,.slice 0 0 A.length none]::.cells true aO [.ptr 2 0,.slice 4 0 1 none]::.cells true 1 (iB [45])::.cells true 6001 (iB [45])::.cells true 0 [.slice 0 0 A.length none]::[H]
 else .cells false 1 (iN .u64 A)::.cells true 0 [.bool mn,.slice 0 0 A.length none]::.cells true aO [.ptr 2 0,.slice (2*(A.length-1-j)+7) 0 (45::ai (aq 1000000000 (A.drop j))).length none]::.cells true 1 (iB [45])::.qK::.cells true 0 [.slice 0 0 A.length none]::H::RA (2*(A.length-1-j)) (45::ai (aq 1000000000 (A.drop j)))
theorem xp(v:Nat)(mn:Bool)(hv:0<v)(I:(dig 1000000000 v).length<=1000000)(J:fh f212=[(ps,Zb,body)])(H:Env)(h1:ae H 1=.ptr 1 0)(h3:ae H 3=.ptr 2 0)(W:H.flatMap (fun e=>e.2.refs 7)=[]):
  kO prog 279 [.yield 6,.ptr 5 0] [.cells false 1 (iN .u64 (dig 1000000000 v)),.cells true 0 [.bool mn,.slice 0 0 (dig 1000000000 v).length none],.cells true aO [.ptr 2 0,.slice 4 0 1 none],.cells true 1 (iB [45]),.cells true 6001 (iB [45]),.cells true 0 [.slice 0 0 (dig 1000000000 v).length none],.loop ⟨.ready,none,H,34,ps,Zb,body⟩] (.tuple [])
   [.cells false 1 (iN .u64 (dig 1000000000 v)),.cells true 0 [.bool mn,.slice 0 0 (dig 1000000000 v).length none],.cells true aO [.ptr 2 0,.slice 7 0 (45::ai v).length none],.cells true 1 (iB [45]),.qK,.cells true 0 [.slice 0 0 (dig 1000000000 v).length none],.loop ⟨.ready,none,H,34,ps,Zb,body⟩,.cells true 6001 (iB (45::ai v))]:=by
 obtain⟨A,L⟩:=xE (dig 1000000000 v);have K:lok 1000000000 A=true:=by rw[L];exact bX (by omega) v
 have O:aq 1000000000 A=v:=by rw[L];exact bO (by omega) v
 have G:∀j,j<A.length->0<aq 1000000000 (A.drop j):=fun j V=>by rw[L] at V |-;exact pL (by omega) V
 rw[<-L] at I |-;have hn:0<A.length:=by
  rcases QQX A.length with h | h
  .rw[Mp h] at O;simp[aq] at O;omega
  .exact h
 clear L;obtain⟨S,R⟩:=xE (afl.loop ⟨.ready,none,H,34,ps,Zb,body⟩);have C:afl.refs 7 S=[]:=by rw[R];exact wS W
 have B:∀Y,afl.ren (rho 7 Y) S=S:=fun Y=>by rw[R];exact Pr W
 have N:lP A mn S 0=.cells false 1 (iN .u64 A)::.cells true 0 [.bool mn,.slice 0 0 A.length none]::.cells true aO [.ptr 2 0,.slice (2*(A.length-1)+7) 0 (45::ai v).length none]::.cells true 1 (iB [45])::.qK::.cells true 0 [.slice 0 0 A.length none]::S::RA (2*(A.length-1)) (45::ai v):=by unfold lP;rw[if_neg (by omega),List.drop_zero,O,QQi]
 have U:lP A mn S A.length=[.cells false 1 (iN .u64 A),.cells true 0 [.bool mn,.slice 0 0 A.length none],.cells true aO [.ptr 2 0,.slice 4 0 1 none],.cells true 1 (iB [45]),.cells true 6001 (iB [45]),.cells true 0 [.slice 0 0 A.length none],S]:=by unfold lP;rw[if_pos rfl]
 have X:∀j,j<A.length->lP A mn S j=.cells false 1 (iN .u64 A)::.cells true 0 [.bool mn,.slice 0 0 A.length none]::.cells true aO [.ptr 2 0,.slice (2*(A.length-1-j)+7) 0 (45::ai (aq 1000000000 (A.drop j))).length none]::.cells true 1 (iB [45])::.qK::.cells true 0 [.slice 0 0 A.length none]::S::RA (2*(A.length-1-j)) (45::ai (aq 1000000000 (A.drop j))):=fun j V=>by unfold lP;rw[if_neg (by omega)]
 have M:=tK (n:=A.length) (A:=A) rfl hn (by omega) 5 0 6 7 0 true false (lP A mn S) (by rw[U];rfl)
  (fun j V=>by
   rw[X j V];by_cases Z:j+1=A.length
   .rw[Z,U];simp[kD]
   .rw[X (j+1) (by omega)];simp[kD];omega)
  (fun j V=>by
   by_cases Z:j=A.length
   .rw[Z,U];rfl
   .rw[X j (by omega)];rfl)
  (fun j V=>by
   by_cases Z:j=A.length
   .rw[Z,U];rfl
   .rw[X j (by omega)];rfl)
  (fun j V=>by
   rw[X j V];have F:∀e,¬e+7<7:=fun e=>by omega
   simp[F])
  (fun j V=>by
   obtain⟨x,D,Y9⟩:=dh V;have hg:A.getD j 0=x:=by simp[List.getD,D]
   have u:=ff K D;rw[hg];by_cases Z:j+1=A.length
   .rw[Z,U,X j V]
    have o:A.length-1-j=0:=by omega
    have m:aq 1000000000 (A.drop j)=x:=by rw[om D,Ll Z];simp[aq]
    rw[o,m,R];exact xm _ mn A.length _ H h1 h3 J j x Z I u
   .rw[X j V,X (j+1) (by omega)]
    have o:2*(A.length-1-j)=2*(A.length-1-(j+1))+2:=by omega
    have m:ai (aq 1000000000 (A.drop j))=ai (aq 1000000000 (A.drop (j+1)))++Mw 9 x:=by rw[om D];exact AJ (w:=9) (by omega) u (G (j+1) (by omega))
    have e3:(ai (aq 1000000000 (A.drop (j+1)))).length<=89000000:=by
     have h1:=ia (jK K (j+1));have h2:(1000000000:Nat) ^ (A.drop (j+1)).length=10 ^ (9*(A.drop (j+1)).length):=by rw[Nat.pow_mul]
     rw[h2] at h1;have h3:0<9*(A.drop (j+1)).length:=by simp;omega
     have h4:=aN h3 h1;simp at h4;omega
    rw[o,m,R];exact xn _ mn A.length _ H h1 h3 J j x _ (45::ai (aq 1000000000 (A.drop (j+1)))) (by omega) I u (by first | omega | (simp only[List.length_cons];omega)))
  [2*(A.length-1)+7] (by
   rw[N];have F:¬2*(A.length-1)+7<7:=by omega
   have hf:List.flatMap (afl.refs 7) (List.take 7 (.cells false 1 (iN .u64 A)::.cells true 0 [.bool mn,.slice 0 0 A.length none]::.cells true aO [.ptr 2 0,.slice (2*(A.length-1)+7) 0 (45::ai v).length none]::.cells true 1 (iB [45])::.qK::.cells true 0 [.slice 0 0 A.length none]::S::RA (2*(A.length-1)) (45::ai v)))=[2*(A.length-1)+7]:=by simp only[List.take_succ_cons,List.take_zero,List.flatMap_cons,List.flatMap_nil,C];simp[F]
   rw[hf];exact LZ (s:=.cells true 6001 (iB (45::ai v))) (by simp[RA]) (by simp)) (by
   rw[N];simp[kD])
 have F:¬2*(A.length-1)+7<7:=by omega
 rw[N,U] at M;simp only[List.take_succ_cons,List.take_zero,List.map_cons,List.map_nil,B] at M;simpa [R,List.idxOf?,RA,F] using M
end Go.Proofs
