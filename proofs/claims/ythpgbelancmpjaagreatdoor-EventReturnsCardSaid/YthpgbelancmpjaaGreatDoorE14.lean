/- See E54. -/
import Derived.Test.YthpgbelancmpjaaGreatDoorE13
set_option linter.all false
namespace Go.Eng
def Nc(w x:Nat):List UInt8:=List.replicate (w-(au x).length) 48++au x
theorem Qz(k:Nat)(r:List UInt8):uL 0 (List.replicate k 48++r)=uL 0 r:=by
 induction k with
 |zero=>rfl
 |succ k ih=>
  rw[List.replicate_succ,List.cons_append,ej];exact ih
theorem Td(w x:Nat):fm (Nc w x)=x:=by unfold Nc fm;rw[Qz];exact dJ x
theorem UO(w x:Nat):(Nc w x).all isD=true:=by unfold Nc;rw[List.all_append,dC,Bool.and_true,List.all_eq_true];intro c Z;rw[(List.mem_replicate.1 Z).2];rfl
variable{w x:Nat}
theorem Nd(H:0<w)(I:x<10 ^ w):(Nc w x).length=w:=by have:=aI H I;unfold Nc;simp only[List.length_append,List.length_replicate];omega
variable{v:Nat}
theorem FJ(H:0<v){t:List UInt8}(I:t.all isD=true):iI (au v++t)=true:=by
 have Z:=dC v;have X:=iS v;have h3:=BT v H;cases hl:au v with
 |nil=>exact absurd hl X
 |cons c r=>
  rw[hl] at Z h3;simp only[List.all_cons,Bool.and_eq_true] at Z;simp only[List.head?_cons,ne_eq,Option.some.injEq] at h3;simp only[List.cons_append,iI,List.all_append,Z.1,Z.2,I];simp[h3]
theorem N8(H:0<w)(I:x<10 ^ w)(J:0<v):au (x+10 ^ w*v)=au v++Nc w x:=by have h:=vZ (FJ J (UO w x));rw[Cq,dJ,Td,Nd H I] at h;rw[←h,Nat.mul_comm,Nat.add_comm]
variable{B j:Nat}
theorem vQ{l:List Nat}{d:Nat}(h:l[j]? =some d):aF B (l.drop j)=d+B*aF B (l.drop (j+1)):=by have Z:=(List.getElem?_eq_some_iff.1 h);obtain⟨Z,rfl⟩:=Z;rw[List.drop_eq_getElem_cons Z];rfl
theorem vR{n:Nat}(H:2≤B)(I:j<(dig B n).length):0<aF B ((dig B n).drop j):=by
 rcases Nat.eq_zero_or_pos (aF B ((dig B n).drop j)) with h | h
 ·exfalso
  have X:=fM H (kc (cR H n) j);rw[h,eF] at X;have V:bD (dig B n)=(dig B n):=dv H n;have h3:=sz B (l:=dig B n) (n:=j) (by omega);rw[h,Nat.mul_zero,Nat.add_zero,ct H] at h3;have Z:=iy (jv (cR H n) j);rw[←h3,List.length_take,Nat.min_eq_left (by omega)] at Z;have U:=fL H Z;omega
 ·exact h
end Go.Eng
namespace Go.Proofs
open Go.Eng
open Tryz
def RA(e:Nat)(t:List UInt8):Mem:=List.replicate e .qK++[.cells true 6001 (iB t)]
theorem jz(e:Nat)(t:List UInt8):(RA e t).length=e+1:=by simp[RA]
theorem QE(e:Nat)(t:List UInt8)(h:e<(RA e t).length):(RA e t)[e]=.cells true 6001 (iB t):=by simp[RA]
theorem QF(e:Nat)(t s:List UInt8):(RA e t).set e .qK++[.cells true 6001 (iB s)]=RA (e+1) s:=by simp[RA,List.replicate_succ']
variable{k:Nat}
theorem Eh(h:k≤9):(([48,48,48,48,48,48,48,48,48]:List UInt8).drop k).take (9-k)=List.replicate (9-k) 48:=by
 have:k=0∨k=1∨k=2∨k=3∨k=4∨k=5∨k=6∨k=7∨k=8∨k=9:=by omega
 rcases this with rfl | rfl | rfl | rfl | rfl | rfl | rfl | rfl | rfl | rfl<;>rfl
noncomputable def jX:y9:=(ag bC).or fP
theorem nQ:qS prog jX:=AM.or yh
variable{XO body:Code}{ps:Array Tmp}
section
variable (A0:aek)(mn:Bool)(n:Nat)(bc:aek)(z':Env)(h1:ad z' 1=.ptr 1 0)(h3:ad z' 3=.ptr 2 0)(hb:dZ f212=[(ps,XO,body)])
include A0 mn n bc z' h1 h3 hb
theorem zh(j x e:Nat)(t:List UInt8)(I:j+1<n)(J:n≤1000000)(H:x<1000000000)(W:t.length≤90000000):
  fO prog 4 [.int .i64 (j:Int),.int .u64 (x:Int)] (A0::.cells true 0 [.bool mn,.slice 0 0 n none]::.cells true aM [.ptr 2 0,.slice (e+5) 0 t.length none]::bc::.loop ⟨.ready,none,z',34,ps,XO,body⟩::RA e t) (.bool true)
   (A0::.cells true 0 [.bool mn,.slice 0 0 n none]::.cells true aM [.ptr 2 0,.slice (e+2+5) 0 (t++Nc 9 x).length none]::bc::.loop ⟨.ready,none,z',34,ps,XO,body⟩::RA (e+2) (t++Nc 9 x)):=by
 have M:cC XO=true∧cC body=true∧ps= #[17,18]:=by simp[dZ,fH,f212] at hb;obtain⟨rfl,rfl,rfl⟩:=hb;exact⟨by decide,by decide,rfl⟩
 obtain⟨O,N,rfl⟩:=M;obtain⟨k,Z⟩:=xE ((au x).length);obtain⟨d,X⟩:=xE (au x);have V:k≤9:=by rw[Z];exact aI (by omega) H
 have L:Nc 9 x=List.replicate (9-k) 48++d:=by rw[Z,X];rfl
 have K:=Eh V;have w1:IntKind.i64.wrap ((n:Int)-1)=(n:Int)-1:=af;have U:(j:Int)<(n:Int)-1:=by omega
 have S:(x:Int)≤18446744073709551615:=by omega
 have R:(k:Int)≤9:=by omega
 have G:t.length+(9-k)≤100000000:=by omega
 have F:t.length+(9-k)+k≤100000000:=by omega
 rw[←X] at Z;rw[L];have D:fV (aV prog) (fun _=>[]) jX 1 4 [.int .i64 (j:Int),.int .u64 (x:Int)] (A0::.cells true 0 [.bool mn,.slice 0 0 n none]::.cells true aM [.ptr 2 0,.slice (e+5) 0 t.length none]::bc::.loop ⟨.ready,none,z',34,#[17,18],XO,body⟩::RA e t)=
  some (.bool true,A0::.cells true 0 [.bool mn,.slice 0 0 n none]::.cells true aM [.ptr 2 0,.slice (e+2+5) 0 (t++(List.replicate (9-k) 48++d)).length none]::bc::.loop ⟨.ready,none,z',34,#[17,18],XO,body⟩::RA (e+2) (t++(List.replicate (9-k) 48++d))):=by
  simp[fV,O,N];simp[dZ,fH,f212] at hb;obtain⟨rfl,rfl⟩:=hb;clear O N;simp[h1,h3,w1,U,S,R,K,←X,←Z,jX,y9.or,ag,bC,fP,rl,mA,jz,QE,QF,an,jE,G,F];omega
 exact ic ai (aO _) nQ D
theorem wT(j x e:Nat)(t:List UInt8)(I:j+1<n)(J:n≤1000000)(H:x<1000000000)(W:t.length≤90000000):
  fO prog 6 [.int .i64 (j:Int),.int .u64 (x:Int)] (A0::.cells true 0 [.bool mn,.slice 0 0 n none]::.cells true aM [.ptr 2 0,.slice (e+7) 0 t.length none]::.cells true 1 (iB [45])::.qK::bc::.loop ⟨.ready,none,z',34,ps,XO,body⟩::RA e t) (.bool true)
   (A0::.cells true 0 [.bool mn,.slice 0 0 n none]::.cells true aM [.ptr 2 0,.slice (e+2+7) 0 (t++Nc 9 x).length none]::.cells true 1 (iB [45])::.qK::bc::.loop ⟨.ready,none,z',34,ps,XO,body⟩::RA (e+2) (t++Nc 9 x)):=by
 have M:cC XO=true∧cC body=true∧ps= #[17,18]:=by simp[dZ,fH,f212] at hb;obtain⟨rfl,rfl,rfl⟩:=hb;exact⟨by decide,by decide,rfl⟩
 obtain⟨O,N,rfl⟩:=M;obtain⟨k,Z⟩:=xE ((au x).length);obtain⟨d,X⟩:=xE (au x);have V:k≤9:=by rw[Z];exact aI (by omega) H
 have L:Nc 9 x=List.replicate (9-k) 48++d:=by rw[Z,X];rfl
 have K:=Eh V;have w1:IntKind.i64.wrap ((n:Int)-1)=(n:Int)-1:=af;have U:(j:Int)<(n:Int)-1:=by omega
 have S:(x:Int)≤18446744073709551615:=by omega
 have R:(k:Int)≤9:=by omega
 have G:t.length+(9-k)≤100000000:=by omega
 have F:t.length+(9-k)+k≤100000000:=by omega
 rw[←X] at Z;rw[L];have D:fV (aV prog) (fun _=>[]) jX 1 6 [.int .i64 (j:Int),.int .u64 (x:Int)] (A0::.cells true 0 [.bool mn,.slice 0 0 n none]::.cells true aM [.ptr 2 0,.slice (e+7) 0 t.length none]::.cells true 1 (iB [45])::.qK::bc::.loop ⟨.ready,none,z',34,#[17,18],XO,body⟩::RA e t)=
  some (.bool true,A0::.cells true 0 [.bool mn,.slice 0 0 n none]::.cells true aM [.ptr 2 0,.slice (e+2+7) 0 (t++(List.replicate (9-k) 48++d)).length none]::.cells true 1 (iB [45])::.qK::bc::.loop ⟨.ready,none,z',34,#[17,18],XO,body⟩::RA (e+2) (t++(List.replicate (9-k) 48++d))):=by
  simp[fV,O,N];simp[dZ,fH,f212] at hb;obtain⟨rfl,rfl⟩:=hb;clear O N;simp[h1,h3,w1,U,S,R,K,←X,←Z,jX,y9.or,ag,bC,fP,rl,mA,jz,QE,QF,an,jE,G,F];omega
 exact ic ai (aO _) nQ D
theorem zg(j x:Nat)(I:j+1=n)(J:n≤1000000)(H:x<1000000000):
  fO prog 4 [.int .i64 (j:Int),.int .u64 (x:Int)] (A0::.cells true 0 [.bool mn,.slice 0 0 n none]::.cells true aM [.aet,.qF]::bc::[.loop ⟨.ready,none,z',34,ps,XO,body⟩]) (.bool true)
   (A0::.cells true 0 [.bool mn,.slice 0 0 n none]::.cells true aM [.ptr 2 0,.slice (0+5) 0 (au x).length none]::bc::.loop ⟨.ready,none,z',34,ps,XO,body⟩::RA 0 (au x)):=by
 have O:cC XO=true∧cC body=true∧ps= #[17,18]:=by simp[dZ,fH,f212] at hb;obtain⟨rfl,rfl,rfl⟩:=hb;exact⟨by decide,by decide,rfl⟩
 obtain⟨S,R,rfl⟩:=O;obtain⟨d,Z⟩:=xE (au x);have N:d.length≤9:=by rw[Z];exact aI (by omega) H
 have X:d≠[]:=by rw[Z];exact iS x
 have w1:IntKind.i64.wrap ((n:Int)-1)=(n:Int)-1:=af;have V:¬(j:Int)<(n:Int)-1:=by omega
 have U:(x:Int)≤18446744073709551615:=by omega
 have M:d.length≤100000000:=by omega
 have G:1+d.length≤100000000:=by omega
 have L:iH (iB [45])=some [45]:=jE _;rw[←Z];have K:fV (aV prog) (fun _=>[]) jX 1 4 [.int .i64 (j:Int),.int .u64 (x:Int)] (A0::.cells true 0 [.bool mn,.slice 0 0 n none]::.cells true aM [.aet,.qF]::bc::[.loop ⟨.ready,none,z',34,#[17,18],XO,body⟩])=
  some (.bool true,A0::.cells true 0 [.bool mn,.slice 0 0 n none]::.cells true aM [.ptr 2 0,.slice (0+5) 0 (d).length none]::bc::.loop ⟨.ready,none,z',34,#[17,18],XO,body⟩::[.cells true 6001 (iB (d))]):=by
  simp[fV,S,R];simp[dZ,fH,f212] at hb;obtain⟨rfl,rfl⟩:=hb;clear S R;simp[h1,h3,w1,V,U,←Z,jX,y9.or,ag,bC,fP,rl,mA,an,M,X];try omega
 exact ic ai (aO _) nQ K
theorem wS(j x:Nat)(I:j+1=n)(J:n≤1000000)(H:x<1000000000):
  fO prog 6 [.int .i64 (j:Int),.int .u64 (x:Int)] (A0::.cells true 0 [.bool mn,.slice 0 0 n none]::.cells true aM [.ptr 2 0,.slice 4 0 1 none]::.cells true 1 (iB [45])::.cells true 6001 (iB [45])::bc::[.loop ⟨.ready,none,z',34,ps,XO,body⟩]) (.bool true)
   (A0::.cells true 0 [.bool mn,.slice 0 0 n none]::.cells true aM [.ptr 2 0,.slice (0+7) 0 (45::au x).length none]::.cells true 1 (iB [45])::.qK::bc::.loop ⟨.ready,none,z',34,ps,XO,body⟩::RA 0 (45::au x)):=by
 have O:cC XO=true∧cC body=true∧ps= #[17,18]:=by simp[dZ,fH,f212] at hb;obtain⟨rfl,rfl,rfl⟩:=hb;exact⟨by decide,by decide,rfl⟩
 obtain⟨S,R,rfl⟩:=O;obtain⟨d,Z⟩:=xE (au x);have N:d.length≤9:=by rw[Z];exact aI (by omega) H
 have M:d≠[]:=by rw[Z];exact iS x
 have w1:IntKind.i64.wrap ((n:Int)-1)=(n:Int)-1:=af;have X:¬(j:Int)<(n:Int)-1:=by omega
 have V:(x:Int)≤18446744073709551615:=by omega
 have G:d.length≤100000000:=by omega
 have L:1+d.length≤100000000:=by omega
 have U:iH (iB [45])=some [45]:=jE _;rw[←Z];have K:fV (aV prog) (fun _=>[]) jX 1 6 [.int .i64 (j:Int),.int .u64 (x:Int)] (A0::.cells true 0 [.bool mn,.slice 0 0 n none]::.cells true aM [.ptr 2 0,.slice 4 0 1 none]::.cells true 1 (iB [45])::.cells true 6001 (iB [45])::bc::[.loop ⟨.ready,none,z',34,#[17,18],XO,body⟩])=
  some (.bool true,A0::.cells true 0 [.bool mn,.slice 0 0 n none]::.cells true aM [.ptr 2 0,.slice (0+7) 0 (45::d).length none]::.cells true 1 (iB [45])::.qK::bc::.loop ⟨.ready,none,z',34,#[17,18],XO,body⟩::[.cells true 6001 (iB (45::d))]):=by
  simp[fV,S,R];simp[dZ,fH,f212] at hb;obtain⟨rfl,rfl⟩:=hb;clear S R;simp[h1,h3,w1,X,V,←Z,jX,y9.or,ag,bC,fP,rl,mA,an,L,U];try omega
 exact ic ai (aO _) nQ K
end
theorem J4{l:List Nat}{j:Nat}(h:j+1=l.length):l.drop (j+1)=[]:=List.drop_of_length_le (by omega)
theorem KH{m:Nat}{mem:Mem}{s:aek}(h:mem[k]? =some s)(hr:s.refs m=[]):pR m mem 1000 [k] []=[k]:=by
 have:mem.getD k .qK=s:=by simp[List.getD,h]
 unfold pR;rw[this,hr];simp only[List.contains_nil,Bool.false_eq_true,if_false,List.nil_append,List.append_nil];rfl
def nP(A:List Nat)(mn:Bool)(H:aek)(j:Nat):Mem:=
 if j=A.length then .cells false 1 (iN .u64 A)::.cells true 0 [.bool mn,.slice 0 0 A.length none]::.cells true aM [.aet,.qF]::.cells true 0 [.slice 0 0 A.length none]::[H]
 else .cells false 1 (iN .u64 A)::.cells true 0 [.bool mn,.slice 0 0 A.length none]::.cells true aM [.ptr 2 0,.slice (2*(A.length-1-j)+5) 0 (au (aF 1000000000 (A.drop j))).length none]::.cells true 0 [.slice 0 0 A.length none]::H::RA (2*(A.length-1-j)) (au (aF 1000000000 (A.drop j)))
theorem zi(v:Nat)(mn:Bool)(hv:0<v)(I:(dig 1000000000 v).length≤1000000)(J:dZ f212=[(ps,XO,body)])(H:Env)(h1:ad H 1=.ptr 1 0)(h3:ad H 3=.ptr 2 0)(W:H.flatMap (fun e=>e.2.refs 5)=[]):
  kO prog 279 [.yield 4,.ptr 3 0] [.cells false 1 (iN .u64 (dig 1000000000 v)),.cells true 0 [.bool mn,.slice 0 0 (dig 1000000000 v).length none],.cells true aM [.aet,.qF],.cells true 0 [.slice 0 0 (dig 1000000000 v).length none],.loop ⟨.ready,none,H,34,ps,XO,body⟩] (.tuple [])
   [.cells false 1 (iN .u64 (dig 1000000000 v)),.cells true 0 [.bool mn,.slice 0 0 (dig 1000000000 v).length none],.cells true aM [.ptr 2 0,.slice 5 0 (au v).length none],.cells true 0 [.slice 0 0 (dig 1000000000 v).length none],.loop ⟨.ready,none,H,34,ps,XO,body⟩,.cells true 6001 (iB (au v))]:=by
 obtain⟨A,L⟩:=xE (dig 1000000000 v);have K:lok 1000000000 A=true:=by rw[L];exact cR (by omega) v
 have O:aF 1000000000 A=v:=by rw[L];exact ct (by omega) v
 have G:∀j,j<A.length→0<aF 1000000000 (A.drop j):=fun j V=>by rw[L] at V ⊢;exact vR (by omega) V
 rw[←L] at I ⊢;have hn:0<A.length:=by
  rcases Nat.eq_zero_or_pos A.length with h | h
  ·rw[List.eq_nil_of_length_eq_zero h] at O;simp[aF] at O;omega
  ·exact h
 clear L;obtain⟨S,R⟩:=xE (aek.loop ⟨.ready,none,H,34,ps,XO,body⟩);have C:aek.refs 5 S=[]:=by rw[R];exact wh W
 have B:∀Y,aek.ren (rho 5 Y) S=S:=fun Y=>by rw[R];exact Og W
 have N:nP A mn S 0=.cells false 1 (iN .u64 A)::.cells true 0 [.bool mn,.slice 0 0 A.length none]::.cells true aM [.ptr 2 0,.slice (2*(A.length-1)+5) 0 (au v).length none]::.cells true 0 [.slice 0 0 A.length none]::S::RA (2*(A.length-1)) (au v):=by unfold nP;rw[if_neg (by omega),List.drop_zero,O,Nat.sub_zero]
 have U:nP A mn S A.length=[.cells false 1 (iN .u64 A),.cells true 0 [.bool mn,.slice 0 0 A.length none],.cells true aM [.aet,.qF],.cells true 0 [.slice 0 0 A.length none],S]:=by unfold nP;rw[if_pos rfl]
 have X:∀j,j<A.length→nP A mn S j=.cells false 1 (iN .u64 A)::.cells true 0 [.bool mn,.slice 0 0 A.length none]::.cells true aM [.ptr 2 0,.slice (2*(A.length-1-j)+5) 0 (au (aF 1000000000 (A.drop j))).length none]::.cells true 0 [.slice 0 0 A.length none]::S::RA (2*(A.length-1-j)) (au (aF 1000000000 (A.drop j))):=fun j V=>by unfold nP;rw[if_neg (by omega)]
 have M:=sS (n:=A.length) (A:=A) rfl hn (by omega) 3 0 4 5 0 true false (nP A mn S) (by rw[U];rfl)
  (fun j V=>by
   rw[X j V];by_cases Z:j+1=A.length
   ·rw[Z,U];simp[jz]
   ·rw[X (j+1) (by omega)];simp[jz];omega)
  (fun j V=>by
   by_cases Z:j=A.length
   ·rw[Z,U];rfl
   ·rw[X j (by omega)];rfl)
  (fun j V=>by
   by_cases Z:j=A.length
   ·rw[Z,U];rfl
   ·rw[X j (by omega)];rfl)
  (fun j V=>by
   rw[X j V];have F:∀e,¬e+5<5:=fun e=>by omega
   simp[F])
  (fun j V=>by
   obtain⟨x,D,XX⟩:=dW V;have hg:A.getD j 0=x:=by simp[List.getD,D]
   have u:=ga K D;rw[hg];by_cases Z:j+1=A.length
   ·rw[Z,U,X j V]
    have o:A.length-1-j=0:=by omega
    have m:aF 1000000000 (A.drop j)=x:=by rw[vQ D,J4 Z];simp[aF]
    rw[o,m,R];exact zg _ mn A.length _ H h1 h3 J j x Z I u
   ·rw[X j V,X (j+1) (by omega)]
    have o:2*(A.length-1-j)=2*(A.length-1-(j+1))+2:=by omega
    have m:au (aF 1000000000 (A.drop j))=au (aF 1000000000 (A.drop (j+1)))++Nc 9 x:=by rw[vQ D];exact N8 (w:=9) (by omega) u (G (j+1) (by omega))
    have e3:(au (aF 1000000000 (A.drop (j+1)))).length≤89000000:=by
     have h1:=iy (kc K (j+1));have h2:(1000000000:Nat) ^ (A.drop (j+1)).length=10 ^ (9*(A.drop (j+1)).length):=by rw[Nat.pow_mul]
     rw[h2] at h1;have h3:0<9*(A.drop (j+1)).length:=by simp;omega
     have h4:=aI h3 h1;simp at h4;omega
    rw[o,m,R];exact zh _ mn A.length _ H h1 h3 J j x _ (au (aF 1000000000 (A.drop (j+1)))) (by omega) I u (by first | omega | (simp only[List.length_cons];omega)))
  [2*(A.length-1)+5] (by
   rw[N];have F:¬2*(A.length-1)+5<5:=by omega
   have hf:List.flatMap (aek.refs 5) (List.take 5 (.cells false 1 (iN .u64 A)::.cells true 0 [.bool mn,.slice 0 0 A.length none]::.cells true aM [.ptr 2 0,.slice (2*(A.length-1)+5) 0 (au v).length none]::.cells true 0 [.slice 0 0 A.length none]::S::RA (2*(A.length-1)) (au v)))=[2*(A.length-1)+5]:=by simp only[List.take_succ_cons,List.take_zero,List.flatMap_cons,List.flatMap_nil,C];simp[F]
   rw[hf];exact KH (s:=.cells true 6001 (iB (au v))) (by simp[RA]) (by simp)) (by
   rw[N];simp[jz])
 have F:¬2*(A.length-1)+5<5:=by omega
 rw[N,U] at M;simp only[List.take_succ_cons,List.take_zero,List.map_cons,List.map_nil,B] at M;simpa [R,List.idxOf?,RA,F] using M
def kE(A:List Nat)(mn:Bool)(H:aek)(j:Nat):Mem:=
 if j=A.length then .cells false 1 (iN .u64 A)::.cells true 0 [.bool mn,.slice 0 0 A.length none]::.cells true aM [.ptr 2 0,.slice 4 0 1 none]::.cells true 1 (iB [45])::.cells true 6001 (iB [45])::.cells true 0 [.slice 0 0 A.length none]::[H]
 else .cells false 1 (iN .u64 A)::.cells true 0 [.bool mn,.slice 0 0 A.length none]::.cells true aM [.ptr 2 0,.slice (2*(A.length-1-j)+7) 0 (45::au (aF 1000000000 (A.drop j))).length none]::.cells true 1 (iB [45])::.qK::.cells true 0 [.slice 0 0 A.length none]::H::RA (2*(A.length-1-j)) (45::au (aF 1000000000 (A.drop j)))
theorem wV(v:Nat)(mn:Bool)(hv:0<v)(I:(dig 1000000000 v).length≤1000000)(J:dZ f212=[(ps,XO,body)])(H:Env)(h1:ad H 1=.ptr 1 0)(h3:ad H 3=.ptr 2 0)(W:H.flatMap (fun e=>e.2.refs 7)=[]):
  kO prog 279 [.yield 6,.ptr 5 0] [.cells false 1 (iN .u64 (dig 1000000000 v)),.cells true 0 [.bool mn,.slice 0 0 (dig 1000000000 v).length none],.cells true aM [.ptr 2 0,.slice 4 0 1 none],.cells true 1 (iB [45]),.cells true 6001 (iB [45]),.cells true 0 [.slice 0 0 (dig 1000000000 v).length none],.loop ⟨.ready,none,H,34,ps,XO,body⟩] (.tuple [])
   [.cells false 1 (iN .u64 (dig 1000000000 v)),.cells true 0 [.bool mn,.slice 0 0 (dig 1000000000 v).length none],.cells true aM [.ptr 2 0,.slice 7 0 (45::au v).length none],.cells true 1 (iB [45]),.qK,.cells true 0 [.slice 0 0 (dig 1000000000 v).length none],.loop ⟨.ready,none,H,34,ps,XO,body⟩,.cells true 6001 (iB (45::au v))]:=by
 obtain⟨A,L⟩:=xE (dig 1000000000 v);have K:lok 1000000000 A=true:=by rw[L];exact cR (by omega) v
 have O:aF 1000000000 A=v:=by rw[L];exact ct (by omega) v
 have G:∀j,j<A.length→0<aF 1000000000 (A.drop j):=fun j V=>by rw[L] at V ⊢;exact vR (by omega) V
 rw[←L] at I ⊢;have hn:0<A.length:=by
  rcases Nat.eq_zero_or_pos A.length with h | h
  ·rw[List.eq_nil_of_length_eq_zero h] at O;simp[aF] at O;omega
  ·exact h
 clear L;obtain⟨S,R⟩:=xE (aek.loop ⟨.ready,none,H,34,ps,XO,body⟩);have C:aek.refs 7 S=[]:=by rw[R];exact wh W
 have B:∀Y,aek.ren (rho 7 Y) S=S:=fun Y=>by rw[R];exact Og W
 have N:kE A mn S 0=.cells false 1 (iN .u64 A)::.cells true 0 [.bool mn,.slice 0 0 A.length none]::.cells true aM [.ptr 2 0,.slice (2*(A.length-1)+7) 0 (45::au v).length none]::.cells true 1 (iB [45])::.qK::.cells true 0 [.slice 0 0 A.length none]::S::RA (2*(A.length-1)) (45::au v):=by unfold kE;rw[if_neg (by omega),List.drop_zero,O,Nat.sub_zero]
 have U:kE A mn S A.length=[.cells false 1 (iN .u64 A),.cells true 0 [.bool mn,.slice 0 0 A.length none],.cells true aM [.ptr 2 0,.slice 4 0 1 none],.cells true 1 (iB [45]),.cells true 6001 (iB [45]),.cells true 0 [.slice 0 0 A.length none],S]:=by unfold kE;rw[if_pos rfl]
 have X:∀j,j<A.length→kE A mn S j=.cells false 1 (iN .u64 A)::.cells true 0 [.bool mn,.slice 0 0 A.length none]::.cells true aM [.ptr 2 0,.slice (2*(A.length-1-j)+7) 0 (45::au (aF 1000000000 (A.drop j))).length none]::.cells true 1 (iB [45])::.qK::.cells true 0 [.slice 0 0 A.length none]::S::RA (2*(A.length-1-j)) (45::au (aF 1000000000 (A.drop j))):=fun j V=>by unfold kE;rw[if_neg (by omega)]
 have M:=sS (n:=A.length) (A:=A) rfl hn (by omega) 5 0 6 7 0 true false (kE A mn S) (by rw[U];rfl)
  (fun j V=>by
   rw[X j V];by_cases Z:j+1=A.length
   ·rw[Z,U];simp[jz]
   ·rw[X (j+1) (by omega)];simp[jz];omega)
  (fun j V=>by
   by_cases Z:j=A.length
   ·rw[Z,U];rfl
   ·rw[X j (by omega)];rfl)
  (fun j V=>by
   by_cases Z:j=A.length
   ·rw[Z,U];rfl
   ·rw[X j (by omega)];rfl)
  (fun j V=>by
   rw[X j V];have F:∀e,¬e+7<7:=fun e=>by omega
   simp[F])
  (fun j V=>by
   obtain⟨x,D,XX⟩:=dW V;have hg:A.getD j 0=x:=by simp[List.getD,D]
   have u:=ga K D;rw[hg];by_cases Z:j+1=A.length
   ·rw[Z,U,X j V]
    have o:A.length-1-j=0:=by omega
    have m:aF 1000000000 (A.drop j)=x:=by rw[vQ D,J4 Z];simp[aF]
    rw[o,m,R];exact wS _ mn A.length _ H h1 h3 J j x Z I u
   ·rw[X j V,X (j+1) (by omega)]
    have o:2*(A.length-1-j)=2*(A.length-1-(j+1))+2:=by omega
    have m:au (aF 1000000000 (A.drop j))=au (aF 1000000000 (A.drop (j+1)))++Nc 9 x:=by rw[vQ D];exact N8 (w:=9) (by omega) u (G (j+1) (by omega))
    have e3:(au (aF 1000000000 (A.drop (j+1)))).length≤89000000:=by
     have h1:=iy (kc K (j+1));have h2:(1000000000:Nat) ^ (A.drop (j+1)).length=10 ^ (9*(A.drop (j+1)).length):=by rw[Nat.pow_mul]
     rw[h2] at h1;have h3:0<9*(A.drop (j+1)).length:=by simp;omega
     have h4:=aI h3 h1;simp at h4;omega
    rw[o,m,R];exact wT _ mn A.length _ H h1 h3 J j x _ (45::au (aF 1000000000 (A.drop (j+1)))) (by omega) I u (by first | omega | (simp only[List.length_cons];omega)))
  [2*(A.length-1)+7] (by
   rw[N];have F:¬2*(A.length-1)+7<7:=by omega
   have hf:List.flatMap (aek.refs 7) (List.take 7 (.cells false 1 (iN .u64 A)::.cells true 0 [.bool mn,.slice 0 0 A.length none]::.cells true aM [.ptr 2 0,.slice (2*(A.length-1)+7) 0 (45::au v).length none]::.cells true 1 (iB [45])::.qK::.cells true 0 [.slice 0 0 A.length none]::S::RA (2*(A.length-1)) (45::au v)))=[2*(A.length-1)+7]:=by simp only[List.take_succ_cons,List.take_zero,List.flatMap_cons,List.flatMap_nil,C];simp[F]
   rw[hf];exact KH (s:=.cells true 6001 (iB (45::au v))) (by simp[RA]) (by simp)) (by
   rw[N];simp[jz])
 have F:¬2*(A.length-1)+7<7:=by omega
 rw[N,U] at M;simp only[List.take_succ_cons,List.take_zero,List.map_cons,List.map_nil,B] at M;simpa [R,List.idxOf?,RA,F] using M
end Go.Proofs
