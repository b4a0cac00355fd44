/- See B54. -/
import Derived.Test.YtffdedmakncfmaaGreatDoorB13
set_option linter.all false
namespace Go.Eng
def Ma(w x:Nat):List UInt8:=List.replicate (w-(ai x).length) 48++ai x
theorem Rk(k:Nat)(r:List UInt8):uZ 0 (List.replicate k 48++r)=uZ 0 r:=by
 induction k with
 |zero=>rfl
 |succ k ih=>
  rw[List.replicate_succ,List.cons_append,ei];exact ih
theorem TP(w x:Nat):ej (Ma w x)=x:=by unfold Ma ej;rw[Rk];exact du x
theorem Vl(w x:Nat):(Ma w x).all isD=true:=by unfold Ma;rw[List.all_append,dn,Bool.and_true,List.all_eq_true];intro c Z;rw[(List.mem_replicate.1 Z).2];rfl
variable{w x:Nat}
theorem N8(y:0<w)(H:x<10 ^ w):(Ma w x).length=w:=by have:=aG y H;unfold Ma;simp only[List.length_append,List.length_replicate];omega
variable{v:Nat}
theorem Gv(y:0<v){t:List UInt8}(H:t.all isD=true):iQ (ai v++t)=true:=by
 have Z:=dn v;have X:=ja v;have h3:=Cz v y;cases hl:ai v with
 |nil=>exact absurd hl X
 |cons c r=>
  rw[hl] at Z h3;simp only[List.all_cons,Bool.and_eq_true] at Z;simp only[List.head?_cons,ne_eq,Option.some.injEq] at h3;simp only[List.cons_append,iQ,List.all_append,Z.1,Z.2,H];simp[h3]
theorem AJ(y:0<w)(H:x<10 ^ w)(I:0<v):ai (x+10 ^ w*v)=ai v++Ma w x:=by have h:=wG (Gv I (Vl w x));rw[uV,du,TP,N8 y H] at h;rw[←h,Nat.mul_comm,Nat.add_comm]
theorem Te(y:0<w)(H:x<10 ^ w):(ai (10 ^ w+x)).drop 1=Ma w x:=by have:=AJ y H (v:=1) (by omega);rw[Nat.mul_one,Nat.add_comm] at this;rw[this];rfl
variable{B j:Nat}
theorem nw{l:List Nat}{d:Nat}(h:l[j]? =some d):au B (l.drop j)=d+B*au B (l.drop (j+1)):=by have Z:=(List.getElem?_eq_some_iff.1 h);obtain⟨Z,rfl⟩:=Z;rw[List.drop_eq_getElem_cons Z];rfl
theorem pj{n:Nat}(y:2≤B)(H:j<(dig B n).length):0<au B ((dig B n).drop j):=by
 rcases Nat.eq_zero_or_pos (au B ((dig B n).drop j)) with h | h
 ·exfalso
  have X:=dC y (iU (bO y n) j);rw[h,dD] at X;have V:aU (dig B n)=(dig B n):=bX y n;have h3:=sK B (l:=dig B n) (n:=j) (by omega);rw[h,Nat.mul_zero,Nat.add_zero,bC y] at h3;have Z:=gd (iV (bO y n) j);rw[←h3,List.length_take,Nat.min_eq_left (by omega)] at Z;have U:=eN y Z;omega
 ·exact h
end Go.Eng
namespace Go.Proofs
open Go.Eng
open Tryz
def RA(e:Nat)(t:List UInt8):Mem:=List.replicate e .qK++[.cells true 6001 (iB t)]
theorem jL(e:Nat)(t:List UInt8):(RA e t).length=e+1:=by simp[RA]
theorem Rw(e:Nat)(t:List UInt8)(h:e<(RA e t).length):(RA e t)[e]=.cells true 6001 (iB t):=by simp[RA]
theorem Rx(e:Nat)(t s:List UInt8):(RA e t).set e .qK++[.cells true 6001 (iB s)]=RA (e+1) s:=by simp[RA,List.replicate_succ']
variable{k:Nat}
theorem Fa(h:k≤9):(([48,48,48,48,48,48,48,48,48]:List UInt8).drop k).take (9-k)=List.replicate (9-k) 48:=by
 have:k=0∨k=1∨k=2∨k=3∨k=4∨k=5∨k=6∨k=7∨k=8∨k=9:=by omega
 rcases this with rfl | rfl | rfl | rfl | rfl | rfl | rfl | rfl | rfl | rfl<;>rfl
noncomputable def kx:ae3:=(af bF).or fO
theorem nZ:qS prog kx:=Bm.or yC
variable{X' body:Code}{ps:Array Tmp}
section
variable (A0:afb)(mn:Bool)(n:Nat)(bc:afb)(z':Env)(h1:ab z' 1=.ptr 1 0)(h3:ab z' 3=.ptr 2 0)(hb:ee f142=[(ps,X',body)])
include A0 mn n bc z' h1 h3 hb
theorem zF(j x e:Nat)(t:List UInt8)(H:j+1<n)(I:n≤1000000)(y:x<1000000000)(J:t.length≤90000000):
  fN prog 4 [.int .i64 (j:Int),.int .u64 (x:Int)] (A0::.cells true 0 [.bool mn,.slice 0 0 n none]::.cells true aN [.ptr 2 0,.slice (e+5) 0 t.length none]::bc::.loop ⟨.ready,none,z',34,ps,X',body⟩::RA e t) (.bool true)
   (A0::.cells true 0 [.bool mn,.slice 0 0 n none]::.cells true aN [.ptr 2 0,.slice (e+2+5) 0 (t++Ma 9 x).length none]::bc::.loop ⟨.ready,none,z',34,ps,X',body⟩::RA (e+2) (t++Ma 9 x)):=by
 have N:cK X'=true∧cK body=true∧ps= #[17,18]:=by simp[ee,fB,f142] at hb;obtain⟨rfl,rfl,rfl⟩:=hb;exact⟨by decide,by decide,rfl⟩
 obtain⟨Q,O,rfl⟩:=N;obtain⟨k,Z⟩:=xE ((ai x).length);obtain⟨d,X⟩:=xE (ai x);have V:k≤9:=by rw[Z];exact aG (by omega) y
 have M:Ma 9 x=List.replicate (9-k) 48++d:=by rw[Z,X];rfl
 have L:=Fa V;have w1:IntKind.i64.wrap ((n:Int)-1)=(n:Int)-1:=ae;have U:(j:Int)<(n:Int)-1:=by omega
 have S:(x:Int)≤18446744073709551615:=by omega
 have R:(k:Int)≤9:=by omega
 have K:t.length+(9-k)≤100000000:=by omega
 have G:t.length+(9-k)+k≤100000000:=by omega
 rw[←X] at Z;rw[M];have F:fW (ba prog) (fun _=>[]) kx 1 4 [.int .i64 (j:Int),.int .u64 (x:Int)] (A0::.cells true 0 [.bool mn,.slice 0 0 n none]::.cells true aN [.ptr 2 0,.slice (e+5) 0 t.length none]::bc::.loop ⟨.ready,none,z',34,#[17,18],X',body⟩::RA e t)=
  some (.bool true,A0::.cells true 0 [.bool mn,.slice 0 0 n none]::.cells true aN [.ptr 2 0,.slice (e+2+5) 0 (t++(List.replicate (9-k) 48++d)).length none]::bc::.loop ⟨.ready,none,z',34,#[17,18],X',body⟩::RA (e+2) (t++(List.replicate (9-k) 48++d))):=by
  simp[fW,Q,O];simp[ee,fB,f142] at hb;obtain⟨rfl,rfl⟩:=hb;clear Q O;simp[h1,h3,w1,U,S,R,L,←X,←Z,kx,ae3.or,af,bF,fO,rF,mN,jL,Rw,Rx,ak,jU,K,G];omega
 exact im aj (aI _) nZ F
theorem xk(j x e:Nat)(t:List UInt8)(H:j+1<n)(I:n≤1000000)(y:x<1000000000)(J:t.length≤90000000):
  fN prog 6 [.int .i64 (j:Int),.int .u64 (x:Int)] (A0::.cells true 0 [.bool mn,.slice 0 0 n none]::.cells true aN [.ptr 2 0,.slice (e+7) 0 t.length none]::.cells true 1 (iB [45])::.qK::bc::.loop ⟨.ready,none,z',34,ps,X',body⟩::RA e t) (.bool true)
   (A0::.cells true 0 [.bool mn,.slice 0 0 n none]::.cells true aN [.ptr 2 0,.slice (e+2+7) 0 (t++Ma 9 x).length none]::.cells true 1 (iB [45])::.qK::bc::.loop ⟨.ready,none,z',34,ps,X',body⟩::RA (e+2) (t++Ma 9 x)):=by
 have N:cK X'=true∧cK body=true∧ps= #[17,18]:=by simp[ee,fB,f142] at hb;obtain⟨rfl,rfl,rfl⟩:=hb;exact⟨by decide,by decide,rfl⟩
 obtain⟨Q,O,rfl⟩:=N;obtain⟨k,Z⟩:=xE ((ai x).length);obtain⟨d,X⟩:=xE (ai x);have V:k≤9:=by rw[Z];exact aG (by omega) y
 have M:Ma 9 x=List.replicate (9-k) 48++d:=by rw[Z,X];rfl
 have L:=Fa V;have w1:IntKind.i64.wrap ((n:Int)-1)=(n:Int)-1:=ae;have U:(j:Int)<(n:Int)-1:=by omega
 have S:(x:Int)≤18446744073709551615:=by omega
 have R:(k:Int)≤9:=by omega
 have K:t.length+(9-k)≤100000000:=by omega
 have G:t.length+(9-k)+k≤100000000:=by omega
 rw[←X] at Z;rw[M];have F:fW (ba prog) (fun _=>[]) kx 1 6 [.int .i64 (j:Int),.int .u64 (x:Int)] (A0::.cells true 0 [.bool mn,.slice 0 0 n none]::.cells true aN [.ptr 2 0,.slice (e+7) 0 t.length none]::.cells true 1 (iB [45])::.qK::bc::.loop ⟨.ready,none,z',34,#[17,18],X',body⟩::RA e t)=
  some (.bool true,A0::.cells true 0 [.bool mn,.slice 0 0 n none]::.cells true aN [.ptr 2 0,.slice (e+2+7) 0 (t++(List.replicate (9-k) 48++d)).length none]::.cells true 1 (iB [45])::.qK::bc::.loop ⟨.ready,none,z',34,#[17,18],X',body⟩::RA (e+2) (t++(List.replicate (9-k) 48++d))):=by
  simp[fW,Q,O];simp[ee,fB,f142] at hb;obtain⟨rfl,rfl⟩:=hb;clear Q O;simp[h1,h3,w1,U,S,R,L,←X,←Z,kx,ae3.or,af,bF,fO,rF,mN,jL,Rw,Rx,ak,jU,K,G];omega
 exact im aj (aI _) nZ F
theorem zE(j x:Nat)(H:j+1=n)(I:n≤1000000)(y:x<1000000000):
  fN prog 4 [.int .i64 (j:Int),.int .u64 (x:Int)] (A0::.cells true 0 [.bool mn,.slice 0 0 n none]::.cells true aN [.afk,.qF]::bc::[.loop ⟨.ready,none,z',34,ps,X',body⟩]) (.bool true)
   (A0::.cells true 0 [.bool mn,.slice 0 0 n none]::.cells true aN [.ptr 2 0,.slice (0+5) 0 (ai x).length none]::bc::.loop ⟨.ready,none,z',34,ps,X',body⟩::RA 0 (ai x)):=by
 have Q:cK X'=true∧cK body=true∧ps= #[17,18]:=by simp[ee,fB,f142] at hb;obtain⟨rfl,rfl,rfl⟩:=hb;exact⟨by decide,by decide,rfl⟩
 obtain⟨S,R,rfl⟩:=Q;obtain⟨d,Z⟩:=xE (ai x);have O:d.length≤9:=by rw[Z];exact aG (by omega) y
 have X:d≠[]:=by rw[Z];exact ja x
 have w1:IntKind.i64.wrap ((n:Int)-1)=(n:Int)-1:=ae;have V:¬(j:Int)<(n:Int)-1:=by omega
 have U:(x:Int)≤18446744073709551615:=by omega
 have N:d.length≤100000000:=by omega
 have K:1+d.length≤100000000:=by omega
 have M:iO (iB [45])=some [45]:=jU _;rw[←Z];have L:fW (ba prog) (fun _=>[]) kx 1 4 [.int .i64 (j:Int),.int .u64 (x:Int)] (A0::.cells true 0 [.bool mn,.slice 0 0 n none]::.cells true aN [.afk,.qF]::bc::[.loop ⟨.ready,none,z',34,#[17,18],X',body⟩])=
  some (.bool true,A0::.cells true 0 [.bool mn,.slice 0 0 n none]::.cells true aN [.ptr 2 0,.slice (0+5) 0 (d).length none]::bc::.loop ⟨.ready,none,z',34,#[17,18],X',body⟩::[.cells true 6001 (iB (d))]):=by
  simp[fW,S,R];simp[ee,fB,f142] at hb;obtain⟨rfl,rfl⟩:=hb;clear S R;simp[h1,h3,w1,V,U,←Z,kx,ae3.or,af,bF,fO,rF,mN,ak,N,X];try omega
 exact im aj (aI _) nZ L
theorem xj(j x:Nat)(H:j+1=n)(I:n≤1000000)(y:x<1000000000):
  fN prog 6 [.int .i64 (j:Int),.int .u64 (x:Int)] (A0::.cells true 0 [.bool mn,.slice 0 0 n none]::.cells true aN [.ptr 2 0,.slice 4 0 1 none]::.cells true 1 (iB [45])::.cells true 6001 (iB [45])::bc::[.loop ⟨.ready,none,z',34,ps,X',body⟩]) (.bool true)
   (A0::.cells true 0 [.bool mn,.slice 0 0 n none]::.cells true aN [.ptr 2 0,.slice (0+7) 0 (45::ai x).length none]::.cells true 1 (iB [45])::.qK::bc::.loop ⟨.ready,none,z',34,ps,X',body⟩::RA 0 (45::ai x)):=by
 have Q:cK X'=true∧cK body=true∧ps= #[17,18]:=by simp[ee,fB,f142] at hb;obtain⟨rfl,rfl,rfl⟩:=hb;exact⟨by decide,by decide,rfl⟩
 obtain⟨S,R,rfl⟩:=Q;obtain⟨d,Z⟩:=xE (ai x);have O:d.length≤9:=by rw[Z];exact aG (by omega) y
 have N:d≠[]:=by rw[Z];exact ja x
 have w1:IntKind.i64.wrap ((n:Int)-1)=(n:Int)-1:=ae;have X:¬(j:Int)<(n:Int)-1:=by omega
 have V:(x:Int)≤18446744073709551615:=by omega
 have K:d.length≤100000000:=by omega
 have M:1+d.length≤100000000:=by omega
 have U:iO (iB [45])=some [45]:=jU _;rw[←Z];have L:fW (ba prog) (fun _=>[]) kx 1 6 [.int .i64 (j:Int),.int .u64 (x:Int)] (A0::.cells true 0 [.bool mn,.slice 0 0 n none]::.cells true aN [.ptr 2 0,.slice 4 0 1 none]::.cells true 1 (iB [45])::.cells true 6001 (iB [45])::bc::[.loop ⟨.ready,none,z',34,#[17,18],X',body⟩])=
  some (.bool true,A0::.cells true 0 [.bool mn,.slice 0 0 n none]::.cells true aN [.ptr 2 0,.slice (0+7) 0 (45::d).length none]::.cells true 1 (iB [45])::.qK::bc::.loop ⟨.ready,none,z',34,#[17,18],X',body⟩::[.cells true 6001 (iB (45::d))]):=by
  simp[fW,S,R];simp[ee,fB,f142] at hb;obtain⟨rfl,rfl⟩:=hb;clear S R;simp[h1,h3,w1,X,V,←Z,kx,ae3.or,af,bF,fO,rF,mN,ak,M,U];try omega
 exact im aj (aI _) nZ L
end
theorem KR{l:List Nat}{j:Nat}(h:j+1=l.length):l.drop (j+1)=[]:=List.drop_of_length_le (by omega)
theorem LH{m:Nat}{mem:Mem}{s:afb}(h:mem[k]? =some s)(hr:s.refs m=[]):qf m mem 1000 [k] []=[k]:=by
 have:mem.getD k .qK=s:=by simp[List.getD,h]
 unfold qf;rw[this,hr];simp only[List.contains_nil,Bool.false_eq_true,if_false,List.nil_append,List.append_nil];rfl
def nY(A:List Nat)(mn:Bool)(y:afb)(j:Nat):Mem:=
 if j=A.length then .cells false 1 (iN .u64 A)::.cells true 0 [.bool mn,.slice 0 0 A.length none]::.cells true aN [.afk,.qF]::.cells true 0 [.slice 0 0 A.length none]::[y]
 else .cells false 1 (iN .u64 A)::.cells true 0 [.bool mn,.slice 0 0 A.length none]::.cells true aN [.ptr 2 0,.slice (2*(A.length-1-j)+5) 0 (ai (au 1000000000 (A.drop j))).length none]::.cells true 0 [.slice 0 0 A.length none]::y::RA (2*(A.length-1-j)) (ai (au 1000000000 (A.drop j)))
theorem zG(v:Nat)(mn:Bool)(hv:0<v)(H:(dig 1000000000 v).length≤1000000)(I:ee f142=[(ps,X',body)])(y:Env)(h1:ab y 1=.ptr 1 0)(h3:ab y 3=.ptr 2 0)(J:y.flatMap (fun e=>e.2.refs 5)=[]):
  kO prog 245 [.yield 4,.ptr 3 0] [.cells false 1 (iN .u64 (dig 1000000000 v)),.cells true 0 [.bool mn,.slice 0 0 (dig 1000000000 v).length none],.cells true aN [.afk,.qF],.cells true 0 [.slice 0 0 (dig 1000000000 v).length none],.loop ⟨.ready,none,y,34,ps,X',body⟩] (.tuple [])
   [.cells false 1 (iN .u64 (dig 1000000000 v)),.cells true 0 [.bool mn,.slice 0 0 (dig 1000000000 v).length none],.cells true aN [.ptr 2 0,.slice 5 0 (ai v).length none],.cells true 0 [.slice 0 0 (dig 1000000000 v).length none],.loop ⟨.ready,none,y,34,ps,X',body⟩,.cells true 6001 (iB (ai v))]:=by
 obtain⟨A,M⟩:=xE (dig 1000000000 v);have L:lok 1000000000 A=true:=by rw[M];exact bO (by omega) v
 have Q:au 1000000000 A=v:=by rw[M];exact bC (by omega) v
 have K:∀j,j<A.length→0<au 1000000000 (A.drop j):=fun j X=>by rw[M] at X ⊢;exact pj (by omega) X
 rw[←M] at H ⊢;have Y:0<A.length:=by
  rcases Nat.eq_zero_or_pos A.length with h | h
  ·rw[List.eq_nil_of_length_eq_zero h] at Q;simp[au] at Q;omega
  ·exact h
 clear M;obtain⟨U,S⟩:=xE (afb.loop ⟨.ready,none,y,34,ps,X',body⟩);have D:afb.refs 5 U=[]:=by rw[S];exact wJ J
 have C:∀m,afb.ren (rho 5 m) U=U:=fun m=>by rw[S];exact O7 J
 have O:nY A mn U 0=.cells false 1 (iN .u64 A)::.cells true 0 [.bool mn,.slice 0 0 A.length none]::.cells true aN [.ptr 2 0,.slice (2*(A.length-1)+5) 0 (ai v).length none]::.cells true 0 [.slice 0 0 A.length none]::U::RA (2*(A.length-1)) (ai v):=by unfold nY;rw[if_neg (by omega),List.drop_zero,Q,Nat.sub_zero]
 have V:nY A mn U A.length=[.cells false 1 (iN .u64 A),.cells true 0 [.bool mn,.slice 0 0 A.length none],.cells true aN [.afk,.qF],.cells true 0 [.slice 0 0 A.length none],U]:=by unfold nY;rw[if_pos rfl]
 have Z:∀j,j<A.length→nY A mn U j=.cells false 1 (iN .u64 A)::.cells true 0 [.bool mn,.slice 0 0 A.length none]::.cells true aN [.ptr 2 0,.slice (2*(A.length-1-j)+5) 0 (ai (au 1000000000 (A.drop j))).length none]::.cells true 0 [.slice 0 0 A.length none]::U::RA (2*(A.length-1-j)) (ai (au 1000000000 (A.drop j))):=fun j X=>by unfold nY;rw[if_neg (by omega)]
 have N:=sZ (n:=A.length) (A:=A) rfl Y (by omega) 3 0 4 5 0 true false (nY A mn U) (by rw[V];rfl)
  (fun j X=>by
   rw[Z j X];by_cases R:j+1=A.length
   ·rw[R,V];simp[jL]
   ·rw[Z (j+1) (by omega)];simp[jL];omega)
  (fun j X=>by
   by_cases R:j=A.length
   ·rw[R,V];rfl
   ·rw[Z j (by omega)];rfl)
  (fun j X=>by
   by_cases R:j=A.length
   ·rw[R,V];rfl
   ·rw[Z j (by omega)];rfl)
  (fun j X=>by
   rw[Z j X];have G:∀e,¬e+5<5:=fun e=>by omega
   simp[G])
  (fun j X=>by
   obtain⟨x,F,X9⟩:=cM X;have W:A.getD j 0=x:=by simp[List.getD,F]
   have B:=ed L F;rw[W];by_cases R:j+1=A.length
   ·rw[R,V,Z j X]
    have u:A.length-1-j=0:=by omega
    have o:au 1000000000 (A.drop j)=x:=by rw[nw F,KR R];simp[au]
    rw[u,o,S];exact zE _ mn A.length _ y h1 h3 I j x R H B
   ·rw[Z j X,Z (j+1) (by omega)]
    have u:2*(A.length-1-j)=2*(A.length-1-(j+1))+2:=by omega
    have o:ai (au 1000000000 (A.drop j))=ai (au 1000000000 (A.drop (j+1)))++Ma 9 x:=by rw[nw F];exact AJ (w:=9) (by omega) B (K (j+1) (by omega))
    have e3:(ai (au 1000000000 (A.drop (j+1)))).length≤89000000:=by
     have h1:=gd (iU L (j+1));have h2:(1000000000:Nat) ^ (A.drop (j+1)).length=10 ^ (9*(A.drop (j+1)).length):=by rw[Nat.pow_mul]
     rw[h2] at h1;have h3:0<9*(A.drop (j+1)).length:=by simp;omega
     have h4:=aG h3 h1;simp at h4;omega
    rw[u,o,S];exact zF _ mn A.length _ y h1 h3 I j x _ (ai (au 1000000000 (A.drop (j+1)))) (by omega) H B (by first | omega | (simp only[List.length_cons];omega)))
  [2*(A.length-1)+5] (by
   rw[O];have G:¬2*(A.length-1)+5<5:=by omega
   have hf:List.flatMap (afb.refs 5) (List.take 5 (.cells false 1 (iN .u64 A)::.cells true 0 [.bool mn,.slice 0 0 A.length none]::.cells true aN [.ptr 2 0,.slice (2*(A.length-1)+5) 0 (ai v).length none]::.cells true 0 [.slice 0 0 A.length none]::U::RA (2*(A.length-1)) (ai v)))=[2*(A.length-1)+5]:=by simp only[List.take_succ_cons,List.take_zero,List.flatMap_cons,List.flatMap_nil,D];simp[G]
   rw[hf];exact LH (s:=.cells true 6001 (iB (ai v))) (by simp[RA]) (by simp)) (by
   rw[O];simp[jL])
 have G:¬2*(A.length-1)+5<5:=by omega
 rw[O,V] at N;simp only[List.take_succ_cons,List.take_zero,List.map_cons,List.map_nil,C] at N;simpa [S,List.idxOf?,RA,G] using N
def kP(A:List Nat)(mn:Bool)(y:afb)(j:Nat):Mem:=
 if j=A.length then .cells false 1 (iN .u64 A)::.cells true 0 [.bool mn,.slice 0 0 A.length none]::.cells true aN [.ptr 2 0,.slice 4 0 1 none]::.cells true 1 (iB [45])::.cells true 6001 (iB [45])::.cells true 0 [.slice 0 0 A.length none]::[y]
 else .cells false 1 (iN .u64 A)::.cells true 0 [.bool mn,.slice 0 0 A.length none]::.cells true aN [.ptr 2 0,.slice (2*(A.length-1-j)+7) 0 (45::ai (au 1000000000 (A.drop j))).length none]::.cells true 1 (iB [45])::.qK::.cells true 0 [.slice 0 0 A.length none]::y::RA (2*(A.length-1-j)) (45::ai (au 1000000000 (A.drop j)))
theorem xn(v:Nat)(mn:Bool)(hv:0<v)(H:(dig 1000000000 v).length≤1000000)(I:ee f142=[(ps,X',body)])(y:Env)(h1:ab y 1=.ptr 1 0)(h3:ab y 3=.ptr 2 0)(J:y.flatMap (fun e=>e.2.refs 7)=[]):
  kO prog 245 [.yield 6,.ptr 5 0] [.cells false 1 (iN .u64 (dig 1000000000 v)),.cells true 0 [.bool mn,.slice 0 0 (dig 1000000000 v).length none],.cells true aN [.ptr 2 0,.slice 4 0 1 none],.cells true 1 (iB [45]),.cells true 6001 (iB [45]),.cells true 0 [.slice 0 0 (dig 1000000000 v).length none],.loop ⟨.ready,none,y,34,ps,X',body⟩] (.tuple [])
   [.cells false 1 (iN .u64 (dig 1000000000 v)),.cells true 0 [.bool mn,.slice 0 0 (dig 1000000000 v).length none],.cells true aN [.ptr 2 0,.slice 7 0 (45::ai v).length none],.cells true 1 (iB [45]),.qK,.cells true 0 [.slice 0 0 (dig 1000000000 v).length none],.loop ⟨.ready,none,y,34,ps,X',body⟩,.cells true 6001 (iB (45::ai v))]:=by
 obtain⟨A,M⟩:=xE (dig 1000000000 v);have L:lok 1000000000 A=true:=by rw[M];exact bO (by omega) v
 have Q:au 1000000000 A=v:=by rw[M];exact bC (by omega) v
 have K:∀j,j<A.length→0<au 1000000000 (A.drop j):=fun j X=>by rw[M] at X ⊢;exact pj (by omega) X
 rw[←M] at H ⊢;have Y:0<A.length:=by
  rcases Nat.eq_zero_or_pos A.length with h | h
  ·rw[List.eq_nil_of_length_eq_zero h] at Q;simp[au] at Q;omega
  ·exact h
 clear M;obtain⟨U,S⟩:=xE (afb.loop ⟨.ready,none,y,34,ps,X',body⟩);have D:afb.refs 7 U=[]:=by rw[S];exact wJ J
 have C:∀m,afb.ren (rho 7 m) U=U:=fun m=>by rw[S];exact O7 J
 have O:kP A mn U 0=.cells false 1 (iN .u64 A)::.cells true 0 [.bool mn,.slice 0 0 A.length none]::.cells true aN [.ptr 2 0,.slice (2*(A.length-1)+7) 0 (45::ai v).length none]::.cells true 1 (iB [45])::.qK::.cells true 0 [.slice 0 0 A.length none]::U::RA (2*(A.length-1)) (45::ai v):=by unfold kP;rw[if_neg (by omega),List.drop_zero,Q,Nat.sub_zero]
 have V:kP A mn U A.length=[.cells false 1 (iN .u64 A),.cells true 0 [.bool mn,.slice 0 0 A.length none],.cells true aN [.ptr 2 0,.slice 4 0 1 none],.cells true 1 (iB [45]),.cells true 6001 (iB [45]),.cells true 0 [.slice 0 0 A.length none],U]:=by unfold kP;rw[if_pos rfl]
 have Z:∀j,j<A.length→kP A mn U j=.cells false 1 (iN .u64 A)::.cells true 0 [.bool mn,.slice 0 0 A.length none]::.cells true aN [.ptr 2 0,.slice (2*(A.length-1-j)+7) 0 (45::ai (au 1000000000 (A.drop j))).length none]::.cells true 1 (iB [45])::.qK::.cells true 0 [.slice 0 0 A.length none]::U::RA (2*(A.length-1-j)) (45::ai (au 1000000000 (A.drop j))):=fun j X=>by unfold kP;rw[if_neg (by omega)]
 have N:=sZ (n:=A.length) (A:=A) rfl Y (by omega) 5 0 6 7 0 true false (kP A mn U) (by rw[V];rfl)
  (fun j X=>by
   rw[Z j X];by_cases R:j+1=A.length
   ·rw[R,V];simp[jL]
   ·rw[Z (j+1) (by omega)];simp[jL];omega)
  (fun j X=>by
   by_cases R:j=A.length
   ·rw[R,V];rfl
   ·rw[Z j (by omega)];rfl)
  (fun j X=>by
   by_cases R:j=A.length
   ·rw[R,V];rfl
   ·rw[Z j (by omega)];rfl)
  (fun j X=>by
   rw[Z j X];have G:∀e,¬e+7<7:=fun e=>by omega
   simp[G])
  (fun j X=>by
   obtain⟨x,F,X9⟩:=cM X;have W:A.getD j 0=x:=by simp[List.getD,F]
   have B:=ed L F;rw[W];by_cases R:j+1=A.length
   ·rw[R,V,Z j X]
    have u:A.length-1-j=0:=by omega
    have o:au 1000000000 (A.drop j)=x:=by rw[nw F,KR R];simp[au]
    rw[u,o,S];exact xj _ mn A.length _ y h1 h3 I j x R H B
   ·rw[Z j X,Z (j+1) (by omega)]
    have u:2*(A.length-1-j)=2*(A.length-1-(j+1))+2:=by omega
    have o:ai (au 1000000000 (A.drop j))=ai (au 1000000000 (A.drop (j+1)))++Ma 9 x:=by rw[nw F];exact AJ (w:=9) (by omega) B (K (j+1) (by omega))
    have e3:(ai (au 1000000000 (A.drop (j+1)))).length≤89000000:=by
     have h1:=gd (iU L (j+1));have h2:(1000000000:Nat) ^ (A.drop (j+1)).length=10 ^ (9*(A.drop (j+1)).length):=by rw[Nat.pow_mul]
     rw[h2] at h1;have h3:0<9*(A.drop (j+1)).length:=by simp;omega
     have h4:=aG h3 h1;simp at h4;omega
    rw[u,o,S];exact xk _ mn A.length _ y h1 h3 I j x _ (45::ai (au 1000000000 (A.drop (j+1)))) (by omega) H B (by first | omega | (simp only[List.length_cons];omega)))
  [2*(A.length-1)+7] (by
   rw[O];have G:¬2*(A.length-1)+7<7:=by omega
   have hf:List.flatMap (afb.refs 7) (List.take 7 (.cells false 1 (iN .u64 A)::.cells true 0 [.bool mn,.slice 0 0 A.length none]::.cells true aN [.ptr 2 0,.slice (2*(A.length-1)+7) 0 (45::ai v).length none]::.cells true 1 (iB [45])::.qK::.cells true 0 [.slice 0 0 A.length none]::U::RA (2*(A.length-1)) (45::ai v)))=[2*(A.length-1)+7]:=by simp only[List.take_succ_cons,List.take_zero,List.flatMap_cons,List.flatMap_nil,D];simp[G]
   rw[hf];exact LH (s:=.cells true 6001 (iB (45::ai v))) (by simp[RA]) (by simp)) (by
   rw[O];simp[jL])
 have G:¬2*(A.length-1)+7<7:=by omega
 rw[O,V] at N;simp only[List.take_succ_cons,List.take_zero,List.map_cons,List.map_nil,C] at N;simpa [S,List.idxOf?,RA,G] using N
end Go.Proofs
