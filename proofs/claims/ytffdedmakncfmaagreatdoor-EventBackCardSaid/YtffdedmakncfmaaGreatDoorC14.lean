/- See C54. -/
import Derived.Test.YtffdedmakncfmaaGreatDoorC13
set_option linter.all false
namespace Go.Eng
def M7(w x:Nat):List UInt8:=List.replicate (w-(ai x).length) 48++ai x
theorem SW(k:Nat)(r:List UInt8):wI 0 (List.replicate k 48++r)=wI 0 r:=by
 induction k with
 |zero=>rfl
 |succ k ih=>
  rw[List.replicate_succ,List.cons_append,eD];exact ih
theorem Vk(w x:Nat):eF (M7 w x)=x:=by unfold M7 eF;rw[SW];exact dz x
theorem WZ(w x:Nat):(M7 w x).all isD=true:=by unfold M7;rw[List.all_append,du,Bool.and_true,List.all_eq_true];intro c Z;rw[(List.mem_replicate.1 Z).2];rfl
variable{w x:Nat}
theorem Po(y:0<w)(H:x<10 ^ w):(M7 w x).length=w:=by have:=aI y H;unfold M7;simp only[List.length_append,List.length_replicate];omega
variable{v:Nat}
theorem Hm(y:0<v){t:List UInt8}(H:t.all isD=true):jw (ai v++t)=true:=by
 have Z:=du v;have X:=jG v;have h3:=Dv v y;cases hl:ai v with
 |nil=>exact absurd hl X
 |cons c r=>
  rw[hl] at Z h3;simp only[List.all_cons,Bool.and_eq_true] at Z;simp only[List.head?_cons,ne_eq,Option.some.injEq] at h3;simp only[List.cons_append,jw,List.all_append,Z.1,Z.2,H];simp[h3]
theorem Bt(y:0<w)(H:x<10 ^ w)(I:0<v):ai (x+10 ^ w*v)=ai v++M7 w x:=by have h:=xC (Hm I (WZ w x));rw[wE,dz,Vk,Po y H] at h;rw[←h,Nat.mul_comm,Nat.add_comm]
theorem UF(y:0<w)(H:x<10 ^ w):(ai (10 ^ w+x)).drop 1=M7 w x:=by have:=Bt y H (v:=1) (by omega);rw[Nat.mul_one,Nat.add_comm] at this;rw[this];rfl
variable{B j:Nat}
theorem oV{l:List Nat}{d:Nat}(h:l[j]? =some d):au B (l.drop j)=d+B*au B (l.drop (j+1)):=by have Z:=(List.getElem?_eq_some_iff.1 h);obtain⟨Z,rfl⟩:=Z;rw[List.drop_eq_getElem_cons Z];rfl
theorem qv{n:Nat}(y:2≤B)(H:j<(dig B n).length):0<au B ((dig B n).drop j):=by
 rcases Nat.eq_zero_or_pos (au B ((dig B n).drop j)) with h | h
 ·exfalso
  have X:=dJ y (jB (bT y n) j);rw[h,dK] at X;have V:aU (dig B n)=(dig B n):=bY y n;have h3:=tW B (l:=dig B n) (n:=j) (by omega);rw[h,Nat.mul_zero,Nat.add_zero,bC y] at h3;have Z:=gK (jC (bT y n) j);rw[←h3,List.length_take,Nat.min_eq_left (by omega)] at Z;have U:=ff y Z;omega
 ·exact h
end Go.Eng
namespace Go.Proofs
open Go.Eng
open Tryz
def RA(e:Nat)(t:List UInt8):Mem:=List.replicate e .qK++[.cells true 6001 (iB t)]
theorem kz(e:Nat)(t:List UInt8):(RA e t).length=e+1:=by simp[RA]
theorem Tc(e:Nat)(t:List UInt8)(h:e<(RA e t).length):(RA e t)[e]=.cells true 6001 (iB t):=by simp[RA]
theorem Td(e:Nat)(t s:List UInt8):(RA e t).set e .qK++[.cells true 6001 (iB s)]=RA (e+1) s:=by simp[RA,List.replicate_succ']
variable{k:Nat}
theorem F0(h:k≤9):(([48,48,48,48,48,48,48,48,48]:List UInt8).drop k).take (9-k)=List.replicate (9-k) 48:=by
 have:k=0∨k=1∨k=2∨k=3∨k=4∨k=5∨k=6∨k=7∨k=8∨k=9:=by omega
 rcases this with rfl | rfl | rfl | rfl | rfl | rfl | rfl | rfl | rfl | rfl<;>rfl
noncomputable def kX:afF:=(ag bI).or gn
theorem po:qS prog kX:=B8.or zp
variable{Z8 body:Code}{ps:Array Tmp}
section
variable (A0:afU)(mn:Bool)(n:Nat)(bc:afU)(z':Env)(h1:ad z' 1=.ptr 1 0)(h3:ad z' 3=.ptr 2 0)(hb:ej f142=[(ps,Z8,body)])
include A0 mn n bc z' h1 h3 hb
theorem Aw(j x e:Nat)(t:List UInt8)(H:j+1<n)(I:n≤1000000)(y:x<1000000000)(J:t.length≤90000000):
  gk prog 4 [.int .i64 (j:Int),.int .u64 (x:Int)] (A0::.cells true 0 [.bool mn,.slice 0 0 n none]::.cells true aL [.ptr 2 0,.slice (e+5) 0 t.length none]::bc::.loop ⟨.ready,none,z',34,ps,Z8,body⟩::RA e t) (.bool true)
   (A0::.cells true 0 [.bool mn,.slice 0 0 n none]::.cells true aL [.ptr 2 0,.slice (e+2+5) 0 (t++M7 9 x).length none]::bc::.loop ⟨.ready,none,z',34,ps,Z8,body⟩::RA (e+2) (t++M7 9 x)):=by
 have L:cM Z8=true∧cM body=true∧ps= #[17,18]:=by simp[ej,fW,f142] at hb;obtain⟨rfl,rfl,rfl⟩:=hb;exact⟨by decide,by decide,rfl⟩
 obtain⟨Z,X,rfl⟩:=L;obtain⟨k,V⟩:=xE ((ai x).length);obtain⟨d,U⟩:=xE (ai x);have S:k≤9:=by rw[V];exact aI (by omega) y
 have K:M7 9 x=List.replicate (9-k) 48++d:=by rw[V,U];rfl
 have G:=F0 S;have w1:IntKind.i64.wrap ((n:Int)-1)=(n:Int)-1:=af;have R:(j:Int)<(n:Int)-1:=by omega
 have Q:(x:Int)≤18446744073709551615:=by omega
 have O:(k:Int)≤9:=by omega
 have N:t.length+(9-k)≤100000000:=by omega
 have M:t.length+(9-k)+k≤100000000:=by omega
 rw[←U] at V;rw[K];have F:gC (bh prog) (fun _=>[]) kX 1 4 [.int .i64 (j:Int),.int .u64 (x:Int)] (A0::.cells true 0 [.bool mn,.slice 0 0 n none]::.cells true aL [.ptr 2 0,.slice (e+5) 0 t.length none]::bc::.loop ⟨.ready,none,z',34,#[17,18],Z8,body⟩::RA e t)=
  some (.bool true,A0::.cells true 0 [.bool mn,.slice 0 0 n none]::.cells true aL [.ptr 2 0,.slice (e+2+5) 0 (t++(List.replicate (9-k) 48++d)).length none]::bc::.loop ⟨.ready,none,z',34,#[17,18],Z8,body⟩::RA (e+2) (t++(List.replicate (9-k) 48++d))):=by
  simp[gC,Z,X];simp[ej,fW,f142] at hb;obtain⟨rfl,rfl⟩:=hb;clear Z X;simp[h1,h3,w1,R,Q,O,G,←U,←V,kX,afF.or,ag,bI,gn,sN,nY,kz,Tc,Td,aq,kG,N,M];omega
 exact iK aj (aK _) po F
theorem yk(j x e:Nat)(t:List UInt8)(H:j+1<n)(I:n≤1000000)(y:x<1000000000)(J:t.length≤90000000):
  gk prog 6 [.int .i64 (j:Int),.int .u64 (x:Int)] (A0::.cells true 0 [.bool mn,.slice 0 0 n none]::.cells true aL [.ptr 2 0,.slice (e+7) 0 t.length none]::.cells true 1 (iB [45])::.qK::bc::.loop ⟨.ready,none,z',34,ps,Z8,body⟩::RA e t) (.bool true)
   (A0::.cells true 0 [.bool mn,.slice 0 0 n none]::.cells true aL [.ptr 2 0,.slice (e+2+7) 0 (t++M7 9 x).length none]::.cells true 1 (iB [45])::.qK::bc::.loop ⟨.ready,none,z',34,ps,Z8,body⟩::RA (e+2) (t++M7 9 x)):=by
 have L:cM Z8=true∧cM body=true∧ps= #[17,18]:=by simp[ej,fW,f142] at hb;obtain⟨rfl,rfl,rfl⟩:=hb;exact⟨by decide,by decide,rfl⟩
 obtain⟨Z,X,rfl⟩:=L;obtain⟨k,V⟩:=xE ((ai x).length);obtain⟨d,U⟩:=xE (ai x);have S:k≤9:=by rw[V];exact aI (by omega) y
 have K:M7 9 x=List.replicate (9-k) 48++d:=by rw[V,U];rfl
 have G:=F0 S;have w1:IntKind.i64.wrap ((n:Int)-1)=(n:Int)-1:=af;have R:(j:Int)<(n:Int)-1:=by omega
 have Q:(x:Int)≤18446744073709551615:=by omega
 have O:(k:Int)≤9:=by omega
 have N:t.length+(9-k)≤100000000:=by omega
 have M:t.length+(9-k)+k≤100000000:=by omega
 rw[←U] at V;rw[K];have F:gC (bh prog) (fun _=>[]) kX 1 6 [.int .i64 (j:Int),.int .u64 (x:Int)] (A0::.cells true 0 [.bool mn,.slice 0 0 n none]::.cells true aL [.ptr 2 0,.slice (e+7) 0 t.length none]::.cells true 1 (iB [45])::.qK::bc::.loop ⟨.ready,none,z',34,#[17,18],Z8,body⟩::RA e t)=
  some (.bool true,A0::.cells true 0 [.bool mn,.slice 0 0 n none]::.cells true aL [.ptr 2 0,.slice (e+2+7) 0 (t++(List.replicate (9-k) 48++d)).length none]::.cells true 1 (iB [45])::.qK::bc::.loop ⟨.ready,none,z',34,#[17,18],Z8,body⟩::RA (e+2) (t++(List.replicate (9-k) 48++d))):=by
  simp[gC,Z,X];simp[ej,fW,f142] at hb;obtain⟨rfl,rfl⟩:=hb;clear Z X;simp[h1,h3,w1,R,Q,O,G,←U,←V,kX,afF.or,ag,bI,gn,sN,nY,kz,Tc,Td,aq,kG,N,M];omega
 exact iK aj (aK _) po F
theorem Av(j x:Nat)(H:j+1=n)(I:n≤1000000)(y:x<1000000000):
  gk prog 4 [.int .i64 (j:Int),.int .u64 (x:Int)] (A0::.cells true 0 [.bool mn,.slice 0 0 n none]::.cells true aL [.af4,.qF]::bc::[.loop ⟨.ready,none,z',34,ps,Z8,body⟩]) (.bool true)
   (A0::.cells true 0 [.bool mn,.slice 0 0 n none]::.cells true aL [.ptr 2 0,.slice (0+5) 0 (ai x).length none]::bc::.loop ⟨.ready,none,z',34,ps,Z8,body⟩::RA 0 (ai x)):=by
 have O:cM Z8=true∧cM body=true∧ps= #[17,18]:=by simp[ej,fW,f142] at hb;obtain⟨rfl,rfl,rfl⟩:=hb;exact⟨by decide,by decide,rfl⟩
 obtain⟨Z,X,rfl⟩:=O;obtain⟨d,V⟩:=xE (ai x);have N:d.length≤9:=by rw[V];exact aI (by omega) y
 have U:d≠[]:=by rw[V];exact jG x
 have w1:IntKind.i64.wrap ((n:Int)-1)=(n:Int)-1:=af;have S:¬(j:Int)<(n:Int)-1:=by omega
 have R:(x:Int)≤18446744073709551615:=by omega
 have Q:d.length≤100000000:=by omega
 have M:1+d.length≤100000000:=by omega
 have L:jv (iB [45])=some [45]:=kG _;rw[←V];have K:gC (bh prog) (fun _=>[]) kX 1 4 [.int .i64 (j:Int),.int .u64 (x:Int)] (A0::.cells true 0 [.bool mn,.slice 0 0 n none]::.cells true aL [.af4,.qF]::bc::[.loop ⟨.ready,none,z',34,#[17,18],Z8,body⟩])=
  some (.bool true,A0::.cells true 0 [.bool mn,.slice 0 0 n none]::.cells true aL [.ptr 2 0,.slice (0+5) 0 (d).length none]::bc::.loop ⟨.ready,none,z',34,#[17,18],Z8,body⟩::[.cells true 6001 (iB (d))]):=by
  simp[gC,Z,X];simp[ej,fW,f142] at hb;obtain⟨rfl,rfl⟩:=hb;clear Z X;simp[h1,h3,w1,S,R,←V,kX,afF.or,ag,bI,gn,sN,nY,aq,Q,U];try omega
 exact iK aj (aK _) po K
theorem yj(j x:Nat)(H:j+1=n)(I:n≤1000000)(y:x<1000000000):
  gk prog 6 [.int .i64 (j:Int),.int .u64 (x:Int)] (A0::.cells true 0 [.bool mn,.slice 0 0 n none]::.cells true aL [.ptr 2 0,.slice 4 0 1 none]::.cells true 1 (iB [45])::.cells true 6001 (iB [45])::bc::[.loop ⟨.ready,none,z',34,ps,Z8,body⟩]) (.bool true)
   (A0::.cells true 0 [.bool mn,.slice 0 0 n none]::.cells true aL [.ptr 2 0,.slice (0+7) 0 (45::ai x).length none]::.cells true 1 (iB [45])::.qK::bc::.loop ⟨.ready,none,z',34,ps,Z8,body⟩::RA 0 (45::ai x)):=by
 have O:cM Z8=true∧cM body=true∧ps= #[17,18]:=by simp[ej,fW,f142] at hb;obtain⟨rfl,rfl,rfl⟩:=hb;exact⟨by decide,by decide,rfl⟩
 obtain⟨Z,X,rfl⟩:=O;obtain⟨d,V⟩:=xE (ai x);have N:d.length≤9:=by rw[V];exact aI (by omega) y
 have M:d≠[]:=by rw[V];exact jG x
 have w1:IntKind.i64.wrap ((n:Int)-1)=(n:Int)-1:=af;have U:¬(j:Int)<(n:Int)-1:=by omega
 have S:(x:Int)≤18446744073709551615:=by omega
 have L:d.length≤100000000:=by omega
 have R:1+d.length≤100000000:=by omega
 have Q:jv (iB [45])=some [45]:=kG _;rw[←V];have K:gC (bh prog) (fun _=>[]) kX 1 6 [.int .i64 (j:Int),.int .u64 (x:Int)] (A0::.cells true 0 [.bool mn,.slice 0 0 n none]::.cells true aL [.ptr 2 0,.slice 4 0 1 none]::.cells true 1 (iB [45])::.cells true 6001 (iB [45])::bc::[.loop ⟨.ready,none,z',34,#[17,18],Z8,body⟩])=
  some (.bool true,A0::.cells true 0 [.bool mn,.slice 0 0 n none]::.cells true aL [.ptr 2 0,.slice (0+7) 0 (45::d).length none]::.cells true 1 (iB [45])::.qK::bc::.loop ⟨.ready,none,z',34,#[17,18],Z8,body⟩::[.cells true 6001 (iB (45::d))]):=by
  simp[gC,Z,X];simp[ej,fW,f142] at hb;obtain⟨rfl,rfl⟩:=hb;clear Z X;simp[h1,h3,w1,U,S,←V,kX,afF.or,ag,bI,gn,sN,nY,aq,R,Q];try omega
 exact iK aj (aK _) po K
end
theorem LZ{l:List Nat}{j:Nat}(h:j+1=l.length):l.drop (j+1)=[]:=List.drop_of_length_le (by omega)
theorem MG{m:Nat}{mem:Mem}{s:afU}(h:mem[k]? =some s)(hr:s.refs m=[]):qZ m mem 1000 [k] []=[k]:=by
 have:mem.getD k .qK=s:=by simp[List.getD,h]
 unfold qZ;rw[this,hr];simp only[List.contains_nil,Bool.false_eq_true,if_false,List.nil_append,List.append_nil];rfl
def pn(A:List Nat)(mn:Bool)(y:afU)(j:Nat):Mem:=
 if j=A.length then .cells false 1 (iN .u64 A)::.cells true 0 [.bool mn,.slice 0 0 A.length none]::.cells true aL [.af4,.qF]::.cells true 0 [.slice 0 0 A.length none]::[y]
 else .cells false 1 (iN .u64 A)::.cells true 0 [.bool mn,.slice 0 0 A.length none]::.cells true aL [.ptr 2 0,.slice (2*(A.length-1-j)+5) 0 (ai (au 1000000000 (A.drop j))).length none]::.cells true 0 [.slice 0 0 A.length none]::y::RA (2*(A.length-1-j)) (ai (au 1000000000 (A.drop j)))
theorem Ax(v:Nat)(mn:Bool)(hv:0<v)(H:(dig 1000000000 v).length≤1000000)(I:ej f142=[(ps,Z8,body)])(y:Env)(h1:ad y 1=.ptr 1 0)(h3:ad y 3=.ptr 2 0)(J:y.flatMap (fun e=>e.2.refs 5)=[]):
  kO prog 245 [.yield 4,.ptr 3 0] [.cells false 1 (iN .u64 (dig 1000000000 v)),.cells true 0 [.bool mn,.slice 0 0 (dig 1000000000 v).length none],.cells true aL [.af4,.qF],.cells true 0 [.slice 0 0 (dig 1000000000 v).length none],.loop ⟨.ready,none,y,34,ps,Z8,body⟩] (.tuple [])
   [.cells false 1 (iN .u64 (dig 1000000000 v)),.cells true 0 [.bool mn,.slice 0 0 (dig 1000000000 v).length none],.cells true aL [.ptr 2 0,.slice 5 0 (ai v).length none],.cells true 0 [.slice 0 0 (dig 1000000000 v).length none],.loop ⟨.ready,none,y,34,ps,Z8,body⟩,.cells true 6001 (iB (ai v))]:=by
 obtain⟨A,L⟩:=xE (dig 1000000000 v);have K:lok 1000000000 A=true:=by rw[L];exact bT (by omega) v
 have Q:au 1000000000 A=v:=by rw[L];exact bC (by omega) v
 have G:∀j,j<A.length→0<au 1000000000 (A.drop j):=fun j V=>by rw[L] at V ⊢;exact qv (by omega) V
 rw[←L] at H ⊢;have Y:0<A.length:=by
  rcases Nat.eq_zero_or_pos A.length with h | h
  ·rw[List.eq_nil_of_length_eq_zero h] at Q;simp[au] at Q;omega
  ·exact h
 clear L;obtain⟨S,R⟩:=xE (afU.loop ⟨.ready,none,y,34,ps,Z8,body⟩);have C:afU.refs 5 S=[]:=by rw[R];exact xH J
 have B:∀m,afU.ren (rho 5 m) S=S:=fun m=>by rw[R];exact Qu J
 have O:pn A mn S 0=.cells false 1 (iN .u64 A)::.cells true 0 [.bool mn,.slice 0 0 A.length none]::.cells true aL [.ptr 2 0,.slice (2*(A.length-1)+5) 0 (ai v).length none]::.cells true 0 [.slice 0 0 A.length none]::S::RA (2*(A.length-1)) (ai v):=by unfold pn;rw[if_neg (by omega),List.drop_zero,Q,Nat.sub_zero]
 have U:pn A mn S A.length=[.cells false 1 (iN .u64 A),.cells true 0 [.bool mn,.slice 0 0 A.length none],.cells true aL [.af4,.qF],.cells true 0 [.slice 0 0 A.length none],S]:=by unfold pn;rw[if_pos rfl]
 have X:∀j,j<A.length→pn A mn S j=.cells false 1 (iN .u64 A)::.cells true 0 [.bool mn,.slice 0 0 A.length none]::.cells true aL [.ptr 2 0,.slice (2*(A.length-1-j)+5) 0 (ai (au 1000000000 (A.drop j))).length none]::.cells true 0 [.slice 0 0 A.length none]::S::RA (2*(A.length-1-j)) (ai (au 1000000000 (A.drop j))):=fun j V=>by unfold pn;rw[if_neg (by omega)]
 have N:=uu (n:=A.length) (A:=A) rfl Y (by omega) 3 0 4 5 0 true false (pn A mn S) (by rw[U];rfl)
  (fun j V=>by
   rw[X j V];by_cases Z:j+1=A.length
   ·rw[Z,U];simp[kz]
   ·rw[X (j+1) (by omega)];simp[kz];omega)
  (fun j V=>by
   by_cases Z:j=A.length
   ·rw[Z,U];rfl
   ·rw[X j (by omega)];rfl)
  (fun j V=>by
   by_cases Z:j=A.length
   ·rw[Z,U];rfl
   ·rw[X j (by omega)];rfl)
  (fun j V=>by
   rw[X j V];have F:∀e,¬e+5<5:=fun e=>by omega
   simp[F])
  (fun j V=>by
   obtain⟨x,D,Z7⟩:=cO V;have W:A.getD j 0=x:=by simp[List.getD,D]
   have M:=eh K D;rw[W];by_cases Z:j+1=A.length
   ·rw[Z,U,X j V]
    have u:A.length-1-j=0:=by omega
    have o:au 1000000000 (A.drop j)=x:=by rw[oV D,LZ Z];simp[au]
    rw[u,o,R];exact Av _ mn A.length _ y h1 h3 I j x Z H M
   ·rw[X j V,X (j+1) (by omega)]
    have u:2*(A.length-1-j)=2*(A.length-1-(j+1))+2:=by omega
    have o:ai (au 1000000000 (A.drop j))=ai (au 1000000000 (A.drop (j+1)))++M7 9 x:=by rw[oV D];exact Bt (w:=9) (by omega) M (G (j+1) (by omega))
    have e3:(ai (au 1000000000 (A.drop (j+1)))).length≤89000000:=by
     have h1:=gK (jB K (j+1));have h2:(1000000000:Nat) ^ (A.drop (j+1)).length=10 ^ (9*(A.drop (j+1)).length):=by rw[Nat.pow_mul]
     rw[h2] at h1;have h3:0<9*(A.drop (j+1)).length:=by simp;omega
     have h4:=aI h3 h1;simp at h4;omega
    rw[u,o,R];exact Aw _ mn A.length _ y h1 h3 I j x _ (ai (au 1000000000 (A.drop (j+1)))) (by omega) H M (by first | omega | (simp only[List.length_cons];omega)))
  [2*(A.length-1)+5] (by
   rw[O];have F:¬2*(A.length-1)+5<5:=by omega
   have hf:List.flatMap (afU.refs 5) (List.take 5 (.cells false 1 (iN .u64 A)::.cells true 0 [.bool mn,.slice 0 0 A.length none]::.cells true aL [.ptr 2 0,.slice (2*(A.length-1)+5) 0 (ai v).length none]::.cells true 0 [.slice 0 0 A.length none]::S::RA (2*(A.length-1)) (ai v)))=[2*(A.length-1)+5]:=by simp only[List.take_succ_cons,List.take_zero,List.flatMap_cons,List.flatMap_nil,C];simp[F]
   rw[hf];exact MG (s:=.cells true 6001 (iB (ai v))) (by simp[RA]) (by simp)) (by
   rw[O];simp[kz])
 have F:¬2*(A.length-1)+5<5:=by omega
 rw[O,U] at N;simp only[List.take_succ_cons,List.take_zero,List.map_cons,List.map_nil,B] at N;simpa [R,List.idxOf?,RA,F] using N
def lN(A:List Nat)(mn:Bool)(y:afU)(j:Nat):Mem:=
 if j=A.length then .cells false 1 (iN .u64 A)::.cells true 0 [.bool mn,.slice 0 0 A.length none]::.cells true aL [.ptr 2 0,.slice 4 0 1 none]::.cells true 1 (iB [45])::.cells true 6001 (iB [45])::.cells true 0 [.slice 0 0 A.length none]::[y]
 else .cells false 1 (iN .u64 A)::.cells true 0 [.bool mn,.slice 0 0 A.length none]::.cells true aL [.ptr 2 0,.slice (2*(A.length-1-j)+7) 0 (45::ai (au 1000000000 (A.drop j))).length none]::.cells true 1 (iB [45])::.qK::.cells true 0 [.slice 0 0 A.length none]::y::RA (2*(A.length-1-j)) (45::ai (au 1000000000 (A.drop j)))
theorem yn(v:Nat)(mn:Bool)(hv:0<v)(H:(dig 1000000000 v).length≤1000000)(I:ej f142=[(ps,Z8,body)])(y:Env)(h1:ad y 1=.ptr 1 0)(h3:ad y 3=.ptr 2 0)(J:y.flatMap (fun e=>e.2.refs 7)=[]):
  kO prog 245 [.yield 6,.ptr 5 0] [.cells false 1 (iN .u64 (dig 1000000000 v)),.cells true 0 [.bool mn,.slice 0 0 (dig 1000000000 v).length none],.cells true aL [.ptr 2 0,.slice 4 0 1 none],.cells true 1 (iB [45]),.cells true 6001 (iB [45]),.cells true 0 [.slice 0 0 (dig 1000000000 v).length none],.loop ⟨.ready,none,y,34,ps,Z8,body⟩] (.tuple [])
   [.cells false 1 (iN .u64 (dig 1000000000 v)),.cells true 0 [.bool mn,.slice 0 0 (dig 1000000000 v).length none],.cells true aL [.ptr 2 0,.slice 7 0 (45::ai v).length none],.cells true 1 (iB [45]),.qK,.cells true 0 [.slice 0 0 (dig 1000000000 v).length none],.loop ⟨.ready,none,y,34,ps,Z8,body⟩,.cells true 6001 (iB (45::ai v))]:=by
 obtain⟨A,L⟩:=xE (dig 1000000000 v);have K:lok 1000000000 A=true:=by rw[L];exact bT (by omega) v
 have Q:au 1000000000 A=v:=by rw[L];exact bC (by omega) v
 have G:∀j,j<A.length→0<au 1000000000 (A.drop j):=fun j V=>by rw[L] at V ⊢;exact qv (by omega) V
 rw[←L] at H ⊢;have Y:0<A.length:=by
  rcases Nat.eq_zero_or_pos A.length with h | h
  ·rw[List.eq_nil_of_length_eq_zero h] at Q;simp[au] at Q;omega
  ·exact h
 clear L;obtain⟨S,R⟩:=xE (afU.loop ⟨.ready,none,y,34,ps,Z8,body⟩);have C:afU.refs 7 S=[]:=by rw[R];exact xH J
 have B:∀m,afU.ren (rho 7 m) S=S:=fun m=>by rw[R];exact Qu J
 have O:lN A mn S 0=.cells false 1 (iN .u64 A)::.cells true 0 [.bool mn,.slice 0 0 A.length none]::.cells true aL [.ptr 2 0,.slice (2*(A.length-1)+7) 0 (45::ai v).length none]::.cells true 1 (iB [45])::.qK::.cells true 0 [.slice 0 0 A.length none]::S::RA (2*(A.length-1)) (45::ai v):=by unfold lN;rw[if_neg (by omega),List.drop_zero,Q,Nat.sub_zero]
 have U:lN A mn S A.length=[.cells false 1 (iN .u64 A),.cells true 0 [.bool mn,.slice 0 0 A.length none],.cells true aL [.ptr 2 0,.slice 4 0 1 none],.cells true 1 (iB [45]),.cells true 6001 (iB [45]),.cells true 0 [.slice 0 0 A.length none],S]:=by unfold lN;rw[if_pos rfl]
 have X:∀j,j<A.length→lN A mn S j=.cells false 1 (iN .u64 A)::.cells true 0 [.bool mn,.slice 0 0 A.length none]::.cells true aL [.ptr 2 0,.slice (2*(A.length-1-j)+7) 0 (45::ai (au 1000000000 (A.drop j))).length none]::.cells true 1 (iB [45])::.qK::.cells true 0 [.slice 0 0 A.length none]::S::RA (2*(A.length-1-j)) (45::ai (au 1000000000 (A.drop j))):=fun j V=>by unfold lN;rw[if_neg (by omega)]
 have N:=uu (n:=A.length) (A:=A) rfl Y (by omega) 5 0 6 7 0 true false (lN A mn S) (by rw[U];rfl)
  (fun j V=>by
   rw[X j V];by_cases Z:j+1=A.length
   ·rw[Z,U];simp[kz]
   ·rw[X (j+1) (by omega)];simp[kz];omega)
  (fun j V=>by
   by_cases Z:j=A.length
   ·rw[Z,U];rfl
   ·rw[X j (by omega)];rfl)
  (fun j V=>by
   by_cases Z:j=A.length
   ·rw[Z,U];rfl
   ·rw[X j (by omega)];rfl)
  (fun j V=>by
   rw[X j V];have F:∀e,¬e+7<7:=fun e=>by omega
   simp[F])
  (fun j V=>by
   obtain⟨x,D,Z7⟩:=cO V;have W:A.getD j 0=x:=by simp[List.getD,D]
   have M:=eh K D;rw[W];by_cases Z:j+1=A.length
   ·rw[Z,U,X j V]
    have u:A.length-1-j=0:=by omega
    have o:au 1000000000 (A.drop j)=x:=by rw[oV D,LZ Z];simp[au]
    rw[u,o,R];exact yj _ mn A.length _ y h1 h3 I j x Z H M
   ·rw[X j V,X (j+1) (by omega)]
    have u:2*(A.length-1-j)=2*(A.length-1-(j+1))+2:=by omega
    have o:ai (au 1000000000 (A.drop j))=ai (au 1000000000 (A.drop (j+1)))++M7 9 x:=by rw[oV D];exact Bt (w:=9) (by omega) M (G (j+1) (by omega))
    have e3:(ai (au 1000000000 (A.drop (j+1)))).length≤89000000:=by
     have h1:=gK (jB K (j+1));have h2:(1000000000:Nat) ^ (A.drop (j+1)).length=10 ^ (9*(A.drop (j+1)).length):=by rw[Nat.pow_mul]
     rw[h2] at h1;have h3:0<9*(A.drop (j+1)).length:=by simp;omega
     have h4:=aI h3 h1;simp at h4;omega
    rw[u,o,R];exact yk _ mn A.length _ y h1 h3 I j x _ (45::ai (au 1000000000 (A.drop (j+1)))) (by omega) H M (by first | omega | (simp only[List.length_cons];omega)))
  [2*(A.length-1)+7] (by
   rw[O];have F:¬2*(A.length-1)+7<7:=by omega
   have hf:List.flatMap (afU.refs 7) (List.take 7 (.cells false 1 (iN .u64 A)::.cells true 0 [.bool mn,.slice 0 0 A.length none]::.cells true aL [.ptr 2 0,.slice (2*(A.length-1)+7) 0 (45::ai v).length none]::.cells true 1 (iB [45])::.qK::.cells true 0 [.slice 0 0 A.length none]::S::RA (2*(A.length-1)) (45::ai v)))=[2*(A.length-1)+7]:=by simp only[List.take_succ_cons,List.take_zero,List.flatMap_cons,List.flatMap_nil,C];simp[F]
   rw[hf];exact MG (s:=.cells true 6001 (iB (45::ai v))) (by simp[RA]) (by simp)) (by
   rw[O];simp[kz])
 have F:¬2*(A.length-1)+7<7:=by omega
 rw[O,U] at N;simp only[List.take_succ_cons,List.take_zero,List.map_cons,List.map_nil,B] at N;simpa [R,List.idxOf?,RA,F] using N
end Go.Proofs
