/- See E54. -/
import Derived.Test.YthpgbelancmpjaaGreatDoorE10
set_option linter.all false
set_option maxRecDepth 100000
set_option maxHeartbeats 40000000
namespace Go.Proofs
open Go.Eng
open Tryz
noncomputable def bN:y9:=fun c Z M=>match c,Z with
 |.fn 248,[x,y]=>match bP .u64 M x,bP .u64 M y with
  |some A,some B=>if lok 1000000000 A=true∧lok 1000000000 B=true∧A.length≤100000000∧B.length≤100000000 then some ⟨.slice M.length 0 (dig 1000000000 (aF 1000000000 A+aF 1000000000 B)).length none,none,[.cells true 1 (iN .u64 (dig 1000000000 (aF 1000000000 A+aF 1000000000 B)))]⟩ else none
  |_,_=>none
 |.fn 250,[x,y]=>match bP .u64 M x,bP .u64 M y with
  |some A,some B=>if lok 1000000000 A=true∧lok 1000000000 B=true∧A.length≤100000000∧B.length≤A.length∧aF 1000000000 B≤aF 1000000000 A then some ⟨.slice M.length 0 (dig 1000000000 (aF 1000000000 A-aF 1000000000 B)).length none,none,[.cells true 1 (iN .u64 (dig 1000000000 (aF 1000000000 A-aF 1000000000 B)))]⟩ else none
  |_,_=>none
 |.fn 211,[x,y]=>match bP .u64 M x,bP .u64 M y with
  |some A,some B=>if lok 1000000000 A=true∧lok 1000000000 B=true∧A.length≤100000000∧B.length≤100000000 then some ⟨.slice M.length 0 (dig 1000000000 (aF 1000000000 A*aF 1000000000 B)).length none,none,[.cells true 1 (iN .u64 (dig 1000000000 (aF 1000000000 A*aF 1000000000 B)))]⟩ else none
  |_,_=>none
 |.fn 255,[x]=>match x with
  |.slice b 0 n none=>if b<M.length then some ⟨.func 279 [.ptr M.length 0],none,[.cells true 0 [.slice b 0 n none]]⟩ else none
  |_=>none
 |.fn 253,[x]=>bB (.fn 253) [x] M
 |.fn 249,[x,y]=>bB (.fn 249) [x,y] M
 |_,_=>none
theorem qe:qS prog bN:=by
 refine cq fun c L M r h=>?_
 unfold bN at h;split at h
 ·split at h
  ·rename_i Z X
   split at h
   ·rename_i V
    obtain⟨U,S,R,N⟩:=V;cases h;exact aC (LB U S R N (bU Z) (bU X))
   ·cases h
  ·cases h
 ·split at h
  ·rename_i Z X
   split at h
   ·rename_i V
    obtain⟨U,S,R,N,F⟩:=V;cases h;exact aC (GQ U S R N F (bU Z) (bU X))
   ·cases h
  ·cases h
 ·split at h
  ·rename_i Z X
   split at h
   ·rename_i V
    obtain⟨U,S,R,N⟩:=V;cases h;exact aC (G1 U S R N (bU Z) (bU X))
   ·cases h
  ·cases h
 ·split at h
  ·split at h
   ·rename_i D
    cases h;refine aq (T:=aV prog) (lv:=fun _=>[]) (G:=aT prog) (O:=cu) (K:=1) ai (aO _) (az _) (aR _) ?_;exact Aj _ _ M D
   ·cases h
  ·cases h
 ·exact eW iA h
 ·exact eW iA h
 ·cases h
theorem afR:aT prog 223=some f223:=by kernel_rfl
theorem EK(A:List Nat)(d:Nat)(I:0<d)(hd:d<1000000000)(H:lok 1000000000 A=true)(hl:A.length≤100000000)(tA:bD A=A)(J:d≤aF 1000000000 A):
  ∃O:y9,qS prog O∧aa (aV prog) (fun _=>[]) (aT prog) (bN.or O) 1 223 [.slice 0 0 A.length none,.slice 1 0 1 none] [.cells false 1 (iN .u64 A),.cells false 1 [.int .u64 (d:Int)]]=
   some ⟨.tuple [.slice 2 0 (bD (gR 1000000000 d A).1).length none,.slice 3 0 (bD [(gR 1000000000 d A).2]).length none],some [.cells false 1 (iN .u64 A),.cells false 1 [.int .u64 (d:Int)]],[.cells true 1 (iN .u64 (gR 1000000000 d A).1),.cells true 1 [.int .u64 (((gR 1000000000 d A).2:Nat):Int)]]⟩:=by
 obtain⟨V,U,Z,B⟩:∃V U Z,dZ f223=[(V,U,Z)]:=⟨_,_,_,rfl⟩
 have S:0<A.length:=by
  rcases Nat.eq_zero_or_pos A.length with h | h
  ·rw[List.eq_nil_of_length_eq_zero h] at J;simp[aF] at J;omega
  ·exact h
 obtain⟨O,hO,R⟩:=CM A d I hd H (by omega) S B;refine⟨O,hO,?_⟩;obtain⟨i1,i2,i3,C⟩:=Bp I hd A H;have N:∀X,kL A d V U Z X 0=[.cells false 1 (iN .u64 A),.cells false 1 [.int .u64 (d:Int)],.cells true 0 [.slice 1 0 1 none],.cells true 0 [.slice 4 0 A.length none],
  .cells true 1 (iN .u64 (gR 1000000000 d A).1),.cells true 0 [.int .u64 (((gR 1000000000 d A).2:Nat):Int)],.cells true 0 [.slice 0 0 A.length none],.loop ⟨.ready,none,X,146,V,U,Z⟩]:=fun X=>rfl
 have M:∀X,kL A d V U Z X A.length=[.cells false 1 (iN .u64 A),.cells false 1 [.int .u64 (d:Int)],.cells true 0 [.slice 1 0 1 none],.cells true 0 [.slice 4 0 A.length none],
  .cells true 1 (iN .u64 (List.replicate A.length 0)),.cells true 0 [.int .u64 0],.cells true 0 [.slice 0 0 A.length none],.loop ⟨.ready,none,X,146,V,U,Z⟩]:=fun X=>by
  unfold kL;rw[List.drop_length];simp[gR]
 have L:∀X,(ad X 3=.ptr 2 0∧ad X 4=.ptr 3 0∧ad X 6=.ptr 5 0∧X.flatMap (fun e=>e.2.refs 8)=[])→
   O (.fn 279) [.yield 7,.ptr 6 0] [.cells false 1 (iN .u64 A),.cells false 1 [.int .u64 (d:Int)],.cells true 0 [.slice 1 0 1 none],.cells true 0 [.slice 4 0 A.length none],
  .cells true 1 (iN .u64 (List.replicate A.length 0)),.cells true 0 [.int .u64 0],.cells true 0 [.slice 0 0 A.length none],.loop ⟨.ready,none,X,146,V,U,Z⟩]=some ⟨.tuple [],some [.cells false 1 (iN .u64 A),.cells false 1 [.int .u64 (d:Int)],.cells true 0 [.slice 1 0 1 none],.cells true 0 [.slice 4 0 A.length none],
  .cells true 1 (iN .u64 (gR 1000000000 d A).1),.cells true 0 [.int .u64 (((gR 1000000000 d A).2:Nat):Int)],.cells true 0 [.slice 0 0 A.length none],.loop ⟨.ready,none,X,146,V,U,Z⟩],[]⟩:=fun X h=>by
  have:=R X h
  rwa [M,N] at this
 clear R N M;obtain⟨q,W⟩:=xE ((gR 1000000000 d A).1);obtain⟨r,hr⟩:=xE ((gR 1000000000 d A).2);rw[←W,←hr] at L ⊢;rw[←W] at i3 C;simp[dZ,fH,f223] at B;obtain⟨rfl,rfl,rfl⟩:=B;have hs0:∀l,bP .u64 (.cells false 1 (iN .u64 A)::l) (.slice 0 0 A.length none)=some A:=fun l=>bz rfl (by simp) (List.take_of_length_le (by simp))
 have hs1:∀l,bP .u64 (.cells false 1 (iN .u64 A)::.cells false 1 [.int .u64 (d:Int)]::l) (.slice 1 0 1 none)=some [d]:=fun l=>bz (A:=[d]) rfl (by simp) rfl
 have hs4:∀K G F D l,bP .u64 (K::G::F::D::.cells true 1 (iN .u64 q)::l) (.slice 4 0 A.length none)=some q:=fun K G F D l=>bz rfl (by simp[C]) (List.take_of_length_le (by simp[C]))
 have u:∀K G F D a4 a5 a6 a7 l,bP .u64 (K::G::F::D::a4::a5::a6::a7::.cells true 1 [.int .u64 (r:Int)]::l) (.slice 8 0 1 none)=some [r]:=fun K G F D a4 a5 a6 a7 l=>bz (A:=[r]) rfl (by simp) rfl
 have o:lok 1000000000 [d]=true:=by simp[lok];omega
 have m:bD [d]=[d]:=by simp[bD];omega
 have j:aF 1000000000 [d]=d:=by simp[aF]
 have Y:¬jG (aF 1000000000 A) d<0:=by unfold jG;rw[if_neg (by omega)];split<;>omega
 have h8:8*(A.length:Int)≤281474976710656:=by omega
 have h9:(A.length:Int)≤281474976710656:=by omega
 have YK:A.length≤1000000000:=by omega
 simp[aa,afR,f223,y9.or,bN,bB,hs0,hs1,H,tA,o,m,j,Y,h8,h9,YK,vJ,uv,L,hs4,u,C,yD,Nat.testBit];exact⟨rfl,rfl⟩
variable{B:Nat}{l:List Nat}
theorem Sc(h:lok B l=true):lok B (bD l)=true:=by rw[jL l];exact jv h _
theorem zW(H:2≤B)(h:lok B l=true)(I:bD l=l):dig B (aF B l)=l:=by rw[fM H h,I]
variable{A:List Nat}{d:Nat}
theorem GZ(hd:d<1000000000)(H:lok 1000000000 A=true)(I:A.length≤100000000):
  kO prog 266 [.slice 0 0 A.length none,.int .u64 (d:Int)] [.cells false 1 (iN .u64 A)] (.slice 1 0 (dig 1000000000 (aF 1000000000 A*d)).length none) [.cells false 1 (iN .u64 A),.cells true 1 (iN .u64 (dig 1000000000 (aF 1000000000 A*d)))]:=by
 have S:aT prog 266=some f266:=by kernel_rfl
 have hs0:∀l,bP .u64 (.cells false 1 (iN .u64 A)::l) (.slice 0 0 A.length none)=some A:=fun l=>bz rfl (by simp) (List.take_of_length_le (by simp))
 have hs1:∀Z l,bP .u64 (Z::.cells true 1 [.int .u64 (d:Int)]::l) (.slice 1 0 1 none)=some [d]:=fun Z l=>bz (A:=[d]) rfl (by simp) rfl
 have hs2:∀Z l,bP .u64 (Z::.cells true 1 [.int .u64 (d:Int)]::l) (.slice 1 0 (bD [d]).length none)=some (bD [d]):=fun Z l=>bz rfl (by have:=dw [d];simpa using this) (by have:([.int .u64 (d:Int)]:List AV)=iN .u64 [d]:=rfl;rw[this,iu,na])
 have X:lok 1000000000 (bD [d])=true:=Sc (by simp[lok];omega);have V:aF 1000000000 (bD [d])=d:=by rw[DQ];simp[aF]
 have U:(bD [d]).length≤100000000:=by have:=dw [d];simp at this;omega
 have h:aa (aV prog) (fun _=>[]) (aT prog) bN 1 266 [.slice 0 0 A.length none,.int .u64 (d:Int)] [.cells false 1 (iN .u64 A)]=some ⟨.slice 1 0 (dig 1000000000 (aF 1000000000 A*d)).length none,none,[.cells true 1 (iN .u64 (dig 1000000000 (aF 1000000000 A*d)))]⟩:=by simp[aa,S,f266,bN,bB,hs0,hs1,hs2,H,I,X,V,U]
 have:=(aq ai (aO _) qe (aR _) h).1;simpa [aee.mem] using this
variable{M:Mem}{x:AV}
theorem GY(hd:d<1000000000)(H:lok 1000000000 A=true)(I:A.length≤100000000)(J:aev .u64 M x A):
  kO prog 266 [x,.int .u64 (d:Int)] M (.slice M.length 0 (dig 1000000000 (aF 1000000000 A*d)).length none) (M++[.cells true 1 (iN .u64 (dig 1000000000 (aF 1000000000 A*d)))]):=by
 obtain⟨b,rfl,h⟩:=kO.ago (new:=[.cells true 1 (iN .u64 (dig 1000000000 (aF 1000000000 A*d)))]) (rest:=[.int .u64 (d:Int)]) rfl rfl (GZ hd H I) J;simpa [AV.ren,fq] using h
noncomputable def bS:y9:=fun c Z M=>match c,Z with
 |.fn 266,[x,.int .u64 d]=>match bP .u64 M x with
  |some A=>if lok 1000000000 A=true∧A.length≤100000000∧0≤d∧d<1000000000 then some ⟨.slice M.length 0 (dig 1000000000 (aF 1000000000 A*d.toNat)).length none,none,[.cells true 1 (iN .u64 (dig 1000000000 (aF 1000000000 A*d.toNat)))]⟩ else none
  |_=>none
 |c,Z=>bN c Z M
theorem qf:qS prog bS:=by
 refine cq fun c Z M r h=>?_
 unfold bS at h;split at h
 ·split at h
  ·rename_i V
   split at h
   ·rename_i U
    obtain⟨S,R,X,O⟩:=U;cases h;have N:=(Int.toNat_lt X).2 O;have:=GY N S R (bU V);rw[Int.toNat_of_nonneg X] at this;exact aC this
   ·cases h
  ·cases h
 ·exact eW qe h
def fC(c:Code):List Nat:=if (ae c).contains 11 then [11,5] else [13,12]
theorem sn{B d:Nat}(hd:0<d):∀l:List Nat,lok B l=true→(gR B d l).2<d∧aF B (gR B d l).1*d+(gR B d l).2=aF B l∧lok B (gR B d l).1=true∧(gR B d l).1.length=l.length
 | [],_=>by simp[gR,aF,lok,hd]
 |x::l,h=>by
  rw[cU,Bool.and_eq_true,decide_eq_true_eq] at h;obtain⟨X,V,U,S⟩:=sn hd l h.2;simp only[gR];have Z:=Nat.mod_add_div ((gR B d l).2*B+x) d;refine⟨Nat.mod_lt _ hd,?_,?_,by simp[S]⟩
  ·rw[aF,aF,←V,Nat.add_mul,Nat.mul_add]
   rw[Nat.mul_comm d] at Z;rw[Nat.mul_assoc,Nat.mul_comm B (gR B d l).2];omega
  ·rw[cU,Bool.and_eq_true,decide_eq_true_eq]
   refine⟨?_,U⟩;rw[Nat.div_lt_iff_lt_mul hd];have h3:((gR B d l).2+1)*B≤d*B:=Nat.mul_le_mul_right _ X;rw[Nat.add_mul] at h3;rw[Nat.mul_comm B d];omega
variable{y:AV}
theorem uN{B:List Nat}(H:lok 1000000000 A=true)(I:lok 1000000000 B=true)(J:A.length≤1000000000)(tA:bD A=A)(W:bD B=B)(Y:aF 1000000000 A<aF 1000000000 B)(hx:aev .u64 M x A)(hy:aev .u64 M y B):
  kO prog 223 [x,y] M (.tuple [.qF,x]) M:=by
 have hs0:∀l,bP .u64 (.cells false 1 (iN .u64 A)::l) (.slice 0 0 A.length none)=some A:=fun l=>bz rfl (by simp) (List.take_of_length_le (by simp))
 have hs1:∀a l,bP .u64 (a::.cells false 1 (iN .u64 B)::l) (.slice 1 0 B.length none)=some B:=fun a l=>bz rfl (by simp) (List.take_of_length_le (by simp))
 have Z:jG (aF 1000000000 A) (aF 1000000000 B)<0:=by unfold jG;rw[if_pos Y];omega
 have h:aa (aV prog) fC (aT prog) bS 1 223 [.slice 0 0 A.length none,.slice 1 0 B.length none] [.cells false 1 (iN .u64 A),.cells false 1 (iN .u64 B)]=some ⟨.tuple [.qF,.slice 0 0 A.length none],none,[]⟩:=by simp[aa,afR,f223,bS,bN,bB,hs0,hs1,H,I,J,tA,W,Z]
 have:=(aq ai (aO _) qf (aR _) h).1;simp only[aee.mem,Option.getD_none,List.append_nil] at this;obtain⟨b,c,rfl,rfl,h3⟩:=kO.afn (new:=[]) rfl this hx hy;simpa [AV.ren,AV.aez,fq] using h3
theorem Ds(H:0<d)(hd:d<1000000000)(I:lok 1000000000 A=true)(J:A.length≤100000000)(tA:bD A=A)(W:d≤aF 1000000000 A)(Y:aev .u64 M x A)(hy:aev .u64 M y [d]):
  kO prog 223 [x,y] M (.tuple [.slice M.length 0 (dig 1000000000 (aF 1000000000 A / d)).length none,.slice (M.length+1) 0 (dig 1000000000 (aF 1000000000 A%d)).length none]) (M++[.cells true 1 (iN .u64 (dig 1000000000 (aF 1000000000 A / d))),.cells true 1 (iN .u64 (dig 1000000000 (aF 1000000000 A%d)))]):=by
 obtain⟨O,S,h⟩:=EK A d H hd I J tA W;obtain⟨X,V,R,L⟩:=sn H A I;have N:aF 1000000000 (gR 1000000000 d A).1=aF 1000000000 A / d:=by rw[←V,Nat.mul_comm,Nat.mul_add_div H,Nat.div_eq_of_lt X,Nat.add_zero]
 have K:(gR 1000000000 d A).2=aF 1000000000 A%d:=by rw[←V,Nat.mul_comm,Nat.mul_add_mod,Nat.mod_eq_of_lt X]
 have f1:bD (gR 1000000000 d A).1=dig 1000000000 (aF 1000000000 A / d):=by rw[←fM (by omega) R,N]
 have f2:bD [(gR 1000000000 d A).2]=dig 1000000000 (aF 1000000000 A%d):=by rw[←fM (B:=1000000000) (by omega) (by simp[lok];omega)];congr 1
 have:=(aq ai (aO _) (qe.or S) (aR _) h).1;simp only[aee.mem,Option.getD_some,List.cons_append,List.nil_append] at this;have U:=kO.afs (m2:=[.cells false 1 (iN .u64 A),.cells false 1 (iN .u64 [d]),.cells true 1 (iN .u64 (dig 1000000000 (aF 1000000000 A / d))),.cells true 1 (iN .u64 (dig 1000000000 (aF 1000000000 A%d)))]) this rfl (fun b s Z=>by
  match b with
  |0=>simp at Z;subst Z;exact⟨_,rfl,.inl rfl⟩
  |1=>simp at Z;subst Z;exact⟨_,rfl,.inl rfl⟩
  |2=>simp at Z;subst Z;exact⟨_,rfl,.row (by rw[←f1];exact eU _)⟩
  |3=>simp at Z;subst Z;exact⟨_,rfl,by have:=afP.row (k:=.u64) (o:=true) (es:=1) (eU [(gR 1000000000 d A).2]);rw[f2] at this;exact this⟩
  |b+4=>simp at Z)
 rw[f1,f2] at U;obtain⟨b,c,rfl,rfl,h3⟩:=kO.afn (B:=[d]) (new:=[.cells true 1 (iN .u64 (dig 1000000000 (aF 1000000000 A / d))),.cells true 1 (iN .u64 (dig 1000000000 (aF 1000000000 A%d)))]) rfl U Y hy;simpa [AV.ren,AV.aez,fq] using h3
noncomputable def dD:y9:=fun c Z M=>match c,Z with
 |.fn 223,[x,y]=>match bP .u64 M x,bP .u64 M y with
  |some A,some [d]=>if lok 1000000000 A=true∧A.length≤100000000∧bD A=A∧0<d∧d<1000000000 then
    (if aF 1000000000 A<d then some ⟨.tuple [.qF,x],none,[]⟩ else some ⟨.tuple [.slice M.length 0 (dig 1000000000 (aF 1000000000 A / d)).length none,.slice (M.length+1) 0 (dig 1000000000 (aF 1000000000 A%d)).length none],none,[.cells true 1 (iN .u64 (dig 1000000000 (aF 1000000000 A / d))),.cells true 1 (iN .u64 (dig 1000000000 (aF 1000000000 A%d)))]⟩) else none
  |_,_=>none
 |c,Z=>bS c Z M
theorem Hd:qS prog dD:=by
 refine cq fun c Z M r h=>?_
 unfold dD at h;split at h
 ·split at h
  ·rename_i X V
   split at h
   ·rename_i N
    obtain⟨U,L,S,K,R⟩:=N;split at h
    ·rename_i O
     cases h;have:=uN U (B:=[_]) (by simp[lok];exact R) (by omega) S (by simp[bD];omega) (by simpa [aF] using O) (bU X) (bU V);refine aC ?_;rw[List.append_nil];exact this
    ·rename_i O
     cases h;exact aC (Ds K R U L S (by omega) (bU X) (bU V))
   ·cases h
  ·cases h
 ·exact eW qf h
def fj(A B:List Nat)(n m:Nat)(a b q H I:List Nat)(l:Mem):Mem:=
 .cells false 1 (iN .u64 A)::.cells false 1 (iN .u64 B)::.cells true 0 [.slice 5 0 m none]::.cells true 0 [.slice 6 0 n none]::.cells true 1 (iN .u64 a)::.cells true 1 (iN .u64 b)::.cells true 1 (iN .u64 q)::.cells true 1 (iN .u64 H)::.qK::.cells true 1 (iN .u64 I)::l
variable{K:Nat}{b1 c:Code}
theorem CJ(A B:List Nat)(n:Nat)(a q I H:List Nat)(b r d0 t:Nat)(ht:t=r / b)(W:H.take (dig 1000000000 r).length=dig 1000000000 r)(Y:(dig 1000000000 r).length≤H.length)(XN:0<b)(Zf:t<d0)(hdB:d0<1000000000)(hK:d0<K)(hlb:∀d,d≤d0→(dig 1000000000 (b*d)).length≤100000000)(ab3:∀d,d≤d0→0<d→(dig 1000000000 b).length≤(dig 1000000000 (b*d)).length)(J:ah f223=[b1,c])(X':fC c=[13,12]):
  ∃F:Env→Bool→Env,∀Z d,(ad Z 3=.ptr 2 0∧ad Z 5=.slice 9 0 (dig 1000000000 r).length none∧ad Z 12=.int .u64 d0∧ad Z 13=.slice 10 0 (dig 1000000000 (b*d0)).length none)→
   aS (aV prog) fC dD K 146 2 true (.loop c) ⟨Z,fj A B n (dig 1000000000 b).length a (dig 1000000000 b) q I H [.cells true 1 (iN .u64 (dig 1000000000 (b*d0)))],d⟩=
    some (.exit 4,⟨F Z d,fj A B n (dig 1000000000 b).length a (dig 1000000000 b) q I H [.cells true 1 (iN .u64 (dig 1000000000 (b*d0))),.cells true 1 (iN .u64 (dig 1000000000 (b*t)))],d⟩)∧
   (ad (F Z d) 13=.slice 11 0 (dig 1000000000 (b*t)).length none∧ad (F Z d) 12=.int .u64 (t:Int)∧(∀x∈[0,3,4,5,9,10,11],ad (F Z d) x=ad Z x)):=by
 refine bw X' (fun Z=>ad Z 3=.ptr 2 0∧ad Z 5=.slice 9 0 (dig 1000000000 r).length none∧ad Z 12=.int .u64 d0∧ad Z 13=.slice 10 0 (dig 1000000000 (b*d0)).length none)
  (fun Z N =>ad N 13=.slice 11 0 (dig 1000000000 (b*t)).length none∧ad N 12=.int .u64 (t:Int)∧(∀x∈[0,3,4,5,9,10,11],ad N x=ad Z x)) ?_
 clear X';rintro Z dd ⟨h3,h5,h12,h13⟩;simp[ah,aG,f223] at J;obtain⟨_,J⟩:=J;obtain⟨S,hS⟩:∃S:Nat→XS,(S d0=⟨aw [13,12] (ae c) Z ((13,.slice 10 0 (dig 1000000000 (b*d0)).length none)::(12,.int .u64 (d0:Int))::Z),fj A B n (dig 1000000000 b).length a (dig 1000000000 b) q I H [.cells true 1 (iN .u64 (dig 1000000000 (b*d0)))],dd⟩)∧
   (∀e,e≠d0→S e=⟨aw [13,12] (ae c) Z ((13,.slice 11 0 (dig 1000000000 (b*e)).length none)::(12,.int .u64 (e:Int))::Z),fj A B n (dig 1000000000 b).length a (dig 1000000000 b) q I H [.cells true 1 (iN .u64 (dig 1000000000 (b*d0))),.cells true 1 (iN .u64 (dig 1000000000 (b*e)))],dd⟩):=
  ⟨fun e=>if e=d0 then⟨aw [13,12] (ae c) Z ((13,.slice 10 0 (dig 1000000000 (b*d0)).length none)::(12,.int .u64 (d0:Int))::Z),fj A B n (dig 1000000000 b).length a (dig 1000000000 b) q I H [.cells true 1 (iN .u64 (dig 1000000000 (b*d0)))],dd⟩
   else⟨aw [13,12] (ae c) Z ((13,.slice 11 0 (dig 1000000000 (b*e)).length none)::(12,.int .u64 (e:Int))::Z),fj A B n (dig 1000000000 b).length a (dig 1000000000 b) q I H [.cells true 1 (iN .u64 (dig 1000000000 (b*d0))),.cells true 1 (iN .u64 (dig 1000000000 (b*e)))],dd⟩,by simp,fun e he=>by simp[he]⟩
 have XW:(⟨aw [13,12] (ae c) Z Z,fj A B n (dig 1000000000 b).length a (dig 1000000000 b) q I H [.cells true 1 (iN .u64 (dig 1000000000 (b*d0)))],dd⟩:XS)=S d0:=by rw[hS.1];simp[aw,h12,h13]
 rw[XW];have H':(fj A B n (dig 1000000000 b).length a (dig 1000000000 b) q I H [.cells true 1 (iN .u64 (dig 1000000000 (b*d0)))]).length=11:=rfl;rw[H'];refine bO (α:=Nat) S (fun e=>e-t) (fun e=>t≤e∧e≤d0) (.exit 4) _ dd _ (by simp) ?_ K d0 ⟨by omega,Nat.le_refl _⟩ (by omega);rintro e ⟨he1,he2⟩;have X:∀l,bP .u64 (fj A B n (dig 1000000000 b).length a (dig 1000000000 b) q I H l) (.slice 9 0 (dig 1000000000 r).length none)=some (dig 1000000000 r):=fun l=>bz rfl (by simpa using Y) (by rw[iu,W])
 have L:∀l,bP .u64 (fj A B n (dig 1000000000 b).length a (dig 1000000000 b) q I H l) (.slice 5 0 (dig 1000000000 b).length none)=some (dig 1000000000 b):=fun l=>bz rfl (by simp) (List.take_of_length_le (by simp))
 have R:∀l,bP .u64 (fj A B n (dig 1000000000 b).length a (dig 1000000000 b) q I H (.cells true 1 (iN .u64 (dig 1000000000 (b*d0)))::l)) (.slice 10 0 (dig 1000000000 (b*d0)).length none)=some (dig 1000000000 (b*d0)):=fun l=>bz rfl (by simp) (List.take_of_length_le (by simp))
 have U:∀x l,bP .u64 (fj A B n (dig 1000000000 b).length a (dig 1000000000 b) q I H (x::.cells true 1 (iN .u64 (dig 1000000000 (b*e)))::l)) (.slice 11 0 (dig 1000000000 (b*e)).length none)=some (dig 1000000000 (b*e)):=fun x l=>bz rfl (by simp) (List.take_of_length_le (by simp))
 have G:∀v,lok 1000000000 (dig 1000000000 v)=true:=fun v=>cR (by omega) v
 have D:∀v,bD (dig 1000000000 v)=dig 1000000000 v:=fun v=>dv (by omega) v
 have C:∀v,aF 1000000000 (dig 1000000000 v)=v:=fun v=>ct (by omega) v
 have XY:=hlb e he2;have V:(dig 1000000000 (b*e)).length≤1000000000:=by omega
 simp only[fj] at X L R U hS;by_cases hq:e=t
 ·right
  have PP:e≠d0:=by omega
  have O:¬0<jG (b*e) r:=by
   have:b*e≤r:=by rw[hq,ht];exact Nat.mul_div_le r b
   unfold jG;split
   ·omega
   ·rw[if_neg (by omega)];omega
  rw[hS.2 e PP,←hq];clear hS;subst J;simp[dD,bS,bN,bB,fj,h3,h5,X,U,G,D,C,V,O]
 ·left
  have u:t<e:=by omega
  have o:r<b*e:=by
   have:=(Nat.div_lt_iff_lt_mul XN).1 (ht▸u)
   rwa [Nat.mul_comm] at this
  have O:0<jG (b*e) r:=by unfold jG;rw[if_neg (by omega),if_pos o];omega
  have m:b≤b*e:=Nat.le_mul_of_pos_right b (by omega);have j:b*e-b=b*(e-1):=by rw[Nat.mul_sub,Nat.mul_one]
  have Yb:=ab3 e he2 (by omega);have w1:IntKind.u64.wrap ((e:Int)-1)=((e-1:Nat):Int):=by rw[cf (by omega) (by omega)];omega
  have YE:(dig 1000000000 (b*e)).length≤100000000:=XY;refine⟨e-1,?_⟩;rw[hS.2 (e-1) (by omega)];by_cases hd:e=d0
  ·rw[hd] at O m j Yb w1 YE V ⊢
   rw[hS.1];clear hS;subst J;simp[dD,bS,bN,bB,h3,h5,X,L,R,G,D,C,V,O,m,Yb,j,w1,YE];omega
  ·rw[hS.2 e hd]
   clear hS;subst J;simp[dD,bS,bN,bB,h3,h5,X,L,U,G,D,C,V,O,m,Yb,j,w1,YE];omega
theorem Az(A B:List Nat)(n:Nat)(a q I H:List Nat)(b r t:Nat)(ht:b*t≤r)(W:H.take (dig 1000000000 r).length=dig 1000000000 r)(Y:(dig 1000000000 r).length≤H.length)(hK:0<K)(hlb:(dig 1000000000 (b*t)).length≤1000000000)(J:ah f223=[b1,c])(X':fC c=[13,12]):
  ∃F:Env→Bool→Env,∀Z d,(ad Z 3=.ptr 2 0∧ad Z 5=.slice 9 0 (dig 1000000000 r).length none∧ad Z 12=.int .u64 t∧ad Z 13=.slice 10 0 (dig 1000000000 (b*t)).length none)→
   aS (aV prog) fC dD K 146 2 true (.loop c) ⟨Z,fj A B n (dig 1000000000 b).length a (dig 1000000000 b) q I H [.cells true 1 (iN .u64 (dig 1000000000 (b*t)))],d⟩=
    some (.exit 4,⟨F Z d,fj A B n (dig 1000000000 b).length a (dig 1000000000 b) q I H [.cells true 1 (iN .u64 (dig 1000000000 (b*t)))],d⟩)∧
   (ad (F Z d) 13=.slice 10 0 (dig 1000000000 (b*t)).length none∧ad (F Z d) 12=.int .u64 (t:Int)∧(∀x∈[0,3,4,5,9,10,11],ad (F Z d) x=ad Z x)):=by
 refine bw X' (fun Z=>ad Z 3=.ptr 2 0∧ad Z 5=.slice 9 0 (dig 1000000000 r).length none∧ad Z 12=.int .u64 t∧ad Z 13=.slice 10 0 (dig 1000000000 (b*t)).length none)
  (fun Z U =>ad U 13=.slice 10 0 (dig 1000000000 (b*t)).length none∧ad U 12=.int .u64 (t:Int)∧(∀x∈[0,3,4,5,9,10,11],ad U x=ad Z x)) ?_
 clear X';rintro Z dd ⟨h3,h5,h12,h13⟩;simp[ah,aG,f223] at J;obtain⟨_,J⟩:=J;obtain⟨K,rfl⟩:∃S,K=S +1:=⟨K-1,by omega⟩
 have X:∀l,bP .u64 (fj A B n (dig 1000000000 b).length a (dig 1000000000 b) q I H l) (.slice 9 0 (dig 1000000000 r).length none)=some (dig 1000000000 r):=fun l=>bz rfl (by simpa using Y) (by rw[iu,W])
 have V:∀l,bP .u64 (fj A B n (dig 1000000000 b).length a (dig 1000000000 b) q I H (.cells true 1 (iN .u64 (dig 1000000000 (b*t)))::l)) (.slice 10 0 (dig 1000000000 (b*t)).length none)=some (dig 1000000000 (b*t)):=fun l=>bz rfl (by simp) (List.take_of_length_le (by simp))
 have R:∀v,lok 1000000000 (dig 1000000000 v)=true:=fun v=>cR (by omega) v
 have O:∀v,bD (dig 1000000000 v)=dig 1000000000 v:=fun v=>dv (by omega) v
 have N:∀v,aF 1000000000 (dig 1000000000 v)=v:=fun v=>ct (by omega) v
 have L:¬0<jG (b*t) r:=by
  unfold jG;split
  ·omega
  ·rw[if_neg (by omega)];omega
 simp only[fj] at X V;subst J;simp[fy,dD,bS,bN,bB,fj,h3,h5,h12,h13,X,V,R,O,N,hlb,L]
def wj(b:Nat):List Nat→List Nat
 | []=>[]
 |x::l=>if x+1000000000*(gR 1000000000 b l).2<b then x::dig 1000000000 (gR 1000000000 b l).2 else dig 1000000000 ((x+1000000000*(gR 1000000000 b l).2)%b)
theorem Cb{b:Nat}:∀{l:List Nat},lok 1000000000 l=true→(wj b l).take (dig 1000000000 (gR 1000000000 b l).2).length=dig 1000000000 (gR 1000000000 b l).2∧(dig 1000000000 (gR 1000000000 b l).2).length≤(wj b l).length
 | [],_=>by simp[wj,gR,eF]
 |x::l,h=>by
  rw[cU,Bool.and_eq_true,decide_eq_true_eq] at h;have e:(gR 1000000000 b (x::l)).2=(x+1000000000*(gR 1000000000 b l).2)%b:=by simp only[gR];rw[Nat.mul_comm,Nat.add_comm]
  rw[e,wj];split
  ·rename_i Z
   rw[Nat.mod_eq_of_lt Z,←NN (by omega) h.1];exact⟨na _,dw _⟩
  ·exact⟨List.take_of_length_le (Nat.le_refl _),Nat.le_refl _⟩
def ir(A B:List Nat)(a:List Nat)(b k:Nat):Mem:=
 [.cells false 1 (iN .u64 A),.cells false 1 (iN .u64 B),.cells true 0 [.slice 5 0 (dig 1000000000 b).length none],.cells true 0 [.slice 6 0 a.length none],.cells true 1 (iN .u64 a),.cells true 1 (iN .u64 (dig 1000000000 b)),.cells true 1 (iN .u64 (List.replicate k 0++(gR 1000000000 b (a.drop k)).1))]
  ++ if k=a.length then [] else [.cells true 1 (iN .u64 (wj b (a.drop k)))]
def xC(a:List Nat)(b k:Nat):AV:=if k=a.length then .qF else .slice 7 0 (dig 1000000000 (gR 1000000000 b (a.drop k)).2).length none
theorem CL(A B a:List Nat)(b top:Nat)(ha:lok 1000000000 a=true)(hl:a.length≤10000000)(hm:2≤(dig 1000000000 b).length)(hn:(dig 1000000000 b).length≤a.length)(Zn:(dig 1000000000 b)[(dig 1000000000 b).length-1]? =some top)(hK:2000000000<K)(hb:ah f223=[b1,c]∧fC b1=[11,5]∧fC c=[13,12]):
  ∃F:Env→Bool→Env,∀V d,(ad V 0=.slice 4 0 a.length none∧ad V 3=.ptr 2 0∧ad V 4=.ptr 3 0∧ad V 10=.int .u64 top∧ad V 5=.qF∧ad V 11=.int .i64 ((a.length:Int)-1))→
   aS (aV prog) fC dD K 146 2 true (.loop b1) ⟨V,ir A B a b a.length,d⟩=some (.exit 2,⟨F V d,ir A B a b 0,d⟩)∧
   (ad (F V d) 5=xC a b 0∧(∀x∈[3,4,9],ad (F V d) x=ad V x)):=by
 refine bw hb.2.1 (fun V=>ad V 0=.slice 4 0 a.length none∧ad V 3=.ptr 2 0∧ad V 4=.ptr 3 0∧ad V 10=.int .u64 top∧ad V 5=.qF∧ad V 11=.int .i64 ((a.length:Int)-1))
  (fun V AC =>ad AC 5=xC a b 0∧(∀x∈[3,4,9],ad AC x=ad V x)) ?_
 rintro V dd ⟨h0,h3,h4,YK,h5,h11⟩;have W:=hb.1;simp[ah,aG,f223] at W;obtain⟨W,Yv⟩:=W;have XW:aw [11,5] (ae b1) V ((11,.int .i64 ((a.length:Int)-1))::(5,xC a b a.length)::V)=aw [11,5] (ae b1) V V:=by simp[aw,h5,h11,xC]
 rw[←XW];have abz:(ir A B a b a.length).length=7:=by simp[ir]
 rw[abz];refine bO (α:=Nat) (fun k=>⟨aw [11,5] (ae b1) V ((11,.int .i64 ((k:Int)-1))::(5,xC a b k)::V),ir A B a b k,dd⟩) id (fun k=>k≤a.length) (.exit 2) _ dd _ (by simp) ?_ K a.length (Nat.le_refl _) (by simp;omega);intro k hk;clear XW abz;have hbv:1000000000≤b:=by have h:=sE (B:=1000000000) (by omega) b (by rintro rfl;rw[eF] at hm;simp at hm);have:1000000000 ^ 1≤1000000000 ^ ((dig 1000000000 b).length-1):=Nat.pow_le_pow_right (by omega) (by omega);omega
 cases k with
 |zero=>
  right;subst W;simp
 |succ i=>
  left;have FS:i<a.length:=by omega
  obtain⟨x,hx,XX⟩:=dW FS;have Yg:=ga ha hx;have eA:a.drop i=x::a.drop (i+1):=by rw[List.drop_eq_getElem_cons FS,XX]
  have PP:¬i=a.length:=by omega
  obtain⟨d1,d2,d3,d4⟩:=sn (B:=1000000000) (d:=b) (by omega) (a.drop (i+1)) (kc ha _);obtain⟨r,hr⟩:=xE ((gR 1000000000 b (a.drop (i+1))).2);obtain⟨q,hq⟩:=xE ((gR 1000000000 b (a.drop (i+1))).1);obtain⟨Yc,ZF⟩:=xE (wj b (a.drop (i+1)));obtain⟨t1,t2⟩:=Cb (b:=b) (kc ha (i+1));obtain⟨Z,hr'⟩:=xE (x+1000000000*r);have hq2:(gR 1000000000 b (a.drop i)).1=Z / b::q:=by rw[eA,hq,hr',hr];simp only[gR];rw[Nat.mul_comm,Nat.add_comm]
  have Yu:(gR 1000000000 b (a.drop i)).2=Z %b:=by rw[eA,hr',hr];simp only[gR];rw[Nat.mul_comm,Nat.add_comm]
  have aaZ:wj b (a.drop i)=if Z <b then x::dig 1000000000 r else dig 1000000000 (Z %b):=by rw[eA,wj,←hr,←hr']
  have hqz:(List.replicate (i+1) 0++q:List Nat)=List.replicate i 0++0::q:=by rw[List.replicate_succ'];simp
  rw[←hr] at t1 t2 d1;rw[←ZF] at t1 t2;rw[←hq] at d4;have htk:(iN .u64 Yc).take (dig 1000000000 r).length=iN .u64 (dig 1000000000 r):=by rw[iu,t1]
  have U:bD (x::dig 1000000000 r)=dig 1000000000 Z :=by rw[hr'];exact NN (by omega) Yg
  have hrl:(dig 1000000000 r).length≤a.length:=by
   have:(dig 1000000000 r).length≤(dig 1000000000 b).length:=by
    rcases Nat.lt_or_ge (dig 1000000000 b).length (dig 1000000000 r).length with h | h
    ·have:=ez (B:=1000000000) (by omega) h;omega
    ·exact h
   omega
  have w1:IntKind.i64.wrap ((i:Int)-1)=(i:Int)-1:=af;have hI:(i:Int)<(a.length:Int):=by omega
  have e1:(((i+1:Nat):Int)-1)=(i:Int):=by omega
  have hR0:xC a b i=.slice 7 0 (dig 1000000000 (Z %b)).length none:=by unfold xC;rw[if_neg PP,Yu]
  have hM0:ir A B a b i=[.cells false 1 (iN .u64 A),.cells false 1 (iN .u64 B),.cells true 0 [.slice 5 0 (dig 1000000000 b).length none],.cells true 0 [.slice 6 0 a.length none],.cells true 1 (iN .u64 a),.cells true 1 (iN .u64 (dig 1000000000 b)),.cells true 1 (iN .u64 (List.replicate i 0++Z / b::q)),
    .cells true 1 (iN .u64 (if Z <b then x::dig 1000000000 r else dig 1000000000 (Z %b)))]:=by unfold ir;rw[if_neg PP,hq2,aaZ];rfl
  have lo:∀v,lok 1000000000 (dig 1000000000 v)=true:=fun v=>cR (by omega) v
  have lt:∀v,bD (dig 1000000000 v)=dig 1000000000 v:=fun v=>dv (by omega) v
  have lv:∀v,aF 1000000000 (dig 1000000000 v)=v:=fun v=>ct (by omega) v
  have abh:(dig 1000000000 r).length+1≤1000000000:=by omega
  have hxl:lok 1000000000 (x::dig 1000000000 r)=true:=by rw[cU,lo];simp[Yg]
  have abi :(dig 1000000000 Z).length≤(dig 1000000000 r).length+1:=by rw[←U];exact dw (x::dig 1000000000 r)
  have H:(dig 1000000000 Z).length≤1000000000:=by omega
  refine⟨i,?_⟩;rw[e1];refine bH (r:=_∧_) (show i≤a.length∧id i<id (i+1) from⟨by omega,by simp⟩) ?_;by_cases X:i+1=a.length
  ·have Zf:a.drop (i+1)=[]:=by rw[X,List.drop_length]
   have hr0:r=0:=by rw[hr,Zf];rfl
   have hq0:q=[]:=by rw[hq,Zf];rfl
   have ad9:Z =x:=by omega
   have XM :Z <b:=by omega
   have hR1:xC a b (i+1)=.qF:=by unfold xC;rw[if_pos X]
   have hM1:ir A B a b (i+1)=[.cells false 1 (iN .u64 A),.cells false 1 (iN .u64 B),.cells true 0 [.slice 5 0 (dig 1000000000 b).length none],.cells true 0 [.slice 6 0 a.length none],.cells true 1 (iN .u64 a),.cells true 1 (iN .u64 (dig 1000000000 b)),.cells true 1 (iN .u64 (List.replicate i 0++0::q))]:=by unfold ir;rw[if_pos X,←hq,hqz];simp
   rw[hM1,hM0,hR1,hR0,if_pos XM,Nat.mod_eq_of_lt XM,Nat.div_eq_of_lt XM];have hc:jG Z b<0:=by unfold jG;rw[if_pos XM];omega
   rw[hr0,eF] at U;rw[hr0,eF];have hs8:∀S R O N G C o Y l,bP .u64 (S::R::O::N::G::C::o::Y::.cells true 1 [.int .u64 (x:Int)]::l) (.slice 8 0 1 none)=some [x]:=fun S R O N G C o Y l=>bz (A:=[x]) rfl (by simp) rfl
   have ado :∀S R O N G C o Y l,bP .u64 (S::R::O::N::G::C::o::Y::.cells true 1 [.int .u64 (x:Int)]::l) (.slice 8 0 (dig 1000000000 Z).length none)=some (dig 1000000000 Z):=fun S R O N G C o Y l=>by have I:=dw [x];rw[U] at I;refine bz rfl (by simpa using I) ?_;have:([.int .u64 (x:Int)]:List AV)=iN .u64 [x]:=rfl;rw[this,iu,←U,na]
   have hs5:∀S R O N G l,bP .u64 (S::R::O::N::G::.cells true 1 (iN .u64 (dig 1000000000 b))::l) (.slice 5 0 (dig 1000000000 b).length none)=some (dig 1000000000 b):=fun S R O N G l=>bz rfl (by simp) (List.take_of_length_le (by simp))
   subst W;simp[dD,bS,bN,bB,h0,h3,XX,hI,FS,hs8,ado,hs5,U,lo,lt,lv,hc,w1,H,cB]
  ·have hR1:xC a b (i+1)=.slice 7 0 (dig 1000000000 r).length none:=by unfold xC;rw[if_neg X,←hr]
   have hM1:ir A B a b (i+1)=[.cells false 1 (iN .u64 A),.cells false 1 (iN .u64 B),.cells true 0 [.slice 5 0 (dig 1000000000 b).length none],.cells true 0 [.slice 6 0 a.length none],.cells true 1 (iN .u64 a),.cells true 1 (iN .u64 (dig 1000000000 b)),.cells true 1 (iN .u64 (List.replicate i 0++0::q)),.cells true 1 (iN .u64 Yc)]:=by unfold ir;rw[if_neg X,←hq,←ZF,hqz];rfl
   have hs9:∀S R O N G C o Y a8 l,bP .u64 (S::R::O::N::G::C::o::Y::a8::.cells true 1 (.int .u64 (x:Int)::iN .u64 (dig 1000000000 r))::l) (.slice 9 0 (1+(dig 1000000000 r).length) none)=some (x::dig 1000000000 r):=fun S R O N G C o Y a8 l=>
    bz (A:=x::dig 1000000000 r) rfl (by simp;omega) (List.take_of_length_le (by simp;omega))
   have abj :∀S R O N G C o Y a8 l,bP .u64 (S::R::O::N::G::C::o::Y::a8::.cells true 1 (.int .u64 (x:Int)::iN .u64 (dig 1000000000 r))::l) (.slice 9 0 (dig 1000000000 Z).length none)=some (dig 1000000000 Z):=fun S R O N G C o Y a8 l=>by refine bz rfl (by simpa using abi) ?_;rw[←cB,iu,←U,na]
   have hs5:∀S R O N G l,bP .u64 (S::R::O::N::G::.cells true 1 (iN .u64 (dig 1000000000 b))::l) (.slice 5 0 (dig 1000000000 b).length none)=some (dig 1000000000 b):=fun S R O N G l=>bz rfl (by simp) (List.take_of_length_le (by simp))
   have g1:(1+(dig 1000000000 r).length)*8≤140737488355328:=by omega
   have g2:1+(dig 1000000000 r).length≤140737488355328:=by omega
   rw[hM1,hM0,hR1,hR0];by_cases XM :Z <b
   ·have hc:jG Z b<0:=by unfold jG;rw[if_pos XM];omega
    rw[if_pos XM,Nat.mod_eq_of_lt XM,Nat.div_eq_of_lt XM];subst W;simp[dD,bS,bN,bB,h0,h3,XX,hI,FS,hs9,abj,hs5,U,lo,lt,lv,hc,w1,abh,H,t2,htk,g1,g2,cB]
   ·rw[if_neg XM]
    have hc:¬jG Z b<0:=by unfold jG;rw[if_neg XM];split<;>omega
    have hrb:Z <1000000000*b:=by omega
    have hL:=xw (B:=1000000000) (by omega) rfl hrb (by omega);obtain⟨m,hmm⟩:=xE ((dig 1000000000 b).length);obtain⟨L,hLL⟩:=xE ((dig 1000000000 Z).length);obtain⟨p1,hp1⟩:=xE (L-1);have adp:p1<(dig 1000000000 Z).length:=by omega
    have wp1:IntKind.i64.wrap (((dig 1000000000 Z).length:Int)-1)=(p1:Int):=by rw[af];omega
    have abP:(p1:Int)<((dig 1000000000 Z).length:Int):=by omega
    obtain⟨D1,Za,ad'⟩:=dW adp;have aea:=ga (lo Z) Za;have aab:∀(j v:Nat),(dig 1000000000 Z)[j]? =some v→(AV.int IntKind.u64 (x:Int)::iN .u64 (dig 1000000000 r))[j]? =some (AV.int IntKind.u64 (v:Int)):=fun j v hv=>by
     rw[←U,jL,List.getElem?_take] at hv;split at hv
     ·rw[←cB,RP,hv];rfl
     ·cases hv
    have hc1:=aab _ _ Za;obtain⟨D,hDD,hDb⟩:∃D,((L=m∧D=D1)∨(L=m+1∧∃l,(dig 1000000000 Z)[m-1]? =some l∧D=D1*1000000000+l))∧D<1000000000*1000000000:=by
     rcases hL with h | h
     ·exact⟨D1,.inl ⟨by omega,rfl⟩,by omega⟩
     ·obtain⟨l,YY,_⟩:=dW (l:=dig 1000000000 Z) (i:=m-1) (by omega)
      have:=ga (lo Z) YY;exact⟨D1*1000000000+l,.inr ⟨by omega,l,YY,rfl⟩,by omega⟩
    obtain⟨gt,g3,g4⟩:=Ut (B:=1000000000) (r:=Z) (b:=b) (m:=m) (D:=D) (top:=top) (by omega) hmm.symm (by omega) (by rw[hmm];exact Zn) hrb (by omega) (by
     rcases hDD with⟨I,rfl⟩ | ⟨I,l,h2,rfl⟩
     ·left;exact⟨by omega,by rw[show m-1=p1 by omega];exact Za⟩
     ·right;exact⟨by omega,D1,l,by rw[show m=p1 by omega];exact Za,h2,rfl⟩)
    obtain⟨g,hg⟩:=xE (D / top);obtain⟨d0,Zf⟩:=xE (min g 999999999);obtain⟨t,ht⟩:=xE (Z / b);rw[←hg,←ht] at g3;rw[←ht] at g4;have htd:t≤d0:=by omega
    have adq:d0<1000000000:=by omega
    have hbt:b*t≤Z :=by rw[ht];exact Nat.mul_div_le Z b
    have XN:0<b:=by omega
    have adr:d0<K:=by omega
    have hK0:0<K:=by omega
    have abk:(d0:Int)<1000000000:=by omega
    have YQ:Z -b*t=Z %b:=by have:=Nat.mod_add_div Z b;rw[←ht] at this;omega
    have mono:∀u v,u≤v→(dig 1000000000 u).length≤(dig 1000000000 v).length:=fun u v h=>by
     rcases Nat.lt_or_ge (dig 1000000000 v).length (dig 1000000000 u).length with h' | h'
     ·have:=ez (B:=1000000000) (by omega) h';omega
     ·exact h'
    have hlb:∀d,d≤d0→(dig 1000000000 (b*d)).length≤100000000:=fun d hd=>by
     have I:b*d<1000000000 ^ (m+1):=by have h2:=xx (B:=1000000000) (by omega) b;rw[←hmm] at h2;rw[Nat.pow_succ];exact Nat.mul_lt_mul_of_lt_of_lt h2 (by omega)
     have:=fL (B:=1000000000) (by omega) I;omega
    have ab3:∀d,d≤d0→0<d→(dig 1000000000 b).length≤(dig 1000000000 (b*d)).length:=fun d _ hd=>mono _ _ (Nat.le_mul_of_pos_right b hd)
    have aaF:(x::dig 1000000000 r).take (dig 1000000000 Z).length=dig 1000000000 Z :=by rw[←U,na]
    have ad2:=ga (lo b) Zn;have hgD:g≤D:=by rw[hg];exact Nat.div_le_self _ _
    have wg:IntKind.u64.wrap (g:Int)=(g:Int):=cf (by omega) (by omega);have wD:IntKind.u64.wrap ((D:Int) / (top:Int))=(g:Int):=by rw[←Int.natCast_ediv,←hg];exact wg
    have wD' :IntKind.u64.wrap ((D:Int).tdiv (top:Int))=(g:Int):=by rw[pe,←hg];exact wg
    have aaw:¬top=0:=by omega
    have Zp:(if (999999999:Int)<(g:Int) then (999999999:Int) else (g:Int))=(d0:Int):=by split<;>omega
    have aax:(dig 1000000000 Z).length≤100000000:=by omega
    have ZS:(dig 1000000000 (b*t)).length≤(dig 1000000000 Z).length:=mono _ _ hbt;have aay:(dig 1000000000 b).length≤100000000:=by omega
    have aco:=hlb d0 (Nat.le_refl _);have abQ:(List.replicate i 0++0::q).take i=List.replicate i 0:=List.take_left' (by simp);have abR:(List.replicate i 0++0::q).drop (i+1)=q:=by rw[List.drop_append,List.drop_of_length_le (by simp)];simp
    have hql:i<(List.replicate i 0++0::q).length:=by simp
    have acG:∀(v:Nat) S R O N G C o Y a8 a9 l,bP .u64 (S::R::O::N::G::C::o::Y::a8::a9::.cells true 1 (iN .u64 (dig 1000000000 v))::l) (.slice 10 0 (dig 1000000000 v).length none)=some (dig 1000000000 v):=fun v S R O N G C o Y a8 a9 l=>bz rfl (by simp) (List.take_of_length_le (by simp))
    have acH:∀(v:Nat) S R O N G C o Y a8 a9 a10 l,bP .u64 (S::R::O::N::G::C::o::Y::a8::a9::a10::.cells true 1 (iN .u64 (dig 1000000000 v))::l) (.slice 11 0 (dig 1000000000 v).length none)=some (dig 1000000000 v):=fun v S R O N G C o Y a8 a9 a10 l=>bz rfl (by simp) (List.take_of_length_le (by simp))
    rw[←ht];rw[hmm] at hDD;rw[hLL] at hDD;subst W;rcases Nat.lt_or_ge t d0 with htlt | htge
    ·obtain⟨F,hF⟩:=CJ (K:=K) A B a.length a (List.replicate i 0++0::q) Yc (x::dig 1000000000 r) b Z d0 t ht aaF (by simpa using abi) XN htlt adq adr hlb ab3 hb.1 hb.2.2
     simp only[fj,cB] at hF;subst Yv;rcases hDD with⟨I,rfl⟩ | ⟨I,l,h2,h3'⟩
     ·have J:¬(dig 1000000000 b).length<(dig 1000000000 Z).length:=by omega
      clear I;simp[dD,bS,bN,bB,h0,h3,h4,YK,XX,hI,FS,hs9,abj,hs5,U,lo,lt,lv,hc,w1,abh,H,t2,htk,g1,g2,J,hc1,wp1,abP,wD,aaw,Zp,aax,ZS,aay,abk,hF,acH,hbt,YQ,iu,ra,abQ,abR,Nat.testBit];rw[dU,cB]
     ·have J:(dig 1000000000 b).length<(dig 1000000000 Z).length:=by omega
      obtain⟨p2,hp2⟩:=xE (m-1);rw[←hmm,←hp2] at h2;have Z0:=aab _ _ h2;have ads:=ga (lo Z) h2;have wp2:IntKind.i64.wrap (((dig 1000000000 Z).length:Int)-2)=(p2:Int):=by rw[af];omega
      have wl1:IntKind.u64.wrap ((D1:Int)*1000000000)=(D1:Int)*1000000000:=cf (by omega) (by omega);have wl2:IntKind.u64.wrap ((D1:Int)*1000000000+(l:Int))=(D:Int):=by rw[cf (by omega) (by omega)];omega
      have aa8:(p2:Int)<((dig 1000000000 Z).length:Int):=by omega
      clear I;simp[dD,bS,bN,bB,h0,h3,h4,YK,XX,hI,FS,hs9,abj,hs5,U,lo,lt,lv,hc,w1,abh,H,t2,htk,g1,g2,J,Z0,wp2,aa8,wl1,wl2,hc1,wp1,abP,wD,aaw,Zp,aax,ZS,aay,abk,hF,acH,hbt,YQ,iu,ra,abQ,abR,Nat.testBit];rw[dU,cB]
    ·have adt:t=d0:=by omega
     rw[←adt] at aco abk Zp;obtain⟨F,hF⟩:=Az (K:=K) A B a.length a (List.replicate i 0++0::q) Yc (x::dig 1000000000 r) b Z t hbt aaF (by simpa using abi) hK0 (by omega) hb.1 hb.2.2;simp only[fj,cB] at hF;subst Yv;rcases hDD with⟨I,rfl⟩ | ⟨I,l,h2,h3'⟩
     ·have J:¬(dig 1000000000 b).length<(dig 1000000000 Z).length:=by omega
      clear I;simp[dD,bS,bN,bB,h0,h3,h4,YK,XX,hI,FS,hs9,abj,hs5,U,lo,lt,lv,hc,w1,abh,H,t2,htk,g1,g2,J,hc1,wp1,abP,wD,aaw,Zp,aax,ZS,aay,abk,hF,acG,hbt,YQ,iu,ra,abQ,abR,Nat.testBit];rw[dU,cB]
     ·have J:(dig 1000000000 b).length<(dig 1000000000 Z).length:=by omega
      obtain⟨p2,hp2⟩:=xE (m-1);rw[←hmm,←hp2] at h2;have Z0:=aab _ _ h2;have ads:=ga (lo Z) h2;have wp2:IntKind.i64.wrap (((dig 1000000000 Z).length:Int)-2)=(p2:Int):=by rw[af];omega
      have wl1:IntKind.u64.wrap ((D1:Int)*1000000000)=(D1:Int)*1000000000:=cf (by omega) (by omega);have wl2:IntKind.u64.wrap ((D1:Int)*1000000000+(l:Int))=(D:Int):=by rw[cf (by omega) (by omega)];omega
      have aa8:(p2:Int)<((dig 1000000000 Z).length:Int):=by omega
      clear I;simp[dD,bS,bN,bB,h0,h3,h4,YK,XX,hI,FS,hs9,abj,hs5,U,lo,lt,lv,hc,w1,abh,H,t2,htk,g1,g2,J,Z0,wp2,aa8,wl1,wl2,hc1,wp1,abP,wD,aaw,Zp,aax,ZS,aay,abk,hF,acG,hbt,YQ,iu,ra,abQ,abR,Nat.testBit];rw[dU,cB]
theorem EL(A B:List Nat)(H:Nat)(hA:lok 1000000000 A=true)(hB:lok 1000000000 B=true)(hl:A.length≤1000000)(tA:bD A=A)(tB:bD B=B)(hm:2≤B.length)(Zn:B[B.length-1]? =some H)(XY:aF 1000000000 B≤aF 1000000000 A):
  ∃q,bD q=dig 1000000000 (aF 1000000000 A / aF 1000000000 B)∧aa (aV prog) fC (aT prog) dD 2000000001 223 [.slice 0 0 A.length none,.slice 1 0 B.length none] [.cells false 1 (iN .u64 A),.cells false 1 (iN .u64 B)]=
   some (if aF 1000000000 A%aF 1000000000 B=0 then⟨.tuple [.slice 2 0 (bD q).length none,.qF],none,[.cells true 1 (iN .u64 q)]⟩ else
    ⟨.tuple [.slice 2 0 (bD q).length none,.slice 3 0 (dig 1000000000 (aF 1000000000 A%aF 1000000000 B)).length none],none,[.cells true 1 (iN .u64 q),.cells true 1 (iN .u64 (dig 1000000000 (aF 1000000000 A%aF 1000000000 B)))]⟩):=by
 obtain⟨b1,c,hb⟩:∃b1 c,ah f223=[b1,c]∧fC b1=[11,5]∧fC c=[13,12]:=⟨_,_,rfl,by decide,by decide⟩
 have dA:=zW (B:=1000000000) (by omega) hA tA;have I:=zW (B:=1000000000) (by omega) hB tB;obtain⟨av,S⟩:=xE (aF 1000000000 A);obtain⟨X,j⟩:=xE (aF 1000000000 B);rw[←S] at dA XY ⊢;rw[←j] at I XY ⊢;have htb:=ga hB Zn;obtain⟨f,hf⟩:=xE (1000000000 / (H+1));have Yk:1≤f:=by rw[hf,Nat.le_div_iff_mul_le (by omega)];omega
 have aeb:1000000000≤X:=by have h:=sE (B:=1000000000) (by omega) X (by rintro rfl;rw[eF] at I;rw[←I] at hm;simp at hm);rw[I] at h;have:1000000000 ^ 1≤1000000000 ^ (B.length-1):=Nat.pow_le_pow_right (by omega) (by omega);omega
 have htp:0<H:=by
  rcases Nat.eq_zero_or_pos H with h | h
  ·have h2:bD B=bD (B.take (B.length-1)):=by
    have FS:B.length-1<B.length:=by omega
    have ht:=(List.getElem?_eq_some_iff.1 Zn).2;conv=>lhs;rw[←List.take_append_drop (B.length-1) B,List.drop_eq_getElem_cons FS,ht,List.drop_of_length_le (by omega),h]
    exact iO _
   have h3:=dw (B.take (B.length-1));rw[←h2,tB,List.length_take] at h3;omega
  ·exact h
 have Y:f<1000000000:=by rw[hf,Nat.div_lt_iff_lt_mul (by omega)];omega
 have mono:∀u v,u≤v→(dig 1000000000 u).length≤(dig 1000000000 v).length:=fun u v h=>by
  rcases Nat.lt_or_ge (dig 1000000000 v).length (dig 1000000000 u).length with h' | h'
  ·have:=ez (B:=1000000000) (by omega) h';omega
  ·exact h'
 have hmB:2≤(dig 1000000000 (X*f)).length:=by have:=mono X (X*f) (Nat.le_mul_of_pos_right X Yk);rw[I] at this;omega
 have hmA:(dig 1000000000 (X*f)).length≤(dig 1000000000 (av*f)).length:=mono _ _ (Nat.mul_le_mul_right _ XY);have hlA:(dig 1000000000 (av*f)).length≤A.length+1:=by
  have h1:av*f<1000000000 ^ (A.length+1):=by have h2:=iy hA;rw[←S] at h2;rw[Nat.pow_succ];exact Nat.mul_lt_mul_of_lt_of_lt h2 Y
  exact fL (by omega) h1
 obtain⟨top,R,_⟩:=dW (l:=dig 1000000000 (X*f)) (i:=(dig 1000000000 (X*f)).length-1) (by omega);obtain⟨F,hF⟩:=CL (K:=2000000001) A B (dig 1000000000 (av*f)) (X*f) top (cR (by omega) _) (by omega) hmB hmA R (by omega) hb;obtain⟨a,W⟩:=xE (dig 1000000000 (av*f));obtain⟨Z,V⟩:=xE (X*f);rw[←W,←V] at hF hmA;rw[←V] at R hmB;rw[←W] at hlA;have acI:0<Z:=by rw[V];exact Nat.mul_pos (by omega) (by omega)
 obtain⟨i1,i2,i3,i4⟩:=sn (B:=1000000000) acI a (by rw[W];exact cR (by omega) _);have hva:aF 1000000000 a=av*f:=by rw[W];exact ct (by omega) _
 rw[hva] at i2;obtain⟨q,hq⟩:=xE ((gR 1000000000 Z a).1);obtain⟨U,O⟩:=xE ((gR 1000000000 Z a).2);rw[←hq,←O] at i2;rw[←hq] at i3 i4;rw[←O] at i1;have hqv:aF 1000000000 q=av / X:=by
  have h1:(av*f) / Z=aF 1000000000 q:=by rw[←i2,Nat.mul_comm,Nat.mul_add_div acI,Nat.div_eq_of_lt i1,Nat.add_zero]
  rw[←h1,V,Nat.mul_div_mul_right _ _ (by omega)]
 have hrv:U=(av%X)*f:=by
  have h1:(av*f)%Z=U:=by rw[←i2,Nat.mul_comm,Nat.mul_add_mod,Nat.mod_eq_of_lt i1]
  rw[←h1,V,Nat.mul_mod_mul_right]
 have hrf:U / f=av%X:=by rw[hrv,Nat.mul_div_cancel _ (by omega)]
 refine⟨q,by rw[←fM (by omega) i3,hqv],?_⟩;have XW:¬0=a.length:=by omega
 obtain⟨rt1,rt2⟩:=Cb (b:=Z) (l:=a) (by rw[W];exact cR (by omega) _);obtain⟨row,Y0⟩:=xE (wj Z a);rw[←Y0,←O] at rt1 rt2;have hH0:ir A B a Z 0=[.cells false 1 (iN .u64 A),.cells false 1 (iN .u64 B),.cells true 0 [.slice 5 0 (dig 1000000000 Z).length none],.cells true 0 [.slice 6 0 a.length none],.cells true 1 (iN .u64 a),.cells true 1 (iN .u64 (dig 1000000000 Z)),.cells true 1 (iN .u64 q),.cells true 1 (iN .u64 row)]:=by unfold ir;rw[if_neg XW,List.drop_zero,←hq,←Y0];rfl
 have hHn:ir A B a Z a.length=[.cells false 1 (iN .u64 A),.cells false 1 (iN .u64 B),.cells true 0 [.slice 5 0 (dig 1000000000 Z).length none],.cells true 0 [.slice 6 0 a.length none],.cells true 1 (iN .u64 a),.cells true 1 (iN .u64 (dig 1000000000 Z)),.cells true 1 (iN .u64 (List.replicate a.length 0))]:=by unfold ir;rw[if_pos rfl,List.drop_length];simp[gR]
 have hR0:xC a Z 0=.slice 7 0 (dig 1000000000 U).length none:=by unfold xC;rw[if_neg XW,List.drop_zero,←O]
 rw[hH0,hHn,hR0] at hF;obtain⟨N,_⟩:=hb;simp[ah,aG,f223] at N;obtain⟨N,_⟩:=N;subst N;have lo:∀v,lok 1000000000 (dig 1000000000 v)=true:=fun v=>cR (by omega) v
 have lt:∀v,bD (dig 1000000000 v)=dig 1000000000 v:=fun v=>dv (by omega) v
 have lv:∀v,aF 1000000000 (dig 1000000000 v)=v:=fun v=>ct (by omega) v
 have hs0:∀l,bP .u64 (.cells false 1 (iN .u64 A)::l) (.slice 0 0 A.length none)=some A:=fun l=>bz rfl (by simp) (List.take_of_length_le (by simp))
 have hs1:∀x l,bP .u64 (x::.cells false 1 (iN .u64 B)::l) (.slice 1 0 B.length none)=some B:=fun x l=>bz rfl (by simp) (List.take_of_length_le (by simp))
 have hs6:∀L G D C o m l,bP .u64 (L::G::D::C::o::m::.cells true 1 (iN .u64 q)::l) (.slice 6 0 a.length none)=some q:=fun L G D C o m l=>bz rfl (by simp[i4]) (List.take_of_length_le (by simp[i4]))
 have hs7:∀L G D C o m a6 l,bP .u64 (L::G::D::C::o::m::a6::.cells true 1 (iN .u64 row)::l) (.slice 7 0 (dig 1000000000 U).length none)=some (dig 1000000000 U):=fun L G D C o m a6 l=>bz rfl (by simpa using rt2) (by rw[iu,rt1])
 have hs8:∀L G D C o m a6 a7 l,bP .u64 (L::G::D::C::o::m::a6::a7::.cells true 1 [.int .u64 (f:Int)]::l) (.slice 8 0 1 none)=some [f]:=fun L G D C o m a6 a7 l=>bz (A:=[f]) rfl (by simp) rfl
 have hc:¬jG av X<0:=by unfold jG;rw[if_neg (by omega)];split<;>omega
 obtain⟨p,hp⟩:=xE (B.length-1);rw[←hp] at Zn;have hpB:p<B.length:=by omega
 have abA :B[p]=H:=(List.getElem?_eq_some_iff.1 Zn).2;obtain⟨p2,hp2⟩:=xE ((dig 1000000000 Z).length-1);rw[←hp2] at R;have acJ:p2<(dig 1000000000 Z).length:=by omega
 have aaG :(dig 1000000000 Z)[p2]=top:=(List.getElem?_eq_some_iff.1 R).2;have hlB:B.length≤A.length:=by rw[←dA,←I];exact mono _ _ XY
 have wp:IntKind.i64.wrap ((B.length:Int)-1)=(p:Int):=by rw[af];omega
 have wp2:IntKind.i64.wrap (((dig 1000000000 Z).length:Int)-1)=(p2:Int):=by rw[af];omega
 have YJ:(dig 1000000000 Z).length≤1000001:=by omega
 have wan:IntKind.i64.wrap ((a.length:Int)-1)=(a.length:Int)-1:=af;have hpI:(p:Int)<(B.length:Int):=by omega
 have aa8:(p2:Int)<((dig 1000000000 Z).length:Int):=by omega
 obtain⟨t1,ht1⟩:=xE (α:=Nat) (H+1);have wt:IntKind.u64.wrap ((H:Int)+1)=(t1:Int):=by rw[cf (by omega) (by omega)];omega
 rw[←ht1] at hf;have acK:¬t1=0:=by omega
 have wf0:IntKind.u64.wrap (f:Int)=(f:Int):=cf (by omega) (by omega);have wf:IntKind.u64.wrap ((1000000000:Int) / (t1:Int))=(f:Int):=by rw[show((1000000000:Int) / (t1:Int))=((1000000000 / t1:Nat):Int) from rfl,←hf];exact wf0
 have wf' :IntKind.u64.wrap ((1000000000:Int).tdiv (t1:Int))=(f:Int):=by rw[show((1000000000:Int).tdiv (t1:Int))=((1000000000 / t1:Nat):Int) from rfl,←hf];exact wf0
 have hB1:¬(B.length:Int)=1:=by omega
 have hfI:(f:Int)<1000000000:=by omega
 have hl8:A.length≤100000000:=by omega
 have hl9:A.length≤1000000000:=by omega
 have acL:B.length≤100000000:=by omega
 have hq9:q.length≤1000000000:=by omega
 have h8:8*(a.length:Int)≤281474976710656:=by omega
 have h9:(a.length:Int)≤281474976710656:=by omega
 have acM:(dig 1000000000 U).length≤100000000:=by have:(dig 1000000000 U).length≤(dig 1000000000 Z).length:=mono _ _ (by omega);omega
 have hf0:0<f:=Yk;by_cases hz:av%X=0
 ·have aec:U=0:=by rw[hrv,hz,Nat.zero_mul]
  have J:U<f:=by omega
  rw[if_pos hz];simp[aa,afR,f223,dD,bS,bN,bB,hs0,hs1,hs6,hs7,hs8,hA,hB,←S,←j,←W,←V,tA,tB,hc,lo,lt,lv,wp,wp2,wan,hpI,aa8,abA,aaG,hpB,acJ,wt,acK,wf',hB1,hfI,hl8,hl9,acL,hq9,h8,h9,hF,acM,hf0,Y,J,vJ,Nat.testBit]
 ·have J:¬U<f:=by have:f≤av%X*f:=Nat.le_mul_of_pos_left f (by omega);omega
  rw[if_neg hz];simp[aa,afR,f223,dD,bS,bN,bB,hs0,hs1,hs6,hs7,hs8,hA,hB,←S,←j,←W,←V,tA,tB,hc,lo,lt,lv,wp,wp2,wan,hpI,aa8,abA,aaG,hpB,acJ,wt,acK,wf',hB1,hfI,hl8,hl9,acL,hq9,h8,h9,hF,acM,hf0,Y,J,hrf,vJ,Nat.testBit];exact⟨rfl,rfl⟩
theorem OF{B:List Nat}(J:lok 1000000000 A=true)(W:lok 1000000000 B=true)(Y:A.length≤1000000)(tA:bD A=A)(tB:bD B=B)(hm:2≤B.length)(XY:aF 1000000000 B≤aF 1000000000 A)(H:aev .u64 M x A)(I:aev .u64 M y B):
  if aF 1000000000 A%aF 1000000000 B=0 then kO prog 223 [x,y] M (.tuple [.slice M.length 0 (dig 1000000000 (aF 1000000000 A / aF 1000000000 B)).length none,.qF]) (M++[.cells true 1 (iN .u64 (dig 1000000000 (aF 1000000000 A / aF 1000000000 B)))])
  else kO prog 223 [x,y] M (.tuple [.slice M.length 0 (dig 1000000000 (aF 1000000000 A / aF 1000000000 B)).length none,.slice (M.length+1) 0 (dig 1000000000 (aF 1000000000 A%aF 1000000000 B)).length none])
   (M++[.cells true 1 (iN .u64 (dig 1000000000 (aF 1000000000 A / aF 1000000000 B))),.cells true 1 (iN .u64 (dig 1000000000 (aF 1000000000 A%aF 1000000000 B)))]):=by
 obtain⟨X,R,_⟩:=dW (l:=B) (i:=B.length-1) (by omega);obtain⟨q,S,h⟩:=EL A B X J W Y tA tB hm R XY;have:=(aq ai (aO _) Hd (aR _) h).1;split
 ·rename_i V
  rw[if_pos V] at this;simp only[aee.mem,Option.getD_none,List.cons_append,List.nil_append] at this;have U:=kO.afs (m2:=[.cells false 1 (iN .u64 A),.cells false 1 (iN .u64 B),.cells true 1 (iN .u64 (bD q))]) this rfl (fun b s Z=>by
   match b with
   |0=>simp at Z;subst Z;exact⟨_,rfl,.inl rfl⟩
   |1=>simp at Z;subst Z;exact⟨_,rfl,.inl rfl⟩
   |2=>simp at Z;subst Z;exact⟨_,rfl,.row (eU _)⟩
   |b+3=>simp at Z)
  obtain⟨b,c,rfl,rfl,h3⟩:=kO.afn (new:=[.cells true 1 (iN .u64 (bD q))]) rfl U H I;rw[S] at h3;simpa [AV.ren,AV.aez,fq] using h3
 ·rename_i V
  rw[if_neg V] at this;simp only[aee.mem,Option.getD_none,List.cons_append,List.nil_append] at this;have U:=kO.afs (m2:=[.cells false 1 (iN .u64 A),.cells false 1 (iN .u64 B),.cells true 1 (iN .u64 (bD q)),.cells true 1 (iN .u64 (dig 1000000000 (aF 1000000000 A%aF 1000000000 B)))]) this rfl (fun b s Z=>by
   match b with
   |0=>simp at Z;subst Z;exact⟨_,rfl,.inl rfl⟩
   |1=>simp at Z;subst Z;exact⟨_,rfl,.inl rfl⟩
   |2=>simp at Z;subst Z;exact⟨_,rfl,.row (eU _)⟩
   |3=>simp at Z;subst Z;exact⟨_,rfl,.inl rfl⟩
   |b+4=>simp at Z)
  obtain⟨b,c,rfl,rfl,h3⟩:=kO.afn (new:=[.cells true 1 (iN .u64 (bD q)),.cells true 1 (iN .u64 (dig 1000000000 (aF 1000000000 A%aF 1000000000 B)))]) rfl U H I;rw[S] at h3;simpa [AV.ren,AV.aez,fq] using h3
noncomputable def bQ:y9:=fun c Z M=>match c,Z with
 |.fn 223,[x,y]=>match bP .u64 M x,bP .u64 M y with
  |some A,some B=>if lok 1000000000 A=true∧lok 1000000000 B=true∧A.length≤1000000∧bD A=A∧bD B=B∧0<aF 1000000000 B then
    (if aF 1000000000 A<aF 1000000000 B then some ⟨.tuple [.qF,x],none,[]⟩
    else if 2≤B.length∧aF 1000000000 A%aF 1000000000 B=0 then some ⟨.tuple [.slice M.length 0 (dig 1000000000 (aF 1000000000 A / aF 1000000000 B)).length none,.qF],none,[.cells true 1 (iN .u64 (dig 1000000000 (aF 1000000000 A / aF 1000000000 B)))]⟩
    else some ⟨.tuple [.slice M.length 0 (dig 1000000000 (aF 1000000000 A / aF 1000000000 B)).length none,.slice (M.length+1) 0 (dig 1000000000 (aF 1000000000 A%aF 1000000000 B)).length none],none,[.cells true 1 (iN .u64 (dig 1000000000 (aF 1000000000 A / aF 1000000000 B))),.cells true 1 (iN .u64 (dig 1000000000 (aF 1000000000 A%aF 1000000000 B)))]⟩) else none
  |_,_=>none
 |c,Z=>bS c Z M
theorem He:qS prog bQ:=by
 refine cq fun c G M r h=>?_
 unfold bQ at h;split at h
 ·split at h
  ·rename_i A B V U
   split at h
   ·rename_i D
    obtain⟨S,R,C,O,F,X⟩:=D;split at h
    ·rename_i N
     cases h;refine aC ?_;rw[List.append_nil];exact uN S R (by omega) O F N (bU V) (bU U)
    ·rename_i N
     by_cases Z:2≤B.length
     ·have:=OF S R C O F Z (by omega) (bU V) (bU U)
      split at h
      ·rename_i L
       rw[if_pos L.2] at this;cases h;exact aC this
      ·rename_i L
       rw[if_neg (fun e=>L ⟨Z,e⟩)] at this;cases h;exact aC this
     ·rw[if_neg (fun e=>Z e.1)] at h
      obtain⟨d,rfl⟩:∃d,B=[d]:=by
       match B,Z,X with
       | [],_,X=>simp[aF] at X
       | [d],_,_=>exact⟨d,rfl⟩
       |_::_::_,Z,_=>simp at Z
      have u:aF 1000000000 [d]=d:=by simp[aF]
      rw[u] at X N h;have o:d<1000000000:=by simpa [lok] using R
      cases h;exact aC (Ds X o S (by omega) O (by omega) (bU V) (bU U))
   ·cases h
  ·cases h
 ·exact eW qf h
end Go.Proofs
