/- See C54. -/
import Derived.Test.YtffdedmakncfmaaGreatDoorC10
set_option linter.all false
set_option maxRecDepth 100000
set_option maxHeartbeats 40000000
namespace Go.Proofs
open Go.Eng
open Tryz
noncomputable def bX:afF:=fun c Z M=>match c,Z with
 |.fn 201,[x,y]=>match aZ .u64 M x,aZ .u64 M y with
  |some A,some B=>if lok 1000000000 A=true∧lok 1000000000 B=true∧A.length≤100000000∧B.length≤100000000 then some ⟨.slice M.length 0 (dig 1000000000 (au 1000000000 A+au 1000000000 B)).length none,none,[.cells true 1 (iN .u64 (dig 1000000000 (au 1000000000 A+au 1000000000 B)))]⟩ else none
  |_,_=>none
 |.fn 203,[x,y]=>match aZ .u64 M x,aZ .u64 M y with
  |some A,some B=>if lok 1000000000 A=true∧lok 1000000000 B=true∧A.length≤100000000∧B.length≤A.length∧au 1000000000 B≤au 1000000000 A then some ⟨.slice M.length 0 (dig 1000000000 (au 1000000000 A-au 1000000000 B)).length none,none,[.cells true 1 (iN .u64 (dig 1000000000 (au 1000000000 A-au 1000000000 B)))]⟩ else none
  |_,_=>none
 |.fn 141,[x,y]=>match aZ .u64 M x,aZ .u64 M y with
  |some A,some B=>if lok 1000000000 A=true∧lok 1000000000 B=true∧A.length≤100000000∧B.length≤100000000 then some ⟨.slice M.length 0 (dig 1000000000 (au 1000000000 A*au 1000000000 B)).length none,none,[.cells true 1 (iN .u64 (dig 1000000000 (au 1000000000 A*au 1000000000 B)))]⟩ else none
  |_,_=>none
 |.fn 208,[x]=>match x with
  |.slice b 0 n none=>if b<M.length then some ⟨.func 245 [.ptr M.length 0],none,[.cells true 0 [.slice b 0 n none]]⟩ else none
  |_=>none
 |.fn 206,[x]=>bH (.fn 206) [x] M
 |.fn 202,[x,y]=>bH (.fn 202) [x,y] M
 |_,_=>none
theorem rB:qS prog bX:=by
 refine cf fun c N M r h=>?_
 unfold bX at h;split at h
 ·split at h
  ·rename_i Z X
   split at h
   ·rename_i V
    obtain⟨U,S,R,Q⟩:=V;cases h;exact aC (NB U S R Q (ba Z) (ba X))
   ·cases h
  ·cases h
 ·split at h
  ·rename_i Z X
   split at h
   ·rename_i V
    obtain⟨U,S,R,Q,L⟩:=V;cases h;exact aC (Ir U S R Q L (ba Z) (ba X))
   ·cases h
  ·cases h
 ·split at h
  ·rename_i Z X
   split at h
   ·rename_i V
    obtain⟨U,S,R,Q⟩:=V;cases h;exact aC (IK U S R Q (ba Z) (ba X))
   ·cases h
  ·cases h
 ·split at h
  ·split at h
   ·rename_i F
    cases h;refine ar (T:=bh prog) (lv:=fun _=>[]) (G:=aS prog) (O:=cF) (K:=1) aj (aK _) (aw _) (aR _) ?_;exact BD _ _ M F
   ·cases h
  ·cases h
 ·exact dN jh h
 ·exact dN jh h
 ·cases h
theorem ahs:aS prog 157=some f157:=by kernel_rfl
theorem GA(A:List Nat)(d:Nat)(y:0<d)(hd:d<1000000000)(I:lok 1000000000 A=true)(hl:A.length≤100000000)(tA:aU A=A)(H:d≤au 1000000000 A):
  ∃O:afF,qS prog O∧aa (bh prog) (fun _=>[]) (aS prog) (bX.or O) 1 157 [.slice 0 0 A.length none,.slice 1 0 1 none] [.cells false 1 (iN .u64 A),.cells false 1 [.int .u64 (d:Int)]]=
   some ⟨.tuple [.slice 2 0 (aU (fZ 1000000000 d A).1).length none,.slice 3 0 (aU [(fZ 1000000000 d A).2]).length none],some [.cells false 1 (iN .u64 A),.cells false 1 [.int .u64 (d:Int)]],[.cells true 1 (iN .u64 (fZ 1000000000 d A).1),.cells true 1 [.int .u64 (((fZ 1000000000 d A).2:Nat):Int)]]⟩:=by
 obtain⟨V,U,Z,C⟩:∃V U Z,ej f157=[(V,U,Z)]:=⟨_,_,_,rfl⟩
 have S:0<A.length:=by
  rcases Nat.eq_zero_or_pos A.length with h | h
  ·rw[List.eq_nil_of_length_eq_zero h] at H;simp[au] at H;omega
  ·exact h
 obtain⟨O,hO,R⟩:=Ep A d y hd I (by omega) S C;refine⟨O,hO,?_⟩;obtain⟨i1,i2,i3,D⟩:=CT y hd A I;have Q:∀X,l9 A d V U Z X 0=[.cells false 1 (iN .u64 A),.cells false 1 [.int .u64 (d:Int)],.cells true 0 [.slice 1 0 1 none],.cells true 0 [.slice 4 0 A.length none],
  .cells true 1 (iN .u64 (fZ 1000000000 d A).1),.cells true 0 [.int .u64 (((fZ 1000000000 d A).2:Nat):Int)],.cells true 0 [.slice 0 0 A.length none],.loop ⟨.ready,none,X,146,V,U,Z⟩]:=fun X=>rfl
 have N:∀X,l9 A d V U Z X A.length=[.cells false 1 (iN .u64 A),.cells false 1 [.int .u64 (d:Int)],.cells true 0 [.slice 1 0 1 none],.cells true 0 [.slice 4 0 A.length none],
  .cells true 1 (iN .u64 (List.replicate A.length 0)),.cells true 0 [.int .u64 0],.cells true 0 [.slice 0 0 A.length none],.loop ⟨.ready,none,X,146,V,U,Z⟩]:=fun X=>by
  unfold l9;rw[List.drop_length];simp[fZ]
 have M:∀X,(ad X 3=.ptr 2 0∧ad X 4=.ptr 3 0∧ad X 6=.ptr 5 0∧X.flatMap (fun e=>e.2.refs 8)=[])→
   O (.fn 245) [.yield 7,.ptr 6 0] [.cells false 1 (iN .u64 A),.cells false 1 [.int .u64 (d:Int)],.cells true 0 [.slice 1 0 1 none],.cells true 0 [.slice 4 0 A.length none],
  .cells true 1 (iN .u64 (List.replicate A.length 0)),.cells true 0 [.int .u64 0],.cells true 0 [.slice 0 0 A.length none],.loop ⟨.ready,none,X,146,V,U,Z⟩]=some ⟨.tuple [],some [.cells false 1 (iN .u64 A),.cells false 1 [.int .u64 (d:Int)],.cells true 0 [.slice 1 0 1 none],.cells true 0 [.slice 4 0 A.length none],
  .cells true 1 (iN .u64 (fZ 1000000000 d A).1),.cells true 0 [.int .u64 (((fZ 1000000000 d A).2:Nat):Int)],.cells true 0 [.slice 0 0 A.length none],.loop ⟨.ready,none,X,146,V,U,Z⟩],[]⟩:=fun X h=>by
  have:=R X h
  rwa [N,Q] at this
 clear R Q N;obtain⟨q,W⟩:=xE ((fZ 1000000000 d A).1);obtain⟨r,hr⟩:=xE ((fZ 1000000000 d A).2);rw[←W,←hr] at M ⊢;rw[←W] at i3 D;simp[ej,fW,f157] at C;obtain⟨rfl,rfl,rfl⟩:=C;have hs0:∀l,aZ .u64 (.cells false 1 (iN .u64 A)::l) (.slice 0 0 A.length none)=some A:=fun l=>aP rfl (by simp) (List.take_of_length_le (by simp))
 have hs1:∀l,aZ .u64 (.cells false 1 (iN .u64 A)::.cells false 1 [.int .u64 (d:Int)]::l) (.slice 1 0 1 none)=some [d]:=fun l=>aP (A:=[d]) rfl (by simp) rfl
 have hs4:∀L K G F l,aZ .u64 (L::K::G::F::.cells true 1 (iN .u64 q)::l) (.slice 4 0 A.length none)=some q:=fun L K G F l=>aP rfl (by simp[D]) (List.take_of_length_le (by simp[D]))
 have B:∀L K G F J a5 a6 a7 l,aZ .u64 (L::K::G::F::J::a5::a6::a7::.cells true 1 [.int .u64 (r:Int)]::l) (.slice 8 0 1 none)=some [r]:=fun L K G F J a5 a6 a7 l=>aP (A:=[r]) rfl (by simp) rfl
 have u:lok 1000000000 [d]=true:=by simp[lok];omega
 have o:aU [d]=[d]:=by simp[aU];omega
 have m:au 1000000000 [d]=d:=by simp[au]
 have j:¬kq (au 1000000000 A) d<0:=by unfold kq;rw[if_neg (by omega)];split<;>omega
 have h8:8*(A.length:Int)≤281474976710656:=by omega
 have h9:(A.length:Int)≤281474976710656:=by omega
 have Y:A.length≤1000000000:=by omega
 simp[aa,ahs,f157,afF.or,bX,bH,hs0,hs1,I,tA,u,o,m,j,h8,h9,Y,sI,vT,M,hs4,B,D,zH,Nat.testBit];exact⟨rfl,rfl⟩
variable{B:Nat}{l:List Nat}
theorem UA(h:lok B l=true):lok B (aU l)=true:=by rw[kM l];exact jC h _
theorem nd(y:2≤B)(h:lok B l=true)(H:aU l=l):dig B (au B l)=l:=by rw[dJ y h,H]
variable{A:List Nat}{d:Nat}
theorem IH(hd:d<1000000000)(y:lok 1000000000 A=true)(H:A.length≤100000000):
  kO prog 220 [.slice 0 0 A.length none,.int .u64 (d:Int)] [.cells false 1 (iN .u64 A)] (.slice 1 0 (dig 1000000000 (au 1000000000 A*d)).length none) [.cells false 1 (iN .u64 A),.cells true 1 (iN .u64 (dig 1000000000 (au 1000000000 A*d)))]:=by
 have S:aS prog 220=some f220:=by kernel_rfl
 have hs0:∀l,aZ .u64 (.cells false 1 (iN .u64 A)::l) (.slice 0 0 A.length none)=some A:=fun l=>aP rfl (by simp) (List.take_of_length_le (by simp))
 have hs1:∀Z l,aZ .u64 (Z::.cells true 1 [.int .u64 (d:Int)]::l) (.slice 1 0 1 none)=some [d]:=fun Z l=>aP (A:=[d]) rfl (by simp) rfl
 have hs2:∀Z l,aZ .u64 (Z::.cells true 1 [.int .u64 (d:Int)]::l) (.slice 1 0 (aU [d]).length none)=some (aU [d]):=fun Z l=>aP rfl (by have:=cS [d];simpa using this) (by have:([.int .u64 (d:Int)]:List AV)=iN .u64 [d]:=rfl;rw[this,iA,lh])
 have X:lok 1000000000 (aU [d])=true:=UA (by simp[lok];omega);have V:au 1000000000 (aU [d])=d:=by rw[FF];simp[au]
 have U:(aU [d]).length≤100000000:=by have:=cS [d];simp at this;omega
 have h:aa (bh prog) (fun _=>[]) (aS prog) bX 1 220 [.slice 0 0 A.length none,.int .u64 (d:Int)] [.cells false 1 (iN .u64 A)]=some ⟨.slice 1 0 (dig 1000000000 (au 1000000000 A*d)).length none,none,[.cells true 1 (iN .u64 (dig 1000000000 (au 1000000000 A*d)))]⟩:=by simp[aa,S,f220,bX,bH,hs0,hs1,hs2,y,H,X,V,U]
 have:=(ar aj (aK _) rB (aR _) h).1;simpa [y9.mem] using this
variable{M:Mem}{x:AV}
theorem IG(hd:d<1000000000)(y:lok 1000000000 A=true)(H:A.length≤100000000)(I:af0 .u64 M x A):
  kO prog 220 [x,.int .u64 (d:Int)] M (.slice M.length 0 (dig 1000000000 (au 1000000000 A*d)).length none) (M++[.cells true 1 (iN .u64 (dig 1000000000 (au 1000000000 A*d)))]):=by
 obtain⟨b,rfl,h⟩:=kO.ahp (new:=[.cells true 1 (iN .u64 (dig 1000000000 (au 1000000000 A*d)))]) (rest:=[.int .u64 (d:Int)]) rfl rfl (IH hd y H) I;simpa [AV.ren,fj] using h
noncomputable def cg:afF:=fun c Z M=>match c,Z with
 |.fn 220,[x,.int .u64 d]=>match aZ .u64 M x with
  |some A=>if lok 1000000000 A=true∧A.length≤100000000∧0≤d∧d<1000000000 then some ⟨.slice M.length 0 (dig 1000000000 (au 1000000000 A*d.toNat)).length none,none,[.cells true 1 (iN .u64 (dig 1000000000 (au 1000000000 A*d.toNat)))]⟩ else none
  |_=>none
 |c,Z=>bX c Z M
theorem rC:qS prog cg:=by
 refine cf fun c Z M r h=>?_
 unfold cg at h;split at h
 ·split at h
  ·rename_i V
   split at h
   ·rename_i U
    obtain⟨S,R,X,Q⟩:=U;cases h;have O:=(Int.toNat_lt X).2 Q;have:=IG O S R (ba V);rw[Int.toNat_of_nonneg X] at this;exact aC this
   ·cases h
  ·cases h
 ·exact dN rB h
def fN(c:Code):List Nat:=if (ae c).contains 11 then [11,5] else [13,12]
theorem jm{B d:Nat}(hd:0<d):∀l:List Nat,lok B l=true→(fZ B d l).2<d∧au B (fZ B d l).1*d+(fZ B d l).2=au B l∧lok B (fZ B d l).1=true∧(fZ B d l).1.length=l.length
 | [],_=>by simp[fZ,au,lok,hd]
 |x::l,h=>by
  rw[cL,Bool.and_eq_true,decide_eq_true_eq] at h;obtain⟨X,V,U,S⟩:=jm hd l h.2;simp only[fZ];have Z:=Nat.mod_add_div ((fZ B d l).2*B+x) d;refine⟨Nat.mod_lt _ hd,?_,?_,by simp[S]⟩
  ·rw[au,au,←V,Nat.add_mul,Nat.mul_add]
   rw[Nat.mul_comm d] at Z;rw[Nat.mul_assoc,Nat.mul_comm B (fZ B d l).2];omega
  ·rw[cL,Bool.and_eq_true,decide_eq_true_eq]
   refine⟨?_,U⟩;rw[Nat.div_lt_iff_lt_mul hd];have h3:((fZ B d l).2+1)*B≤d*B:=Nat.mul_le_mul_right _ X;rw[Nat.add_mul] at h3;rw[Nat.mul_comm B d];omega
variable{y:AV}
theorem wK{B:List Nat}(H:lok 1000000000 A=true)(I:lok 1000000000 B=true)(J:A.length≤1000000000)(tA:aU A=A)(W:aU B=B)(Y:au 1000000000 A<au 1000000000 B)(hx:af0 .u64 M x A)(hy:af0 .u64 M y B):
  kO prog 157 [x,y] M (.tuple [.qF,x]) M:=by
 have hs0:∀l,aZ .u64 (.cells false 1 (iN .u64 A)::l) (.slice 0 0 A.length none)=some A:=fun l=>aP rfl (by simp) (List.take_of_length_le (by simp))
 have hs1:∀a l,aZ .u64 (a::.cells false 1 (iN .u64 B)::l) (.slice 1 0 B.length none)=some B:=fun a l=>aP rfl (by simp) (List.take_of_length_le (by simp))
 have Z:kq (au 1000000000 A) (au 1000000000 B)<0:=by unfold kq;rw[if_pos Y];omega
 have h:aa (bh prog) fN (aS prog) cg 1 157 [.slice 0 0 A.length none,.slice 1 0 B.length none] [.cells false 1 (iN .u64 A),.cells false 1 (iN .u64 B)]=some ⟨.tuple [.qF,.slice 0 0 A.length none],none,[]⟩:=by simp[aa,ahs,f157,cg,bX,bH,hs0,hs1,H,I,J,tA,W,Z]
 have:=(ar aj (aK _) rC (aR _) h).1;simp only[y9.mem,Option.getD_none,List.append_nil] at this;obtain⟨b,c,rfl,rfl,h3⟩:=kO.agM (new:=[]) rfl this hx hy;simpa [AV.ren,AV.af9,fj] using h3
theorem Fa(H:0<d)(hd:d<1000000000)(J:lok 1000000000 A=true)(W:A.length≤100000000)(tA:aU A=A)(I:d≤au 1000000000 A)(Y:af0 .u64 M x A)(hy:af0 .u64 M y [d]):
  kO prog 157 [x,y] M (.tuple [.slice M.length 0 (dig 1000000000 (au 1000000000 A / d)).length none,.slice (M.length+1) 0 (dig 1000000000 (au 1000000000 A%d)).length none]) (M++[.cells true 1 (iN .u64 (dig 1000000000 (au 1000000000 A / d))),.cells true 1 (iN .u64 (dig 1000000000 (au 1000000000 A%d)))]):=by
 obtain⟨O,S,h⟩:=GA A d H hd J W tA I;obtain⟨X,V,R,N⟩:=jm H A J;have Q:au 1000000000 (fZ 1000000000 d A).1=au 1000000000 A / d:=by rw[←V,Nat.mul_comm,Nat.mul_add_div H,Nat.div_eq_of_lt X,Nat.add_zero]
 have L:(fZ 1000000000 d A).2=au 1000000000 A%d:=by rw[←V,Nat.mul_comm,Nat.mul_add_mod,Nat.mod_eq_of_lt X]
 have f1:aU (fZ 1000000000 d A).1=dig 1000000000 (au 1000000000 A / d):=by rw[←dJ (by omega) R,Q]
 have f2:aU [(fZ 1000000000 d A).2]=dig 1000000000 (au 1000000000 A%d):=by rw[←dJ (B:=1000000000) (by omega) (by simp[lok];omega)];congr 1
 have:=(ar aj (aK _) (rB.or S) (aR _) h).1;simp only[y9.mem,Option.getD_some,List.cons_append,List.nil_append] at this;have U:=kO.agQ (m2:=[.cells false 1 (iN .u64 A),.cells false 1 (iN .u64 [d]),.cells true 1 (iN .u64 (dig 1000000000 (au 1000000000 A / d))),.cells true 1 (iN .u64 (dig 1000000000 (au 1000000000 A%d)))]) this rfl (fun b s Z=>by
  match b with
  |0=>simp at Z;subst Z;exact⟨_,rfl,.inl rfl⟩
  |1=>simp at Z;subst Z;exact⟨_,rfl,.inl rfl⟩
  |2=>simp at Z;subst Z;exact⟨_,rfl,.row (by rw[←f1];exact dp _)⟩
  |3=>simp at Z;subst Z;exact⟨_,rfl,by have:=ahq.row (k:=.u64) (o:=true) (es:=1) (dp [(fZ 1000000000 d A).2]);rw[f2] at this;exact this⟩
  |b+4=>simp at Z)
 rw[f1,f2] at U;obtain⟨b,c,rfl,rfl,h3⟩:=kO.agM (B:=[d]) (new:=[.cells true 1 (iN .u64 (dig 1000000000 (au 1000000000 A / d))),.cells true 1 (iN .u64 (dig 1000000000 (au 1000000000 A%d)))]) rfl U Y hy;simpa [AV.ren,AV.af9,fj] using h3
noncomputable def dP:afF:=fun c Z M=>match c,Z with
 |.fn 157,[x,y]=>match aZ .u64 M x,aZ .u64 M y with
  |some A,some [d]=>if lok 1000000000 A=true∧A.length≤100000000∧aU A=A∧0<d∧d<1000000000 then
    (if au 1000000000 A<d then some ⟨.tuple [.qF,x],none,[]⟩ else some ⟨.tuple [.slice M.length 0 (dig 1000000000 (au 1000000000 A / d)).length none,.slice (M.length+1) 0 (dig 1000000000 (au 1000000000 A%d)).length none],none,[.cells true 1 (iN .u64 (dig 1000000000 (au 1000000000 A / d))),.cells true 1 (iN .u64 (dig 1000000000 (au 1000000000 A%d)))]⟩) else none
  |_,_=>none
 |c,Z=>cg c Z M
theorem I8:qS prog dP:=by
 refine cf fun c Z M r h=>?_
 unfold dP at h;split at h
 ·split at h
  ·rename_i X V
   split at h
   ·rename_i O
    obtain⟨U,N,S,L,R⟩:=O;split at h
    ·rename_i Q
     cases h;have:=wK U (B:=[_]) (by simp[lok];exact R) (by omega) S (by simp[aU];omega) (by simpa [au] using Q) (ba X) (ba V);refine aC ?_;rw[List.append_nil];exact this
    ·rename_i Q
     cases h;exact aC (Fa L R U N S (by omega) (ba X) (ba V))
   ·cases h
  ·cases h
 ·exact dN rC h
def fv(A B:List Nat)(n m:Nat)(a b q H I:List Nat)(l:Mem):Mem:=
 .cells false 1 (iN .u64 A)::.cells false 1 (iN .u64 B)::.cells true 0 [.slice 5 0 m none]::.cells true 0 [.slice 6 0 n none]::.cells true 1 (iN .u64 a)::.cells true 1 (iN .u64 b)::.cells true 1 (iN .u64 q)::.cells true 1 (iN .u64 H)::.qK::.cells true 1 (iN .u64 I)::l
variable{K:Nat}{b1 c:Code}
theorem Em(A B:List Nat)(n:Nat)(a q H I:List Nat)(b r d0 t:Nat)(ht:t=r / b)(Y:I.take (dig 1000000000 r).length=dig 1000000000 r)(hrl:(dig 1000000000 r).length≤I.length)(S':0<b)(hd0:t<d0)(hdB:d0<1000000000)(hK:d0<K)(hlb:∀d,d≤d0→(dig 1000000000 (b*d)).length≤100000000)(acY:∀d,d≤d0→0<d→(dig 1000000000 b).length≤(dig 1000000000 (b*d)).length)(J:ah f157=[b1,c])(W:fN c=[13,12]):
  ∃F:Env→Bool→Env,∀Z d,(ad Z 3=.ptr 2 0∧ad Z 5=.slice 9 0 (dig 1000000000 r).length none∧ad Z 12=.int .u64 d0∧ad Z 13=.slice 10 0 (dig 1000000000 (b*d0)).length none)→
   aW (bh prog) fN dP K 146 2 true (.loop c) ⟨Z,fv A B n (dig 1000000000 b).length a (dig 1000000000 b) q H I [.cells true 1 (iN .u64 (dig 1000000000 (b*d0)))],d⟩=
    some (.exit 4,⟨F Z d,fv A B n (dig 1000000000 b).length a (dig 1000000000 b) q H I [.cells true 1 (iN .u64 (dig 1000000000 (b*d0))),.cells true 1 (iN .u64 (dig 1000000000 (b*t)))],d⟩)∧
   (ad (F Z d) 13=.slice 11 0 (dig 1000000000 (b*t)).length none∧ad (F Z d) 12=.int .u64 (t:Int)∧(∀x∈[0,3,4,5,9,10,11],ad (F Z d) x=ad Z x)):=by
 refine bj W (fun Z=>ad Z 3=.ptr 2 0∧ad Z 5=.slice 9 0 (dig 1000000000 r).length none∧ad Z 12=.int .u64 d0∧ad Z 13=.slice 10 0 (dig 1000000000 (b*d0)).length none)
  (fun Z D =>ad D 13=.slice 11 0 (dig 1000000000 (b*t)).length none∧ad D 12=.int .u64 (t:Int)∧(∀x∈[0,3,4,5,9,10,11],ad D x=ad Z x)) ?_
 clear W;rintro Z dd ⟨h3,h5,h12,h13⟩;simp[ah,aE,f157] at J;obtain⟨_,J⟩:=J;obtain⟨S,hS⟩:∃S:Nat→XS,(S d0=⟨aA [13,12] (ae c) Z ((13,.slice 10 0 (dig 1000000000 (b*d0)).length none)::(12,.int .u64 (d0:Int))::Z),fv A B n (dig 1000000000 b).length a (dig 1000000000 b) q H I [.cells true 1 (iN .u64 (dig 1000000000 (b*d0)))],dd⟩)∧
   (∀e,e≠d0→S e=⟨aA [13,12] (ae c) Z ((13,.slice 11 0 (dig 1000000000 (b*e)).length none)::(12,.int .u64 (e:Int))::Z),fv A B n (dig 1000000000 b).length a (dig 1000000000 b) q H I [.cells true 1 (iN .u64 (dig 1000000000 (b*d0))),.cells true 1 (iN .u64 (dig 1000000000 (b*e)))],dd⟩):=
  ⟨fun e=>if e=d0 then⟨aA [13,12] (ae c) Z ((13,.slice 10 0 (dig 1000000000 (b*d0)).length none)::(12,.int .u64 (d0:Int))::Z),fv A B n (dig 1000000000 b).length a (dig 1000000000 b) q H I [.cells true 1 (iN .u64 (dig 1000000000 (b*d0)))],dd⟩
   else⟨aA [13,12] (ae c) Z ((13,.slice 11 0 (dig 1000000000 (b*e)).length none)::(12,.int .u64 (e:Int))::Z),fv A B n (dig 1000000000 b).length a (dig 1000000000 b) q H I [.cells true 1 (iN .u64 (dig 1000000000 (b*d0))),.cells true 1 (iN .u64 (dig 1000000000 (b*e)))],dd⟩,by simp,fun e he=>by simp[he]⟩
 have C:(⟨aA [13,12] (ae c) Z Z,fv A B n (dig 1000000000 b).length a (dig 1000000000 b) q H I [.cells true 1 (iN .u64 (dig 1000000000 (b*d0)))],dd⟩:XS)=S d0:=by rw[hS.1];simp[aA,h12,h13]
 rw[C];have G':(fv A B n (dig 1000000000 b).length a (dig 1000000000 b) q H I [.cells true 1 (iN .u64 (dig 1000000000 (b*d0)))]).length=11:=rfl;rw[G'];refine bz (α:=Nat) S (fun e=>e-t) (fun e=>t≤e∧e≤d0) (.exit 4) _ dd _ (by simp) ?_ K d0 ⟨by omega,Nat.le_refl _⟩ (by omega);rintro e ⟨he1,he2⟩;have X:∀l,aZ .u64 (fv A B n (dig 1000000000 b).length a (dig 1000000000 b) q H I l) (.slice 9 0 (dig 1000000000 r).length none)=some (dig 1000000000 r):=fun l=>aP rfl (by simpa using hrl) (by rw[iA,Y])
 have u:∀l,aZ .u64 (fv A B n (dig 1000000000 b).length a (dig 1000000000 b) q H I l) (.slice 5 0 (dig 1000000000 b).length none)=some (dig 1000000000 b):=fun l=>aP rfl (by simp) (List.take_of_length_le (by simp))
 have L:∀l,aZ .u64 (fv A B n (dig 1000000000 b).length a (dig 1000000000 b) q H I (.cells true 1 (iN .u64 (dig 1000000000 (b*d0)))::l)) (.slice 10 0 (dig 1000000000 (b*d0)).length none)=some (dig 1000000000 (b*d0)):=fun l=>aP rfl (by simp) (List.take_of_length_le (by simp))
 have U:∀x l,aZ .u64 (fv A B n (dig 1000000000 b).length a (dig 1000000000 b) q H I (x::.cells true 1 (iN .u64 (dig 1000000000 (b*e)))::l)) (.slice 11 0 (dig 1000000000 (b*e)).length none)=some (dig 1000000000 (b*e)):=fun x l=>aP rfl (by simp) (List.take_of_length_le (by simp))
 have o:∀v,lok 1000000000 (dig 1000000000 v)=true:=fun v=>bT (by omega) v
 have m:∀v,aU (dig 1000000000 v)=dig 1000000000 v:=fun v=>bY (by omega) v
 have j:∀v,au 1000000000 (dig 1000000000 v)=v:=fun v=>bC (by omega) v
 have hle:=hlb e he2;have V:(dig 1000000000 (b*e)).length≤1000000000:=by omega
 simp only[fv] at X u L U hS;by_cases hq:e=t
 ·right
  have I':e≠d0:=by omega
  have G:¬0<kq (b*e) r:=by
   have:b*e≤r:=by rw[hq,ht];exact Nat.mul_div_le r b
   unfold kq;split
   ·omega
   ·rw[if_neg (by omega)];omega
  rw[hS.2 e I',←hq];clear hS;subst J;simp[dP,cg,bX,bH,fv,h3,h5,X,U,o,m,j,V,G]
 ·left
  have hqe:t<e:=by omega
  have hgt:r<b*e:=by
   have:=(Nat.div_lt_iff_lt_mul S').1 (ht▸hqe)
   rwa [Nat.mul_comm] at this
  have G:0<kq (b*e) r:=by unfold kq;rw[if_neg (by omega),if_pos hgt];omega
  have R:b≤b*e:=Nat.le_mul_of_pos_right b (by omega);have Q:b*e-b=b*(e-1):=by rw[Nat.mul_sub,Nat.mul_one]
  have O:=acY e he2 (by omega);have w1:IntKind.u64.wrap ((e:Int)-1)=((e-1:Nat):Int):=by rw[cG (by omega) (by omega)];omega
  have N:(dig 1000000000 (b*e)).length≤100000000:=hle;refine⟨e-1,?_⟩;rw[hS.2 (e-1) (by omega)];by_cases hd:e=d0
  ·rw[hd] at G R Q O w1 N V ⊢
   rw[hS.1];clear hS;subst J;simp[dP,cg,bX,bH,h3,h5,X,u,L,o,m,j,V,G,R,O,Q,w1,N];omega
  ·rw[hS.2 e hd]
   clear hS;subst J;simp[dP,cg,bX,bH,h3,h5,X,u,U,o,m,j,V,G,R,O,Q,w1,N];omega
theorem BU(A B:List Nat)(n:Nat)(a q H I:List Nat)(b r t:Nat)(ht:b*t≤r)(Y:I.take (dig 1000000000 r).length=dig 1000000000 r)(hrl:(dig 1000000000 r).length≤I.length)(hK:0<K)(hlb:(dig 1000000000 (b*t)).length≤1000000000)(W:ah f157=[b1,c])(J:fN c=[13,12]):
  ∃F:Env→Bool→Env,∀Z d,(ad Z 3=.ptr 2 0∧ad Z 5=.slice 9 0 (dig 1000000000 r).length none∧ad Z 12=.int .u64 t∧ad Z 13=.slice 10 0 (dig 1000000000 (b*t)).length none)→
   aW (bh prog) fN dP K 146 2 true (.loop c) ⟨Z,fv A B n (dig 1000000000 b).length a (dig 1000000000 b) q H I [.cells true 1 (iN .u64 (dig 1000000000 (b*t)))],d⟩=
    some (.exit 4,⟨F Z d,fv A B n (dig 1000000000 b).length a (dig 1000000000 b) q H I [.cells true 1 (iN .u64 (dig 1000000000 (b*t)))],d⟩)∧
   (ad (F Z d) 13=.slice 10 0 (dig 1000000000 (b*t)).length none∧ad (F Z d) 12=.int .u64 (t:Int)∧(∀x∈[0,3,4,5,9,10,11],ad (F Z d) x=ad Z x)):=by
 refine bj J (fun Z=>ad Z 3=.ptr 2 0∧ad Z 5=.slice 9 0 (dig 1000000000 r).length none∧ad Z 12=.int .u64 t∧ad Z 13=.slice 10 0 (dig 1000000000 (b*t)).length none)
  (fun Z U =>ad U 13=.slice 10 0 (dig 1000000000 (b*t)).length none∧ad U 12=.int .u64 (t:Int)∧(∀x∈[0,3,4,5,9,10,11],ad U x=ad Z x)) ?_
 clear J;rintro Z dd ⟨h3,h5,h12,h13⟩;simp[ah,aE,f157] at W;obtain⟨_,W⟩:=W;obtain⟨K,rfl⟩:∃S,K=S +1:=⟨K-1,by omega⟩
 have X:∀l,aZ .u64 (fv A B n (dig 1000000000 b).length a (dig 1000000000 b) q H I l) (.slice 9 0 (dig 1000000000 r).length none)=some (dig 1000000000 r):=fun l=>aP rfl (by simpa using hrl) (by rw[iA,Y])
 have V:∀l,aZ .u64 (fv A B n (dig 1000000000 b).length a (dig 1000000000 b) q H I (.cells true 1 (iN .u64 (dig 1000000000 (b*t)))::l)) (.slice 10 0 (dig 1000000000 (b*t)).length none)=some (dig 1000000000 (b*t)):=fun l=>aP rfl (by simp) (List.take_of_length_le (by simp))
 have R:∀v,lok 1000000000 (dig 1000000000 v)=true:=fun v=>bT (by omega) v
 have Q:∀v,aU (dig 1000000000 v)=dig 1000000000 v:=fun v=>bY (by omega) v
 have O:∀v,au 1000000000 (dig 1000000000 v)=v:=fun v=>bC (by omega) v
 have N:¬0<kq (b*t) r:=by
  unfold kq;split
  ·omega
  ·rw[if_neg (by omega)];omega
 simp only[fv] at X V;subst W;simp[ga,dP,cg,bX,bH,fv,h3,h5,h12,h13,X,V,R,Q,O,hlb,N]
def xI(b:Nat):List Nat→List Nat
 | []=>[]
 |x::l=>if x+1000000000*(fZ 1000000000 b l).2<b then x::dig 1000000000 (fZ 1000000000 b l).2 else dig 1000000000 ((x+1000000000*(fZ 1000000000 b l).2)%b)
theorem DJ{b:Nat}:∀{l:List Nat},lok 1000000000 l=true→(xI b l).take (dig 1000000000 (fZ 1000000000 b l).2).length=dig 1000000000 (fZ 1000000000 b l).2∧(dig 1000000000 (fZ 1000000000 b l).2).length≤(xI b l).length
 | [],_=>by simp[xI,fZ,dK]
 |x::l,h=>by
  rw[cL,Bool.and_eq_true,decide_eq_true_eq] at h;have e:(fZ 1000000000 b (x::l)).2=(x+1000000000*(fZ 1000000000 b l).2)%b:=by simp only[fZ];rw[Nat.mul_comm,Nat.add_comm]
  rw[e,xI];split
  ·rename_i Z
   rw[Nat.mod_eq_of_lt Z,←Ht (by omega) h.1];exact⟨lh _,cS _⟩
  ·exact⟨List.take_of_length_le (Nat.le_refl _),Nat.le_refl _⟩
def iY(A B:List Nat)(a:List Nat)(b k:Nat):Mem:=
 [.cells false 1 (iN .u64 A),.cells false 1 (iN .u64 B),.cells true 0 [.slice 5 0 (dig 1000000000 b).length none],.cells true 0 [.slice 6 0 a.length none],.cells true 1 (iN .u64 a),.cells true 1 (iN .u64 (dig 1000000000 b)),.cells true 1 (iN .u64 (List.replicate k 0++(fZ 1000000000 b (a.drop k)).1))]
  ++ if k=a.length then [] else [.cells true 1 (iN .u64 (xI b (a.drop k)))]
def yT(a:List Nat)(b k:Nat):AV:=if k=a.length then .qF else .slice 7 0 (dig 1000000000 (fZ 1000000000 b (a.drop k)).2).length none
theorem Eo(A B a:List Nat)(b top:Nat)(ha:lok 1000000000 a=true)(hl:a.length≤10000000)(hm:2≤(dig 1000000000 b).length)(hn:(dig 1000000000 b).length≤a.length)(aaL:(dig 1000000000 b)[(dig 1000000000 b).length-1]? =some top)(hK:2000000000<K)(hb:ah f157=[b1,c]∧fN b1=[11,5]∧fN c=[13,12]):
  ∃F:Env→Bool→Env,∀X d,(ad X 0=.slice 4 0 a.length none∧ad X 3=.ptr 2 0∧ad X 4=.ptr 3 0∧ad X 10=.int .u64 top∧ad X 5=.qF∧ad X 11=.int .i64 ((a.length:Int)-1))→
   aW (bh prog) fN dP K 146 2 true (.loop b1) ⟨X,iY A B a b a.length,d⟩=some (.exit 2,⟨F X d,iY A B a b 0,d⟩)∧
   (ad (F X d) 5=yT a b 0∧(∀x∈[3,4,9],ad (F X d) x=ad X x)):=by
 refine bj hb.2.1 (fun X=>ad X 0=.slice 4 0 a.length none∧ad X 3=.ptr 2 0∧ad X 4=.ptr 3 0∧ad X 10=.int .u64 top∧ad X 5=.qF∧ad X 11=.int .i64 ((a.length:Int)-1))
  (fun X AC =>ad AC 5=yT a b 0∧(∀x∈[3,4,9],ad AC x=ad X x)) ?_
 rintro X dd ⟨h0,h3,h4,h10,h5,h11⟩;have o:=hb.1;simp[ah,aE,f157] at o;obtain⟨o,hb2⟩:=o;have hn0:aA [11,5] (ae b1) X ((11,.int .i64 ((a.length:Int)-1))::(5,yT a b a.length)::X)=aA [11,5] (ae b1) X X:=by simp[aA,h5,h11,yT]
 rw[←hn0];have acr:(iY A B a b a.length).length=7:=by simp[iY]
 rw[acr];refine bz (α:=Nat) (fun k=>⟨aA [11,5] (ae b1) X ((11,.int .i64 ((k:Int)-1))::(5,yT a b k)::X),iY A B a b k,dd⟩) id (fun k=>k≤a.length) (.exit 2) _ dd _ (by simp) ?_ K a.length (Nat.le_refl _) (by simp;omega);intro k hk;clear hn0 acr;have hbv:1000000000≤b:=by have h:=tY (B:=1000000000) (by omega) b (by rintro rfl;rw[dK] at hm;simp at hm);have:1000000000 ^ 1≤1000000000 ^ ((dig 1000000000 b).length-1):=Nat.pow_le_pow_right (by omega) (by omega);omega
 cases k with
 |zero=>
  right;subst o;simp
 |succ i=>
  left;have FS:i<a.length:=by omega
  obtain⟨x,hx,Z7⟩:=cO FS;have hxb:=eh ha hx;have eA:a.drop i=x::a.drop (i+1):=by rw[List.drop_eq_getElem_cons FS,Z7]
  have I':¬i=a.length:=by omega
  obtain⟨d1,d2,d3,d4⟩:=jm (B:=1000000000) (d:=b) (by omega) (a.drop (i+1)) (jB ha _);obtain⟨r,hr⟩:=xE ((fZ 1000000000 b (a.drop (i+1))).2);obtain⟨q,hq⟩:=xE ((fZ 1000000000 b (a.drop (i+1))).1);obtain⟨raw,abc⟩:=xE (xI b (a.drop (i+1)));obtain⟨t1,t2⟩:=DJ (b:=b) (jB ha (i+1));obtain⟨Z,hr'⟩:=xE (x+1000000000*r);have hq2:(fZ 1000000000 b (a.drop i)).1=Z / b::q:=by rw[eA,hq,hr',hr];simp only[fZ];rw[Nat.mul_comm,Nat.add_comm]
  have hr2:(fZ 1000000000 b (a.drop i)).2=Z %b:=by rw[eA,hr',hr];simp only[fZ];rw[Nat.mul_comm,Nat.add_comm]
  have adr:xI b (a.drop i)=if Z <b then x::dig 1000000000 r else dig 1000000000 (Z %b):=by rw[eA,xI,←hr,←hr']
  have hqz:(List.replicate (i+1) 0++q:List Nat)=List.replicate i 0++0::q:=by rw[List.replicate_succ'];simp
  rw[←hr] at t1 t2 d1;rw[←abc] at t1 t2;rw[←hq] at d4;have htk:(iN .u64 raw).take (dig 1000000000 r).length=iN .u64 (dig 1000000000 r):=by rw[iA,t1]
  have V:aU (x::dig 1000000000 r)=dig 1000000000 Z :=by rw[hr'];exact Ht (by omega) hxb
  have hrl:(dig 1000000000 r).length≤a.length:=by
   have:(dig 1000000000 r).length≤(dig 1000000000 b).length:=by
    rcases Nat.lt_or_ge (dig 1000000000 b).length (dig 1000000000 r).length with h | h
    ·have:=dI (B:=1000000000) (by omega) h;omega
    ·exact h
   omega
  have w1:IntKind.i64.wrap ((i:Int)-1)=(i:Int)-1:=af;have hI:(i:Int)<(a.length:Int):=by omega
  have e1:(((i+1:Nat):Int)-1)=(i:Int):=by omega
  have hR0:yT a b i=.slice 7 0 (dig 1000000000 (Z %b)).length none:=by unfold yT;rw[if_neg I',hr2]
  have hM0:iY A B a b i=[.cells false 1 (iN .u64 A),.cells false 1 (iN .u64 B),.cells true 0 [.slice 5 0 (dig 1000000000 b).length none],.cells true 0 [.slice 6 0 a.length none],.cells true 1 (iN .u64 a),.cells true 1 (iN .u64 (dig 1000000000 b)),.cells true 1 (iN .u64 (List.replicate i 0++Z / b::q)),
    .cells true 1 (iN .u64 (if Z <b then x::dig 1000000000 r else dig 1000000000 (Z %b)))]:=by unfold iY;rw[if_neg I',hq2,adr];rfl
  have lo:∀v,lok 1000000000 (dig 1000000000 v)=true:=fun v=>bT (by omega) v
  have lt:∀v,aU (dig 1000000000 v)=dig 1000000000 v:=fun v=>bY (by omega) v
  have lv:∀v,au 1000000000 (dig 1000000000 v)=v:=fun v=>bC (by omega) v
  have ab8:(dig 1000000000 r).length+1≤1000000000:=by omega
  have hxl:lok 1000000000 (x::dig 1000000000 r)=true:=by rw[cL,lo];simp[hxb]
  have ab9 :(dig 1000000000 Z).length≤(dig 1000000000 r).length+1:=by rw[←V];exact cS (x::dig 1000000000 r)
  have J:(dig 1000000000 Z).length≤1000000000:=by omega
  refine⟨i,?_⟩;rw[e1];refine br (r:=_∧_) (show i≤a.length∧id i<id (i+1) from⟨by omega,by simp⟩) ?_;by_cases aah:i+1=a.length
  ·have hd0:a.drop (i+1)=[]:=by rw[aah,List.drop_length]
   have hr0:r=0:=by rw[hr,hd0];rfl
   have hq0:q=[]:=by rw[hq,hd0];rfl
   have afH:Z =x:=by omega
   have Z5 :Z <b:=by omega
   have hR1:yT a b (i+1)=.qF:=by unfold yT;rw[if_pos aah]
   have hM1:iY A B a b (i+1)=[.cells false 1 (iN .u64 A),.cells false 1 (iN .u64 B),.cells true 0 [.slice 5 0 (dig 1000000000 b).length none],.cells true 0 [.slice 6 0 a.length none],.cells true 1 (iN .u64 a),.cells true 1 (iN .u64 (dig 1000000000 b)),.cells true 1 (iN .u64 (List.replicate i 0++0::q))]:=by unfold iY;rw[if_pos aah,←hq,hqz];simp
   rw[hM1,hM0,hR1,hR0,if_pos Z5,Nat.mod_eq_of_lt Z5,Nat.div_eq_of_lt Z5];have hc:kq Z b<0:=by unfold kq;rw[if_pos Z5];omega
   rw[hr0,dK] at V;rw[hr0,dK];have hs8:∀U S R Q O N G C l,aZ .u64 (U::S::R::Q::O::N::G::C::.cells true 1 [.int .u64 (x:Int)]::l) (.slice 8 0 1 none)=some [x]:=fun U S R Q O N G C l=>aP (A:=[x]) rfl (by simp) rfl
   have aey :∀U S R Q O N G C l,aZ .u64 (U::S::R::Q::O::N::G::C::.cells true 1 [.int .u64 (x:Int)]::l) (.slice 8 0 (dig 1000000000 Z).length none)=some (dig 1000000000 Z):=fun U S R Q O N G C l=>by have W:=cS [x];rw[V] at W;refine aP rfl (by simpa using W) ?_;have:([.int .u64 (x:Int)]:List AV)=iN .u64 [x]:=rfl;rw[this,iA,←V,lh]
   have hs5:∀U S R Q O l,aZ .u64 (U::S::R::Q::O::.cells true 1 (iN .u64 (dig 1000000000 b))::l) (.slice 5 0 (dig 1000000000 b).length none)=some (dig 1000000000 b):=fun U S R Q O l=>aP rfl (by simp) (List.take_of_length_le (by simp))
   subst o;simp[dP,cg,bX,bH,h0,h3,Z7,hI,FS,hs8,aey,hs5,V,lo,lt,lv,hc,w1,J,ca]
  ·have hR1:yT a b (i+1)=.slice 7 0 (dig 1000000000 r).length none:=by unfold yT;rw[if_neg aah,←hr]
   have hM1:iY A B a b (i+1)=[.cells false 1 (iN .u64 A),.cells false 1 (iN .u64 B),.cells true 0 [.slice 5 0 (dig 1000000000 b).length none],.cells true 0 [.slice 6 0 a.length none],.cells true 1 (iN .u64 a),.cells true 1 (iN .u64 (dig 1000000000 b)),.cells true 1 (iN .u64 (List.replicate i 0++0::q)),.cells true 1 (iN .u64 raw)]:=by unfold iY;rw[if_neg aah,←hq,←abc,hqz];rfl
   have hs9:∀U S R Q O N G C a8 l,aZ .u64 (U::S::R::Q::O::N::G::C::a8::.cells true 1 (.int .u64 (x:Int)::iN .u64 (dig 1000000000 r))::l) (.slice 9 0 (1+(dig 1000000000 r).length) none)=some (x::dig 1000000000 r):=fun U S R Q O N G C a8 l=>
    aP (A:=x::dig 1000000000 r) rfl (by simp;omega) (List.take_of_length_le (by simp;omega))
   have ab' :∀U S R Q O N G C a8 l,aZ .u64 (U::S::R::Q::O::N::G::C::a8::.cells true 1 (.int .u64 (x:Int)::iN .u64 (dig 1000000000 r))::l) (.slice 9 0 (dig 1000000000 Z).length none)=some (dig 1000000000 Z):=fun U S R Q O N G C a8 l=>by refine aP rfl (by simpa using ab9) ?_;rw[←ca,iA,←V,lh]
   have hs5:∀U S R Q O l,aZ .u64 (U::S::R::Q::O::.cells true 1 (iN .u64 (dig 1000000000 b))::l) (.slice 5 0 (dig 1000000000 b).length none)=some (dig 1000000000 b):=fun U S R Q O l=>aP rfl (by simp) (List.take_of_length_le (by simp))
   have g1:(1+(dig 1000000000 r).length)*8≤140737488355328:=by omega
   have g2:1+(dig 1000000000 r).length≤140737488355328:=by omega
   rw[hM1,hM0,hR1,hR0];by_cases Z5 :Z <b
   ·have hc:kq Z b<0:=by unfold kq;rw[if_pos Z5];omega
    rw[if_pos Z5,Nat.mod_eq_of_lt Z5,Nat.div_eq_of_lt Z5];subst o;simp[dP,cg,bX,bH,h0,h3,Z7,hI,FS,hs9,ab',hs5,V,lo,lt,lv,hc,w1,ab8,J,t2,htk,g1,g2,ca]
   ·rw[if_neg Z5]
    have hc:¬kq Z b<0:=by unfold kq;rw[if_neg Z5];split<;>omega
    have hrb:Z <1000000000*b:=by omega
    have hL:=yQ (B:=1000000000) (by omega) rfl hrb (by omega);obtain⟨m,I⟩:=xE ((dig 1000000000 b).length);obtain⟨L,hLL⟩:=xE ((dig 1000000000 Z).length);obtain⟨p1,hp1⟩:=xE (L-1);have aez:p1<(dig 1000000000 Z).length:=by omega
    have wp1:IntKind.i64.wrap (((dig 1000000000 Z).length:Int)-1)=(p1:Int):=by rw[af];omega
    have acL:(p1:Int)<((dig 1000000000 Z).length:Int):=by omega
    obtain⟨D1,hD1,afI⟩:=cO aez;have afJ:=eh (lo Z) hD1;have aaW:∀(j v:Nat),(dig 1000000000 Z)[j]? =some v→(AV.int IntKind.u64 (x:Int)::iN .u64 (dig 1000000000 r))[j]? =some (AV.int IntKind.u64 (v:Int)):=fun j v hv=>by
     rw[←V,kM,List.getElem?_take] at hv;split at hv
     ·rw[←ca,Ui,hv];rfl
     ·cases hv
    have hc1:=aaW _ _ hD1;obtain⟨D,hDD,hDb⟩:∃D,((L=m∧D=D1)∨(L=m+1∧∃l,(dig 1000000000 Z)[m-1]? =some l∧D=D1*1000000000+l))∧D<1000000000*1000000000:=by
     rcases hL with h | h
     ·exact⟨D1,.inl ⟨by omega,rfl⟩,by omega⟩
     ·obtain⟨l,hl1,_⟩:=cO (l:=dig 1000000000 Z) (i:=m-1) (by omega)
      have:=eh (lo Z) hl1;exact⟨D1*1000000000+l,.inr ⟨by omega,l,hl1,rfl⟩,by omega⟩
    obtain⟨gt,g3,g4⟩:=WI (B:=1000000000) (r:=Z) (b:=b) (m:=m) (D:=D) (top:=top) (by omega) I.symm (by omega) (by rw[I];exact aaL) hrb (by omega) (by
     rcases hDD with⟨W,rfl⟩ | ⟨W,l,h2,rfl⟩
     ·left;exact⟨by omega,by rw[show m-1=p1 by omega];exact hD1⟩
     ·right;exact⟨by omega,D1,l,by rw[show m=p1 by omega];exact hD1,h2,rfl⟩)
    obtain⟨g,hg⟩:=xE (D / top);obtain⟨d0,hd0⟩:=xE (min g 999999999);obtain⟨t,ht⟩:=xE (Z / b);rw[←hg,←ht] at g3;rw[←ht] at g4;have htd:t≤d0:=by omega
    have aeA:d0<1000000000:=by omega
    have H:b*t≤Z :=by rw[ht];exact Nat.mul_div_le Z b
    have S':0<b:=by omega
    have aeB:d0<K:=by omega
    have hK0:0<K:=by omega
    have aca:(d0:Int)<1000000000:=by omega
    have aaw:Z -b*t=Z %b:=by have:=Nat.mod_add_div Z b;rw[←ht] at this;omega
    have mono:∀u v,u≤v→(dig 1000000000 u).length≤(dig 1000000000 v).length:=fun u v h=>by
     rcases Nat.lt_or_ge (dig 1000000000 v).length (dig 1000000000 u).length with h' | h'
     ·have:=dI (B:=1000000000) (by omega) h';omega
     ·exact h'
    have hlb:∀d,d≤d0→(dig 1000000000 (b*d)).length≤100000000:=fun d hd=>by
     have W:b*d<1000000000 ^ (m+1):=by have h2:=tP (B:=1000000000) (by omega) b;rw[←I] at h2;rw[Nat.pow_succ];exact Nat.mul_lt_mul_of_lt_of_lt h2 (by omega)
     have:=ff (B:=1000000000) (by omega) W;omega
    have acY:∀d,d≤d0→0<d→(dig 1000000000 b).length≤(dig 1000000000 (b*d)).length:=fun d _ hd=>mono _ _ (Nat.le_mul_of_pos_right b hd)
    have aby:(x::dig 1000000000 r).take (dig 1000000000 Z).length=dig 1000000000 Z :=by rw[←V,lh]
    have afv:=eh (lo b) aaL;have hgD:g≤D:=by rw[hg];exact Nat.div_le_self _ _
    have wg:IntKind.u64.wrap (g:Int)=(g:Int):=cG (by omega) (by omega);have wD:IntKind.u64.wrap ((D:Int) / (top:Int))=(g:Int):=by rw[←Int.natCast_ediv,←hg];exact wg
    have wD' :IntKind.u64.wrap ((D:Int).tdiv (top:Int))=(g:Int):=by rw[xN,←hg];exact wg
    have abl:¬top=0:=by omega
    have aaS:(if (999999999:Int)<(g:Int) then (999999999:Int) else (g:Int))=(d0:Int):=by split<;>omega
    have abm:(dig 1000000000 Z).length≤100000000:=by omega
    have aaP:(dig 1000000000 (b*t)).length≤(dig 1000000000 Z).length:=mono _ _ H;have abn:(dig 1000000000 b).length≤100000000:=by omega
    have ads:=hlb d0 (Nat.le_refl _);have acM:(List.replicate i 0++0::q).take i=List.replicate i 0:=List.take_left' (by simp);have acN:(List.replicate i 0++0::q).drop (i+1)=q:=by rw[List.drop_append,List.drop_of_length_le (by simp)];simp
    have hql:i<(List.replicate i 0++0::q).length:=by simp
    have adN:∀(v:Nat) U S R Q O N G C a8 a9 l,aZ .u64 (U::S::R::Q::O::N::G::C::a8::a9::.cells true 1 (iN .u64 (dig 1000000000 v))::l) (.slice 10 0 (dig 1000000000 v).length none)=some (dig 1000000000 v):=fun v U S R Q O N G C a8 a9 l=>aP rfl (by simp) (List.take_of_length_le (by simp))
    have adO:∀(v:Nat) U S R Q O N G C a8 a9 a10 l,aZ .u64 (U::S::R::Q::O::N::G::C::a8::a9::a10::.cells true 1 (iN .u64 (dig 1000000000 v))::l) (.slice 11 0 (dig 1000000000 v).length none)=some (dig 1000000000 v):=fun v U S R Q O N G C a8 a9 a10 l=>aP rfl (by simp) (List.take_of_length_le (by simp))
    rw[←ht];rw[I] at hDD;rw[hLL] at hDD;subst o;rcases Nat.lt_or_ge t d0 with htlt | htge
    ·obtain⟨F,hF⟩:=Em (K:=K) A B a.length a (List.replicate i 0++0::q) raw (x::dig 1000000000 r) b Z d0 t ht aby (by simpa using ab9) S' htlt aeA aeB hlb acY hb.1 hb.2.2
     simp only[fv,ca] at hF;subst hb2;rcases hDD with⟨W,rfl⟩ | ⟨W,l,h2,h3'⟩
     ·have Y:¬(dig 1000000000 b).length<(dig 1000000000 Z).length:=by omega
      clear W;simp[dP,cg,bX,bH,h0,h3,h4,h10,Z7,hI,FS,hs9,ab',hs5,V,lo,lt,lv,hc,w1,ab8,J,t2,htk,g1,g2,Y,hc1,wp1,acL,wD,abl,aaS,abm,aaP,abn,aca,hF,adO,H,aaw,iA,sH,acM,acN,Nat.testBit];rw[dn,ca]
     ·have Y:(dig 1000000000 b).length<(dig 1000000000 Z).length:=by omega
      obtain⟨p2,hp2⟩:=xE (m-1);rw[←I,←hp2] at h2;have hc2:=aaW _ _ h2;have aeC:=eh (lo Z) h2;have wp2:IntKind.i64.wrap (((dig 1000000000 Z).length:Int)-2)=(p2:Int):=by rw[af];omega
      have wl1:IntKind.u64.wrap ((D1:Int)*1000000000)=(D1:Int)*1000000000:=cG (by omega) (by omega);have wl2:IntKind.u64.wrap ((D1:Int)*1000000000+(l:Int))=(D:Int):=by rw[cG (by omega) (by omega)];omega
      have abY:(p2:Int)<((dig 1000000000 Z).length:Int):=by omega
      clear W;simp[dP,cg,bX,bH,h0,h3,h4,h10,Z7,hI,FS,hs9,ab',hs5,V,lo,lt,lv,hc,w1,ab8,J,t2,htk,g1,g2,Y,hc2,wp2,abY,wl1,wl2,hc1,wp1,acL,wD,abl,aaS,abm,aaP,abn,aca,hF,adO,H,aaw,iA,sH,acM,acN,Nat.testBit];rw[dn,ca]
    ·have aeD:t=d0:=by omega
     rw[←aeD] at ads aca aaS;obtain⟨F,hF⟩:=BU (K:=K) A B a.length a (List.replicate i 0++0::q) raw (x::dig 1000000000 r) b Z t H aby (by simpa using ab9) hK0 (by omega) hb.1 hb.2.2;simp only[fv,ca] at hF;subst hb2;rcases hDD with⟨W,rfl⟩ | ⟨W,l,h2,h3'⟩
     ·have Y:¬(dig 1000000000 b).length<(dig 1000000000 Z).length:=by omega
      clear W;simp[dP,cg,bX,bH,h0,h3,h4,h10,Z7,hI,FS,hs9,ab',hs5,V,lo,lt,lv,hc,w1,ab8,J,t2,htk,g1,g2,Y,hc1,wp1,acL,wD,abl,aaS,abm,aaP,abn,aca,hF,adN,H,aaw,iA,sH,acM,acN,Nat.testBit];rw[dn,ca]
     ·have Y:(dig 1000000000 b).length<(dig 1000000000 Z).length:=by omega
      obtain⟨p2,hp2⟩:=xE (m-1);rw[←I,←hp2] at h2;have hc2:=aaW _ _ h2;have aeC:=eh (lo Z) h2;have wp2:IntKind.i64.wrap (((dig 1000000000 Z).length:Int)-2)=(p2:Int):=by rw[af];omega
      have wl1:IntKind.u64.wrap ((D1:Int)*1000000000)=(D1:Int)*1000000000:=cG (by omega) (by omega);have wl2:IntKind.u64.wrap ((D1:Int)*1000000000+(l:Int))=(D:Int):=by rw[cG (by omega) (by omega)];omega
      have abY:(p2:Int)<((dig 1000000000 Z).length:Int):=by omega
      clear W;simp[dP,cg,bX,bH,h0,h3,h4,h10,Z7,hI,FS,hs9,ab',hs5,V,lo,lt,lv,hc,w1,ab8,J,t2,htk,g1,g2,Y,hc2,wp2,abY,wl1,wl2,hc1,wp1,acL,wD,abl,aaS,abm,aaP,abn,aca,hF,adN,H,aaw,iA,sH,acM,acN,Nat.testBit];rw[dn,ca]
theorem GB(A B:List Nat)(H:Nat)(hA:lok 1000000000 A=true)(hB:lok 1000000000 B=true)(hl:A.length≤1000000)(tA:aU A=A)(tB:aU B=B)(hm:2≤B.length)(I:B[B.length-1]? =some H)(J:au 1000000000 B≤au 1000000000 A):
  ∃q,aU q=dig 1000000000 (au 1000000000 A / au 1000000000 B)∧aa (bh prog) fN (aS prog) dP 2000000001 157 [.slice 0 0 A.length none,.slice 1 0 B.length none] [.cells false 1 (iN .u64 A),.cells false 1 (iN .u64 B)]=
   some (if au 1000000000 A%au 1000000000 B=0 then⟨.tuple [.slice 2 0 (aU q).length none,.qF],none,[.cells true 1 (iN .u64 q)]⟩ else
    ⟨.tuple [.slice 2 0 (aU q).length none,.slice 3 0 (dig 1000000000 (au 1000000000 A%au 1000000000 B)).length none],none,[.cells true 1 (iN .u64 q),.cells true 1 (iN .u64 (dig 1000000000 (au 1000000000 A%au 1000000000 B)))]⟩):=by
 obtain⟨b1,c,hb⟩:∃b1 c,ah f157=[b1,c]∧fN b1=[11,5]∧fN c=[13,12]:=⟨_,_,rfl,by decide,by decide⟩
 have dA:=nd (B:=1000000000) (by omega) hA tA;have dB:=nd (B:=1000000000) (by omega) hB tB;obtain⟨av,S⟩:=xE (au 1000000000 A);obtain⟨X,m⟩:=xE (au 1000000000 B);rw[←S] at dA J ⊢;rw[←m] at dB J ⊢;have htb:=eh hB I;obtain⟨f,hf⟩:=xE (1000000000 / (H+1));have hf1:1≤f:=by rw[hf,Nat.le_div_iff_mul_le (by omega)];omega
 have afK:1000000000≤X:=by have h:=tY (B:=1000000000) (by omega) X (by rintro rfl;rw[dK] at dB;rw[←dB] at hm;simp at hm);rw[dB] at h;have:1000000000 ^ 1≤1000000000 ^ (B.length-1):=Nat.pow_le_pow_right (by omega) (by omega);omega
 have htp:0<H:=by
  rcases Nat.eq_zero_or_pos H with h | h
  ·have h2:aU B=aU (B.take (B.length-1)):=by
    have FS:B.length-1<B.length:=by omega
    have ht:=(List.getElem?_eq_some_iff.1 I).2;conv=>lhs;rw[←List.take_append_drop (B.length-1) B,List.drop_eq_getElem_cons FS,ht,List.drop_of_length_le (by omega),h]
    exact jD _
   have h3:=cS (B.take (B.length-1));rw[←h2,tB,List.length_take] at h3;omega
  ·exact h
 have j:f<1000000000:=by rw[hf,Nat.div_lt_iff_lt_mul (by omega)];omega
 have mono:∀u v,u≤v→(dig 1000000000 u).length≤(dig 1000000000 v).length:=fun u v h=>by
  rcases Nat.lt_or_ge (dig 1000000000 v).length (dig 1000000000 u).length with h' | h'
  ·have:=dI (B:=1000000000) (by omega) h';omega
  ·exact h'
 have hmB:2≤(dig 1000000000 (X*f)).length:=by have:=mono X (X*f) (Nat.le_mul_of_pos_right X hf1);rw[dB] at this;omega
 have hmA:(dig 1000000000 (X*f)).length≤(dig 1000000000 (av*f)).length:=mono _ _ (Nat.mul_le_mul_right _ J);have hlA:(dig 1000000000 (av*f)).length≤A.length+1:=by
  have h1:av*f<1000000000 ^ (A.length+1):=by have h2:=gK hA;rw[←S] at h2;rw[Nat.pow_succ];exact Nat.mul_lt_mul_of_lt_of_lt h2 j
  exact ff (by omega) h1
 obtain⟨top,R,_⟩:=cO (l:=dig 1000000000 (X*f)) (i:=(dig 1000000000 (X*f)).length-1) (by omega);obtain⟨F,hF⟩:=Eo (K:=2000000001) A B (dig 1000000000 (av*f)) (X*f) top (bT (by omega) _) (by omega) hmB hmA R (by omega) hb;obtain⟨a,Y⟩:=xE (dig 1000000000 (av*f));obtain⟨Z,V⟩:=xE (X*f);rw[←Y,←V] at hF hmA;rw[←V] at R hmB;rw[←Y] at hlA;have adP:0<Z:=by rw[V];exact Nat.mul_pos (by omega) (by omega)
 obtain⟨i1,i2,i3,i4⟩:=jm (B:=1000000000) adP a (by rw[Y];exact bT (by omega) _);have hva:au 1000000000 a=av*f:=by rw[Y];exact bC (by omega) _
 rw[hva] at i2;obtain⟨q,hq⟩:=xE ((fZ 1000000000 Z a).1);obtain⟨U,Q⟩:=xE ((fZ 1000000000 Z a).2);rw[←hq,←Q] at i2;rw[←hq] at i3 i4;rw[←Q] at i1;have hqv:au 1000000000 q=av / X:=by
  have h1:(av*f) / Z=au 1000000000 q:=by rw[←i2,Nat.mul_comm,Nat.mul_add_div adP,Nat.div_eq_of_lt i1,Nat.add_zero]
  rw[←h1,V,Nat.mul_div_mul_right _ _ (by omega)]
 have hrv:U=(av%X)*f:=by
  have h1:(av*f)%Z=U:=by rw[←i2,Nat.mul_comm,Nat.mul_add_mod,Nat.mod_eq_of_lt i1]
  rw[←h1,V,Nat.mul_mod_mul_right]
 have hrf:U / f=av%X:=by rw[hrv,Nat.mul_div_cancel _ (by omega)]
 refine⟨q,by rw[←dJ (by omega) i3,hqv],?_⟩;have hn0:¬0=a.length:=by omega
 obtain⟨rt1,rt2⟩:=DJ (b:=Z) (l:=a) (by rw[Y];exact bT (by omega) _);obtain⟨row,abr⟩:=xE (xI Z a);rw[←abr,←Q] at rt1 rt2;have hH0:iY A B a Z 0=[.cells false 1 (iN .u64 A),.cells false 1 (iN .u64 B),.cells true 0 [.slice 5 0 (dig 1000000000 Z).length none],.cells true 0 [.slice 6 0 a.length none],.cells true 1 (iN .u64 a),.cells true 1 (iN .u64 (dig 1000000000 Z)),.cells true 1 (iN .u64 q),.cells true 1 (iN .u64 row)]:=by unfold iY;rw[if_neg hn0,List.drop_zero,←hq,←abr];rfl
 have hHn:iY A B a Z a.length=[.cells false 1 (iN .u64 A),.cells false 1 (iN .u64 B),.cells true 0 [.slice 5 0 (dig 1000000000 Z).length none],.cells true 0 [.slice 6 0 a.length none],.cells true 1 (iN .u64 a),.cells true 1 (iN .u64 (dig 1000000000 Z)),.cells true 1 (iN .u64 (List.replicate a.length 0))]:=by unfold iY;rw[if_pos rfl,List.drop_length];simp[fZ]
 have hR0:yT a Z 0=.slice 7 0 (dig 1000000000 U).length none:=by unfold yT;rw[if_neg hn0,List.drop_zero,←Q]
 rw[hH0,hHn,hR0] at hF;obtain⟨O,_⟩:=hb;simp[ah,aE,f157] at O;obtain⟨O,_⟩:=O;subst O;have lo:∀v,lok 1000000000 (dig 1000000000 v)=true:=fun v=>bT (by omega) v
 have lt:∀v,aU (dig 1000000000 v)=dig 1000000000 v:=fun v=>bY (by omega) v
 have lv:∀v,au 1000000000 (dig 1000000000 v)=v:=fun v=>bC (by omega) v
 have hs0:∀l,aZ .u64 (.cells false 1 (iN .u64 A)::l) (.slice 0 0 A.length none)=some A:=fun l=>aP rfl (by simp) (List.take_of_length_le (by simp))
 have hs1:∀x l,aZ .u64 (x::.cells false 1 (iN .u64 B)::l) (.slice 1 0 B.length none)=some B:=fun x l=>aP rfl (by simp) (List.take_of_length_le (by simp))
 have hs6:∀N L G D C o l,aZ .u64 (N::L::G::D::C::o::.cells true 1 (iN .u64 q)::l) (.slice 6 0 a.length none)=some q:=fun N L G D C o l=>aP rfl (by simp[i4]) (List.take_of_length_le (by simp[i4]))
 have hs7:∀N L G D C o a6 l,aZ .u64 (N::L::G::D::C::o::a6::.cells true 1 (iN .u64 row)::l) (.slice 7 0 (dig 1000000000 U).length none)=some (dig 1000000000 U):=fun N L G D C o a6 l=>aP rfl (by simpa using rt2) (by rw[iA,rt1])
 have hs8:∀N L G D C o a6 a7 l,aZ .u64 (N::L::G::D::C::o::a6::a7::.cells true 1 [.int .u64 (f:Int)]::l) (.slice 8 0 1 none)=some [f]:=fun N L G D C o a6 a7 l=>aP (A:=[f]) rfl (by simp) rfl
 have hc:¬kq av X<0:=by unfold kq;rw[if_neg (by omega)];split<;>omega
 obtain⟨p,hp⟩:=xE (B.length-1);rw[←hp] at I;have hpB:p<B.length:=by omega
 have acs :B[p]=H:=(List.getElem?_eq_some_iff.1 I).2;obtain⟨p2,hp2⟩:=xE ((dig 1000000000 Z).length-1);rw[←hp2] at R;have adQ:p2<(dig 1000000000 Z).length:=by omega
 have abz :(dig 1000000000 Z)[p2]=top:=(List.getElem?_eq_some_iff.1 R).2;have hlB:B.length≤A.length:=by rw[←dA,←dB];exact mono _ _ J
 have wp:IntKind.i64.wrap ((B.length:Int)-1)=(p:Int):=by rw[af];omega
 have wp2:IntKind.i64.wrap (((dig 1000000000 Z).length:Int)-1)=(p2:Int):=by rw[af];omega
 have hbl:(dig 1000000000 Z).length≤1000001:=by omega
 have wan:IntKind.i64.wrap ((a.length:Int)-1)=(a.length:Int)-1:=af;have hpI:(p:Int)<(B.length:Int):=by omega
 have abY:(p2:Int)<((dig 1000000000 Z).length:Int):=by omega
 obtain⟨t1,ht1⟩:=xE (α:=Nat) (H+1);have wt:IntKind.u64.wrap ((H:Int)+1)=(t1:Int):=by rw[cG (by omega) (by omega)];omega
 rw[←ht1] at hf;have adR:¬t1=0:=by omega
 have wf0:IntKind.u64.wrap (f:Int)=(f:Int):=cG (by omega) (by omega);have wf:IntKind.u64.wrap ((1000000000:Int) / (t1:Int))=(f:Int):=by rw[show((1000000000:Int) / (t1:Int))=((1000000000 / t1:Nat):Int) from rfl,←hf];exact wf0
 have wf' :IntKind.u64.wrap ((1000000000:Int).tdiv (t1:Int))=(f:Int):=by rw[show((1000000000:Int).tdiv (t1:Int))=((1000000000 / t1:Nat):Int) from rfl,←hf];exact wf0
 have hB1:¬(B.length:Int)=1:=by omega
 have hfI:(f:Int)<1000000000:=by omega
 have hl8:A.length≤100000000:=by omega
 have hl9:A.length≤1000000000:=by omega
 have adS:B.length≤100000000:=by omega
 have hq9:q.length≤1000000000:=by omega
 have h8:8*(a.length:Int)≤281474976710656:=by omega
 have h9:(a.length:Int)≤281474976710656:=by omega
 have adT:(dig 1000000000 U).length≤100000000:=by have:(dig 1000000000 U).length≤(dig 1000000000 Z).length:=mono _ _ (by omega);omega
 have hf0:0<f:=hf1;by_cases hz:av%X=0
 ·have afL:U=0:=by rw[hrv,hz,Nat.zero_mul]
  have W:U<f:=by omega
  rw[if_pos hz];simp[aa,ahs,f157,dP,cg,bX,bH,hs0,hs1,hs6,hs7,hs8,hA,hB,←S,←m,←Y,←V,tA,tB,hc,lo,lt,lv,wp,wp2,wan,hpI,abY,acs,abz,hpB,adQ,wt,adR,wf',hB1,hfI,hl8,hl9,adS,hq9,h8,h9,hF,adT,hf0,j,W,sI,Nat.testBit]
 ·have W:¬U<f:=by have:f≤av%X*f:=Nat.le_mul_of_pos_left f (by omega);omega
  rw[if_neg hz];simp[aa,ahs,f157,dP,cg,bX,bH,hs0,hs1,hs6,hs7,hs8,hA,hB,←S,←m,←Y,←V,tA,tB,hc,lo,lt,lv,wp,wp2,wan,hpI,abY,acs,abz,hpB,adQ,wt,adR,wf',hB1,hfI,hl8,hl9,adS,hq9,h8,h9,hF,adT,hf0,j,W,hrf,sI,Nat.testBit];exact⟨rfl,rfl⟩
theorem QO{B:List Nat}(W:lok 1000000000 A=true)(Y:lok 1000000000 B=true)(hl:A.length≤1000000)(tA:aU A=A)(tB:aU B=B)(hm:2≤B.length)(H:au 1000000000 B≤au 1000000000 A)(I:af0 .u64 M x A)(J:af0 .u64 M y B):
  if au 1000000000 A%au 1000000000 B=0 then kO prog 157 [x,y] M (.tuple [.slice M.length 0 (dig 1000000000 (au 1000000000 A / au 1000000000 B)).length none,.qF]) (M++[.cells true 1 (iN .u64 (dig 1000000000 (au 1000000000 A / au 1000000000 B)))])
  else kO prog 157 [x,y] M (.tuple [.slice M.length 0 (dig 1000000000 (au 1000000000 A / au 1000000000 B)).length none,.slice (M.length+1) 0 (dig 1000000000 (au 1000000000 A%au 1000000000 B)).length none])
   (M++[.cells true 1 (iN .u64 (dig 1000000000 (au 1000000000 A / au 1000000000 B))),.cells true 1 (iN .u64 (dig 1000000000 (au 1000000000 A%au 1000000000 B)))]):=by
 obtain⟨X,V,_⟩:=cO (l:=B) (i:=B.length-1) (by omega);obtain⟨q,R,h⟩:=GB A B X W Y hl tA tB hm V H;have:=(ar aj (aK _) I8 (aR _) h).1;split
 ·rename_i U
  rw[if_pos U] at this;simp only[y9.mem,Option.getD_none,List.cons_append,List.nil_append] at this;have S:=kO.agQ (m2:=[.cells false 1 (iN .u64 A),.cells false 1 (iN .u64 B),.cells true 1 (iN .u64 (aU q))]) this rfl (fun b s Z=>by
   match b with
   |0=>simp at Z;subst Z;exact⟨_,rfl,.inl rfl⟩
   |1=>simp at Z;subst Z;exact⟨_,rfl,.inl rfl⟩
   |2=>simp at Z;subst Z;exact⟨_,rfl,.row (dp _)⟩
   |b+3=>simp at Z)
  obtain⟨b,c,rfl,rfl,h3⟩:=kO.agM (new:=[.cells true 1 (iN .u64 (aU q))]) rfl S I J;rw[R] at h3;simpa [AV.ren,AV.af9,fj] using h3
 ·rename_i U
  rw[if_neg U] at this;simp only[y9.mem,Option.getD_none,List.cons_append,List.nil_append] at this;have S:=kO.agQ (m2:=[.cells false 1 (iN .u64 A),.cells false 1 (iN .u64 B),.cells true 1 (iN .u64 (aU q)),.cells true 1 (iN .u64 (dig 1000000000 (au 1000000000 A%au 1000000000 B)))]) this rfl (fun b s Z=>by
   match b with
   |0=>simp at Z;subst Z;exact⟨_,rfl,.inl rfl⟩
   |1=>simp at Z;subst Z;exact⟨_,rfl,.inl rfl⟩
   |2=>simp at Z;subst Z;exact⟨_,rfl,.row (dp _)⟩
   |3=>simp at Z;subst Z;exact⟨_,rfl,.inl rfl⟩
   |b+4=>simp at Z)
  obtain⟨b,c,rfl,rfl,h3⟩:=kO.agM (new:=[.cells true 1 (iN .u64 (aU q)),.cells true 1 (iN .u64 (dig 1000000000 (au 1000000000 A%au 1000000000 B)))]) rfl S I J;rw[R] at h3;simpa [AV.ren,AV.af9,fj] using h3
noncomputable def cb:afF:=fun c Z M=>match c,Z with
 |.fn 157,[x,y]=>match aZ .u64 M x,aZ .u64 M y with
  |some A,some B=>if lok 1000000000 A=true∧lok 1000000000 B=true∧A.length≤1000000∧aU A=A∧aU B=B∧0<au 1000000000 B then
    (if au 1000000000 A<au 1000000000 B then some ⟨.tuple [.qF,x],none,[]⟩
    else if 2≤B.length∧au 1000000000 A%au 1000000000 B=0 then some ⟨.tuple [.slice M.length 0 (dig 1000000000 (au 1000000000 A / au 1000000000 B)).length none,.qF],none,[.cells true 1 (iN .u64 (dig 1000000000 (au 1000000000 A / au 1000000000 B)))]⟩
    else some ⟨.tuple [.slice M.length 0 (dig 1000000000 (au 1000000000 A / au 1000000000 B)).length none,.slice (M.length+1) 0 (dig 1000000000 (au 1000000000 A%au 1000000000 B)).length none],none,[.cells true 1 (iN .u64 (dig 1000000000 (au 1000000000 A / au 1000000000 B))),.cells true 1 (iN .u64 (dig 1000000000 (au 1000000000 A%au 1000000000 B)))]⟩) else none
  |_,_=>none
 |c,Z=>cg c Z M
theorem I9:qS prog cb:=by
 refine cf fun c L M r h=>?_
 unfold cb at h;split at h
 ·split at h
  ·rename_i A B V U
   split at h
   ·rename_i F
    obtain⟨S,R,D,Q,G,X⟩:=F;split at h
    ·rename_i O
     cases h;refine aC ?_;rw[List.append_nil];exact wK S R (by omega) Q G O (ba V) (ba U)
    ·rename_i O
     by_cases Z:2≤B.length
     ·have:=QO S R D Q G Z (by omega) (ba V) (ba U)
      split at h
      ·rename_i N
       rw[if_pos N.2] at this;cases h;exact aC this
      ·rename_i N
       rw[if_neg (fun e=>N ⟨Z,e⟩)] at this;cases h;exact aC this
     ·rw[if_neg (fun e=>Z e.1)] at h
      obtain⟨d,rfl⟩:∃d,B=[d]:=by
       match B,Z,X with
       | [],_,X=>simp[au] at X
       | [d],_,_=>exact⟨d,rfl⟩
       |_::_::_,Z,_=>simp at Z
      have C:au 1000000000 [d]=d:=by simp[au]
      rw[C] at X O h;have u:d<1000000000:=by simpa [lok] using R
      cases h;exact aC (Fa X u S (by omega) Q (by omega) (ba V) (ba U))
   ·cases h
  ·cases h
 ·exact dN rC h
end Go.Proofs
