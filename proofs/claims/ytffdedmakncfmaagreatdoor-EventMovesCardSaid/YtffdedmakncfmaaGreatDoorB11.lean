/- See B54. -/
import Derived.Test.YtffdedmakncfmaaGreatDoorB10
set_option linter.all false
set_option maxRecDepth 100000
set_option maxHeartbeats 40000000
namespace Go.Proofs
open Go.Eng
open Tryz
noncomputable def bV:ae3:=fun c Z M=>match c,Z with
 |.fn 201,[x,y]=>match aW .u64 M x,aW .u64 M y with
  |some A,some B=>if lok 1000000000 A=true∧lok 1000000000 B=true∧A.length≤100000000∧B.length≤100000000 then some ⟨.slice M.length 0 (dig 1000000000 (au 1000000000 A+au 1000000000 B)).length none,none,[.cells true 1 (iN .u64 (dig 1000000000 (au 1000000000 A+au 1000000000 B)))]⟩ else none
  |_,_=>none
 |.fn 203,[x,y]=>match aW .u64 M x,aW .u64 M y with
  |some A,some B=>if lok 1000000000 A=true∧lok 1000000000 B=true∧A.length≤100000000∧B.length≤A.length∧au 1000000000 B≤au 1000000000 A then some ⟨.slice M.length 0 (dig 1000000000 (au 1000000000 A-au 1000000000 B)).length none,none,[.cells true 1 (iN .u64 (dig 1000000000 (au 1000000000 A-au 1000000000 B)))]⟩ else none
  |_,_=>none
 |.fn 141,[x,y]=>match aW .u64 M x,aW .u64 M y with
  |some A,some B=>if lok 1000000000 A=true∧lok 1000000000 B=true∧A.length≤100000000∧B.length≤100000000 then some ⟨.slice M.length 0 (dig 1000000000 (au 1000000000 A*au 1000000000 B)).length none,none,[.cells true 1 (iN .u64 (dig 1000000000 (au 1000000000 A*au 1000000000 B)))]⟩ else none
  |_,_=>none
 |.fn 208,[x]=>match x with
  |.slice b 0 n none=>if b<M.length then some ⟨.func 245 [.ptr M.length 0],none,[.cells true 0 [.slice b 0 n none]]⟩ else none
  |_=>none
 |.fn 206,[x]=>bE (.fn 206) [x] M
 |.fn 202,[x,y]=>bE (.fn 202) [x,y] M
 |_,_=>none
theorem qq:qS prog bV:=by
 refine bZ fun c N M r h=>?_
 unfold bV at h;split at h
 ·split at h
  ·rename_i Z X
   split at h
   ·rename_i V
    obtain⟨U,S,R,Q⟩:=V;cases h;exact aw (My U S R Q (aY Z) (aY X))
   ·cases h
  ·cases h
 ·split at h
  ·rename_i Z X
   split at h
   ·rename_i V
    obtain⟨U,S,R,Q,L⟩:=V;cases h;exact aw (Hy U S R Q L (aY Z) (aY X))
   ·cases h
  ·cases h
 ·split at h
  ·rename_i Z X
   split at h
   ·rename_i V
    obtain⟨U,S,R,Q⟩:=V;cases h;exact aw (HP U S R Q (aY Z) (aY X))
   ·cases h
  ·cases h
 ·split at h
  ·split at h
   ·rename_i F
    cases h;refine ar (T:=ba prog) (lv:=fun _=>[]) (G:=aT prog) (O:=cN) (K:=1) aj (aI _) (ax _) (aP _) ?_;exact AS _ _ M F
   ·cases h
  ·cases h
 ·exact dr iA h
 ·exact dr iA h
 ·cases h
theorem agM:aT prog 157=some f157:=by kernel_rfl
theorem FJ(A:List Nat)(d:Nat)(H:0<d)(hd:d<1000000000)(y:lok 1000000000 A=true)(hl:A.length≤100000000)(tA:aU A=A)(I:d≤au 1000000000 A):
  ∃O:ae3,qS prog O∧aa (ba prog) (fun _=>[]) (aT prog) (bV.or O) 1 157 [.slice 0 0 A.length none,.slice 1 0 1 none] [.cells false 1 (iN .u64 A),.cells false 1 [.int .u64 (d:Int)]]=
   some ⟨.tuple [.slice 2 0 (aU (fE 1000000000 d A).1).length none,.slice 3 0 (aU [(fE 1000000000 d A).2]).length none],some [.cells false 1 (iN .u64 A),.cells false 1 [.int .u64 (d:Int)]],[.cells true 1 (iN .u64 (fE 1000000000 d A).1),.cells true 1 [.int .u64 (((fE 1000000000 d A).2:Nat):Int)]]⟩:=by
 obtain⟨V,U,Z,C⟩:∃V U Z,ee f157=[(V,U,Z)]:=⟨_,_,_,rfl⟩
 have S:0<A.length:=by
  rcases Nat.eq_zero_or_pos A.length with h | h
  ·rw[List.eq_nil_of_length_eq_zero h] at I;simp[au] at I;omega
  ·exact h
 obtain⟨O,hO,R⟩:=DC A d H hd y (by omega) S C;refine⟨O,hO,?_⟩;obtain⟨i1,i2,i3,D⟩:=B6 H hd A y;have Q:∀X,kY A d V U Z X 0=[.cells false 1 (iN .u64 A),.cells false 1 [.int .u64 (d:Int)],.cells true 0 [.slice 1 0 1 none],.cells true 0 [.slice 4 0 A.length none],
  .cells true 1 (iN .u64 (fE 1000000000 d A).1),.cells true 0 [.int .u64 (((fE 1000000000 d A).2:Nat):Int)],.cells true 0 [.slice 0 0 A.length none],.loop ⟨.ready,none,X,146,V,U,Z⟩]:=fun X=>rfl
 have N:∀X,kY A d V U Z X A.length=[.cells false 1 (iN .u64 A),.cells false 1 [.int .u64 (d:Int)],.cells true 0 [.slice 1 0 1 none],.cells true 0 [.slice 4 0 A.length none],
  .cells true 1 (iN .u64 (List.replicate A.length 0)),.cells true 0 [.int .u64 0],.cells true 0 [.slice 0 0 A.length none],.loop ⟨.ready,none,X,146,V,U,Z⟩]:=fun X=>by
  unfold kY;rw[List.drop_length];simp[fE]
 have M:∀X,(ab X 3=.ptr 2 0∧ab X 4=.ptr 3 0∧ab X 6=.ptr 5 0∧X.flatMap (fun e=>e.2.refs 8)=[])→
   O (.fn 245) [.yield 7,.ptr 6 0] [.cells false 1 (iN .u64 A),.cells false 1 [.int .u64 (d:Int)],.cells true 0 [.slice 1 0 1 none],.cells true 0 [.slice 4 0 A.length none],
  .cells true 1 (iN .u64 (List.replicate A.length 0)),.cells true 0 [.int .u64 0],.cells true 0 [.slice 0 0 A.length none],.loop ⟨.ready,none,X,146,V,U,Z⟩]=some ⟨.tuple [],some [.cells false 1 (iN .u64 A),.cells false 1 [.int .u64 (d:Int)],.cells true 0 [.slice 1 0 1 none],.cells true 0 [.slice 4 0 A.length none],
  .cells true 1 (iN .u64 (fE 1000000000 d A).1),.cells true 0 [.int .u64 (((fE 1000000000 d A).2:Nat):Int)],.cells true 0 [.slice 0 0 A.length none],.loop ⟨.ready,none,X,146,V,U,Z⟩],[]⟩:=fun X h=>by
  have:=R X h
  rwa [N,Q] at this
 clear R Q N;obtain⟨q,j⟩:=xE ((fE 1000000000 d A).1);obtain⟨r,hr⟩:=xE ((fE 1000000000 d A).2);rw[←j,←hr] at M ⊢;rw[←j] at i3 D;simp[ee,fB,f157] at C;obtain⟨rfl,rfl,rfl⟩:=C;have hs0:∀l,aW .u64 (.cells false 1 (iN .u64 A)::l) (.slice 0 0 A.length none)=some A:=fun l=>aR rfl (by simp) (List.take_of_length_le (by simp))
 have hs1:∀l,aW .u64 (.cells false 1 (iN .u64 A)::.cells false 1 [.int .u64 (d:Int)]::l) (.slice 1 0 1 none)=some [d]:=fun l=>aR (A:=[d]) rfl (by simp) rfl
 have hs4:∀L K G F l,aW .u64 (L::K::G::F::.cells true 1 (iN .u64 q)::l) (.slice 4 0 A.length none)=some q:=fun L K G F l=>aR rfl (by simp[D]) (List.take_of_length_le (by simp[D]))
 have B:∀L K G F Y W J a7 l,aW .u64 (L::K::G::F::Y::W::J::a7::.cells true 1 [.int .u64 (r:Int)]::l) (.slice 8 0 1 none)=some [r]:=fun L K G F Y W J a7 l=>aR (A:=[r]) rfl (by simp) rfl
 have u:lok 1000000000 [d]=true:=by simp[lok];omega
 have o:aU [d]=[d]:=by simp[aU];omega
 have m:au 1000000000 [d]=d:=by simp[au]
 have ZU:¬jH (au 1000000000 A) d<0:=by unfold jH;rw[if_neg (by omega)];split<;>omega
 have h8:8*(A.length:Int)≤281474976710656:=by omega
 have h9:(A.length:Int)≤281474976710656:=by omega
 have YT:A.length≤1000000000:=by omega
 simp[aa,agM,f157,ae3.or,bV,bE,hs0,hs1,y,tA,u,o,m,ZU,h8,h9,YT,rz,uD,M,hs4,B,D,yP,Nat.testBit];exact⟨rfl,rfl⟩
variable{B:Nat}{l:List Nat}
theorem S0(h:lok B l=true):lok B (aU l)=true:=by rw[j8 l];exact iV h _
theorem mi(y:2≤B)(h:lok B l=true)(H:aU l=l):dig B (au B l)=l:=by rw[dC y h,H]
variable{A:List Nat}{d:Nat}
theorem HN(hd:d<1000000000)(y:lok 1000000000 A=true)(H:A.length≤100000000):
  kO prog 220 [.slice 0 0 A.length none,.int .u64 (d:Int)] [.cells false 1 (iN .u64 A)] (.slice 1 0 (dig 1000000000 (au 1000000000 A*d)).length none) [.cells false 1 (iN .u64 A),.cells true 1 (iN .u64 (dig 1000000000 (au 1000000000 A*d)))]:=by
 have S:aT prog 220=some f220:=by kernel_rfl
 have hs0:∀l,aW .u64 (.cells false 1 (iN .u64 A)::l) (.slice 0 0 A.length none)=some A:=fun l=>aR rfl (by simp) (List.take_of_length_le (by simp))
 have hs1:∀Z l,aW .u64 (Z::.cells true 1 [.int .u64 (d:Int)]::l) (.slice 1 0 1 none)=some [d]:=fun Z l=>aR (A:=[d]) rfl (by simp) rfl
 have hs2:∀Z l,aW .u64 (Z::.cells true 1 [.int .u64 (d:Int)]::l) (.slice 1 0 (aU [d]).length none)=some (aU [d]):=fun Z l=>aR rfl (by have:=cR [d];simpa using this) (by have:([.int .u64 (d:Int)]:List AV)=iN .u64 [d]:=rfl;rw[this,gW,kF])
 have X:lok 1000000000 (aU [d])=true:=S0 (by simp[lok];omega);have V:au 1000000000 (aU [d])=d:=by rw[EO];simp[au]
 have U:(aU [d]).length≤100000000:=by have:=cR [d];simp at this;omega
 have h:aa (ba prog) (fun _=>[]) (aT prog) bV 1 220 [.slice 0 0 A.length none,.int .u64 (d:Int)] [.cells false 1 (iN .u64 A)]=some ⟨.slice 1 0 (dig 1000000000 (au 1000000000 A*d)).length none,none,[.cells true 1 (iN .u64 (dig 1000000000 (au 1000000000 A*d)))]⟩:=by simp[aa,S,f220,bV,bE,hs0,hs1,hs2,y,H,X,V,U]
 have:=(ar aj (aI _) qq (aP _) h).1;simpa [y9.mem] using this
variable{M:Mem}{x:AV}
theorem HM(hd:d<1000000000)(y:lok 1000000000 A=true)(H:A.length≤100000000)(I:afi .u64 M x A):
  kO prog 220 [x,.int .u64 (d:Int)] M (.slice M.length 0 (dig 1000000000 (au 1000000000 A*d)).length none) (M++[.cells true 1 (iN .u64 (dig 1000000000 (au 1000000000 A*d)))]):=by
 obtain⟨b,rfl,h⟩:=kO.agJ (new:=[.cells true 1 (iN .u64 (dig 1000000000 (au 1000000000 A*d)))]) (rest:=[.int .u64 (d:Int)]) rfl rfl (HN hd y H) I;simpa [AV.ren,eL] using h
noncomputable def cf:ae3:=fun c Z M=>match c,Z with
 |.fn 220,[x,.int .u64 d]=>match aW .u64 M x with
  |some A=>if lok 1000000000 A=true∧A.length≤100000000∧0≤d∧d<1000000000 then some ⟨.slice M.length 0 (dig 1000000000 (au 1000000000 A*d.toNat)).length none,none,[.cells true 1 (iN .u64 (dig 1000000000 (au 1000000000 A*d.toNat)))]⟩ else none
  |_=>none
 |c,Z=>bV c Z M
theorem qs:qS prog cf:=by
 refine bZ fun c Z M r h=>?_
 unfold cf at h;split at h
 ·split at h
  ·rename_i V
   split at h
   ·rename_i U
    obtain⟨S,R,X,Q⟩:=U;cases h;have O:=(Int.toNat_lt X).2 Q;have:=HM O S R (aY V);rw[Int.toNat_of_nonneg X] at this;exact aw this
   ·cases h
  ·cases h
 ·exact dr qq h
def fp(c:Code):List Nat:=if (ad c).contains 11 then [11,5] else [13,12]
theorem iF{B d:Nat}(hd:0<d):∀l:List Nat,lok B l=true→(fE B d l).2<d∧au B (fE B d l).1*d+(fE B d l).2=au B l∧lok B (fE B d l).1=true∧(fE B d l).1.length=l.length
 | [],_=>by simp[fE,au,lok,hd]
 |x::l,h=>by
  rw[cI,Bool.and_eq_true,decide_eq_true_eq] at h;obtain⟨X,V,U,S⟩:=iF hd l h.2;simp only[fE];have Z:=Nat.mod_add_div ((fE B d l).2*B+x) d;refine⟨Nat.mod_lt _ hd,?_,?_,by simp[S]⟩
  ·rw[au,au,←V,Nat.add_mul,Nat.mul_add]
   rw[Nat.mul_comm d] at Z;rw[Nat.mul_assoc,Nat.mul_comm B (fE B d l).2];omega
  ·rw[cI,Bool.and_eq_true,decide_eq_true_eq]
   refine⟨?_,U⟩;rw[Nat.div_lt_iff_lt_mul hd];have h3:((fE B d l).2+1)*B≤d*B:=Nat.mul_le_mul_right _ X;rw[Nat.add_mul] at h3;rw[Nat.mul_comm B d];omega
variable{y:AV}
theorem vf{B:List Nat}(H:lok 1000000000 A=true)(I:lok 1000000000 B=true)(J:A.length≤1000000000)(tA:aU A=A)(W:aU B=B)(Y:au 1000000000 A<au 1000000000 B)(hx:afi .u64 M x A)(hy:afi .u64 M y B):
  kO prog 157 [x,y] M (.tuple [.qF,x]) M:=by
 have hs0:∀l,aW .u64 (.cells false 1 (iN .u64 A)::l) (.slice 0 0 A.length none)=some A:=fun l=>aR rfl (by simp) (List.take_of_length_le (by simp))
 have hs1:∀a l,aW .u64 (a::.cells false 1 (iN .u64 B)::l) (.slice 1 0 B.length none)=some B:=fun a l=>aR rfl (by simp) (List.take_of_length_le (by simp))
 have Z:jH (au 1000000000 A) (au 1000000000 B)<0:=by unfold jH;rw[if_pos Y];omega
 have h:aa (ba prog) fp (aT prog) cf 1 157 [.slice 0 0 A.length none,.slice 1 0 B.length none] [.cells false 1 (iN .u64 A),.cells false 1 (iN .u64 B)]=some ⟨.tuple [.qF,.slice 0 0 A.length none],none,[]⟩:=by simp[aa,agM,f157,cf,bV,bE,hs0,hs1,H,I,J,tA,W,Z]
 have:=(ar aj (aI _) qs (aP _) h).1;simp only[y9.mem,Option.getD_none,List.append_nil] at this;obtain⟨b,c,rfl,rfl,h3⟩:=kO.af1 (new:=[]) rfl this hx hy;simpa [AV.ren,AV.afp,eL] using h3
theorem Em(H:0<d)(hd:d<1000000000)(I:lok 1000000000 A=true)(J:A.length≤100000000)(tA:aU A=A)(W:d≤au 1000000000 A)(Y:afi .u64 M x A)(hy:afi .u64 M y [d]):
  kO prog 157 [x,y] M (.tuple [.slice M.length 0 (dig 1000000000 (au 1000000000 A / d)).length none,.slice (M.length+1) 0 (dig 1000000000 (au 1000000000 A%d)).length none]) (M++[.cells true 1 (iN .u64 (dig 1000000000 (au 1000000000 A / d))),.cells true 1 (iN .u64 (dig 1000000000 (au 1000000000 A%d)))]):=by
 obtain⟨O,S,h⟩:=FJ A d H hd I J tA W;obtain⟨X,V,R,N⟩:=iF H A I;have Q:au 1000000000 (fE 1000000000 d A).1=au 1000000000 A / d:=by rw[←V,Nat.mul_comm,Nat.mul_add_div H,Nat.div_eq_of_lt X,Nat.add_zero]
 have L:(fE 1000000000 d A).2=au 1000000000 A%d:=by rw[←V,Nat.mul_comm,Nat.mul_add_mod,Nat.mod_eq_of_lt X]
 have f1:aU (fE 1000000000 d A).1=dig 1000000000 (au 1000000000 A / d):=by rw[←dC (by omega) R,Q]
 have f2:aU [(fE 1000000000 d A).2]=dig 1000000000 (au 1000000000 A%d):=by rw[←dC (B:=1000000000) (by omega) (by simp[lok];omega)];congr 1
 have:=(ar aj (aI _) (qq.or S) (aP _) h).1;simp only[y9.mem,Option.getD_some,List.cons_append,List.nil_append] at this;have U:=kO.af5 (m2:=[.cells false 1 (iN .u64 A),.cells false 1 (iN .u64 [d]),.cells true 1 (iN .u64 (dig 1000000000 (au 1000000000 A / d))),.cells true 1 (iN .u64 (dig 1000000000 (au 1000000000 A%d)))]) this rfl (fun b s Z=>by
  match b with
  |0=>simp at Z;subst Z;exact⟨_,rfl,.inl rfl⟩
  |1=>simp at Z;subst Z;exact⟨_,rfl,.inl rfl⟩
  |2=>simp at Z;subst Z;exact⟨_,rfl,.row (by rw[←f1];exact di _)⟩
  |3=>simp at Z;subst Z;exact⟨_,rfl,by have:=agK.row (k:=.u64) (o:=true) (es:=1) (di [(fE 1000000000 d A).2]);rw[f2] at this;exact this⟩
  |b+4=>simp at Z)
 rw[f1,f2] at U;obtain⟨b,c,rfl,rfl,h3⟩:=kO.af1 (B:=[d]) (new:=[.cells true 1 (iN .u64 (dig 1000000000 (au 1000000000 A / d))),.cells true 1 (iN .u64 (dig 1000000000 (au 1000000000 A%d)))]) rfl U Y hy;simpa [AV.ren,AV.afp,eL] using h3
noncomputable def dL:ae3:=fun c Z M=>match c,Z with
 |.fn 157,[x,y]=>match aW .u64 M x,aW .u64 M y with
  |some A,some [d]=>if lok 1000000000 A=true∧A.length≤100000000∧aU A=A∧0<d∧d<1000000000 then
    (if au 1000000000 A<d then some ⟨.tuple [.qF,x],none,[]⟩ else some ⟨.tuple [.slice M.length 0 (dig 1000000000 (au 1000000000 A / d)).length none,.slice (M.length+1) 0 (dig 1000000000 (au 1000000000 A%d)).length none],none,[.cells true 1 (iN .u64 (dig 1000000000 (au 1000000000 A / d))),.cells true 1 (iN .u64 (dig 1000000000 (au 1000000000 A%d)))]⟩) else none
  |_,_=>none
 |c,Z=>cf c Z M
theorem H2:qS prog dL:=by
 refine bZ fun c Z M r h=>?_
 unfold dL at h;split at h
 ·split at h
  ·rename_i X V
   split at h
   ·rename_i O
    obtain⟨U,N,S,L,R⟩:=O;split at h
    ·rename_i Q
     cases h;have:=vf U (B:=[_]) (by simp[lok];exact R) (by omega) S (by simp[aU];omega) (by simpa [au] using Q) (aY X) (aY V);refine aw ?_;rw[List.append_nil];exact this
    ·rename_i Q
     cases h;exact aw (Em L R U N S (by omega) (aY X) (aY V))
   ·cases h
  ·cases h
 ·exact dr qs h
def eW(A B:List Nat)(n m:Nat)(a b q H I:List Nat)(l:Mem):Mem:=
 .cells false 1 (iN .u64 A)::.cells false 1 (iN .u64 B)::.cells true 0 [.slice 5 0 m none]::.cells true 0 [.slice 6 0 n none]::.cells true 1 (iN .u64 a)::.cells true 1 (iN .u64 b)::.cells true 1 (iN .u64 q)::.cells true 1 (iN .u64 H)::.qK::.cells true 1 (iN .u64 I)::l
variable{K:Nat}{b1 c:Code}
theorem DA(A B:List Nat)(n:Nat)(a q I H:List Nat)(b r d0 t:Nat)(ht:t=r / b)(W:H.take (dig 1000000000 r).length=dig 1000000000 r)(Y:(dig 1000000000 r).length≤H.length)(H':0<b)(Zx:t<d0)(hdB:d0<1000000000)(hK:d0<K)(hlb:∀d,d≤d0→(dig 1000000000 (b*d)).length≤100000000)(acd:∀d,d≤d0→0<d→(dig 1000000000 b).length≤(dig 1000000000 (b*d)).length)(J:ah f157=[b1,c])(Yg:fp c=[13,12]):
  ∃F:Env→Bool→Env,∀Z d,(ab Z 3=.ptr 2 0∧ab Z 5=.slice 9 0 (dig 1000000000 r).length none∧ab Z 12=.int .u64 d0∧ab Z 13=.slice 10 0 (dig 1000000000 (b*d0)).length none)→
   bh (ba prog) fp dL K 146 2 true (.loop c) ⟨Z,eW A B n (dig 1000000000 b).length a (dig 1000000000 b) q I H [.cells true 1 (iN .u64 (dig 1000000000 (b*d0)))],d⟩=
    some (.exit 4,⟨F Z d,eW A B n (dig 1000000000 b).length a (dig 1000000000 b) q I H [.cells true 1 (iN .u64 (dig 1000000000 (b*d0))),.cells true 1 (iN .u64 (dig 1000000000 (b*t)))],d⟩)∧
   (ab (F Z d) 13=.slice 11 0 (dig 1000000000 (b*t)).length none∧ab (F Z d) 12=.int .u64 (t:Int)∧(∀x∈[0,3,4,5,9,10,11],ab (F Z d) x=ab Z x)):=by
 refine bj Yg (fun Z=>ab Z 3=.ptr 2 0∧ab Z 5=.slice 9 0 (dig 1000000000 r).length none∧ab Z 12=.int .u64 d0∧ab Z 13=.slice 10 0 (dig 1000000000 (b*d0)).length none)
  (fun Z O =>ab O 13=.slice 11 0 (dig 1000000000 (b*t)).length none∧ab O 12=.int .u64 (t:Int)∧(∀x∈[0,3,4,5,9,10,11],ab O x=ab Z x)) ?_
 clear Yg;rintro Z dd ⟨h3,h5,h12,h13⟩;simp[ah,aE,f157] at J;obtain⟨_,J⟩:=J;obtain⟨S,hS⟩:∃S:Nat→XS,(S d0=⟨ay [13,12] (ad c) Z ((13,.slice 10 0 (dig 1000000000 (b*d0)).length none)::(12,.int .u64 (d0:Int))::Z),eW A B n (dig 1000000000 b).length a (dig 1000000000 b) q I H [.cells true 1 (iN .u64 (dig 1000000000 (b*d0)))],dd⟩)∧
   (∀e,e≠d0→S e=⟨ay [13,12] (ad c) Z ((13,.slice 11 0 (dig 1000000000 (b*e)).length none)::(12,.int .u64 (e:Int))::Z),eW A B n (dig 1000000000 b).length a (dig 1000000000 b) q I H [.cells true 1 (iN .u64 (dig 1000000000 (b*d0))),.cells true 1 (iN .u64 (dig 1000000000 (b*e)))],dd⟩):=
  ⟨fun e=>if e=d0 then⟨ay [13,12] (ad c) Z ((13,.slice 10 0 (dig 1000000000 (b*d0)).length none)::(12,.int .u64 (d0:Int))::Z),eW A B n (dig 1000000000 b).length a (dig 1000000000 b) q I H [.cells true 1 (iN .u64 (dig 1000000000 (b*d0)))],dd⟩
   else⟨ay [13,12] (ad c) Z ((13,.slice 11 0 (dig 1000000000 (b*e)).length none)::(12,.int .u64 (e:Int))::Z),eW A B n (dig 1000000000 b).length a (dig 1000000000 b) q I H [.cells true 1 (iN .u64 (dig 1000000000 (b*d0))),.cells true 1 (iN .u64 (dig 1000000000 (b*e)))],dd⟩,by simp,fun e he=>by simp[he]⟩
 have Yi:(⟨ay [13,12] (ad c) Z Z,eW A B n (dig 1000000000 b).length a (dig 1000000000 b) q I H [.cells true 1 (iN .u64 (dig 1000000000 (b*d0)))],dd⟩:XS)=S d0:=by rw[hS.1];simp[ay,h12,h13]
 rw[Yi];have D':(eW A B n (dig 1000000000 b).length a (dig 1000000000 b) q I H [.cells true 1 (iN .u64 (dig 1000000000 (b*d0)))]).length=11:=rfl;rw[D'];refine bx (α:=Nat) S (fun e=>e-t) (fun e=>t≤e∧e≤d0) (.exit 4) _ dd _ (by simp) ?_ K d0 ⟨by omega,Nat.le_refl _⟩ (by omega);rintro e ⟨he1,he2⟩;have X:∀l,aW .u64 (eW A B n (dig 1000000000 b).length a (dig 1000000000 b) q I H l) (.slice 9 0 (dig 1000000000 r).length none)=some (dig 1000000000 r):=fun l=>aR rfl (by simpa using Y) (by rw[gW,W])
 have N:∀l,aW .u64 (eW A B n (dig 1000000000 b).length a (dig 1000000000 b) q I H l) (.slice 5 0 (dig 1000000000 b).length none)=some (dig 1000000000 b):=fun l=>aR rfl (by simp) (List.take_of_length_le (by simp))
 have R:∀l,aW .u64 (eW A B n (dig 1000000000 b).length a (dig 1000000000 b) q I H (.cells true 1 (iN .u64 (dig 1000000000 (b*d0)))::l)) (.slice 10 0 (dig 1000000000 (b*d0)).length none)=some (dig 1000000000 (b*d0)):=fun l=>aR rfl (by simp) (List.take_of_length_le (by simp))
 have U:∀x l,aW .u64 (eW A B n (dig 1000000000 b).length a (dig 1000000000 b) q I H (x::.cells true 1 (iN .u64 (dig 1000000000 (b*e)))::l)) (.slice 11 0 (dig 1000000000 (b*e)).length none)=some (dig 1000000000 (b*e)):=fun x l=>aR rfl (by simp) (List.take_of_length_le (by simp))
 have L:∀v,lok 1000000000 (dig 1000000000 v)=true:=fun v=>bO (by omega) v
 have G:∀v,aU (dig 1000000000 v)=dig 1000000000 v:=fun v=>bX (by omega) v
 have D:∀v,au 1000000000 (dig 1000000000 v)=v:=fun v=>bC (by omega) v
 have Ya:=hlb e he2;have V:(dig 1000000000 (b*e)).length≤1000000000:=by omega
 simp only[eW] at X N R U hS;by_cases hq:e=t
 ·right
  have G':e≠d0:=by omega
  have Q:¬0<jH (b*e) r:=by
   have:b*e≤r:=by rw[hq,ht];exact Nat.mul_div_le r b
   unfold jH;split
   ·omega
   ·rw[if_neg (by omega)];omega
  rw[hS.2 e G',←hq];clear hS;subst J;simp[dL,cf,bV,bE,eW,h3,h5,X,U,L,G,D,V,Q]
 ·left
  have C:t<e:=by omega
  have u:r<b*e:=by
   have:=(Nat.div_lt_iff_lt_mul H').1 (ht▸C)
   rwa [Nat.mul_comm] at this
  have Q:0<jH (b*e) r:=by unfold jH;rw[if_neg (by omega),if_pos u];omega
  have o:b≤b*e:=Nat.le_mul_of_pos_right b (by omega);have m:b*e-b=b*(e-1):=by rw[Nat.mul_sub,Nat.mul_one]
  have j:=acd e he2 (by omega);have w1:IntKind.u64.wrap ((e:Int)-1)=((e-1:Nat):Int):=by rw[cC (by omega) (by omega)];omega
  have YV:(dig 1000000000 (b*e)).length≤100000000:=Ya;refine⟨e-1,?_⟩;rw[hS.2 (e-1) (by omega)];by_cases hd:e=d0
  ·rw[hd] at Q o m j w1 YV V ⊢
   rw[hS.1];clear hS;subst J;simp[dL,cf,bV,bE,h3,h5,X,N,R,L,G,D,V,Q,o,j,m,w1,YV];omega
  ·rw[hS.2 e hd]
   clear hS;subst J;simp[dL,cf,bV,bE,h3,h5,X,N,U,L,G,D,V,Q,o,j,m,w1,YV];omega
theorem Bb(A B:List Nat)(n:Nat)(a q I H:List Nat)(b r t:Nat)(ht:b*t≤r)(W:H.take (dig 1000000000 r).length=dig 1000000000 r)(Y:(dig 1000000000 r).length≤H.length)(hK:0<K)(hlb:(dig 1000000000 (b*t)).length≤1000000000)(J:ah f157=[b1,c])(Yg:fp c=[13,12]):
  ∃F:Env→Bool→Env,∀Z d,(ab Z 3=.ptr 2 0∧ab Z 5=.slice 9 0 (dig 1000000000 r).length none∧ab Z 12=.int .u64 t∧ab Z 13=.slice 10 0 (dig 1000000000 (b*t)).length none)→
   bh (ba prog) fp dL K 146 2 true (.loop c) ⟨Z,eW A B n (dig 1000000000 b).length a (dig 1000000000 b) q I H [.cells true 1 (iN .u64 (dig 1000000000 (b*t)))],d⟩=
    some (.exit 4,⟨F Z d,eW A B n (dig 1000000000 b).length a (dig 1000000000 b) q I H [.cells true 1 (iN .u64 (dig 1000000000 (b*t)))],d⟩)∧
   (ab (F Z d) 13=.slice 10 0 (dig 1000000000 (b*t)).length none∧ab (F Z d) 12=.int .u64 (t:Int)∧(∀x∈[0,3,4,5,9,10,11],ab (F Z d) x=ab Z x)):=by
 refine bj Yg (fun Z=>ab Z 3=.ptr 2 0∧ab Z 5=.slice 9 0 (dig 1000000000 r).length none∧ab Z 12=.int .u64 t∧ab Z 13=.slice 10 0 (dig 1000000000 (b*t)).length none)
  (fun Z U =>ab U 13=.slice 10 0 (dig 1000000000 (b*t)).length none∧ab U 12=.int .u64 (t:Int)∧(∀x∈[0,3,4,5,9,10,11],ab U x=ab Z x)) ?_
 clear Yg;rintro Z dd ⟨h3,h5,h12,h13⟩;simp[ah,aE,f157] at J;obtain⟨_,J⟩:=J;obtain⟨K,rfl⟩:∃S,K=S +1:=⟨K-1,by omega⟩
 have X:∀l,aW .u64 (eW A B n (dig 1000000000 b).length a (dig 1000000000 b) q I H l) (.slice 9 0 (dig 1000000000 r).length none)=some (dig 1000000000 r):=fun l=>aR rfl (by simpa using Y) (by rw[gW,W])
 have V:∀l,aW .u64 (eW A B n (dig 1000000000 b).length a (dig 1000000000 b) q I H (.cells true 1 (iN .u64 (dig 1000000000 (b*t)))::l)) (.slice 10 0 (dig 1000000000 (b*t)).length none)=some (dig 1000000000 (b*t)):=fun l=>aR rfl (by simp) (List.take_of_length_le (by simp))
 have R:∀v,lok 1000000000 (dig 1000000000 v)=true:=fun v=>bO (by omega) v
 have Q:∀v,aU (dig 1000000000 v)=dig 1000000000 v:=fun v=>bX (by omega) v
 have O:∀v,au 1000000000 (dig 1000000000 v)=v:=fun v=>bC (by omega) v
 have N:¬0<jH (b*t) r:=by
  unfold jH;split
  ·omega
  ·rw[if_neg (by omega)];omega
 simp only[eW] at X V;subst J;simp[gi,dL,cf,bV,bE,eW,h3,h5,h12,h13,X,V,R,Q,O,hlb,N]
def wK(b:Nat):List Nat→List Nat
 | []=>[]
 |x::l=>if x+1000000000*(fE 1000000000 b l).2<b then x::dig 1000000000 (fE 1000000000 b l).2 else dig 1000000000 ((x+1000000000*(fE 1000000000 b l).2)%b)
theorem CO{b:Nat}:∀{l:List Nat},lok 1000000000 l=true→(wK b l).take (dig 1000000000 (fE 1000000000 b l).2).length=dig 1000000000 (fE 1000000000 b l).2∧(dig 1000000000 (fE 1000000000 b l).2).length≤(wK b l).length
 | [],_=>by simp[wK,fE,dD]
 |x::l,h=>by
  rw[cI,Bool.and_eq_true,decide_eq_true_eq] at h;have e:(fE 1000000000 b (x::l)).2=(x+1000000000*(fE 1000000000 b l).2)%b:=by simp only[fE];rw[Nat.mul_comm,Nat.add_comm]
  rw[e,wK];split
  ·rename_i Z
   rw[Nat.mod_eq_of_lt Z,←GC (by omega) h.1];exact⟨kF _,cR _⟩
  ·exact⟨List.take_of_length_le (Nat.le_refl _),Nat.le_refl _⟩
def iv(A B:List Nat)(a:List Nat)(b k:Nat):Mem:=
 [.cells false 1 (iN .u64 A),.cells false 1 (iN .u64 B),.cells true 0 [.slice 5 0 (dig 1000000000 b).length none],.cells true 0 [.slice 6 0 a.length none],.cells true 1 (iN .u64 a),.cells true 1 (iN .u64 (dig 1000000000 b)),.cells true 1 (iN .u64 (List.replicate k 0++(fE 1000000000 b (a.drop k)).1))]
  ++ if k=a.length then [] else [.cells true 1 (iN .u64 (wK b (a.drop k)))]
def xW(a:List Nat)(b k:Nat):AV:=if k=a.length then .qF else .slice 7 0 (dig 1000000000 (fE 1000000000 b (a.drop k)).2).length none
theorem DB(A B a:List Nat)(b top:Nat)(ha:lok 1000000000 a=true)(hl:a.length≤10000000)(hm:2≤(dig 1000000000 b).length)(hn:(dig 1000000000 b).length≤a.length)(Zl:(dig 1000000000 b)[(dig 1000000000 b).length-1]? =some top)(hK:2000000000<K)(hb:ah f157=[b1,c]∧fp b1=[11,5]∧fp c=[13,12]):
  ∃F:Env→Bool→Env,∀X d,(ab X 0=.slice 4 0 a.length none∧ab X 3=.ptr 2 0∧ab X 4=.ptr 3 0∧ab X 10=.int .u64 top∧ab X 5=.qF∧ab X 11=.int .i64 ((a.length:Int)-1))→
   bh (ba prog) fp dL K 146 2 true (.loop b1) ⟨X,iv A B a b a.length,d⟩=some (.exit 2,⟨F X d,iv A B a b 0,d⟩)∧
   (ab (F X d) 5=xW a b 0∧(∀x∈[3,4,9],ab (F X d) x=ab X x)):=by
 refine bj hb.2.1 (fun X=>ab X 0=.slice 4 0 a.length none∧ab X 3=.ptr 2 0∧ab X 4=.ptr 3 0∧ab X 10=.int .u64 top∧ab X 5=.qF∧ab X 11=.int .i64 ((a.length:Int)-1))
  (fun X AC =>ab AC 5=xW a b 0∧(∀x∈[3,4,9],ab AC x=ab X x)) ?_
 rintro X dd ⟨h0,h3,h4,YT,h5,h11⟩;have o:=hb.1;simp[ah,aE,f157] at o;obtain⟨o,YL⟩:=o;have Yi:ay [11,5] (ad b1) X ((11,.int .i64 ((a.length:Int)-1))::(5,xW a b a.length)::X)=ay [11,5] (ad b1) X X:=by simp[ay,h5,h11,xW]
 rw[←Yi];have abH:(iv A B a b a.length).length=7:=by simp[iv]
 rw[abH];refine bx (α:=Nat) (fun k=>⟨ay [11,5] (ad b1) X ((11,.int .i64 ((k:Int)-1))::(5,xW a b k)::X),iv A B a b k,dd⟩) id (fun k=>k≤a.length) (.exit 2) _ dd _ (by simp) ?_ K a.length (Nat.le_refl _) (by simp;omega);intro k hk;clear Yi abH;have hbv:1000000000≤b:=by have h:=sN (B:=1000000000) (by omega) b (by rintro rfl;rw[dD] at hm;simp at hm);have:1000000000 ^ 1≤1000000000 ^ ((dig 1000000000 b).length-1):=Nat.pow_le_pow_right (by omega) (by omega);omega
 cases k with
 |zero=>
  right;subst o;simp
 |succ i=>
  left;have B':i<a.length:=by omega
  obtain⟨x,hx,X9⟩:=cM B';have Ym:=ed ha hx;have eA:a.drop i=x::a.drop (i+1):=by rw[List.drop_eq_getElem_cons B',X9]
  have G':¬i=a.length:=by omega
  obtain⟨d1,d2,d3,d4⟩:=iF (B:=1000000000) (d:=b) (by omega) (a.drop (i+1)) (iU ha _);obtain⟨r,hr⟩:=xE ((fE 1000000000 b (a.drop (i+1))).2);obtain⟨q,hq⟩:=xE ((fE 1000000000 b (a.drop (i+1))).1);obtain⟨Yq,ZY⟩:=xE (wK b (a.drop (i+1)));obtain⟨t1,t2⟩:=CO (b:=b) (iU ha (i+1));obtain⟨Z,hr'⟩:=xE (x+1000000000*r);have hq2:(fE 1000000000 b (a.drop i)).1=Z / b::q:=by rw[eA,hq,hr',hr];simp only[fE];rw[Nat.mul_comm,Nat.add_comm]
  have YB:(fE 1000000000 b (a.drop i)).2=Z %b:=by rw[eA,hr',hr];simp only[fE];rw[Nat.mul_comm,Nat.add_comm]
  have acG:wK b (a.drop i)=if Z <b then x::dig 1000000000 r else dig 1000000000 (Z %b):=by rw[eA,wK,←hr,←hr']
  have hqz:(List.replicate (i+1) 0++q:List Nat)=List.replicate i 0++0::q:=by rw[List.replicate_succ'];simp
  rw[←hr] at t1 t2 d1;rw[←ZY] at t1 t2;rw[←hq] at d4;have Zy:(iN .u64 Yq).take (dig 1000000000 r).length=iN .u64 (dig 1000000000 r):=by rw[gW,t1]
  have V:aU (x::dig 1000000000 r)=dig 1000000000 Z :=by rw[hr'];exact GC (by omega) Ym
  have hrl:(dig 1000000000 r).length≤a.length:=by
   have:(dig 1000000000 r).length≤(dig 1000000000 b).length:=by
    rcases Nat.lt_or_ge (dig 1000000000 b).length (dig 1000000000 r).length with h | h
    ·have:=dz (B:=1000000000) (by omega) h;omega
    ·exact h
   omega
  have w1:IntKind.i64.wrap ((i:Int)-1)=(i:Int)-1:=ae;have hI:(i:Int)<(a.length:Int):=by omega
  have e1:(((i+1:Nat):Int)-1)=(i:Int):=by omega
  have hR0:xW a b i=.slice 7 0 (dig 1000000000 (Z %b)).length none:=by unfold xW;rw[if_neg G',YB]
  have hM0:iv A B a b i=[.cells false 1 (iN .u64 A),.cells false 1 (iN .u64 B),.cells true 0 [.slice 5 0 (dig 1000000000 b).length none],.cells true 0 [.slice 6 0 a.length none],.cells true 1 (iN .u64 a),.cells true 1 (iN .u64 (dig 1000000000 b)),.cells true 1 (iN .u64 (List.replicate i 0++Z / b::q)),
    .cells true 1 (iN .u64 (if Z <b then x::dig 1000000000 r else dig 1000000000 (Z %b)))]:=by unfold iv;rw[if_neg G',hq2,acG];rfl
  have lo:∀v,lok 1000000000 (dig 1000000000 v)=true:=fun v=>bO (by omega) v
  have lt:∀v,aU (dig 1000000000 v)=dig 1000000000 v:=fun v=>bX (by omega) v
  have lv:∀v,au 1000000000 (dig 1000000000 v)=v:=fun v=>bC (by omega) v
  have abm:(dig 1000000000 r).length+1≤1000000000:=by omega
  have hxl:lok 1000000000 (x::dig 1000000000 r)=true:=by rw[cI,lo];simp[Ym]
  have abn :(dig 1000000000 Z).length≤(dig 1000000000 r).length+1:=by rw[←V];exact cR (x::dig 1000000000 r)
  have J:(dig 1000000000 Z).length≤1000000000:=by omega
  refine⟨i,?_⟩;rw[e1];refine bt (r:=_∧_) (show i≤a.length∧id i<id (i+1) from⟨by omega,by simp⟩) ?_;by_cases YW:i+1=a.length
  ·have Zx:a.drop (i+1)=[]:=by rw[YW,List.drop_length]
   have hr0:r=0:=by rw[hr,Zx];rfl
   have hq0:q=[]:=by rw[hq,Zx];rfl
   have aeW:Z =x:=by omega
   have T' :Z <b:=by omega
   have hR1:xW a b (i+1)=.qF:=by unfold xW;rw[if_pos YW]
   have hM1:iv A B a b (i+1)=[.cells false 1 (iN .u64 A),.cells false 1 (iN .u64 B),.cells true 0 [.slice 5 0 (dig 1000000000 b).length none],.cells true 0 [.slice 6 0 a.length none],.cells true 1 (iN .u64 a),.cells true 1 (iN .u64 (dig 1000000000 b)),.cells true 1 (iN .u64 (List.replicate i 0++0::q))]:=by unfold iv;rw[if_pos YW,←hq,hqz];simp
   rw[hM1,hM0,hR1,hR0,if_pos T',Nat.mod_eq_of_lt T',Nat.div_eq_of_lt T'];have hc:jH Z b<0:=by unfold jH;rw[if_pos T'];omega
   rw[hr0,dD] at V;rw[hr0,dD];have hs8:∀U S R Q O N G C l,aW .u64 (U::S::R::Q::O::N::G::C::.cells true 1 [.int .u64 (x:Int)]::l) (.slice 8 0 1 none)=some [x]:=fun U S R Q O N G C l=>aR (A:=[x]) rfl (by simp) rfl
   have adP :∀U S R Q O N G C l,aW .u64 (U::S::R::Q::O::N::G::C::.cells true 1 [.int .u64 (x:Int)]::l) (.slice 8 0 (dig 1000000000 Z).length none)=some (dig 1000000000 Z):=fun U S R Q O N G C l=>by have W:=cR [x];rw[V] at W;refine aR rfl (by simpa using W) ?_;have:([.int .u64 (x:Int)]:List AV)=iN .u64 [x]:=rfl;rw[this,gW,←V,kF]
   have hs5:∀U S R Q O l,aW .u64 (U::S::R::Q::O::.cells true 1 (iN .u64 (dig 1000000000 b))::l) (.slice 5 0 (dig 1000000000 b).length none)=some (dig 1000000000 b):=fun U S R Q O l=>aR rfl (by simp) (List.take_of_length_le (by simp))
   subst o;simp[dL,cf,bV,bE,h0,h3,X9,hI,B',hs8,adP,hs5,V,lo,lt,lv,hc,w1,J,ca]
  ·have hR1:xW a b (i+1)=.slice 7 0 (dig 1000000000 r).length none:=by unfold xW;rw[if_neg YW,←hr]
   have hM1:iv A B a b (i+1)=[.cells false 1 (iN .u64 A),.cells false 1 (iN .u64 B),.cells true 0 [.slice 5 0 (dig 1000000000 b).length none],.cells true 0 [.slice 6 0 a.length none],.cells true 1 (iN .u64 a),.cells true 1 (iN .u64 (dig 1000000000 b)),.cells true 1 (iN .u64 (List.replicate i 0++0::q)),.cells true 1 (iN .u64 Yq)]:=by unfold iv;rw[if_neg YW,←hq,←ZY,hqz];rfl
   have hs9:∀U S R Q O N G C a8 l,aW .u64 (U::S::R::Q::O::N::G::C::a8::.cells true 1 (.int .u64 (x:Int)::iN .u64 (dig 1000000000 r))::l) (.slice 9 0 (1+(dig 1000000000 r).length) none)=some (x::dig 1000000000 r):=fun U S R Q O N G C a8 l=>
    aR (A:=x::dig 1000000000 r) rfl (by simp;omega) (List.take_of_length_le (by simp;omega))
   have abo :∀U S R Q O N G C a8 l,aW .u64 (U::S::R::Q::O::N::G::C::a8::.cells true 1 (.int .u64 (x:Int)::iN .u64 (dig 1000000000 r))::l) (.slice 9 0 (dig 1000000000 Z).length none)=some (dig 1000000000 Z):=fun U S R Q O N G C a8 l=>by refine aR rfl (by simpa using abn) ?_;rw[←ca,gW,←V,kF]
   have hs5:∀U S R Q O l,aW .u64 (U::S::R::Q::O::.cells true 1 (iN .u64 (dig 1000000000 b))::l) (.slice 5 0 (dig 1000000000 b).length none)=some (dig 1000000000 b):=fun U S R Q O l=>aR rfl (by simp) (List.take_of_length_le (by simp))
   have g1:(1+(dig 1000000000 r).length)*8≤140737488355328:=by omega
   have g2:1+(dig 1000000000 r).length≤140737488355328:=by omega
   rw[hM1,hM0,hR1,hR0];by_cases T' :Z <b
   ·have hc:jH Z b<0:=by unfold jH;rw[if_pos T'];omega
    rw[if_pos T',Nat.mod_eq_of_lt T',Nat.div_eq_of_lt T'];subst o;simp[dL,cf,bV,bE,h0,h3,X9,hI,B',hs9,abo,hs5,V,lo,lt,lv,hc,w1,abm,J,t2,Zy,g1,g2,ca]
   ·rw[if_neg T']
    have hc:¬jH Z b<0:=by unfold jH;rw[if_neg T'];split<;>omega
    have hrb:Z <1000000000*b:=by omega
    have hL:=xT (B:=1000000000) (by omega) rfl hrb (by omega);obtain⟨m,I⟩:=xE ((dig 1000000000 b).length);obtain⟨L,hLL⟩:=xE ((dig 1000000000 Z).length);obtain⟨p1,hp1⟩:=xE (L-1);have adQ:p1<(dig 1000000000 Z).length:=by omega
    have wp1:IntKind.i64.wrap (((dig 1000000000 Z).length:Int)-1)=(p1:Int):=by rw[ae];omega
    have ab0:(p1:Int)<((dig 1000000000 Z).length:Int):=by omega
    obtain⟨D1,hD1,aeX⟩:=cM adQ;have aeY:=ed (lo Z) hD1;have aai:∀(j v:Nat),(dig 1000000000 Z)[j]? =some v→(AV.int IntKind.u64 (x:Int)::iN .u64 (dig 1000000000 r))[j]? =some (AV.int IntKind.u64 (v:Int)):=fun j v hv=>by
     rw[←V,j8,List.getElem?_take] at hv;split at hv
     ·rw[←ca,SE,hv];rfl
     ·cases hv
    have hc1:=aai _ _ hD1;obtain⟨D,hDD,hDb⟩:∃D,((L=m∧D=D1)∨(L=m+1∧∃l,(dig 1000000000 Z)[m-1]? =some l∧D=D1*1000000000+l))∧D<1000000000*1000000000:=by
     rcases hL with h | h
     ·exact⟨D1,.inl ⟨by omega,rfl⟩,by omega⟩
     ·obtain⟨l,Y4,_⟩:=cM (l:=dig 1000000000 Z) (i:=m-1) (by omega)
      have:=ed (lo Z) Y4;exact⟨D1*1000000000+l,.inr ⟨by omega,l,Y4,rfl⟩,by omega⟩
    obtain⟨gt,g3,g4⟩:=U4 (B:=1000000000) (r:=Z) (b:=b) (m:=m) (D:=D) (top:=top) (by omega) I.symm (by omega) (by rw[I];exact Zl) hrb (by omega) (by
     rcases hDD with⟨W,rfl⟩ | ⟨W,l,h2,rfl⟩
     ·left;exact⟨by omega,by rw[show m-1=p1 by omega];exact hD1⟩
     ·right;exact⟨by omega,D1,l,by rw[show m=p1 by omega];exact hD1,h2,rfl⟩)
    obtain⟨g,hg⟩:=xE (D / top);obtain⟨d0,Zx⟩:=xE (min g 999999999);obtain⟨t,ht⟩:=xE (Z / b);rw[←hg,←ht] at g3;rw[←ht] at g4;have htd:t≤d0:=by omega
    have adR:d0<1000000000:=by omega
    have H:b*t≤Z :=by rw[ht];exact Nat.mul_div_le Z b
    have H':0<b:=by omega
    have adS:d0<K:=by omega
    have hK0:0<K:=by omega
    have abp:(d0:Int)<1000000000:=by omega
    have YS:Z -b*t=Z %b:=by have:=Nat.mod_add_div Z b;rw[←ht] at this;omega
    have mono:∀u v,u≤v→(dig 1000000000 u).length≤(dig 1000000000 v).length:=fun u v h=>by
     rcases Nat.lt_or_ge (dig 1000000000 v).length (dig 1000000000 u).length with h' | h'
     ·have:=dz (B:=1000000000) (by omega) h';omega
     ·exact h'
    have hlb:∀d,d≤d0→(dig 1000000000 (b*d)).length≤100000000:=fun d hd=>by
     have W:b*d<1000000000 ^ (m+1):=by have h2:=sB (B:=1000000000) (by omega) b;rw[←I] at h2;rw[Nat.pow_succ];exact Nat.mul_lt_mul_of_lt_of_lt h2 (by omega)
     have:=eN (B:=1000000000) (by omega) W;omega
    have acd:∀d,d≤d0→0<d→(dig 1000000000 b).length≤(dig 1000000000 (b*d)).length:=fun d _ hd=>mono _ _ (Nat.le_mul_of_pos_right b hd)
    have aaO:(x::dig 1000000000 r).take (dig 1000000000 Z).length=dig 1000000000 Z :=by rw[←V,kF]
    have aeN:=ed (lo b) Zl;have hgD:g≤D:=by rw[hg];exact Nat.div_le_self _ _
    have wg:IntKind.u64.wrap (g:Int)=(g:Int):=cC (by omega) (by omega);have wD:IntKind.u64.wrap ((D:Int) / (top:Int))=(g:Int):=by rw[←Int.natCast_ediv,←hg];exact wg
    have wD' :IntKind.u64.wrap ((D:Int).tdiv (top:Int))=(g:Int):=by rw[wO,←hg];exact wg
    have aaC:¬top=0:=by omega
    have ZI:(if (999999999:Int)<(g:Int) then (999999999:Int) else (g:Int))=(d0:Int):=by split<;>omega
    have aaD:(dig 1000000000 Z).length≤100000000:=by omega
    have aaf:(dig 1000000000 (b*t)).length≤(dig 1000000000 Z).length:=mono _ _ H;have aaE:(dig 1000000000 b).length≤100000000:=by omega
    have acH:=hlb d0 (Nat.le_refl _);have ab1:(List.replicate i 0++0::q).take i=List.replicate i 0:=List.take_left' (by simp);have ab2:(List.replicate i 0++0::q).drop (i+1)=q:=by rw[List.drop_append,List.drop_of_length_le (by simp)];simp
    have hql:i<(List.replicate i 0++0::q).length:=by simp
    have ac1:∀(v:Nat) U S R Q O N G C a8 a9 l,aW .u64 (U::S::R::Q::O::N::G::C::a8::a9::.cells true 1 (iN .u64 (dig 1000000000 v))::l) (.slice 10 0 (dig 1000000000 v).length none)=some (dig 1000000000 v):=fun v U S R Q O N G C a8 a9 l=>aR rfl (by simp) (List.take_of_length_le (by simp))
    have ac2:∀(v:Nat) U S R Q O N G C a8 a9 a10 l,aW .u64 (U::S::R::Q::O::N::G::C::a8::a9::a10::.cells true 1 (iN .u64 (dig 1000000000 v))::l) (.slice 11 0 (dig 1000000000 v).length none)=some (dig 1000000000 v):=fun v U S R Q O N G C a8 a9 a10 l=>aR rfl (by simp) (List.take_of_length_le (by simp))
    rw[←ht];rw[I] at hDD;rw[hLL] at hDD;subst o;rcases Nat.lt_or_ge t d0 with htlt | htge
    ·obtain⟨F,hF⟩:=DA (K:=K) A B a.length a (List.replicate i 0++0::q) Yq (x::dig 1000000000 r) b Z d0 t ht aaO (by simpa using abn) H' htlt adR adS hlb acd hb.1 hb.2.2
     simp only[eW,ca] at hF;subst YL;rcases hDD with⟨W,rfl⟩ | ⟨W,l,h2,h3'⟩
     ·have Y:¬(dig 1000000000 b).length<(dig 1000000000 Z).length:=by omega
      clear W;simp[dL,cf,bV,bE,h0,h3,h4,YT,X9,hI,B',hs9,abo,hs5,V,lo,lt,lv,hc,w1,abm,J,t2,Zy,g1,g2,Y,hc1,wp1,ab0,wD,aaC,ZI,aaD,aaf,aaE,abp,hF,ac2,H,YS,gW,ru,ab1,ab2,Nat.testBit];rw[dh,ca]
     ·have Y:(dig 1000000000 b).length<(dig 1000000000 Z).length:=by omega
      obtain⟨p2,hp2⟩:=xE (m-1);rw[←I,←hp2] at h2;have Z9:=aai _ _ h2;have adT:=ed (lo Z) h2;have wp2:IntKind.i64.wrap (((dig 1000000000 Z).length:Int)-2)=(p2:Int):=by rw[ae];omega
      have wl1:IntKind.u64.wrap ((D1:Int)*1000000000)=(D1:Int)*1000000000:=cC (by omega) (by omega);have wl2:IntKind.u64.wrap ((D1:Int)*1000000000+(l:Int))=(D:Int):=by rw[cC (by omega) (by omega)];omega
      have abc:(p2:Int)<((dig 1000000000 Z).length:Int):=by omega
      clear W;simp[dL,cf,bV,bE,h0,h3,h4,YT,X9,hI,B',hs9,abo,hs5,V,lo,lt,lv,hc,w1,abm,J,t2,Zy,g1,g2,Y,Z9,wp2,abc,wl1,wl2,hc1,wp1,ab0,wD,aaC,ZI,aaD,aaf,aaE,abp,hF,ac2,H,YS,gW,ru,ab1,ab2,Nat.testBit];rw[dh,ca]
    ·have adU:t=d0:=by omega
     rw[←adU] at acH abp ZI;obtain⟨F,hF⟩:=Bb (K:=K) A B a.length a (List.replicate i 0++0::q) Yq (x::dig 1000000000 r) b Z t H aaO (by simpa using abn) hK0 (by omega) hb.1 hb.2.2;simp only[eW,ca] at hF;subst YL;rcases hDD with⟨W,rfl⟩ | ⟨W,l,h2,h3'⟩
     ·have Y:¬(dig 1000000000 b).length<(dig 1000000000 Z).length:=by omega
      clear W;simp[dL,cf,bV,bE,h0,h3,h4,YT,X9,hI,B',hs9,abo,hs5,V,lo,lt,lv,hc,w1,abm,J,t2,Zy,g1,g2,Y,hc1,wp1,ab0,wD,aaC,ZI,aaD,aaf,aaE,abp,hF,ac1,H,YS,gW,ru,ab1,ab2,Nat.testBit];rw[dh,ca]
     ·have Y:(dig 1000000000 b).length<(dig 1000000000 Z).length:=by omega
      obtain⟨p2,hp2⟩:=xE (m-1);rw[←I,←hp2] at h2;have Z9:=aai _ _ h2;have adT:=ed (lo Z) h2;have wp2:IntKind.i64.wrap (((dig 1000000000 Z).length:Int)-2)=(p2:Int):=by rw[ae];omega
      have wl1:IntKind.u64.wrap ((D1:Int)*1000000000)=(D1:Int)*1000000000:=cC (by omega) (by omega);have wl2:IntKind.u64.wrap ((D1:Int)*1000000000+(l:Int))=(D:Int):=by rw[cC (by omega) (by omega)];omega
      have abc:(p2:Int)<((dig 1000000000 Z).length:Int):=by omega
      clear W;simp[dL,cf,bV,bE,h0,h3,h4,YT,X9,hI,B',hs9,abo,hs5,V,lo,lt,lv,hc,w1,abm,J,t2,Zy,g1,g2,Y,Z9,wp2,abc,wl1,wl2,hc1,wp1,ab0,wD,aaC,ZI,aaD,aaf,aaE,abp,hF,ac1,H,YS,gW,ru,ab1,ab2,Nat.testBit];rw[dh,ca]
theorem FK(A B:List Nat)(H:Nat)(hA:lok 1000000000 A=true)(hB:lok 1000000000 B=true)(hl:A.length≤1000000)(tA:aU A=A)(tB:aU B=B)(hm:2≤B.length)(Zl:B[B.length-1]? =some H)(Ya:au 1000000000 B≤au 1000000000 A):
  ∃q,aU q=dig 1000000000 (au 1000000000 A / au 1000000000 B)∧aa (ba prog) fp (aT prog) dL 2000000001 157 [.slice 0 0 A.length none,.slice 1 0 B.length none] [.cells false 1 (iN .u64 A),.cells false 1 (iN .u64 B)]=
   some (if au 1000000000 A%au 1000000000 B=0 then⟨.tuple [.slice 2 0 (aU q).length none,.qF],none,[.cells true 1 (iN .u64 q)]⟩ else
    ⟨.tuple [.slice 2 0 (aU q).length none,.slice 3 0 (dig 1000000000 (au 1000000000 A%au 1000000000 B)).length none],none,[.cells true 1 (iN .u64 q),.cells true 1 (iN .u64 (dig 1000000000 (au 1000000000 A%au 1000000000 B)))]⟩):=by
 obtain⟨b1,c,hb⟩:∃b1 c,ah f157=[b1,c]∧fp b1=[11,5]∧fp c=[13,12]:=⟨_,_,rfl,by decide,by decide⟩
 have dA:=mi (B:=1000000000) (by omega) hA tA;have J:=mi (B:=1000000000) (by omega) hB tB;obtain⟨av,S⟩:=xE (au 1000000000 A);obtain⟨X,m⟩:=xE (au 1000000000 B);rw[←S] at dA Ya ⊢;rw[←m] at J Ya ⊢;have htb:=ed hB Zl;obtain⟨f,I⟩:=xE (1000000000 / (H+1));have YK:1≤f:=by rw[I,Nat.le_div_iff_mul_le (by omega)];omega
 have aeZ:1000000000≤X:=by have h:=sN (B:=1000000000) (by omega) X (by rintro rfl;rw[dD] at J;rw[←J] at hm;simp at hm);rw[J] at h;have:1000000000 ^ 1≤1000000000 ^ (B.length-1):=Nat.pow_le_pow_right (by omega) (by omega);omega
 have htp:0<H:=by
  rcases Nat.eq_zero_or_pos H with h | h
  ·have h2:aU B=aU (B.take (B.length-1)):=by
    have B':B.length-1<B.length:=by omega
    have ht:=(List.getElem?_eq_some_iff.1 Zl).2;conv=>lhs;rw[←List.take_append_drop (B.length-1) B,List.drop_eq_getElem_cons B',ht,List.drop_of_length_le (by omega),h]
    exact iW _
   have h3:=cR (B.take (B.length-1));rw[←h2,tB,List.length_take] at h3;omega
  ·exact h
 have j:f<1000000000:=by rw[I,Nat.div_lt_iff_lt_mul (by omega)];omega
 have mono:∀u v,u≤v→(dig 1000000000 u).length≤(dig 1000000000 v).length:=fun u v h=>by
  rcases Nat.lt_or_ge (dig 1000000000 v).length (dig 1000000000 u).length with h' | h'
  ·have:=dz (B:=1000000000) (by omega) h';omega
  ·exact h'
 have hmB:2≤(dig 1000000000 (X*f)).length:=by have:=mono X (X*f) (Nat.le_mul_of_pos_right X YK);rw[J] at this;omega
 have hmA:(dig 1000000000 (X*f)).length≤(dig 1000000000 (av*f)).length:=mono _ _ (Nat.mul_le_mul_right _ Ya);have hlA:(dig 1000000000 (av*f)).length≤A.length+1:=by
  have h1:av*f<1000000000 ^ (A.length+1):=by have h2:=gd hA;rw[←S] at h2;rw[Nat.pow_succ];exact Nat.mul_lt_mul_of_lt_of_lt h2 j
  exact eN (by omega) h1
 obtain⟨top,R,_⟩:=cM (l:=dig 1000000000 (X*f)) (i:=(dig 1000000000 (X*f)).length-1) (by omega);obtain⟨F,hF⟩:=DB (K:=2000000001) A B (dig 1000000000 (av*f)) (X*f) top (bO (by omega) _) (by omega) hmB hmA R (by omega) hb;obtain⟨a,Y⟩:=xE (dig 1000000000 (av*f));obtain⟨Z,V⟩:=xE (X*f);rw[←Y,←V] at hF hmA;rw[←V] at R hmB;rw[←Y] at hlA;have ac3:0<Z:=by rw[V];exact Nat.mul_pos (by omega) (by omega)
 obtain⟨i1,i2,i3,i4⟩:=iF (B:=1000000000) ac3 a (by rw[Y];exact bO (by omega) _);have hva:au 1000000000 a=av*f:=by rw[Y];exact bC (by omega) _
 rw[hva] at i2;obtain⟨q,hq⟩:=xE ((fE 1000000000 Z a).1);obtain⟨U,Q⟩:=xE ((fE 1000000000 Z a).2);rw[←hq,←Q] at i2;rw[←hq] at i3 i4;rw[←Q] at i1;have hqv:au 1000000000 q=av / X:=by
  have h1:(av*f) / Z=au 1000000000 q:=by rw[←i2,Nat.mul_comm,Nat.mul_add_div ac3,Nat.div_eq_of_lt i1,Nat.add_zero]
  rw[←h1,V,Nat.mul_div_mul_right _ _ (by omega)]
 have hrv:U=(av%X)*f:=by
  have h1:(av*f)%Z=U:=by rw[←i2,Nat.mul_comm,Nat.mul_add_mod,Nat.mod_eq_of_lt i1]
  rw[←h1,V,Nat.mul_mod_mul_right]
 have hrf:U / f=av%X:=by rw[hrv,Nat.mul_div_cancel _ (by omega)]
 refine⟨q,by rw[←dC (by omega) i3,hqv],?_⟩;have Yi:¬0=a.length:=by omega
 obtain⟨rt1,rt2⟩:=CO (b:=Z) (l:=a) (by rw[Y];exact bO (by omega) _);obtain⟨row,aaI⟩:=xE (wK Z a);rw[←aaI,←Q] at rt1 rt2;have hH0:iv A B a Z 0=[.cells false 1 (iN .u64 A),.cells false 1 (iN .u64 B),.cells true 0 [.slice 5 0 (dig 1000000000 Z).length none],.cells true 0 [.slice 6 0 a.length none],.cells true 1 (iN .u64 a),.cells true 1 (iN .u64 (dig 1000000000 Z)),.cells true 1 (iN .u64 q),.cells true 1 (iN .u64 row)]:=by unfold iv;rw[if_neg Yi,List.drop_zero,←hq,←aaI];rfl
 have hHn:iv A B a Z a.length=[.cells false 1 (iN .u64 A),.cells false 1 (iN .u64 B),.cells true 0 [.slice 5 0 (dig 1000000000 Z).length none],.cells true 0 [.slice 6 0 a.length none],.cells true 1 (iN .u64 a),.cells true 1 (iN .u64 (dig 1000000000 Z)),.cells true 1 (iN .u64 (List.replicate a.length 0))]:=by unfold iv;rw[if_pos rfl,List.drop_length];simp[fE]
 have hR0:xW a Z 0=.slice 7 0 (dig 1000000000 U).length none:=by unfold xW;rw[if_neg Yi,List.drop_zero,←Q]
 rw[hH0,hHn,hR0] at hF;obtain⟨O,_⟩:=hb;simp[ah,aE,f157] at O;obtain⟨O,_⟩:=O;subst O;have lo:∀v,lok 1000000000 (dig 1000000000 v)=true:=fun v=>bO (by omega) v
 have lt:∀v,aU (dig 1000000000 v)=dig 1000000000 v:=fun v=>bX (by omega) v
 have lv:∀v,au 1000000000 (dig 1000000000 v)=v:=fun v=>bC (by omega) v
 have hs0:∀l,aW .u64 (.cells false 1 (iN .u64 A)::l) (.slice 0 0 A.length none)=some A:=fun l=>aR rfl (by simp) (List.take_of_length_le (by simp))
 have hs1:∀x l,aW .u64 (x::.cells false 1 (iN .u64 B)::l) (.slice 1 0 B.length none)=some B:=fun x l=>aR rfl (by simp) (List.take_of_length_le (by simp))
 have hs6:∀N L G D C o l,aW .u64 (N::L::G::D::C::o::.cells true 1 (iN .u64 q)::l) (.slice 6 0 a.length none)=some q:=fun N L G D C o l=>aR rfl (by simp[i4]) (List.take_of_length_le (by simp[i4]))
 have hs7:∀N L G D C o a6 l,aW .u64 (N::L::G::D::C::o::a6::.cells true 1 (iN .u64 row)::l) (.slice 7 0 (dig 1000000000 U).length none)=some (dig 1000000000 U):=fun N L G D C o a6 l=>aR rfl (by simpa using rt2) (by rw[gW,rt1])
 have hs8:∀N L G D C o a6 a7 l,aW .u64 (N::L::G::D::C::o::a6::a7::.cells true 1 [.int .u64 (f:Int)]::l) (.slice 8 0 1 none)=some [f]:=fun N L G D C o a6 a7 l=>aR (A:=[f]) rfl (by simp) rfl
 have hc:¬jH av X<0:=by unfold jH;rw[if_neg (by omega)];split<;>omega
 obtain⟨p,hp⟩:=xE (B.length-1);rw[←hp] at Zl;have hpB:p<B.length:=by omega
 have abI :B[p]=H:=(List.getElem?_eq_some_iff.1 Zl).2;obtain⟨p2,hp2⟩:=xE ((dig 1000000000 Z).length-1);rw[←hp2] at R;have ac4:p2<(dig 1000000000 Z).length:=by omega
 have aaP :(dig 1000000000 Z)[p2]=top:=(List.getElem?_eq_some_iff.1 R).2;have hlB:B.length≤A.length:=by rw[←dA,←J];exact mono _ _ Ya
 have wp:IntKind.i64.wrap ((B.length:Int)-1)=(p:Int):=by rw[ae];omega
 have wp2:IntKind.i64.wrap (((dig 1000000000 Z).length:Int)-1)=(p2:Int):=by rw[ae];omega
 have Y5:(dig 1000000000 Z).length≤1000001:=by omega
 have wan:IntKind.i64.wrap ((a.length:Int)-1)=(a.length:Int)-1:=ae;have hpI:(p:Int)<(B.length:Int):=by omega
 have abc:(p2:Int)<((dig 1000000000 Z).length:Int):=by omega
 obtain⟨t1,ht1⟩:=xE (α:=Nat) (H+1);have wt:IntKind.u64.wrap ((H:Int)+1)=(t1:Int):=by rw[cC (by omega) (by omega)];omega
 rw[←ht1] at I;have ac5:¬t1=0:=by omega
 have wf0:IntKind.u64.wrap (f:Int)=(f:Int):=cC (by omega) (by omega);have wf:IntKind.u64.wrap ((1000000000:Int) / (t1:Int))=(f:Int):=by rw[show((1000000000:Int) / (t1:Int))=((1000000000 / t1:Nat):Int) from rfl,←I];exact wf0
 have wf' :IntKind.u64.wrap ((1000000000:Int).tdiv (t1:Int))=(f:Int):=by rw[show((1000000000:Int).tdiv (t1:Int))=((1000000000 / t1:Nat):Int) from rfl,←I];exact wf0
 have hB1:¬(B.length:Int)=1:=by omega
 have hfI:(f:Int)<1000000000:=by omega
 have hl8:A.length≤100000000:=by omega
 have hl9:A.length≤1000000000:=by omega
 have ac6:B.length≤100000000:=by omega
 have hq9:q.length≤1000000000:=by omega
 have h8:8*(a.length:Int)≤281474976710656:=by omega
 have h9:(a.length:Int)≤281474976710656:=by omega
 have ac7:(dig 1000000000 U).length≤100000000:=by have:(dig 1000000000 U).length≤(dig 1000000000 Z).length:=mono _ _ (by omega);omega
 have hf0:0<f:=YK;by_cases hz:av%X=0
 ·have ae0:U=0:=by rw[hrv,hz,Nat.zero_mul]
  have W:U<f:=by omega
  rw[if_pos hz];simp[aa,agM,f157,dL,cf,bV,bE,hs0,hs1,hs6,hs7,hs8,hA,hB,←S,←m,←Y,←V,tA,tB,hc,lo,lt,lv,wp,wp2,wan,hpI,abc,abI,aaP,hpB,ac4,wt,ac5,wf',hB1,hfI,hl8,hl9,ac6,hq9,h8,h9,hF,ac7,hf0,j,W,rz,Nat.testBit]
 ·have W:¬U<f:=by have:f≤av%X*f:=Nat.le_mul_of_pos_left f (by omega);omega
  rw[if_neg hz];simp[aa,agM,f157,dL,cf,bV,bE,hs0,hs1,hs6,hs7,hs8,hA,hB,←S,←m,←Y,←V,tA,tB,hc,lo,lt,lv,wp,wp2,wan,hpI,abc,abI,aaP,hpB,ac4,wt,ac5,wf',hB1,hfI,hl8,hl9,ac6,hq9,h8,h9,hF,ac7,hf0,j,W,hrf,rz,Nat.testBit];exact⟨rfl,rfl⟩
theorem Ps{B:List Nat}(J:lok 1000000000 A=true)(W:lok 1000000000 B=true)(Y:A.length≤1000000)(tA:aU A=A)(tB:aU B=B)(hm:2≤B.length)(Ya:au 1000000000 B≤au 1000000000 A)(H:afi .u64 M x A)(I:afi .u64 M y B):
  if au 1000000000 A%au 1000000000 B=0 then kO prog 157 [x,y] M (.tuple [.slice M.length 0 (dig 1000000000 (au 1000000000 A / au 1000000000 B)).length none,.qF]) (M++[.cells true 1 (iN .u64 (dig 1000000000 (au 1000000000 A / au 1000000000 B)))])
  else kO prog 157 [x,y] M (.tuple [.slice M.length 0 (dig 1000000000 (au 1000000000 A / au 1000000000 B)).length none,.slice (M.length+1) 0 (dig 1000000000 (au 1000000000 A%au 1000000000 B)).length none])
   (M++[.cells true 1 (iN .u64 (dig 1000000000 (au 1000000000 A / au 1000000000 B))),.cells true 1 (iN .u64 (dig 1000000000 (au 1000000000 A%au 1000000000 B)))]):=by
 obtain⟨X,R,_⟩:=cM (l:=B) (i:=B.length-1) (by omega);obtain⟨q,S,h⟩:=FK A B X J W Y tA tB hm R Ya;have:=(ar aj (aI _) H2 (aP _) h).1;split
 ·rename_i V
  rw[if_pos V] at this;simp only[y9.mem,Option.getD_none,List.cons_append,List.nil_append] at this;have U:=kO.af5 (m2:=[.cells false 1 (iN .u64 A),.cells false 1 (iN .u64 B),.cells true 1 (iN .u64 (aU q))]) this rfl (fun b s Z=>by
   match b with
   |0=>simp at Z;subst Z;exact⟨_,rfl,.inl rfl⟩
   |1=>simp at Z;subst Z;exact⟨_,rfl,.inl rfl⟩
   |2=>simp at Z;subst Z;exact⟨_,rfl,.row (di _)⟩
   |b+3=>simp at Z)
  obtain⟨b,c,rfl,rfl,h3⟩:=kO.af1 (new:=[.cells true 1 (iN .u64 (aU q))]) rfl U H I;rw[S] at h3;simpa [AV.ren,AV.afp,eL] using h3
 ·rename_i V
  rw[if_neg V] at this;simp only[y9.mem,Option.getD_none,List.cons_append,List.nil_append] at this;have U:=kO.af5 (m2:=[.cells false 1 (iN .u64 A),.cells false 1 (iN .u64 B),.cells true 1 (iN .u64 (aU q)),.cells true 1 (iN .u64 (dig 1000000000 (au 1000000000 A%au 1000000000 B)))]) this rfl (fun b s Z=>by
   match b with
   |0=>simp at Z;subst Z;exact⟨_,rfl,.inl rfl⟩
   |1=>simp at Z;subst Z;exact⟨_,rfl,.inl rfl⟩
   |2=>simp at Z;subst Z;exact⟨_,rfl,.row (di _)⟩
   |3=>simp at Z;subst Z;exact⟨_,rfl,.inl rfl⟩
   |b+4=>simp at Z)
  obtain⟨b,c,rfl,rfl,h3⟩:=kO.af1 (new:=[.cells true 1 (iN .u64 (aU q)),.cells true 1 (iN .u64 (dig 1000000000 (au 1000000000 A%au 1000000000 B)))]) rfl U H I;rw[S] at h3;simpa [AV.ren,AV.afp,eL] using h3
noncomputable def cb:ae3:=fun c Z M=>match c,Z with
 |.fn 157,[x,y]=>match aW .u64 M x,aW .u64 M y with
  |some A,some B=>if lok 1000000000 A=true∧lok 1000000000 B=true∧A.length≤1000000∧aU A=A∧aU B=B∧0<au 1000000000 B then
    (if au 1000000000 A<au 1000000000 B then some ⟨.tuple [.qF,x],none,[]⟩
    else if 2≤B.length∧au 1000000000 A%au 1000000000 B=0 then some ⟨.tuple [.slice M.length 0 (dig 1000000000 (au 1000000000 A / au 1000000000 B)).length none,.qF],none,[.cells true 1 (iN .u64 (dig 1000000000 (au 1000000000 A / au 1000000000 B)))]⟩
    else some ⟨.tuple [.slice M.length 0 (dig 1000000000 (au 1000000000 A / au 1000000000 B)).length none,.slice (M.length+1) 0 (dig 1000000000 (au 1000000000 A%au 1000000000 B)).length none],none,[.cells true 1 (iN .u64 (dig 1000000000 (au 1000000000 A / au 1000000000 B))),.cells true 1 (iN .u64 (dig 1000000000 (au 1000000000 A%au 1000000000 B)))]⟩) else none
  |_,_=>none
 |c,Z=>cf c Z M
theorem H3:qS prog cb:=by
 refine bZ fun c L M r h=>?_
 unfold cb at h;split at h
 ·split at h
  ·rename_i A B V U
   split at h
   ·rename_i F
    obtain⟨S,R,D,Q,G,X⟩:=F;split at h
    ·rename_i O
     cases h;refine aw ?_;rw[List.append_nil];exact vf S R (by omega) Q G O (aY V) (aY U)
    ·rename_i O
     by_cases Z:2≤B.length
     ·have:=Ps S R D Q G Z (by omega) (aY V) (aY U)
      split at h
      ·rename_i N
       rw[if_pos N.2] at this;cases h;exact aw this
      ·rename_i N
       rw[if_neg (fun e=>N ⟨Z,e⟩)] at this;cases h;exact aw this
     ·rw[if_neg (fun e=>Z e.1)] at h
      obtain⟨d,rfl⟩:∃d,B=[d]:=by
       match B,Z,X with
       | [],_,X=>simp[au] at X
       | [d],_,_=>exact⟨d,rfl⟩
       |_::_::_,Z,_=>simp at Z
      have C:au 1000000000 [d]=d:=by simp[au]
      rw[C] at X O h;have u:d<1000000000:=by simpa [lok] using R
      cases h;exact aw (Em X u S (by omega) Q (by omega) (aY V) (aY U))
   ·cases h
  ·cases h
 ·exact dr qs h
end Go.Proofs
