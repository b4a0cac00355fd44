/- See D38. -/
import Derived.Test.YthpgbelancmpjaaGreatDoorD10
set_option linter.all false
set_option maxRecDepth 100000
set_option maxHeartbeats 40000000
namespace Go.Proofs
open Go.Eng
open Tryz
noncomputable def cg:y9:=fun c Z M=>match c,Z with
 |.fn 248,[x,y]=>match bh .u64 M x,bh .u64 M y with
  |some A,some B=>if lok 1000000000 A=true/\lok 1000000000 B=true/\A.length<=100000000/\B.length<=100000000 then some ⟨.slice M.length 0 (dig 1000000000 (aq 1000000000 A+aq 1000000000 B)).length none,none,[.cells true 1 (iN .u64 (dig 1000000000 (aq 1000000000 A+aq 1000000000 B)))]⟩ else none
  |_,_=>none
 |.fn 250,[x,y]=>match bh .u64 M x,bh .u64 M y with
  |some A,some B=>if lok 1000000000 A=true/\lok 1000000000 B=true/\A.length<=100000000/\B.length<=A.length/\aq 1000000000 B<=aq 1000000000 A then some ⟨.slice M.length 0 (dig 1000000000 (aq 1000000000 A-aq 1000000000 B)).length none,none,[.cells true 1 (iN .u64 (dig 1000000000 (aq 1000000000 A-aq 1000000000 B)))]⟩ else none
  |_,_=>none
 |.fn 211,[x,y]=>match bh .u64 M x,bh .u64 M y with
  |some A,some B=>if lok 1000000000 A=true/\lok 1000000000 B=true/\A.length<=100000000/\B.length<=100000000 then some ⟨.slice M.length 0 (dig 1000000000 (aq 1000000000 A*aq 1000000000 B)).length none,none,[.cells true 1 (iN .u64 (dig 1000000000 (aq 1000000000 A*aq 1000000000 B)))]⟩ else none
  |_,_=>none
 |.fn 255,[x]=>match x with
  |.slice b 0 n none=>if b<M.length then some ⟨.func 279 [.ptr M.length 0],none,[.cells true 0 [.slice b 0 n none]]⟩ else none
  |_=>none
 |.fn 253,[x]=>bR (.fn 253) [x] M
 |.fn 249,[x,y]=>bR (.fn 249) [x,y] M
 |_,_=>none
theorem qM:qS prog cg:=by
 refine cB fun c L M r h=>?_
 unfold cg at h;split at h
 .split at h
  .rename_i Z X
   split at h
   .rename_i V
    obtain⟨U,S,R,N⟩:=V;cases h;exact aC (MT U S R N (bk Z) (bk X))
   .cases h
  .cases h
 .split at h
  .rename_i Z X
   split at h
   .rename_i V
    obtain⟨U,S,R,N,F⟩:=V;cases h;exact aC (HE U S R N F (bk Z) (bk X))
   .cases h
  .cases h
 .split at h
  .rename_i Z X
   split at h
   .rename_i V
    obtain⟨U,S,R,N⟩:=V;cases h;exact aC (HX U S R N (bk Z) (bk X))
   .cases h
  .cases h
 .split at h
  .split at h
   .rename_i D
    cases h;refine ar (T:=bd prog) (lv:=fun _=>[]) (G:=aX prog) (O:=cP) (K:=1) aj (aJ _) (az _) (aM _) ?_;exact AP _ _ M D
   .cases h
  .cases h
 .exact dZ jr h
 .exact dZ jr h
 .cases h
theorem agU:aX prog 223=some f223:=by kernel_rfl
theorem FJ(A:List Nat)(d:Nat)(H:0<d)(hd:d<1000000000)(I:lok 1000000000 A=true)(hl:A.length<=100000000)(tA:aW A=A)(J:d<=aq 1000000000 A):
  ∃O:y9,qS prog O/\aa (bd prog) (fun _=>[]) (aX prog) (cg.or O) 1 223 [.slice 0 0 A.length none,.slice 1 0 1 none] [.cells false 1 (iN .u64 A),.cells false 1 [.int .u64 (d:Int)]]=
   some ⟨.tuple [.slice 2 0 (aW (gx 1000000000 d A).1).length none,.slice 3 0 (aW [(gx 1000000000 d A).2]).length none],some [.cells false 1 (iN .u64 A),.cells false 1 [.int .u64 (d:Int)]],[.cells true 1 (iN .u64 (gx 1000000000 d A).1),.cells true 1 [.int .u64 (((gx 1000000000 d A).2:Nat):Int)]]⟩:=by
 obtain⟨V,U,Z,B⟩:∃V U Z,fh f223=[(V,U,Z)]:=⟨_,_,_,rfl⟩
 have S:0<A.length:=by
  rcases QQX A.length with h | h
  .rw[Mp h] at J;simp[aq] at J;omega
  .exact h
 obtain⟨O,hO,R⟩:=Dx A d H hd I (by omega) S B;refine⟨O,hO,?_⟩;obtain⟨i1,i2,i3,C⟩:=B8 H hd A I;have N:∀X,ma A d V U Z X 0=[.cells false 1 (iN .u64 A),.cells false 1 [.int .u64 (d:Int)],.cells true 0 [.slice 1 0 1 none],.cells true 0 [.slice 4 0 A.length none],
  .cells true 1 (iN .u64 (gx 1000000000 d A).1),.cells true 0 [.int .u64 (((gx 1000000000 d A).2:Nat):Int)],.cells true 0 [.slice 0 0 A.length none],.loop ⟨.ready,none,X,146,V,U,Z⟩]:=fun X=>rfl
 have M:∀X,ma A d V U Z X A.length=[.cells false 1 (iN .u64 A),.cells false 1 [.int .u64 (d:Int)],.cells true 0 [.slice 1 0 1 none],.cells true 0 [.slice 4 0 A.length none],
  .cells true 1 (iN .u64 (List.replicate A.length 0)),.cells true 0 [.int .u64 0],.cells true 0 [.slice 0 0 A.length none],.loop ⟨.ready,none,X,146,V,U,Z⟩]:=fun X=>by
  unfold ma;rw[List.drop_length];simp[gx]
 have L:∀X,(ae X 3=.ptr 2 0/\ae X 4=.ptr 3 0/\ae X 6=.ptr 5 0/\X.flatMap (fun e=>e.2.refs 8)=[])->
   O (.fn 279) [.yield 7,.ptr 6 0] [.cells false 1 (iN .u64 A),.cells false 1 [.int .u64 (d:Int)],.cells true 0 [.slice 1 0 1 none],.cells true 0 [.slice 4 0 A.length none],
  .cells true 1 (iN .u64 (List.replicate A.length 0)),.cells true 0 [.int .u64 0],.cells true 0 [.slice 0 0 A.length none],.loop ⟨.ready,none,X,146,V,U,Z⟩]=some ⟨.tuple [],some [.cells false 1 (iN .u64 A),.cells false 1 [.int .u64 (d:Int)],.cells true 0 [.slice 1 0 1 none],.cells true 0 [.slice 4 0 A.length none],
  .cells true 1 (iN .u64 (gx 1000000000 d A).1),.cells true 0 [.int .u64 (((gx 1000000000 d A).2:Nat):Int)],.cells true 0 [.slice 0 0 A.length none],.loop ⟨.ready,none,X,146,V,U,Z⟩],[]⟩:=fun X h=>by
  have:=R X h
  rwa [M,N] at this
 clear R N M;obtain⟨q,W⟩:=xE ((gx 1000000000 d A).1);obtain⟨r,hr⟩:=xE ((gx 1000000000 d A).2);rw[<-W,<-hr] at L |-;rw[<-W] at i3 C;simp[fh,gv,f223] at B;obtain⟨rfl,rfl,rfl⟩:=B;have hs0:∀l,bh .u64 (.cells false 1 (iN .u64 A)::l) (.slice 0 0 A.length none)=some A:=fun l=>aR rfl (by simp) (B5 (by simp))
 have hs1:∀l,bh .u64 (.cells false 1 (iN .u64 A)::.cells false 1 [.int .u64 (d:Int)]::l) (.slice 1 0 1 none)=some [d]:=fun l=>aR (A:=[d]) rfl (by simp) rfl
 have hs4:∀K G F D l,bh .u64 (K::G::F::D::.cells true 1 (iN .u64 q)::l) (.slice 4 0 A.length none)=some q:=fun K G F D l=>aR rfl (by simp[C]) (B5 (by simp[C]))
 have u:∀K G F D a4 a5 a6 a7 l,bh .u64 (K::G::F::D::a4::a5::a6::a7::.cells true 1 [.int .u64 (r:Int)]::l) (.slice 8 0 1 none)=some [r]:=fun K G F D a4 a5 a6 a7 l=>aR (A:=[r]) rfl (by simp) rfl
 have o:lok 1000000000 [d]=true:=by simp[lok];omega
 have m:aW [d]=[d]:=by simp[aW];omega
 have j:aq 1000000000 [d]=d:=by simp[aq]
 have Y:¬kx (aq 1000000000 A) d<0:=by unfold kx;rw[if_neg (by omega)];split<;>omega
 have h8:8*(A.length:Int)<=281474976710656:=by omega
 have h9:(A.length:Int)<=281474976710656:=by omega
 have ZS:A.length<=1000000000:=by omega
 simp[aa,agU,f223,y9.or,cg,bR,hs0,hs1,I,tA,o,m,j,Y,h8,h9,ZS,rQ,uT,L,hs4,u,C,yW,Nat.testBit];exact⟨rfl,rfl⟩
variable{B:Nat}{l:List Nat}
theorem Tz(h:lok B l=true):lok B (aW l)=true:=by rw[kR l];exact jL h _
theorem mL(H:2<=B)(h:lok B l=true)(I:aW l=l):dig B (aq B l)=l:=by rw[dS H h,I]
variable{A:List Nat}{d:Nat}
theorem HV(hd:d<1000000000)(H:lok 1000000000 A=true)(I:A.length<=100000000):
  kO prog 266 [.slice 0 0 A.length none,.int .u64 (d:Int)] [.cells false 1 (iN .u64 A)] (.slice 1 0 (dig 1000000000 (aq 1000000000 A*d)).length none) [.cells false 1 (iN .u64 A),.cells true 1 (iN .u64 (dig 1000000000 (aq 1000000000 A*d)))]:=by
 have S:aX prog 266=some f266:=by kernel_rfl
 have hs0:∀l,bh .u64 (.cells false 1 (iN .u64 A)::l) (.slice 0 0 A.length none)=some A:=fun l=>aR rfl (by simp) (B5 (by simp))
 have hs1:∀Z l,bh .u64 (Z::.cells true 1 [.int .u64 (d:Int)]::l) (.slice 1 0 1 none)=some [d]:=fun Z l=>aR (A:=[d]) rfl (by simp) rfl
 have hs2:∀Z l,bh .u64 (Z::.cells true 1 [.int .u64 (d:Int)]::l) (.slice 1 0 (aW [d]).length none)=some (aW [d]):=fun Z l=>aR rfl (by have:=dp [d];simpa using this) (by have:([.int .u64 (d:Int)]:List AV)=iN .u64 [d]:=rfl;rw[this,iM,lF])
 have X:lok 1000000000 (aW [d])=true:=Tz (by simp[lok];omega);have V:aq 1000000000 (aW [d])=d:=by rw[EL];simp[aq]
 have U:(aW [d]).length<=100000000:=by have:=dp [d];simp at this;omega
 have h:aa (bd prog) (fun _=>[]) (aX prog) cg 1 266 [.slice 0 0 A.length none,.int .u64 (d:Int)] [.cells false 1 (iN .u64 A)]=some ⟨.slice 1 0 (dig 1000000000 (aq 1000000000 A*d)).length none,none,[.cells true 1 (iN .u64 (dig 1000000000 (aq 1000000000 A*d)))]⟩:=by simp[aa,S,f266,cg,bR,hs0,hs1,hs2,H,I,X,V,U]
 have:=(ar aj (aJ _) qM (aM _) h).1;simpa [afh.mem] using this
variable{M:Mem}{x:AV}
theorem HU(hd:d<1000000000)(H:lok 1000000000 A=true)(I:A.length<=100000000)(J:aft .u64 M x A):
  kO prog 266 [x,.int .u64 (d:Int)] M (.slice M.length 0 (dig 1000000000 (aq 1000000000 A*d)).length none) (M++[.cells true 1 (iN .u64 (dig 1000000000 (aq 1000000000 A*d)))]):=by
 obtain⟨b,rfl,h⟩:=kO.agR (new:=[.cells true 1 (iN .u64 (dig 1000000000 (aq 1000000000 A*d)))]) (rest:=[.int .u64 (d:Int)]) rfl rfl (HV hd H I) J;simpa [AV.ren,fa] using h
noncomputable def cC:y9:=fun c Z M=>match c,Z with
 |.fn 266,[x,.int .u64 d]=>match bh .u64 M x with
  |some A=>if lok 1000000000 A=true/\A.length<=100000000/\0<=d/\d<1000000000 then some ⟨.slice M.length 0 (dig 1000000000 (aq 1000000000 A*d.toNat)).length none,none,[.cells true 1 (iN .u64 (dig 1000000000 (aq 1000000000 A*d.toNat)))]⟩ else none
  |_=>none
 |c,Z=>cg c Z M
theorem qN:qS prog cC:=by
 refine cB fun c Z M r h=>?_
 unfold cC at h;split at h
 .split at h
  .rename_i V
   split at h
   .rename_i U
    obtain⟨S,R,X,O⟩:=U;cases h;have N:=(Int.toNat_lt X).2 O;have:=HU N S R (bk V);rw[QQd X] at this;exact aC this
   .cases h
  .cases h
 .exact dZ qM h
def gj(c:Code):List Nat:=if (ad c).contains 11 then [11,5] else [13,12]
theorem jx{B d:Nat}(hd:0<d):∀l:List Nat,lok B l=true->(gx B d l).2<d/\aq B (gx B d l).1*d+(gx B d l).2=aq B l/\lok B (gx B d l).1=true/\(gx B d l).1.length=l.length
 | [],_=>by simp[gx,aq,lok,hd]
 |x::l,h=>by
  rw[cY,C0,Es] at h;obtain⟨X,V,U,S⟩:=jx hd l h.2;simp only[gx];have Z:=Nat.mod_add_div ((gx B d l).2*B+x) d;refine⟨Nat.mod_lt _ hd,?_,?_,by simp[S]⟩
  .rw[aq,aq,<-V,Nat.add_mul,Nat.mul_add]
   rw[Zq d] at Z;rw[QQl,Zq B (gx B d l).2];omega
  .rw[cY,C0,Es]
   refine⟨?_,U⟩;rw[Nat.div_lt_iff_lt_mul hd];have h3:((gx B d l).2+1)*B<=d*B:=QQf _ X;rw[Nat.add_mul] at h3;rw[Zq B d];omega
variable{y:AV}
theorem vy{B:List Nat}(H:lok 1000000000 A=true)(I:lok 1000000000 B=true)(J:A.length<=1000000000)(tA:aW A=A)(W:aW B=B)(Y:aq 1000000000 A<aq 1000000000 B)(hx:aft .u64 M x A)(hy:aft .u64 M y B):
  kO prog 223 [x,y] M (.tuple [.qF,x]) M:=by
 have hs0:∀l,bh .u64 (.cells false 1 (iN .u64 A)::l) (.slice 0 0 A.length none)=some A:=fun l=>aR rfl (by simp) (B5 (by simp))
 have hs1:∀a l,bh .u64 (a::.cells false 1 (iN .u64 B)::l) (.slice 1 0 B.length none)=some B:=fun a l=>aR rfl (by simp) (B5 (by simp))
 have Z:kx (aq 1000000000 A) (aq 1000000000 B)<0:=by unfold kx;rw[if_pos Y];omega
 have h:aa (bd prog) gj (aX prog) cC 1 223 [.slice 0 0 A.length none,.slice 1 0 B.length none] [.cells false 1 (iN .u64 A),.cells false 1 (iN .u64 B)]=some ⟨.tuple [.qF,.slice 0 0 A.length none],none,[]⟩:=by simp[aa,agU,f223,cC,cg,bR,hs0,hs1,H,I,J,tA,W,Z]
 have:=(ar aj (aJ _) qN (aM _) h).1;simp only[afh.mem,Option.getD_none,List.append_nil] at this;obtain⟨b,c,rfl,rfl,h3⟩:=kO.agc (new:=[]) rfl this hx hy;simpa [AV.ren,AV.afz,fa] using h3
theorem Ed(H:0<d)(hd:d<1000000000)(I:lok 1000000000 A=true)(J:A.length<=100000000)(tA:aW A=A)(W:d<=aq 1000000000 A)(Y:aft .u64 M x A)(hy:aft .u64 M y [d]):
  kO prog 223 [x,y] M (.tuple [.slice M.length 0 (dig 1000000000 (aq 1000000000 A / d)).length none,.slice (M.length+1) 0 (dig 1000000000 (aq 1000000000 A%d)).length none]) (M++[.cells true 1 (iN .u64 (dig 1000000000 (aq 1000000000 A / d))),.cells true 1 (iN .u64 (dig 1000000000 (aq 1000000000 A%d)))]):=by
 obtain⟨O,S,h⟩:=FJ A d H hd I J tA W;obtain⟨X,V,R,L⟩:=jx H A I;have N:aq 1000000000 (gx 1000000000 d A).1=aq 1000000000 A / d:=by rw[<-V,Zq,Nat.mul_add_div H,Nat.div_eq_of_lt X,Nat.add_zero]
 have K:(gx 1000000000 d A).2=aq 1000000000 A%d:=by rw[<-V,Zq,Nat.mul_add_mod,QQe X]
 have f1:aW (gx 1000000000 d A).1=dig 1000000000 (aq 1000000000 A / d):=by rw[<-dS (by omega) R,N]
 have f2:aW [(gx 1000000000 d A).2]=dig 1000000000 (aq 1000000000 A%d):=by rw[<-dS (B:=1000000000) (by omega) (by simp[lok];omega)];congr 1
 have:=(ar aj (aJ _) (qM.or S) (aM _) h).1;simp only[afh.mem,Option.getD_some,List.cons_append,List.nil_append] at this;have U:=kO.agi (m2:=[.cells false 1 (iN .u64 A),.cells false 1 (iN .u64 [d]),.cells true 1 (iN .u64 (dig 1000000000 (aq 1000000000 A / d))),.cells true 1 (iN .u64 (dig 1000000000 (aq 1000000000 A%d)))]) this rfl (fun b s Z=>by
  match b with
  |0=>simp at Z;subst Z;exact⟨_,rfl,.inl rfl⟩
  |1=>simp at Z;subst Z;exact⟨_,rfl,.inl rfl⟩
  |2=>simp at Z;subst Z;exact⟨_,rfl,.row (by rw[<-f1];exact dD _)⟩
  |3=>simp at Z;subst Z;exact⟨_,rfl,by have:=agS.row (k:=.u64) (o:=true) (es:=1) (dD [(gx 1000000000 d A).2]);rw[f2] at this;exact this⟩
  |b+4=>simp at Z)
 rw[f1,f2] at U;obtain⟨b,c,rfl,rfl,h3⟩:=kO.agc (B:=[d]) (new:=[.cells true 1 (iN .u64 (dig 1000000000 (aq 1000000000 A / d))),.cells true 1 (iN .u64 (dig 1000000000 (aq 1000000000 A%d)))]) rfl U Y hy;simpa [AV.ren,AV.afz,fa] using h3
noncomputable def ef:y9:=fun c Z M=>match c,Z with
 |.fn 223,[x,y]=>match bh .u64 M x,bh .u64 M y with
  |some A,some [d]=>if lok 1000000000 A=true/\A.length<=100000000/\aW A=A/\0<d/\d<1000000000 then
    (if aq 1000000000 A<d then some ⟨.tuple [.qF,x],none,[]⟩ else some ⟨.tuple [.slice M.length 0 (dig 1000000000 (aq 1000000000 A / d)).length none,.slice (M.length+1) 0 (dig 1000000000 (aq 1000000000 A%d)).length none],none,[.cells true 1 (iN .u64 (dig 1000000000 (aq 1000000000 A / d))),.cells true 1 (iN .u64 (dig 1000000000 (aq 1000000000 A%d)))]⟩) else none
  |_,_=>none
 |c,Z=>cC c Z M
theorem Ij:qS prog ef:=by
 refine cB fun c Z M r h=>?_
 unfold ef at h;split at h
 .split at h
  .rename_i X V
   split at h
   .rename_i N
    obtain⟨U,L,S,K,R⟩:=N;split at h
    .rename_i O
     cases h;have:=vy U (B:=[_]) (by simp[lok];exact R) (by omega) S (by simp[aW];omega) (by simpa [aq] using O) (bk X) (bk V);refine aC ?_;rw[List.append_nil];exact this
    .rename_i O
     cases h;exact aC (Ed K R U L S (by omega) (bk X) (bk V))
   .cases h
  .cases h
 .exact dZ qN h
def fO(A B:List Nat)(n m:Nat)(a b q H I:List Nat)(l:Mem):Mem:=
 .cells false 1 (iN .u64 A)::.cells false 1 (iN .u64 B)::.cells true 0 [.slice 5 0 m none]::.cells true 0 [.slice 6 0 n none]::.cells true 1 (iN .u64 a)::.cells true 1 (iN .u64 b)::.cells true 1 (iN .u64 q)::.cells true 1 (iN .u64 H)::.qK::.cells true 1 (iN .u64 I)::l
variable{K:Nat}{b1 c:Code}
theorem Dv(A B:List Nat)(n:Nat)(a q I H:List Nat)(b r d0 t:Nat)(ht:t=r / b)(W:H.take (dig 1000000000 r).length=dig 1000000000 r)(Y:(dig 1000000000 r).length<=H.length)(P':0<b)(hd0:t<d0)(hdB:d0<1000000000)(hK:d0<K)(hlb:∀d,d<=d0->(dig 1000000000 (b*d)).length<=100000000)(acC:∀d,d<=d0->0<d->(dig 1000000000 b).length<=(dig 1000000000 (b*d)).length)(J:ah f223=[b1,c])(Zi:gj c=[13,12]):
  ∃F:Env->Bool->Env,∀Z d,(ae Z 3=.ptr 2 0/\ae Z 5=.slice 9 0 (dig 1000000000 r).length none/\ae Z 12=.int .u64 d0/\ae Z 13=.slice 10 0 (dig 1000000000 (b*d0)).length none)->
   aU (bd prog) gj ef K 146 2 true (.loop c) ⟨Z,fO A B n (dig 1000000000 b).length a (dig 1000000000 b) q I H [.cells true 1 (iN .u64 (dig 1000000000 (b*d0)))],d⟩=
    some (.exit 4,⟨F Z d,fO A B n (dig 1000000000 b).length a (dig 1000000000 b) q I H [.cells true 1 (iN .u64 (dig 1000000000 (b*d0))),.cells true 1 (iN .u64 (dig 1000000000 (b*t)))],d⟩)/\
   (ae (F Z d) 13=.slice 11 0 (dig 1000000000 (b*t)).length none/\ae (F Z d) 12=.int .u64 (t:Int)/\(∀x∈[0,3,4,5,9,10,11],ae (F Z d) x=ae Z x)):=by
 refine bl Zi (fun Z=>ae Z 3=.ptr 2 0/\ae Z 5=.slice 9 0 (dig 1000000000 r).length none/\ae Z 12=.int .u64 d0/\ae Z 13=.slice 10 0 (dig 1000000000 (b*d0)).length none)
  (fun Z L =>ae L 13=.slice 11 0 (dig 1000000000 (b*t)).length none/\ae L 12=.int .u64 (t:Int)/\(∀x∈[0,3,4,5,9,10,11],ae L x=ae Z x)) ?_
 clear Zi;rintro Z dd ⟨h3,h5,h12,h13⟩;simp[ah,aE,f223] at J;obtain⟨_,J⟩:=J;obtain⟨S,hS⟩:∃S:Nat->XS,(S d0=⟨aw [13,12] (ad c) Z ((13,.slice 10 0 (dig 1000000000 (b*d0)).length none)::(12,.int .u64 (d0:Int))::Z),fO A B n (dig 1000000000 b).length a (dig 1000000000 b) q I H [.cells true 1 (iN .u64 (dig 1000000000 (b*d0)))],dd⟩)/\
   (∀e,e≠d0->S e=⟨aw [13,12] (ad c) Z ((13,.slice 11 0 (dig 1000000000 (b*e)).length none)::(12,.int .u64 (e:Int))::Z),fO A B n (dig 1000000000 b).length a (dig 1000000000 b) q I H [.cells true 1 (iN .u64 (dig 1000000000 (b*d0))),.cells true 1 (iN .u64 (dig 1000000000 (b*e)))],dd⟩):=
  ⟨fun e=>if e=d0 then⟨aw [13,12] (ad c) Z ((13,.slice 10 0 (dig 1000000000 (b*d0)).length none)::(12,.int .u64 (d0:Int))::Z),fO A B n (dig 1000000000 b).length a (dig 1000000000 b) q I H [.cells true 1 (iN .u64 (dig 1000000000 (b*d0)))],dd⟩
   else⟨aw [13,12] (ad c) Z ((13,.slice 11 0 (dig 1000000000 (b*e)).length none)::(12,.int .u64 (e:Int))::Z),fO A B n (dig 1000000000 b).length a (dig 1000000000 b) q I H [.cells true 1 (iN .u64 (dig 1000000000 (b*d0))),.cells true 1 (iN .u64 (dig 1000000000 (b*e)))],dd⟩,by simp,fun e he=>by simp[he]⟩
 have Zm:(⟨aw [13,12] (ad c) Z Z,fO A B n (dig 1000000000 b).length a (dig 1000000000 b) q I H [.cells true 1 (iN .u64 (dig 1000000000 (b*d0)))],dd⟩:XS)=S d0:=by rw[hS.1];simp[aw,h12,h13]
 rw[Zm];have F':(fO A B n (dig 1000000000 b).length a (dig 1000000000 b) q I H [.cells true 1 (iN .u64 (dig 1000000000 (b*d0)))]).length=11:=rfl;rw[F'];refine bG (α:=Nat) S (fun e=>e-t) (fun e=>t<=e/\e<=d0) (.exit 4) _ dd _ (by simp) ?_ K d0 ⟨by omega,L9 _⟩ (by omega);rintro e ⟨he1,he2⟩;have X:∀l,bh .u64 (fO A B n (dig 1000000000 b).length a (dig 1000000000 b) q I H l) (.slice 9 0 (dig 1000000000 r).length none)=some (dig 1000000000 r):=fun l=>aR rfl (by simpa using Y) (by rw[iM,W])
 have G:∀l,bh .u64 (fO A B n (dig 1000000000 b).length a (dig 1000000000 b) q I H l) (.slice 5 0 (dig 1000000000 b).length none)=some (dig 1000000000 b):=fun l=>aR rfl (by simp) (B5 (by simp))
 have O:∀l,bh .u64 (fO A B n (dig 1000000000 b).length a (dig 1000000000 b) q I H (.cells true 1 (iN .u64 (dig 1000000000 (b*d0)))::l)) (.slice 10 0 (dig 1000000000 (b*d0)).length none)=some (dig 1000000000 (b*d0)):=fun l=>aR rfl (by simp) (B5 (by simp))
 have U:∀x l,bh .u64 (fO A B n (dig 1000000000 b).length a (dig 1000000000 b) q I H (x::.cells true 1 (iN .u64 (dig 1000000000 (b*e)))::l)) (.slice 11 0 (dig 1000000000 (b*e)).length none)=some (dig 1000000000 (b*e)):=fun x l=>aR rfl (by simp) (B5 (by simp))
 have D:∀v,lok 1000000000 (dig 1000000000 v)=true:=fun v=>bX (by omega) v
 have C:∀v,aW (dig 1000000000 v)=dig 1000000000 v:=fun v=>cj (by omega) v
 have u:∀v,aq 1000000000 (dig 1000000000 v)=v:=fun v=>bO (by omega) v
 have Zl:=hlb e he2;have V:(dig 1000000000 (b*e)).length<=1000000000:=by omega
 simp only[fO] at X G O U hS;by_cases hq:e=t
 .right
  have I':e≠d0:=by omega
  have N:¬0<kx (b*e) r:=by
   have:b*e<=r:=by rw[hq,ht];exact Nat.mul_div_le r b
   unfold kx;split
   .omega
   .rw[if_neg (by omega)];omega
  rw[hS.2 e I',<-hq];clear hS;subst J;simp[ef,cC,cg,bR,fO,h3,h5,X,U,D,C,u,V,N]
 .left
  have o:t<e:=by omega
  have m:r<b*e:=by
   have:=(Nat.div_lt_iff_lt_mul P').1 (ht▸o)
   rwa [Zq] at this
  have N:0<kx (b*e) r:=by unfold kx;rw[if_neg (by omega),if_pos m];omega
  have R:b<=b*e:=Nat.le_mul_of_pos_right b (by omega);have j:b*e-b=b*(e-1):=by rw[Nat.mul_sub,Nat.mul_one]
  have Zc:=acC e he2 (by omega);have w1:IntKind.u64.wrap ((e:Int)-1)=((e-1:Nat):Int):=by rw[cU (by omega) (by omega)];omega
  have ZU:(dig 1000000000 (b*e)).length<=100000000:=Zl;refine⟨e-1,?_⟩;rw[hS.2 (e-1) (by omega)];by_cases hd:e=d0
  .rw[hd] at N R j Zc w1 ZU V |-
   rw[hS.1];clear hS;subst J;simp[ef,cC,cg,bR,h3,h5,X,G,O,D,C,u,V,N,R,Zc,j,w1,ZU];omega
  .rw[hS.2 e hd]
   clear hS;subst J;simp[ef,cC,cg,bR,h3,h5,X,G,U,D,C,u,V,N,R,Zc,j,w1,ZU];omega
theorem Bd(A B:List Nat)(n:Nat)(a q I H:List Nat)(b r t:Nat)(ht:b*t<=r)(W:H.take (dig 1000000000 r).length=dig 1000000000 r)(Y:(dig 1000000000 r).length<=H.length)(hK:0<K)(hlb:(dig 1000000000 (b*t)).length<=1000000000)(J:ah f223=[b1,c])(Zi:gj c=[13,12]):
  ∃F:Env->Bool->Env,∀Z d,(ae Z 3=.ptr 2 0/\ae Z 5=.slice 9 0 (dig 1000000000 r).length none/\ae Z 12=.int .u64 t/\ae Z 13=.slice 10 0 (dig 1000000000 (b*t)).length none)->
   aU (bd prog) gj ef K 146 2 true (.loop c) ⟨Z,fO A B n (dig 1000000000 b).length a (dig 1000000000 b) q I H [.cells true 1 (iN .u64 (dig 1000000000 (b*t)))],d⟩=
    some (.exit 4,⟨F Z d,fO A B n (dig 1000000000 b).length a (dig 1000000000 b) q I H [.cells true 1 (iN .u64 (dig 1000000000 (b*t)))],d⟩)/\
   (ae (F Z d) 13=.slice 10 0 (dig 1000000000 (b*t)).length none/\ae (F Z d) 12=.int .u64 (t:Int)/\(∀x∈[0,3,4,5,9,10,11],ae (F Z d) x=ae Z x)):=by
 refine bl Zi (fun Z=>ae Z 3=.ptr 2 0/\ae Z 5=.slice 9 0 (dig 1000000000 r).length none/\ae Z 12=.int .u64 t/\ae Z 13=.slice 10 0 (dig 1000000000 (b*t)).length none)
  (fun Z U =>ae U 13=.slice 10 0 (dig 1000000000 (b*t)).length none/\ae U 12=.int .u64 (t:Int)/\(∀x∈[0,3,4,5,9,10,11],ae U x=ae Z x)) ?_
 clear Zi;rintro Z dd ⟨h3,h5,h12,h13⟩;simp[ah,aE,f223] at J;obtain⟨_,J⟩:=J;obtain⟨K,rfl⟩:∃S,K=S +1:=⟨K-1,by omega⟩
 have X:∀l,bh .u64 (fO A B n (dig 1000000000 b).length a (dig 1000000000 b) q I H l) (.slice 9 0 (dig 1000000000 r).length none)=some (dig 1000000000 r):=fun l=>aR rfl (by simpa using Y) (by rw[iM,W])
 have V:∀l,bh .u64 (fO A B n (dig 1000000000 b).length a (dig 1000000000 b) q I H (.cells true 1 (iN .u64 (dig 1000000000 (b*t)))::l)) (.slice 10 0 (dig 1000000000 (b*t)).length none)=some (dig 1000000000 (b*t)):=fun l=>aR rfl (by simp) (B5 (by simp))
 have R:∀v,lok 1000000000 (dig 1000000000 v)=true:=fun v=>bX (by omega) v
 have O:∀v,aW (dig 1000000000 v)=dig 1000000000 v:=fun v=>cj (by omega) v
 have N:∀v,aq 1000000000 (dig 1000000000 v)=v:=fun v=>bO (by omega) v
 have L:¬0<kx (b*t) r:=by
  unfold kx;split
  .omega
  .rw[if_neg (by omega)];omega
 simp only[fO] at X V;subst J;simp[ga,ef,cC,cg,bR,fO,h3,h5,h12,h13,X,V,R,O,N,hlb,L]
def wT(b:Nat):List Nat->List Nat
 | []=>[]
 |x::l=>if x+1000000000*(gx 1000000000 b l).2<b then x::dig 1000000000 (gx 1000000000 b l).2 else dig 1000000000 ((x+1000000000*(gx 1000000000 b l).2)%b)
theorem CP{b:Nat}:∀{l:List Nat},lok 1000000000 l=true->(wT b l).take (dig 1000000000 (gx 1000000000 b l).2).length=dig 1000000000 (gx 1000000000 b l).2/\(dig 1000000000 (gx 1000000000 b l).2).length<=(wT b l).length
 | [],_=>by simp[wT,gx,dT]
 |x::l,h=>by
  rw[cY,C0,Es] at h;have e:(gx 1000000000 b (x::l)).2=(x+1000000000*(gx 1000000000 b l).2)%b:=by simp only[gx];rw[Zq,QXJ]
  rw[e,wT];split
  .rename_i Z
   rw[QQe Z,<-GK (by omega) h.1];exact⟨lF _,dp _⟩
  .exact⟨B5 (L9 _),L9 _⟩
def jj(A B:List Nat)(a:List Nat)(b k:Nat):Mem:=
 [.cells false 1 (iN .u64 A),.cells false 1 (iN .u64 B),.cells true 0 [.slice 5 0 (dig 1000000000 b).length none],.cells true 0 [.slice 6 0 a.length none],.cells true 1 (iN .u64 a),.cells true 1 (iN .u64 (dig 1000000000 b)),.cells true 1 (iN .u64 (List.replicate k 0++(gx 1000000000 b (a.drop k)).1))]
  ++ if k=a.length then [] else [.cells true 1 (iN .u64 (wT b (a.drop k)))]
def xV(a:List Nat)(b k:Nat):AV:=if k=a.length then .qF else .slice 7 0 (dig 1000000000 (gx 1000000000 b (a.drop k)).2).length none
theorem Dw(A B a:List Nat)(b top:Nat)(ha:lok 1000000000 a=true)(hl:a.length<=10000000)(hm:2<=(dig 1000000000 b).length)(hn:(dig 1000000000 b).length<=a.length)(aat:(dig 1000000000 b)[(dig 1000000000 b).length-1]? =some top)(hK:2000000000<K)(hb:ah f223=[b1,c]/\gj b1=[11,5]/\gj c=[13,12]):
  ∃F:Env->Bool->Env,∀V d,(ae V 0=.slice 4 0 a.length none/\ae V 3=.ptr 2 0/\ae V 4=.ptr 3 0/\ae V 10=.int .u64 top/\ae V 5=.qF/\ae V 11=.int .i64 ((a.length:Int)-1))->
   aU (bd prog) gj ef K 146 2 true (.loop b1) ⟨V,jj A B a b a.length,d⟩=some (.exit 2,⟨F V d,jj A B a b 0,d⟩)/\
   (ae (F V d) 5=xV a b 0/\(∀x∈[3,4,9],ae (F V d) x=ae V x)):=by
 refine bl hb.2.1 (fun V=>ae V 0=.slice 4 0 a.length none/\ae V 3=.ptr 2 0/\ae V 4=.ptr 3 0/\ae V 10=.int .u64 top/\ae V 5=.qF/\ae V 11=.int .i64 ((a.length:Int)-1))
  (fun V AC =>ae AC 5=xV a b 0/\(∀x∈[3,4,9],ae AC x=ae V x)) ?_
 rintro V dd ⟨h0,h3,h4,ZS,h5,h11⟩;have W:=hb.1;simp[ah,aE,f223] at W;obtain⟨W,ZF⟩:=W;have Zm:aw [11,5] (ad b1) V ((11,.int .i64 ((a.length:Int)-1))::(5,xV a b a.length)::V)=aw [11,5] (ad b1) V V:=by simp[aw,h5,h11,xV]
 rw[<-Zm];have ab3:(jj A B a b a.length).length=7:=by simp[jj]
 rw[ab3];refine bG (α:=Nat) (fun k=>⟨aw [11,5] (ad b1) V ((11,.int .i64 ((k:Int)-1))::(5,xV a b k)::V),jj A B a b k,dd⟩) id (fun k=>k<=a.length) (.exit 2) _ dd _ (by simp) ?_ K a.length (L9 _) (by simp;omega);intro k hk;clear Zm ab3;have hbv:1000000000<=b:=by have h:=sY (B:=1000000000) (by omega) b (by rintro rfl;rw[dT] at hm;simp at hm);have:1000000000 ^ 1<=1000000000 ^ ((dig 1000000000 b).length-1):=P3 (by omega) (by omega);omega
 cases k with
 |zero=>
  right;subst W;simp
 |succ i=>
  left;have FS:i<a.length:=by omega
  obtain⟨x,hx,Y9⟩:=dh FS;have Zp:=ff ha hx;have eA:a.drop i=x::a.drop (i+1):=by rw[N0 FS,Y9]
  have I':¬i=a.length:=by omega
  obtain⟨d1,d2,d3,d4⟩:=jx (B:=1000000000) (d:=b) (by omega) (a.drop (i+1)) (jK ha _);obtain⟨r,hr⟩:=xE ((gx 1000000000 b (a.drop (i+1))).2);obtain⟨q,hq⟩:=xE ((gx 1000000000 b (a.drop (i+1))).1);obtain⟨Zr,aaT⟩:=xE (wT b (a.drop (i+1)));obtain⟨t1,t2⟩:=CP (b:=b) (jK ha (i+1));obtain⟨Z,hr'⟩:=xE (x+1000000000*r);have hq2:(gx 1000000000 b (a.drop i)).1=Z / b::q:=by rw[eA,hq,hr',hr];simp only[gx];rw[Zq,QXJ]
  have Zz:(gx 1000000000 b (a.drop i)).2=Z %b:=by rw[eA,hr',hr];simp only[gx];rw[Zq,QXJ]
  have abu:wT b (a.drop i)=if Z <b then x::dig 1000000000 r else dig 1000000000 (Z %b):=by rw[eA,wT,<-hr,<-hr']
  have hqz:(List.replicate (i+1) 0++q:List Nat)=List.replicate i 0++0::q:=by rw[List.replicate_succ'];simp
  rw[<-hr] at t1 t2 d1;rw[<-aaT] at t1 t2;rw[<-hq] at d4;have htk:(iN .u64 Zr).take (dig 1000000000 r).length=iN .u64 (dig 1000000000 r):=by rw[iM,t1]
  have U:aW (x::dig 1000000000 r)=dig 1000000000 Z :=by rw[hr'];exact GK (by omega) Zp
  have hrl:(dig 1000000000 r).length<=a.length:=by
   have:(dig 1000000000 r).length<=(dig 1000000000 b).length:=by
    rcases Nat.lt_or_ge (dig 1000000000 b).length (dig 1000000000 r).length with h | h
    .have:=dR (B:=1000000000) (by omega) h;omega
    .exact h
   omega
  have w1:IntKind.i64.wrap ((i:Int)-1)=(i:Int)-1:=af;have hI:(i:Int)<(a.length:Int):=by omega
  have e1:(((i+1:Nat):Int)-1)=(i:Int):=by omega
  have hR0:xV a b i=.slice 7 0 (dig 1000000000 (Z %b)).length none:=by unfold xV;rw[if_neg I',Zz]
  have hM0:jj A B a b i=[.cells false 1 (iN .u64 A),.cells false 1 (iN .u64 B),.cells true 0 [.slice 5 0 (dig 1000000000 b).length none],.cells true 0 [.slice 6 0 a.length none],.cells true 1 (iN .u64 a),.cells true 1 (iN .u64 (dig 1000000000 b)),.cells true 1 (iN .u64 (List.replicate i 0++Z / b::q)),
    .cells true 1 (iN .u64 (if Z <b then x::dig 1000000000 r else dig 1000000000 (Z %b)))]:=by unfold jj;rw[if_neg I',hq2,abu];rfl
  have lo:∀v,lok 1000000000 (dig 1000000000 v)=true:=fun v=>bX (by omega) v
  have lt:∀v,aW (dig 1000000000 v)=dig 1000000000 v:=fun v=>cj (by omega) v
  have lv:∀v,aq 1000000000 (dig 1000000000 v)=v:=fun v=>bO (by omega) v
  have abM:(dig 1000000000 r).length+1<=1000000000:=by omega
  have hxl:lok 1000000000 (x::dig 1000000000 r)=true:=by rw[cY,lo];simp[Zp]
  have abN :(dig 1000000000 Z).length<=(dig 1000000000 r).length+1:=by rw[<-U];exact dp (x::dig 1000000000 r)
  have H:(dig 1000000000 Z).length<=1000000000:=by omega
  refine⟨i,?_⟩;rw[e1];refine bC (r:=_/\_) (show i<=a.length/\id i<id (i+1) from⟨by omega,by simp⟩) ?_;by_cases X:i+1=a.length
  .have hd0:a.drop (i+1)=[]:=by rw[X,List.drop_length]
   have hr0:r=0:=by rw[hr,hd0];rfl
   have hq0:q=[]:=by rw[hq,hd0];rfl
   have ae':Z =x:=by omega
   have Y5 :Z <b:=by omega
   have hR1:xV a b (i+1)=.qF:=by unfold xV;rw[if_pos X]
   have hM1:jj A B a b (i+1)=[.cells false 1 (iN .u64 A),.cells false 1 (iN .u64 B),.cells true 0 [.slice 5 0 (dig 1000000000 b).length none],.cells true 0 [.slice 6 0 a.length none],.cells true 1 (iN .u64 a),.cells true 1 (iN .u64 (dig 1000000000 b)),.cells true 1 (iN .u64 (List.replicate i 0++0::q))]:=by unfold jj;rw[if_pos X,<-hq,hqz];simp
   rw[hM1,hM0,hR1,hR0,if_pos Y5,QQe Y5,Nat.div_eq_of_lt Y5];have hc:kx Z b<0:=by unfold kx;rw[if_pos Y5];omega
   rw[hr0,dT] at U;rw[hr0,dT];have hs8:∀S R O N G C o Y l,bh .u64 (S::R::O::N::G::C::o::Y::.cells true 1 [.int .u64 (x:Int)]::l) (.slice 8 0 1 none)=some [x]:=fun S R O N G C o Y l=>aR (A:=[x]) rfl (by simp) rfl
   have ad9 :∀S R O N G C o Y l,bh .u64 (S::R::O::N::G::C::o::Y::.cells true 1 [.int .u64 (x:Int)]::l) (.slice 8 0 (dig 1000000000 Z).length none)=some (dig 1000000000 Z):=fun S R O N G C o Y l=>by have I:=dp [x];rw[U] at I;refine aR rfl (by simpa using I) ?_;have:([.int .u64 (x:Int)]:List AV)=iN .u64 [x]:=rfl;rw[this,iM,<-U,lF]
   have hs5:∀S R O N G l,bh .u64 (S::R::O::N::G::.cells true 1 (iN .u64 (dig 1000000000 b))::l) (.slice 5 0 (dig 1000000000 b).length none)=some (dig 1000000000 b):=fun S R O N G l=>aR rfl (by simp) (B5 (by simp))
   subst W;simp[ef,cC,cg,bR,h0,h3,Y9,hI,FS,hs8,ad9,hs5,U,lo,lt,lv,hc,w1,H,cr]
  .have hR1:xV a b (i+1)=.slice 7 0 (dig 1000000000 r).length none:=by unfold xV;rw[if_neg X,<-hr]
   have hM1:jj A B a b (i+1)=[.cells false 1 (iN .u64 A),.cells false 1 (iN .u64 B),.cells true 0 [.slice 5 0 (dig 1000000000 b).length none],.cells true 0 [.slice 6 0 a.length none],.cells true 1 (iN .u64 a),.cells true 1 (iN .u64 (dig 1000000000 b)),.cells true 1 (iN .u64 (List.replicate i 0++0::q)),.cells true 1 (iN .u64 Zr)]:=by unfold jj;rw[if_neg X,<-hq,<-aaT,hqz];rfl
   have hs9:∀S R O N G C o Y a8 l,bh .u64 (S::R::O::N::G::C::o::Y::a8::.cells true 1 (.int .u64 (x:Int)::iN .u64 (dig 1000000000 r))::l) (.slice 9 0 (1+(dig 1000000000 r).length) none)=some (x::dig 1000000000 r):=fun S R O N G C o Y a8 l=>
    aR (A:=x::dig 1000000000 r) rfl (by simp;omega) (B5 (by simp;omega))
   have abO :∀S R O N G C o Y a8 l,bh .u64 (S::R::O::N::G::C::o::Y::a8::.cells true 1 (.int .u64 (x:Int)::iN .u64 (dig 1000000000 r))::l) (.slice 9 0 (dig 1000000000 Z).length none)=some (dig 1000000000 Z):=fun S R O N G C o Y a8 l=>by refine aR rfl (by simpa using abN) ?_;rw[<-cr,iM,<-U,lF]
   have hs5:∀S R O N G l,bh .u64 (S::R::O::N::G::.cells true 1 (iN .u64 (dig 1000000000 b))::l) (.slice 5 0 (dig 1000000000 b).length none)=some (dig 1000000000 b):=fun S R O N G l=>aR rfl (by simp) (B5 (by simp))
   have g1:(1+(dig 1000000000 r).length)*8<=140737488355328:=by omega
   have g2:1+(dig 1000000000 r).length<=140737488355328:=by omega
   rw[hM1,hM0,hR1,hR0];by_cases Y5 :Z <b
   .have hc:kx Z b<0:=by unfold kx;rw[if_pos Y5];omega
    rw[if_pos Y5,QQe Y5,Nat.div_eq_of_lt Y5];subst W;simp[ef,cC,cg,bR,h0,h3,Y9,hI,FS,hs9,abO,hs5,U,lo,lt,lv,hc,w1,abM,H,t2,htk,g1,g2,cr]
   .rw[if_neg Y5]
    have hc:¬kx Z b<0:=by unfold kx;rw[if_neg Y5];split<;>omega
    have hrb:Z <1000000000*b:=by omega
    have hL:=xS (B:=1000000000) (by omega) rfl hrb (by omega);obtain⟨m,hmm⟩:=xE ((dig 1000000000 b).length);obtain⟨L,hLL⟩:=xE ((dig 1000000000 Z).length);obtain⟨p1,hp1⟩:=xE (L-1);have ad':p1<(dig 1000000000 Z).length:=by omega
    have wp1:IntKind.i64.wrap (((dig 1000000000 Z).length:Int)-1)=(p1:Int):=by rw[af];omega
    have acn:(p1:Int)<((dig 1000000000 Z).length:Int):=by omega
    obtain⟨D1,hD1,afa⟩:=dh ad';have afb:=ff (lo Z) hD1;have aaE:∀(j v:Nat),(dig 1000000000 Z)[j]? =some v->(AV.int IntKind.u64 (x:Int)::iN .u64 (dig 1000000000 r))[j]? =some (AV.int IntKind.u64 (v:Int)):=fun j v hv=>by
     rw[<-U,kR,List.getElem?_take] at hv;split at hv
     .rw[<-cr,Te,hv];rfl
     .cases hv
    have hc1:=aaE _ _ hD1;obtain⟨D,hDD,hDb⟩:∃D,((L=m/\D=D1)\/(L=m+1/\∃l,(dig 1000000000 Z)[m-1]? =some l/\D=D1*1000000000+l))/\D<1000000000*1000000000:=by
     rcases hL with h | h
     .exact⟨D1,.inl ⟨by omega,rfl⟩,by omega⟩
     .obtain⟨l,Z2,_⟩:=dh (l:=dig 1000000000 Z) (i:=m-1) (by omega)
      have:=ff (lo Z) Z2;exact⟨D1*1000000000+l,.inr ⟨by omega,l,Z2,rfl⟩,by omega⟩
    obtain⟨gt,g3,g4⟩:=VA (B:=1000000000) (r:=Z) (b:=b) (m:=m) (D:=D) (top:=top) (by omega) hmm.symm (by omega) (by rw[hmm];exact aat) hrb (by omega) (by
     rcases hDD with⟨I,rfl⟩ | ⟨I,l,h2,rfl⟩
     .left;exact⟨by omega,by rw[show m-1=p1 by omega];exact hD1⟩
     .right;exact⟨by omega,D1,l,by rw[show m=p1 by omega];exact hD1,h2,rfl⟩)
    obtain⟨g,hg⟩:=xE (D / top);obtain⟨d0,hd0⟩:=xE (min g 999999999);obtain⟨t,ht⟩:=xE (Z / b);rw[<-hg,<-ht] at g3;rw[<-ht] at g4;have htd:t<=d0:=by omega
    have aea:d0<1000000000:=by omega
    have hbt:b*t<=Z :=by rw[ht];exact Nat.mul_div_le Z b
    have P':0<b:=by omega
    have aeb:d0<K:=by omega
    have hK0:0<K:=by omega
    have abP:(d0:Int)<1000000000:=by omega
    have ZR:Z -b*t=Z %b:=by have:=Nat.mod_add_div Z b;rw[<-ht] at this;omega
    have mono:∀u v,u<=v->(dig 1000000000 u).length<=(dig 1000000000 v).length:=fun u v h=>by
     rcases Nat.lt_or_ge (dig 1000000000 v).length (dig 1000000000 u).length with h' | h'
     .have:=dR (B:=1000000000) (by omega) h';omega
     .exact h'
    have hlb:∀d,d<=d0->(dig 1000000000 (b*d)).length<=100000000:=fun d hd=>by
     have I:b*d<1000000000 ^ (m+1):=by have h2:=sP (B:=1000000000) (by omega) b;rw[<-hmm] at h2;rw[Nat.pow_succ];exact Nat.mul_lt_mul_of_lt_of_lt h2 (by omega)
     have:=fH (B:=1000000000) (by omega) I;omega
    have acC:∀d,d<=d0->0<d->(dig 1000000000 b).length<=(dig 1000000000 (b*d)).length:=fun d _ hd=>mono _ _ (Nat.le_mul_of_pos_right b hd)
    have abd:(x::dig 1000000000 r).take (dig 1000000000 Z).length=dig 1000000000 Z :=by rw[<-U,lF]
    have ae1:=ff (lo b) aat;have hgD:g<=D:=by rw[hg];exact Nat.div_le_self _ _
    have wg:IntKind.u64.wrap (g:Int)=(g:Int):=cU (by omega) (by omega);have wD:IntKind.u64.wrap ((D:Int) / (top:Int))=(g:Int):=by rw[<-Int.natCast_ediv,<-hg];exact wg
    have wD' :IntKind.u64.wrap ((D:Int).tdiv (top:Int))=(g:Int):=by rw[wW,<-hg];exact wg
    have aa2:¬top=0:=by omega
    have aaA:(if (999999999:Int)<(g:Int) then (999999999:Int) else (g:Int))=(d0:Int):=by split<;>omega
    have aa3:(dig 1000000000 Z).length<=100000000:=by omega
    have aax:(dig 1000000000 (b*t)).length<=(dig 1000000000 Z).length:=mono _ _ hbt;have aa4:(dig 1000000000 b).length<=100000000:=by omega
    have ac1:=hlb d0 (L9 _);have aco:(List.replicate i 0++0::q).take i=List.replicate i 0:=List.take_left' (by simp);have acp:(List.replicate i 0++0::q).drop (i+1)=q:=by rw[List.drop_append,ZN (by simp)];simp
    have hql:i<(List.replicate i 0++0::q).length:=by simp
    have adl:∀(v:Nat) S R O N G C o Y a8 a9 l,bh .u64 (S::R::O::N::G::C::o::Y::a8::a9::.cells true 1 (iN .u64 (dig 1000000000 v))::l) (.slice 10 0 (dig 1000000000 v).length none)=some (dig 1000000000 v):=fun v S R O N G C o Y a8 a9 l=>aR rfl (by simp) (B5 (by simp))
    have adm:∀(v:Nat) S R O N G C o Y a8 a9 a10 l,bh .u64 (S::R::O::N::G::C::o::Y::a8::a9::a10::.cells true 1 (iN .u64 (dig 1000000000 v))::l) (.slice 11 0 (dig 1000000000 v).length none)=some (dig 1000000000 v):=fun v S R O N G C o Y a8 a9 a10 l=>aR rfl (by simp) (B5 (by simp))
    rw[<-ht];rw[hmm] at hDD;rw[hLL] at hDD;subst W;rcases Nat.lt_or_ge t d0 with htlt | htge
    .obtain⟨F,hF⟩:=Dv (K:=K) A B a.length a (List.replicate i 0++0::q) Zr (x::dig 1000000000 r) b Z d0 t ht abd (by simpa using abN) P' htlt aea aeb hlb acC hb.1 hb.2.2
     simp only[fO,cr] at hF;subst ZF;rcases hDD with⟨I,rfl⟩ | ⟨I,l,h2,h3'⟩
     .have J:¬(dig 1000000000 b).length<(dig 1000000000 Z).length:=by omega
      clear I;simp[ef,cC,cg,bR,h0,h3,h4,ZS,Y9,hI,FS,hs9,abO,hs5,U,lo,lt,lv,hc,w1,abM,H,t2,htk,g1,g2,J,hc1,wp1,acn,wD,aa2,aaA,aa3,aax,aa4,abP,hF,adm,hbt,ZR,iM,rP,aco,acp,Nat.testBit];rw[dC,cr]
     .have J:(dig 1000000000 b).length<(dig 1000000000 Z).length:=by omega
      obtain⟨p2,hp2⟩:=xE (m-1);rw[<-hmm,<-hp2] at h2;have hc2:=aaE _ _ h2;have aec:=ff (lo Z) h2;have wp2:IntKind.i64.wrap (((dig 1000000000 Z).length:Int)-2)=(p2:Int):=by rw[af];omega
      have wl1:IntKind.u64.wrap ((D1:Int)*1000000000)=(D1:Int)*1000000000:=cU (by omega) (by omega);have wl2:IntKind.u64.wrap ((D1:Int)*1000000000+(l:Int))=(D:Int):=by rw[cU (by omega) (by omega)];omega
      have abD:(p2:Int)<((dig 1000000000 Z).length:Int):=by omega
      clear I;simp[ef,cC,cg,bR,h0,h3,h4,ZS,Y9,hI,FS,hs9,abO,hs5,U,lo,lt,lv,hc,w1,abM,H,t2,htk,g1,g2,J,hc2,wp2,abD,wl1,wl2,hc1,wp1,acn,wD,aa2,aaA,aa3,aax,aa4,abP,hF,adm,hbt,ZR,iM,rP,aco,acp,Nat.testBit];rw[dC,cr]
    .have aed:t=d0:=by omega
     rw[<-aed] at ac1 abP aaA;obtain⟨F,hF⟩:=Bd (K:=K) A B a.length a (List.replicate i 0++0::q) Zr (x::dig 1000000000 r) b Z t hbt abd (by simpa using abN) hK0 (by omega) hb.1 hb.2.2;simp only[fO,cr] at hF;subst ZF;rcases hDD with⟨I,rfl⟩ | ⟨I,l,h2,h3'⟩
     .have J:¬(dig 1000000000 b).length<(dig 1000000000 Z).length:=by omega
      clear I;simp[ef,cC,cg,bR,h0,h3,h4,ZS,Y9,hI,FS,hs9,abO,hs5,U,lo,lt,lv,hc,w1,abM,H,t2,htk,g1,g2,J,hc1,wp1,acn,wD,aa2,aaA,aa3,aax,aa4,abP,hF,adl,hbt,ZR,iM,rP,aco,acp,Nat.testBit];rw[dC,cr]
     .have J:(dig 1000000000 b).length<(dig 1000000000 Z).length:=by omega
      obtain⟨p2,hp2⟩:=xE (m-1);rw[<-hmm,<-hp2] at h2;have hc2:=aaE _ _ h2;have aec:=ff (lo Z) h2;have wp2:IntKind.i64.wrap (((dig 1000000000 Z).length:Int)-2)=(p2:Int):=by rw[af];omega
      have wl1:IntKind.u64.wrap ((D1:Int)*1000000000)=(D1:Int)*1000000000:=cU (by omega) (by omega);have wl2:IntKind.u64.wrap ((D1:Int)*1000000000+(l:Int))=(D:Int):=by rw[cU (by omega) (by omega)];omega
      have abD:(p2:Int)<((dig 1000000000 Z).length:Int):=by omega
      clear I;simp[ef,cC,cg,bR,h0,h3,h4,ZS,Y9,hI,FS,hs9,abO,hs5,U,lo,lt,lv,hc,w1,abM,H,t2,htk,g1,g2,J,hc2,wp2,abD,wl1,wl2,hc1,wp1,acn,wD,aa2,aaA,aa3,aax,aa4,abP,hF,adl,hbt,ZR,iM,rP,aco,acp,Nat.testBit];rw[dC,cr]
theorem FK(A B:List Nat)(H:Nat)(hA:lok 1000000000 A=true)(hB:lok 1000000000 B=true)(hl:A.length<=1000000)(tA:aW A=A)(tB:aW B=B)(hm:2<=B.length)(I:B[B.length-1]? =some H)(Zl:aq 1000000000 B<=aq 1000000000 A):
  ∃q,aW q=dig 1000000000 (aq 1000000000 A / aq 1000000000 B)/\aa (bd prog) gj (aX prog) ef 2000000001 223 [.slice 0 0 A.length none,.slice 1 0 B.length none] [.cells false 1 (iN .u64 A),.cells false 1 (iN .u64 B)]=
   some (if aq 1000000000 A%aq 1000000000 B=0 then⟨.tuple [.slice 2 0 (aW q).length none,.qF],none,[.cells true 1 (iN .u64 q)]⟩ else
    ⟨.tuple [.slice 2 0 (aW q).length none,.slice 3 0 (dig 1000000000 (aq 1000000000 A%aq 1000000000 B)).length none],none,[.cells true 1 (iN .u64 q),.cells true 1 (iN .u64 (dig 1000000000 (aq 1000000000 A%aq 1000000000 B)))]⟩):=by
 obtain⟨b1,c,hb⟩:∃b1 c,ah f223=[b1,c]/\gj b1=[11,5]/\gj c=[13,12]:=⟨_,_,rfl,by decide,by decide⟩
 have dA:=mL (B:=1000000000) (by omega) hA tA;have dB:=mL (B:=1000000000) (by omega) hB tB;obtain⟨av,S⟩:=xE (aq 1000000000 A);obtain⟨X,j⟩:=xE (aq 1000000000 B);rw[<-S] at dA Zl |-;rw[<-j] at dB Zl |-;have htb:=ff hB I;obtain⟨f,hf⟩:=xE (1000000000 / (H+1));have ZO:1<=f:=by rw[hf,Nat.le_div_iff_mul_le (by omega)];omega
 have afc:1000000000<=X:=by have h:=sY (B:=1000000000) (by omega) X (by rintro rfl;rw[dT] at dB;rw[<-dB] at hm;simp at hm);rw[dB] at h;have:1000000000 ^ 1<=1000000000 ^ (B.length-1):=P3 (by omega) (by omega);omega
 have htp:0<H:=by
  rcases QQX H with h | h
  .have h2:aW B=aW (B.take (B.length-1)):=by
    have FS:B.length-1<B.length:=by omega
    have ht:=(Ns.1 I).2;conv=>lhs;rw[<-List.take_append_drop (B.length-1) B,N0 FS,ht,ZN (by omega),h]
    exact jN _
   have h3:=dp (B.take (B.length-1));rw[<-h2,tB,S2] at h3;omega
  .exact h
 have Y:f<1000000000:=by rw[hf,Nat.div_lt_iff_lt_mul (by omega)];omega
 have mono:∀u v,u<=v->(dig 1000000000 u).length<=(dig 1000000000 v).length:=fun u v h=>by
  rcases Nat.lt_or_ge (dig 1000000000 v).length (dig 1000000000 u).length with h' | h'
  .have:=dR (B:=1000000000) (by omega) h';omega
  .exact h'
 have hmB:2<=(dig 1000000000 (X*f)).length:=by have:=mono X (X*f) (Nat.le_mul_of_pos_right X ZO);rw[dB] at this;omega
 have hmA:(dig 1000000000 (X*f)).length<=(dig 1000000000 (av*f)).length:=mono _ _ (QQf _ Zl);have hlA:(dig 1000000000 (av*f)).length<=A.length+1:=by
  have h1:av*f<1000000000 ^ (A.length+1):=by have h2:=ia hA;rw[<-S] at h2;rw[Nat.pow_succ];exact Nat.mul_lt_mul_of_lt_of_lt h2 Y
  exact fH (by omega) h1
 obtain⟨top,R,_⟩:=dh (l:=dig 1000000000 (X*f)) (i:=(dig 1000000000 (X*f)).length-1) (by omega);obtain⟨F,hF⟩:=Dw (K:=2000000001) A B (dig 1000000000 (av*f)) (X*f) top (bX (by omega) _) (by omega) hmB hmA R (by omega) hb;obtain⟨a,W⟩:=xE (dig 1000000000 (av*f));obtain⟨Z,V⟩:=xE (X*f);rw[<-W,<-V] at hF hmA;rw[<-V] at R hmB;rw[<-W] at hlA;have adn:0<Z:=by rw[V];exact Nat.mul_pos (by omega) (by omega)
 obtain⟨i1,i2,i3,i4⟩:=jx (B:=1000000000) adn a (by rw[W];exact bX (by omega) _);have hva:aq 1000000000 a=av*f:=by rw[W];exact bO (by omega) _
 rw[hva] at i2;obtain⟨q,hq⟩:=xE ((gx 1000000000 Z a).1);obtain⟨U,O⟩:=xE ((gx 1000000000 Z a).2);rw[<-hq,<-O] at i2;rw[<-hq] at i3 i4;rw[<-O] at i1;have hqv:aq 1000000000 q=av / X:=by
  have h1:(av*f) / Z=aq 1000000000 q:=by rw[<-i2,Zq,Nat.mul_add_div adn,Nat.div_eq_of_lt i1,Nat.add_zero]
  rw[<-h1,V,Nat.mul_div_mul_right _ _ (by omega)]
 have hrv:U=(av%X)*f:=by
  have h1:(av*f)%Z=U:=by rw[<-i2,Zq,Nat.mul_add_mod,QQe i1]
  rw[<-h1,V,Nat.mul_mod_mul_right]
 have hrf:U / f=av%X:=by rw[hrv,Nat.mul_div_cancel _ (by omega)]
 refine⟨q,by rw[<-dS (by omega) i3,hqv],?_⟩;have Zm:¬0=a.length:=by omega
 obtain⟨rt1,rt2⟩:=CP (b:=Z) (l:=a) (by rw[W];exact bX (by omega) _);obtain⟨row,aaq⟩:=xE (wT Z a);rw[<-aaq,<-O] at rt1 rt2;have hH0:jj A B a Z 0=[.cells false 1 (iN .u64 A),.cells false 1 (iN .u64 B),.cells true 0 [.slice 5 0 (dig 1000000000 Z).length none],.cells true 0 [.slice 6 0 a.length none],.cells true 1 (iN .u64 a),.cells true 1 (iN .u64 (dig 1000000000 Z)),.cells true 1 (iN .u64 q),.cells true 1 (iN .u64 row)]:=by unfold jj;rw[if_neg Zm,List.drop_zero,<-hq,<-aaq];rfl
 have hHn:jj A B a Z a.length=[.cells false 1 (iN .u64 A),.cells false 1 (iN .u64 B),.cells true 0 [.slice 5 0 (dig 1000000000 Z).length none],.cells true 0 [.slice 6 0 a.length none],.cells true 1 (iN .u64 a),.cells true 1 (iN .u64 (dig 1000000000 Z)),.cells true 1 (iN .u64 (List.replicate a.length 0))]:=by unfold jj;rw[if_pos rfl,List.drop_length];simp[gx]
 have hR0:xV a Z 0=.slice 7 0 (dig 1000000000 U).length none:=by unfold xV;rw[if_neg Zm,List.drop_zero,<-O]
 rw[hH0,hHn,hR0] at hF;obtain⟨N,_⟩:=hb;simp[ah,aE,f223] at N;obtain⟨N,_⟩:=N;subst N;have lo:∀v,lok 1000000000 (dig 1000000000 v)=true:=fun v=>bX (by omega) v
 have lt:∀v,aW (dig 1000000000 v)=dig 1000000000 v:=fun v=>cj (by omega) v
 have lv:∀v,aq 1000000000 (dig 1000000000 v)=v:=fun v=>bO (by omega) v
 have hs0:∀l,bh .u64 (.cells false 1 (iN .u64 A)::l) (.slice 0 0 A.length none)=some A:=fun l=>aR rfl (by simp) (B5 (by simp))
 have hs1:∀x l,bh .u64 (x::.cells false 1 (iN .u64 B)::l) (.slice 1 0 B.length none)=some B:=fun x l=>aR rfl (by simp) (B5 (by simp))
 have hs6:∀L G D C o m l,bh .u64 (L::G::D::C::o::m::.cells true 1 (iN .u64 q)::l) (.slice 6 0 a.length none)=some q:=fun L G D C o m l=>aR rfl (by simp[i4]) (B5 (by simp[i4]))
 have hs7:∀L G D C o m a6 l,bh .u64 (L::G::D::C::o::m::a6::.cells true 1 (iN .u64 row)::l) (.slice 7 0 (dig 1000000000 U).length none)=some (dig 1000000000 U):=fun L G D C o m a6 l=>aR rfl (by simpa using rt2) (by rw[iM,rt1])
 have hs8:∀L G D C o m a6 a7 l,bh .u64 (L::G::D::C::o::m::a6::a7::.cells true 1 [.int .u64 (f:Int)]::l) (.slice 8 0 1 none)=some [f]:=fun L G D C o m a6 a7 l=>aR (A:=[f]) rfl (by simp) rfl
 have hc:¬kx av X<0:=by unfold kx;rw[if_neg (by omega)];split<;>omega
 obtain⟨p,hp⟩:=xE (B.length-1);rw[<-hp] at I;have hpB:p<B.length:=by omega
 have ab4 :B[p]=H:=(Ns.1 I).2;obtain⟨p2,hp2⟩:=xE ((dig 1000000000 Z).length-1);rw[<-hp2] at R;have ado:p2<(dig 1000000000 Z).length:=by omega
 have abe :(dig 1000000000 Z)[p2]=top:=(Ns.1 R).2;have hlB:B.length<=A.length:=by rw[<-dA,<-dB];exact mono _ _ Zl
 have wp:IntKind.i64.wrap ((B.length:Int)-1)=(p:Int):=by rw[af];omega
 have wp2:IntKind.i64.wrap (((dig 1000000000 Z).length:Int)-1)=(p2:Int):=by rw[af];omega
 have Z4:(dig 1000000000 Z).length<=1000001:=by omega
 have wan:IntKind.i64.wrap ((a.length:Int)-1)=(a.length:Int)-1:=af;have hpI:(p:Int)<(B.length:Int):=by omega
 have abD:(p2:Int)<((dig 1000000000 Z).length:Int):=by omega
 obtain⟨t1,ht1⟩:=xE (α:=Nat) (H+1);have wt:IntKind.u64.wrap ((H:Int)+1)=(t1:Int):=by rw[cU (by omega) (by omega)];omega
 rw[<-ht1] at hf;have adp:¬t1=0:=by omega
 have wf0:IntKind.u64.wrap (f:Int)=(f:Int):=cU (by omega) (by omega);have wf:IntKind.u64.wrap ((1000000000:Int) / (t1:Int))=(f:Int):=by rw[show((1000000000:Int) / (t1:Int))=((1000000000 / t1:Nat):Int) from rfl,<-hf];exact wf0
 have wf' :IntKind.u64.wrap ((1000000000:Int).tdiv (t1:Int))=(f:Int):=by rw[show((1000000000:Int).tdiv (t1:Int))=((1000000000 / t1:Nat):Int) from rfl,<-hf];exact wf0
 have hB1:¬(B.length:Int)=1:=by omega
 have hfI:(f:Int)<1000000000:=by omega
 have hl8:A.length<=100000000:=by omega
 have hl9:A.length<=1000000000:=by omega
 have adq:B.length<=100000000:=by omega
 have hq9:q.length<=1000000000:=by omega
 have h8:8*(a.length:Int)<=281474976710656:=by omega
 have h9:(a.length:Int)<=281474976710656:=by omega
 have adr:(dig 1000000000 U).length<=100000000:=by have:(dig 1000000000 U).length<=(dig 1000000000 Z).length:=mono _ _ (by omega);omega
 have hf0:0<f:=ZO;by_cases hz:av%X=0
 .have afd:U=0:=by rw[hrv,hz,Nat.zero_mul]
  have J:U<f:=by omega
  rw[if_pos hz];simp[aa,agU,f223,ef,cC,cg,bR,hs0,hs1,hs6,hs7,hs8,hA,hB,<-S,<-j,<-W,<-V,tA,tB,hc,lo,lt,lv,wp,wp2,wan,hpI,abD,ab4,abe,hpB,ado,wt,adp,wf',hB1,hfI,hl8,hl9,adq,hq9,h8,h9,hF,adr,hf0,Y,J,rQ,Nat.testBit]
 .have J:¬U<f:=by have:f<=av%X*f:=Nat.le_mul_of_pos_left f (by omega);omega
  rw[if_neg hz];simp[aa,agU,f223,ef,cC,cg,bR,hs0,hs1,hs6,hs7,hs8,hA,hB,<-S,<-j,<-W,<-V,tA,tB,hc,lo,lt,lv,wp,wp2,wan,hpI,abD,ab4,abe,hpB,ado,wt,adp,wf',hB1,hfI,hl8,hl9,adq,hq9,h8,h9,hF,adr,hf0,Y,J,hrf,rQ,Nat.testBit];exact⟨rfl,rfl⟩
theorem PJ{B:List Nat}(J:lok 1000000000 A=true)(W:lok 1000000000 B=true)(Y:A.length<=1000000)(tA:aW A=A)(tB:aW B=B)(hm:2<=B.length)(Zl:aq 1000000000 B<=aq 1000000000 A)(H:aft .u64 M x A)(I:aft .u64 M y B):
  if aq 1000000000 A%aq 1000000000 B=0 then kO prog 223 [x,y] M (.tuple [.slice M.length 0 (dig 1000000000 (aq 1000000000 A / aq 1000000000 B)).length none,.qF]) (M++[.cells true 1 (iN .u64 (dig 1000000000 (aq 1000000000 A / aq 1000000000 B)))])
  else kO prog 223 [x,y] M (.tuple [.slice M.length 0 (dig 1000000000 (aq 1000000000 A / aq 1000000000 B)).length none,.slice (M.length+1) 0 (dig 1000000000 (aq 1000000000 A%aq 1000000000 B)).length none])
   (M++[.cells true 1 (iN .u64 (dig 1000000000 (aq 1000000000 A / aq 1000000000 B))),.cells true 1 (iN .u64 (dig 1000000000 (aq 1000000000 A%aq 1000000000 B)))]):=by
 obtain⟨X,V,_⟩:=dh (l:=B) (i:=B.length-1) (by omega);obtain⟨q,R,h⟩:=FK A B X J W Y tA tB hm V Zl;have:=(ar aj (aJ _) Ij (aM _) h).1;split
 .rename_i U
  rw[if_pos U] at this;simp only[afh.mem,Option.getD_none,List.cons_append,List.nil_append] at this;have S:=kO.agi (m2:=[.cells false 1 (iN .u64 A),.cells false 1 (iN .u64 B),.cells true 1 (iN .u64 (aW q))]) this rfl (fun b s Z=>by
   match b with
   |0=>simp at Z;subst Z;exact⟨_,rfl,.inl rfl⟩
   |1=>simp at Z;subst Z;exact⟨_,rfl,.inl rfl⟩
   |2=>simp at Z;subst Z;exact⟨_,rfl,.row (dD _)⟩
   |b+3=>simp at Z)
  obtain⟨b,c,rfl,rfl,h3⟩:=kO.agc (new:=[.cells true 1 (iN .u64 (aW q))]) rfl S H I;rw[R] at h3;simpa [AV.ren,AV.afz,fa] using h3
 .rename_i U
  rw[if_neg U] at this;simp only[afh.mem,Option.getD_none,List.cons_append,List.nil_append] at this;have S:=kO.agi (m2:=[.cells false 1 (iN .u64 A),.cells false 1 (iN .u64 B),.cells true 1 (iN .u64 (aW q)),.cells true 1 (iN .u64 (dig 1000000000 (aq 1000000000 A%aq 1000000000 B)))]) this rfl (fun b s Z=>by
   match b with
   |0=>simp at Z;subst Z;exact⟨_,rfl,.inl rfl⟩
   |1=>simp at Z;subst Z;exact⟨_,rfl,.inl rfl⟩
   |2=>simp at Z;subst Z;exact⟨_,rfl,.row (dD _)⟩
   |3=>simp at Z;subst Z;exact⟨_,rfl,.inl rfl⟩
   |b+4=>simp at Z)
  obtain⟨b,c,rfl,rfl,h3⟩:=kO.agc (new:=[.cells true 1 (iN .u64 (aW q)),.cells true 1 (iN .u64 (dig 1000000000 (aq 1000000000 A%aq 1000000000 B)))]) rfl S H I;rw[R] at h3;simpa [AV.ren,AV.afz,fa] using h3
noncomputable def ct:y9:=fun c Z M=>match c,Z with
 |.fn 223,[x,y]=>match bh .u64 M x,bh .u64 M y with
  |some A,some B=>if lok 1000000000 A=true/\lok 1000000000 B=true/\A.length<=1000000/\aW A=A/\aW B=B/\0<aq 1000000000 B then
    (if aq 1000000000 A<aq 1000000000 B then some ⟨.tuple [.qF,x],none,[]⟩
    else if 2<=B.length/\aq 1000000000 A%aq 1000000000 B=0 then some ⟨.tuple [.slice M.length 0 (dig 1000000000 (aq 1000000000 A / aq 1000000000 B)).length none,.qF],none,[.cells true 1 (iN .u64 (dig 1000000000 (aq 1000000000 A / aq 1000000000 B)))]⟩
    else some ⟨.tuple [.slice M.length 0 (dig 1000000000 (aq 1000000000 A / aq 1000000000 B)).length none,.slice (M.length+1) 0 (dig 1000000000 (aq 1000000000 A%aq 1000000000 B)).length none],none,[.cells true 1 (iN .u64 (dig 1000000000 (aq 1000000000 A / aq 1000000000 B))),.cells true 1 (iN .u64 (dig 1000000000 (aq 1000000000 A%aq 1000000000 B)))]⟩) else none
  |_,_=>none
 |c,Z=>cC c Z M
theorem Ik:qS prog ct:=by
 refine cB fun c G M r h=>?_
 unfold ct at h;split at h
 .split at h
  .rename_i A B V U
   split at h
   .rename_i D
    obtain⟨S,R,C,O,F,X⟩:=D;split at h
    .rename_i N
     cases h;refine aC ?_;rw[List.append_nil];exact vy S R (by omega) O F N (bk V) (bk U)
    .rename_i N
     by_cases Z:2<=B.length
     .have:=PJ S R C O F Z (by omega) (bk V) (bk U)
      split at h
      .rename_i L
       rw[if_pos L.2] at this;cases h;exact aC this
      .rename_i L
       rw[if_neg (fun e=>L ⟨Z,e⟩)] at this;cases h;exact aC this
     .rw[if_neg (fun e=>Z e.1)] at h
      obtain⟨d,rfl⟩:∃d,B=[d]:=by
       match B,Z,X with
       | [],_,X=>simp[aq] at X
       | [d],_,_=>exact⟨d,rfl⟩
       |_::_::_,Z,_=>simp at Z
      have u:aq 1000000000 [d]=d:=by simp[aq]
      rw[u] at X N h;have o:d<1000000000:=by simpa [lok] using R
      cases h;exact aC (Ed X o S (by omega) O (by omega) (bk V) (bk U))
   .cases h
  .cases h
 .exact dZ qN h
end Go.Proofs
