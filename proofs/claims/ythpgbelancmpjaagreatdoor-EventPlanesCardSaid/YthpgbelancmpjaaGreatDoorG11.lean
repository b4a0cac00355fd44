/- See G38. -/
import Derived.Test.YthpgbelancmpjaaGreatDoorG10
set_option linter.all false
set_option maxRecDepth 100000
set_option maxHeartbeats 40000000
namespace Go.Proofs
open Go.Eng
open Tryz
noncomputable def cg:y9:=fun c Z M=>match c,Z with
 |.fn 248,[x,y]=>match bd .u64 M x,bd .u64 M y with
  |some A,some B=>if lok 1000000000 A=true/\lok 1000000000 B=true/\A.length<=100000000/\B.length<=100000000 then some ⟨.slice M.length 0 (dig 1000000000 (ao 1000000000 A+ao 1000000000 B)).length none,none,[.cells true 1 (iN .u64 (dig 1000000000 (ao 1000000000 A+ao 1000000000 B)))]⟩ else none
  |_,_=>none
 |.fn 250,[x,y]=>match bd .u64 M x,bd .u64 M y with
  |some A,some B=>if lok 1000000000 A=true/\lok 1000000000 B=true/\A.length<=100000000/\B.length<=A.length/\ao 1000000000 B<=ao 1000000000 A then some ⟨.slice M.length 0 (dig 1000000000 (ao 1000000000 A-ao 1000000000 B)).length none,none,[.cells true 1 (iN .u64 (dig 1000000000 (ao 1000000000 A-ao 1000000000 B)))]⟩ else none
  |_,_=>none
 |.fn 211,[x,y]=>match bd .u64 M x,bd .u64 M y with
  |some A,some B=>if lok 1000000000 A=true/\lok 1000000000 B=true/\A.length<=100000000/\B.length<=100000000 then some ⟨.slice M.length 0 (dig 1000000000 (ao 1000000000 A*ao 1000000000 B)).length none,none,[.cells true 1 (iN .u64 (dig 1000000000 (ao 1000000000 A*ao 1000000000 B)))]⟩ else none
  |_,_=>none
 |.fn 255,[x]=>match x with
  |.slice b 0 n none=>if b<M.length then some ⟨.func 279 [.ptr M.length 0],none,[.cells true 0 [.slice b 0 n none]]⟩ else none
  |_=>none
 |.fn 253,[x]=>bR (.fn 253) [x] M
 |.fn 249,[x,y]=>bR (.fn 249) [x,y] M
 |_,_=>none
theorem qP:qS prog cg:=by
 refine cw fun c L M r h=>?_
 unfold cg at h;split at h
 .split at h
  .rename_i Z X
   split at h
   .rename_i V
    obtain⟨U,S,R,N⟩:=V;cases h;exact au (MZ U S R N (bh Z) (bh X))
   .cases h
  .cases h
 .split at h
  .rename_i Z X
   split at h
   .rename_i V
    obtain⟨U,S,R,N,F⟩:=V;cases h;exact au (HQ U S R N F (bh Z) (bh X))
   .cases h
  .cases h
 .split at h
  .rename_i Z X
   split at h
   .rename_i V
    obtain⟨U,S,R,N⟩:=V;cases h;exact au (If U S R N (bh Z) (bh X))
   .cases h
  .cases h
 .split at h
  .split at h
   .rename_i C
    cases h;refine aB (T:=aX prog) (lv:=fun _=>[]) (G:=aZ prog) (O:=cO) (K:=1) aj (aI _) (az _) (aQ _) ?_;exact A7 _ _ M C
   .cases h
  .cases h
 .exact ee jo h
 .exact ee jo h
 .cases h
theorem agX:aZ prog 223=some f223:=by kernel_rfl
theorem FW(A:List Nat)(d:Nat)(H:0<d)(hd:d<1000000000)(I:lok 1000000000 A=true)(hl:A.length<=100000000)(tA:aW A=A)(ZJ:d<=ao 1000000000 A):
  ∃O:y9,qS prog O/\ae (aX prog) (fun _=>[]) (aZ prog) (cg.or O) 1 223 [.slice 0 0 A.length none,.slice 1 0 1 none] [.cells false 1 (iN .u64 A),.cells false 1 [.int .u64 (d:Int)]]=
   some ⟨.tuple [.slice 2 0 (aW (gx 1000000000 d A).1).length none,.slice 3 0 (aW [(gx 1000000000 d A).2]).length none],some [.cells false 1 (iN .u64 A),.cells false 1 [.int .u64 (d:Int)]],[.cells true 1 (iN .u64 (gx 1000000000 d A).1),.cells true 1 [.int .u64 (((gx 1000000000 d A).2:Nat):Int)]]⟩:=by
 obtain⟨V,U,Z,u⟩:∃V U Z,fc f223=[(V,U,Z)]:=⟨_,_,_,rfl⟩
 have S:0<A.length:=by
  rcases QQK A.length with h | h
  .rw[Mp h] at ZJ;simp[ao] at ZJ;omega
  .exact h
 obtain⟨O,hO,R⟩:=DK A d H hd I (by omega) S u;refine⟨O,hO,?_⟩;obtain⟨i1,i2,i3,B⟩:=Cj H hd A I;have N:∀X,lU A d V U Z X 0=[.cells false 1 (iN .u64 A),.cells false 1 [.int .u64 (d:Int)],.cells true 0 [.slice 1 0 1 none],.cells true 0 [.slice 4 0 A.length none],
  .cells true 1 (iN .u64 (gx 1000000000 d A).1),.cells true 0 [.int .u64 (((gx 1000000000 d A).2:Nat):Int)],.cells true 0 [.slice 0 0 A.length none],.loop ⟨.ready,none,X,146,V,U,Z⟩]:=fun X=>rfl
 have M:∀X,lU A d V U Z X A.length=[.cells false 1 (iN .u64 A),.cells false 1 [.int .u64 (d:Int)],.cells true 0 [.slice 1 0 1 none],.cells true 0 [.slice 4 0 A.length none],
  .cells true 1 (iN .u64 (List.replicate A.length 0)),.cells true 0 [.int .u64 0],.cells true 0 [.slice 0 0 A.length none],.loop ⟨.ready,none,X,146,V,U,Z⟩]:=fun X=>by
  unfold lU;rw[List.drop_length];simp[gx]
 have L:∀X,(ad X 3=.ptr 2 0/\ad X 4=.ptr 3 0/\ad X 6=.ptr 5 0/\X.flatMap (fun e=>e.2.refs 8)=[])->
   O (.fn 279) [.yield 7,.ptr 6 0] [.cells false 1 (iN .u64 A),.cells false 1 [.int .u64 (d:Int)],.cells true 0 [.slice 1 0 1 none],.cells true 0 [.slice 4 0 A.length none],
  .cells true 1 (iN .u64 (List.replicate A.length 0)),.cells true 0 [.int .u64 0],.cells true 0 [.slice 0 0 A.length none],.loop ⟨.ready,none,X,146,V,U,Z⟩]=some ⟨.tuple [],some [.cells false 1 (iN .u64 A),.cells false 1 [.int .u64 (d:Int)],.cells true 0 [.slice 1 0 1 none],.cells true 0 [.slice 4 0 A.length none],
  .cells true 1 (iN .u64 (gx 1000000000 d A).1),.cells true 0 [.int .u64 (((gx 1000000000 d A).2:Nat):Int)],.cells true 0 [.slice 0 0 A.length none],.loop ⟨.ready,none,X,146,V,U,Z⟩],[]⟩:=fun X h=>by
  have:=R X h
  rwa [M,N] at this
 clear R N M;obtain⟨q,hq⟩:=xE ((gx 1000000000 d A).1);obtain⟨r,hr⟩:=xE ((gx 1000000000 d A).2);rw[<-hq,<-hr] at L |-;rw[<-hq] at i3 B;simp[fc,gw,f223] at u;obtain⟨rfl,rfl,rfl⟩:=u;have hs0:∀l,bd .u64 (.cells false 1 (iN .u64 A)::l) (.slice 0 0 A.length none)=some A:=fun l=>aU rfl (by simp) (B5 (by simp))
 have hs1:∀l,bd .u64 (.cells false 1 (iN .u64 A)::.cells false 1 [.int .u64 (d:Int)]::l) (.slice 1 0 1 none)=some [d]:=fun l=>aU (A:=[d]) rfl (by simp) rfl
 have hs4:∀K G F C l,bd .u64 (K::G::F::C::.cells true 1 (iN .u64 q)::l) (.slice 4 0 A.length none)=some q:=fun K G F C l=>aU rfl (by simp[B]) (B5 (by simp[B]))
 have o:∀K G F C a4 a5 a6 a7 l,bd .u64 (K::G::F::C::a4::a5::a6::a7::.cells true 1 [.int .u64 (r:Int)]::l) (.slice 8 0 1 none)=some [r]:=fun K G F C a4 a5 a6 a7 l=>aU (A:=[r]) rfl (by simp) rfl
 have m:lok 1000000000 [d]=true:=by simp[lok];omega
 have j:aW [d]=[d]:=by simp[aW];omega
 have Y:ao 1000000000 [d]=d:=by simp[ao]
 have J:¬kv (ao 1000000000 A) d<0:=by unfold kv;rw[if_neg (by omega)];split<;>omega
 have h8:8*(A.length:Int)<=281474976710656:=by omega
 have h9:(A.length:Int)<=281474976710656:=by omega
 have h10:A.length<=1000000000:=by omega
 simp[ae,agX,f223,y9.or,cg,bR,hs0,hs1,I,tA,m,j,Y,J,h8,h9,h10,rU,vd,L,hs4,o,B,zm,Nat.testBit];exact⟨rfl,rfl⟩
variable{B:Nat}{l:List Nat}
theorem TK(h:lok B l=true):lok B (aW l)=true:=by rw[kU l];exact jJ h _
theorem mJ(H:2<=B)(h:lok B l=true)(I:aW l=l):dig B (ao B l)=l:=by rw[dV H h,I]
variable{A:List Nat}{d:Nat}
theorem Ic(hd:d<1000000000)(H:lok 1000000000 A=true)(I:A.length<=100000000):
  kO prog 266 [.slice 0 0 A.length none,.int .u64 (d:Int)] [.cells false 1 (iN .u64 A)] (.slice 1 0 (dig 1000000000 (ao 1000000000 A*d)).length none) [.cells false 1 (iN .u64 A),.cells true 1 (iN .u64 (dig 1000000000 (ao 1000000000 A*d)))]:=by
 have S:aZ prog 266=some f266:=by kernel_rfl
 have hs0:∀l,bd .u64 (.cells false 1 (iN .u64 A)::l) (.slice 0 0 A.length none)=some A:=fun l=>aU rfl (by simp) (B5 (by simp))
 have hs1:∀Z l,bd .u64 (Z::.cells true 1 [.int .u64 (d:Int)]::l) (.slice 1 0 1 none)=some [d]:=fun Z l=>aU (A:=[d]) rfl (by simp) rfl
 have hs2:∀Z l,bd .u64 (Z::.cells true 1 [.int .u64 (d:Int)]::l) (.slice 1 0 (aW [d]).length none)=some (aW [d]):=fun Z l=>aU rfl (by have:=dm [d];simpa using this) (by have:([.int .u64 (d:Int)]:List AV)=iN .u64 [d]:=rfl;rw[this,iJ,lE])
 have X:lok 1000000000 (aW [d])=true:=TK (by simp[lok];omega);have V:ao 1000000000 (aW [d])=d:=by rw[EZ];simp[ao]
 have U:(aW [d]).length<=100000000:=by have:=dm [d];simp at this;omega
 have h:ae (aX prog) (fun _=>[]) (aZ prog) cg 1 266 [.slice 0 0 A.length none,.int .u64 (d:Int)] [.cells false 1 (iN .u64 A)]=some ⟨.slice 1 0 (dig 1000000000 (ao 1000000000 A*d)).length none,none,[.cells true 1 (iN .u64 (dig 1000000000 (ao 1000000000 A*d)))]⟩:=by simp[ae,S,f266,cg,bR,hs0,hs1,hs2,H,I,X,V,U]
 have:=(aB aj (aI _) qP (aQ _) h).1;simpa [afl.mem] using this
variable{M:Mem}{x:AV}
theorem Ib(hd:d<1000000000)(H:lok 1000000000 A=true)(I:A.length<=100000000)(J:afw .u64 M x A):
  kO prog 266 [x,.int .u64 (d:Int)] M (.slice M.length 0 (dig 1000000000 (ao 1000000000 A*d)).length none) (M++[.cells true 1 (iN .u64 (dig 1000000000 (ao 1000000000 A*d)))]):=by
 obtain⟨b,rfl,h⟩:=kO.agU (new:=[.cells true 1 (iN .u64 (dig 1000000000 (ao 1000000000 A*d)))]) (rest:=[.int .u64 (d:Int)]) rfl rfl (Ic hd H I) J;simpa [AV.ren,fA] using h
noncomputable def cC:y9:=fun c Z M=>match c,Z with
 |.fn 266,[x,.int .u64 d]=>match bd .u64 M x with
  |some A=>if lok 1000000000 A=true/\A.length<=100000000/\0<=d/\d<1000000000 then some ⟨.slice M.length 0 (dig 1000000000 (ao 1000000000 A*d.toNat)).length none,none,[.cells true 1 (iN .u64 (dig 1000000000 (ao 1000000000 A*d.toNat)))]⟩ else none
  |_=>none
 |c,Z=>cg c Z M
theorem qQ:qS prog cC:=by
 refine cw fun c Z M r h=>?_
 unfold cC at h;split at h
 .split at h
  .rename_i V
   split at h
   .rename_i U
    obtain⟨S,R,X,O⟩:=U;cases h;have N:=(Int.toNat_lt X).2 O;have:=Ib N S R (bh V);rw[QQi X] at this;exact au this
   .cases h
  .cases h
 .exact ee qP h
def gk(c:Code):List Nat:=if (aa c).contains 11 then [11,5] else [13,12]
theorem ju{B d:Nat}(hd:0<d):∀l:List Nat,lok B l=true->(gx B d l).2<d/\ao B (gx B d l).1*d+(gx B d l).2=ao B l/\lok B (gx B d l).1=true/\(gx B d l).1.length=l.length
 | [],_=>by simp[gx,ao,lok,hd]
 |x::l,h=>by
  rw[cX,Es,GE] at h;obtain⟨X,V,U,S⟩:=ju hd l h.2;simp only[gx];have Z:=Nat.mod_add_div ((gx B d l).2*B+x) d;refine⟨Nat.mod_lt _ hd,?_,?_,by simp[S]⟩
  .rw[ao,ao,<-V,Nat.add_mul,Nat.mul_add]
   rw[QQZ d] at Z;rw[QXZ,QQZ B (gx B d l).2];omega
  .rw[cX,Es,GE]
   refine⟨?_,U⟩;rw[Nat.div_lt_iff_lt_mul hd];have h3:((gx B d l).2+1)*B<=d*B:=QQk _ X;rw[Nat.add_mul] at h3;rw[QQZ B d];omega
variable{y:AV}
theorem vN{B:List Nat}(H:lok 1000000000 A=true)(I:lok 1000000000 B=true)(J:A.length<=1000000000)(tA:aW A=A)(Y:aW B=B)(FS:ao 1000000000 A<ao 1000000000 B)(hx:afw .u64 M x A)(hy:afw .u64 M y B):
  kO prog 223 [x,y] M (.tuple [.qF,x]) M:=by
 have hs0:∀l,bd .u64 (.cells false 1 (iN .u64 A)::l) (.slice 0 0 A.length none)=some A:=fun l=>aU rfl (by simp) (B5 (by simp))
 have hs1:∀a l,bd .u64 (a::.cells false 1 (iN .u64 B)::l) (.slice 1 0 B.length none)=some B:=fun a l=>aU rfl (by simp) (B5 (by simp))
 have Z:kv (ao 1000000000 A) (ao 1000000000 B)<0:=by unfold kv;rw[if_pos FS];omega
 have h:ae (aX prog) gk (aZ prog) cC 1 223 [.slice 0 0 A.length none,.slice 1 0 B.length none] [.cells false 1 (iN .u64 A),.cells false 1 (iN .u64 B)]=some ⟨.tuple [.qF,.slice 0 0 A.length none],none,[]⟩:=by simp[ae,agX,f223,cC,cg,bR,hs0,hs1,H,I,J,tA,Y,Z]
 have:=(aB aj (aI _) qQ (aQ _) h).1;simp only[afl.mem,Option.getD_none,List.append_nil] at this;obtain⟨b,c,rfl,rfl,h3⟩:=kO.agi (new:=[]) rfl this hx hy;simpa [AV.ren,AV.afI,fA] using h3
theorem Et(H:0<d)(hd:d<1000000000)(I:lok 1000000000 A=true)(J:A.length<=100000000)(tA:aW A=A)(Y:d<=ao 1000000000 A)(hx:afw .u64 M x A)(hy:afw .u64 M y [d]):
  kO prog 223 [x,y] M (.tuple [.slice M.length 0 (dig 1000000000 (ao 1000000000 A / d)).length none,.slice (M.length+1) 0 (dig 1000000000 (ao 1000000000 A%d)).length none]) (M++[.cells true 1 (iN .u64 (dig 1000000000 (ao 1000000000 A / d))),.cells true 1 (iN .u64 (dig 1000000000 (ao 1000000000 A%d)))]):=by
 obtain⟨O,S,h⟩:=FW A d H hd I J tA Y;obtain⟨X,V,R,L⟩:=ju H A I;have N:ao 1000000000 (gx 1000000000 d A).1=ao 1000000000 A / d:=by rw[<-V,QQZ,Nat.mul_add_div H,Nat.div_eq_of_lt X,Nat.add_zero]
 have K:(gx 1000000000 d A).2=ao 1000000000 A%d:=by rw[<-V,QQZ,Nat.mul_add_mod,QQj X]
 have f1:aW (gx 1000000000 d A).1=dig 1000000000 (ao 1000000000 A / d):=by rw[<-dV (by omega) R,N]
 have f2:aW [(gx 1000000000 d A).2]=dig 1000000000 (ao 1000000000 A%d):=by rw[<-dV (B:=1000000000) (by omega) (by simp[lok];omega)];congr 1
 have:=(aB aj (aI _) (qP.or S) (aQ _) h).1;simp only[afl.mem,Option.getD_some,List.cons_append,List.nil_append] at this;have U:=kO.agn (m2:=[.cells false 1 (iN .u64 A),.cells false 1 (iN .u64 [d]),.cells true 1 (iN .u64 (dig 1000000000 (ao 1000000000 A / d))),.cells true 1 (iN .u64 (dig 1000000000 (ao 1000000000 A%d)))]) this rfl (fun b s Z=>by
  match b with
  |0=>simp at Z;subst Z;exact⟨_,rfl,.inl rfl⟩
  |1=>simp at Z;subst Z;exact⟨_,rfl,.inl rfl⟩
  |2=>simp at Z;subst Z;exact⟨_,rfl,.row (by rw[<-f1];exact dG _)⟩
  |3=>simp at Z;subst Z;exact⟨_,rfl,by have:=agV.row (k:=.u64) (o:=true) (es:=1) (dG [(gx 1000000000 d A).2]);rw[f2] at this;exact this⟩
  |b+4=>simp at Z)
 rw[f1,f2] at U;obtain⟨b,c,rfl,rfl,h3⟩:=kO.agi (B:=[d]) (new:=[.cells true 1 (iN .u64 (dig 1000000000 (ao 1000000000 A / d))),.cells true 1 (iN .u64 (dig 1000000000 (ao 1000000000 A%d)))]) rfl U hx hy;simpa [AV.ren,AV.afI,fA] using h3
noncomputable def ei:y9:=fun c Z M=>match c,Z with
 |.fn 223,[x,y]=>match bd .u64 M x,bd .u64 M y with
  |some A,some [d]=>if lok 1000000000 A=true/\A.length<=100000000/\aW A=A/\0<d/\d<1000000000 then
    (if ao 1000000000 A<d then some ⟨.tuple [.qF,x],none,[]⟩ else some ⟨.tuple [.slice M.length 0 (dig 1000000000 (ao 1000000000 A / d)).length none,.slice (M.length+1) 0 (dig 1000000000 (ao 1000000000 A%d)).length none],none,[.cells true 1 (iN .u64 (dig 1000000000 (ao 1000000000 A / d))),.cells true 1 (iN .u64 (dig 1000000000 (ao 1000000000 A%d)))]⟩) else none
  |_,_=>none
 |c,Z=>cC c Z M
theorem It:qS prog ei:=by
 refine cw fun c Z M r h=>?_
 unfold ei at h;split at h
 .split at h
  .rename_i X V
   split at h
   .rename_i N
    obtain⟨U,L,S,K,R⟩:=N;split at h
    .rename_i O
     cases h;have:=vN U (B:=[_]) (by simp[lok];exact R) (by omega) S (by simp[aW];omega) (by simpa [ao] using O) (bh X) (bh V);refine au ?_;rw[List.append_nil];exact this
    .rename_i O
     cases h;exact au (Et K R U L S (by omega) (bh X) (bh V))
   .cases h
  .cases h
 .exact ee qQ h
def fO(A B:List Nat)(n m:Nat)(a b q H I:List Nat)(l:Mem):Mem:=
 .cells false 1 (iN .u64 A)::.cells false 1 (iN .u64 B)::.cells true 0 [.slice 5 0 m none]::.cells true 0 [.slice 6 0 n none]::.cells true 1 (iN .u64 a)::.cells true 1 (iN .u64 b)::.cells true 1 (iN .u64 q)::.cells true 1 (iN .u64 H)::.qK::.cells true 1 (iN .u64 I)::l
variable{K:Nat}{b1 c:Code}
theorem DI(A B:List Nat)(n:Nat)(a q I H:List Nat)(b r d0 t:Nat)(ht:t=r / b)(Y:H.take (dig 1000000000 r).length=dig 1000000000 r)(hrl:(dig 1000000000 r).length<=H.length)(UV:0<b)(hd0:t<d0)(hdB:d0<1000000000)(hK:d0<K)(hlb:∀d,d<=d0->(dig 1000000000 (b*d)).length<=100000000)(acH:∀d,d<=d0->0<d->(dig 1000000000 b).length<=(dig 1000000000 (b*d)).length)(J:ag f223=[b1,c])(Zz:gk c=[13,12]):
  ∃F:Env->Bool->Env,∀Z d,(ad Z 3=.ptr 2 0/\ad Z 5=.slice 9 0 (dig 1000000000 r).length none/\ad Z 12=.int .u64 d0/\ad Z 13=.slice 10 0 (dig 1000000000 (b*d0)).length none)->
   aL (aX prog) gk ei K 146 2 true (.loop c) ⟨Z,fO A B n (dig 1000000000 b).length a (dig 1000000000 b) q I H [.cells true 1 (iN .u64 (dig 1000000000 (b*d0)))],d⟩=
    some (.exit 4,⟨F Z d,fO A B n (dig 1000000000 b).length a (dig 1000000000 b) q I H [.cells true 1 (iN .u64 (dig 1000000000 (b*d0))),.cells true 1 (iN .u64 (dig 1000000000 (b*t)))],d⟩)/\
   (ad (F Z d) 13=.slice 11 0 (dig 1000000000 (b*t)).length none/\ad (F Z d) 12=.int .u64 (t:Int)/\(∀x∈[0,3,4,5,9,10,11],ad (F Z d) x=ad Z x)):=by
 refine bj Zz (fun Z=>ad Z 3=.ptr 2 0/\ad Z 5=.slice 9 0 (dig 1000000000 r).length none/\ad Z 12=.int .u64 d0/\ad Z 13=.slice 10 0 (dig 1000000000 (b*d0)).length none)
  (fun Z C =>ad C 13=.slice 11 0 (dig 1000000000 (b*t)).length none/\ad C 12=.int .u64 (t:Int)/\(∀x∈[0,3,4,5,9,10,11],ad C x=ad Z x)) ?_
 clear Zz;rintro Z dd ⟨h3,h5,h12,h13⟩;simp[ag,aE,f223] at J;obtain⟨_,J⟩:=J;obtain⟨S,hS⟩:∃S:Nat->XS,(S d0=⟨an [13,12] (aa c) Z ((13,.slice 10 0 (dig 1000000000 (b*d0)).length none)::(12,.int .u64 (d0:Int))::Z),fO A B n (dig 1000000000 b).length a (dig 1000000000 b) q I H [.cells true 1 (iN .u64 (dig 1000000000 (b*d0)))],dd⟩)/\
   (∀e,e≠d0->S e=⟨an [13,12] (aa c) Z ((13,.slice 11 0 (dig 1000000000 (b*e)).length none)::(12,.int .u64 (e:Int))::Z),fO A B n (dig 1000000000 b).length a (dig 1000000000 b) q I H [.cells true 1 (iN .u64 (dig 1000000000 (b*d0))),.cells true 1 (iN .u64 (dig 1000000000 (b*e)))],dd⟩):=
  ⟨fun e=>if e=d0 then⟨an [13,12] (aa c) Z ((13,.slice 10 0 (dig 1000000000 (b*d0)).length none)::(12,.int .u64 (d0:Int))::Z),fO A B n (dig 1000000000 b).length a (dig 1000000000 b) q I H [.cells true 1 (iN .u64 (dig 1000000000 (b*d0)))],dd⟩
   else⟨an [13,12] (aa c) Z ((13,.slice 11 0 (dig 1000000000 (b*e)).length none)::(12,.int .u64 (e:Int))::Z),fO A B n (dig 1000000000 b).length a (dig 1000000000 b) q I H [.cells true 1 (iN .u64 (dig 1000000000 (b*d0))),.cells true 1 (iN .u64 (dig 1000000000 (b*e)))],dd⟩,by simp,fun e he=>by simp[he]⟩
 have ZI:(⟨an [13,12] (aa c) Z Z,fO A B n (dig 1000000000 b).length a (dig 1000000000 b) q I H [.cells true 1 (iN .u64 (dig 1000000000 (b*d0)))],dd⟩:XS)=S d0:=by rw[hS.1];simp[an,h12,h13]
 rw[ZI];have G':(fO A B n (dig 1000000000 b).length a (dig 1000000000 b) q I H [.cells true 1 (iN .u64 (dig 1000000000 (b*d0)))]).length=11:=rfl;rw[G'];refine bI (α:=Nat) S (fun e=>e-t) (fun e=>t<=e/\e<=d0) (.exit 4) _ dd _ (by simp) ?_ K d0 ⟨by omega,L9 _⟩ (by omega);rintro e ⟨he1,he2⟩;have X:∀l,bd .u64 (fO A B n (dig 1000000000 b).length a (dig 1000000000 b) q I H l) (.slice 9 0 (dig 1000000000 r).length none)=some (dig 1000000000 r):=fun l=>aU rfl (by simpa using hrl) (by rw[iJ,Y])
 have u:∀l,bd .u64 (fO A B n (dig 1000000000 b).length a (dig 1000000000 b) q I H l) (.slice 5 0 (dig 1000000000 b).length none)=some (dig 1000000000 b):=fun l=>aU rfl (by simp) (B5 (by simp))
 have L:∀l,bd .u64 (fO A B n (dig 1000000000 b).length a (dig 1000000000 b) q I H (.cells true 1 (iN .u64 (dig 1000000000 (b*d0)))::l)) (.slice 10 0 (dig 1000000000 (b*d0)).length none)=some (dig 1000000000 (b*d0)):=fun l=>aU rfl (by simp) (B5 (by simp))
 have U:∀x l,bd .u64 (fO A B n (dig 1000000000 b).length a (dig 1000000000 b) q I H (x::.cells true 1 (iN .u64 (dig 1000000000 (b*e)))::l)) (.slice 11 0 (dig 1000000000 (b*e)).length none)=some (dig 1000000000 (b*e)):=fun x l=>aU rfl (by simp) (B5 (by simp))
 have o:∀v,lok 1000000000 (dig 1000000000 v)=true:=fun v=>ca (by omega) v
 have m:∀v,aW (dig 1000000000 v)=dig 1000000000 v:=fun v=>cm (by omega) v
 have j:∀v,ao 1000000000 (dig 1000000000 v)=v:=fun v=>bL (by omega) v
 have ZJ:=hlb e he2;have V:(dig 1000000000 (b*e)).length<=1000000000:=by omega
 simp only[fO] at X u L U hS;by_cases hq:e=t
 .right
  have J':e≠d0:=by omega
  have G:¬0<kv (b*e) r:=by
   have:b*e<=r:=by rw[hq,ht];exact Nat.mul_div_le r b
   unfold kv;split
   .omega
   .rw[if_neg (by omega)];omega
  rw[hS.2 e J',<-hq];clear hS;subst J;simp[ei,cC,cg,bR,fO,h3,h5,X,U,o,m,j,V,G]
 .left
  have hqe:t<e:=by omega
  have hgt:r<b*e:=by
   have:=(Nat.div_lt_iff_lt_mul UV).1 (ht▸hqe)
   rwa [QQZ] at this
  have G:0<kv (b*e) r:=by unfold kv;rw[if_neg (by omega),if_pos hgt];omega
  have R:b<=b*e:=Nat.le_mul_of_pos_right b (by omega);have O:b*e-b=b*(e-1):=by rw[Nat.mul_sub,Nat.mul_one]
  have ZB:=acH e he2 (by omega);have w1:IntKind.u64.wrap ((e:Int)-1)=((e-1:Nat):Int):=by rw[cS (by omega) (by omega)];omega
  have N:(dig 1000000000 (b*e)).length<=100000000:=ZJ;refine⟨e-1,?_⟩;rw[hS.2 (e-1) (by omega)];by_cases hd:e=d0
  .rw[hd] at G R O ZB w1 N V |-
   rw[hS.1];clear hS;subst J;simp[ei,cC,cg,bR,h3,h5,X,u,L,o,m,j,V,G,R,ZB,O,w1,N];omega
  .rw[hS.2 e hd]
   clear hS;subst J;simp[ei,cC,cg,bR,h3,h5,X,u,U,o,m,j,V,G,R,ZB,O,w1,N];omega
theorem Bo(A B:List Nat)(n:Nat)(a q I H:List Nat)(b r t:Nat)(ht:b*t<=r)(Y:H.take (dig 1000000000 r).length=dig 1000000000 r)(hrl:(dig 1000000000 r).length<=H.length)(hK:0<K)(hlb:(dig 1000000000 (b*t)).length<=1000000000)(J:ag f223=[b1,c])(Zz:gk c=[13,12]):
  ∃F:Env->Bool->Env,∀Z d,(ad Z 3=.ptr 2 0/\ad Z 5=.slice 9 0 (dig 1000000000 r).length none/\ad Z 12=.int .u64 t/\ad Z 13=.slice 10 0 (dig 1000000000 (b*t)).length none)->
   aL (aX prog) gk ei K 146 2 true (.loop c) ⟨Z,fO A B n (dig 1000000000 b).length a (dig 1000000000 b) q I H [.cells true 1 (iN .u64 (dig 1000000000 (b*t)))],d⟩=
    some (.exit 4,⟨F Z d,fO A B n (dig 1000000000 b).length a (dig 1000000000 b) q I H [.cells true 1 (iN .u64 (dig 1000000000 (b*t)))],d⟩)/\
   (ad (F Z d) 13=.slice 10 0 (dig 1000000000 (b*t)).length none/\ad (F Z d) 12=.int .u64 (t:Int)/\(∀x∈[0,3,4,5,9,10,11],ad (F Z d) x=ad Z x)):=by
 refine bj Zz (fun Z=>ad Z 3=.ptr 2 0/\ad Z 5=.slice 9 0 (dig 1000000000 r).length none/\ad Z 12=.int .u64 t/\ad Z 13=.slice 10 0 (dig 1000000000 (b*t)).length none)
  (fun Z U =>ad U 13=.slice 10 0 (dig 1000000000 (b*t)).length none/\ad U 12=.int .u64 (t:Int)/\(∀x∈[0,3,4,5,9,10,11],ad U x=ad Z x)) ?_
 clear Zz;rintro Z dd ⟨h3,h5,h12,h13⟩;simp[ag,aE,f223] at J;obtain⟨_,J⟩:=J;obtain⟨K,rfl⟩:∃S,K=S +1:=⟨K-1,by omega⟩
 have X:∀l,bd .u64 (fO A B n (dig 1000000000 b).length a (dig 1000000000 b) q I H l) (.slice 9 0 (dig 1000000000 r).length none)=some (dig 1000000000 r):=fun l=>aU rfl (by simpa using hrl) (by rw[iJ,Y])
 have V:∀l,bd .u64 (fO A B n (dig 1000000000 b).length a (dig 1000000000 b) q I H (.cells true 1 (iN .u64 (dig 1000000000 (b*t)))::l)) (.slice 10 0 (dig 1000000000 (b*t)).length none)=some (dig 1000000000 (b*t)):=fun l=>aU rfl (by simp) (B5 (by simp))
 have R:∀v,lok 1000000000 (dig 1000000000 v)=true:=fun v=>ca (by omega) v
 have O:∀v,aW (dig 1000000000 v)=dig 1000000000 v:=fun v=>cm (by omega) v
 have N:∀v,ao 1000000000 (dig 1000000000 v)=v:=fun v=>bL (by omega) v
 have L:¬0<kv (b*t) r:=by
  unfold kv;split
  .omega
  .rw[if_neg (by omega)];omega
 simp only[fO] at X V;subst J;simp[fj,ei,cC,cg,bR,fO,h3,h5,h12,h13,X,V,R,O,N,hlb,L]
def xe(b:Nat):List Nat->List Nat
 | []=>[]
 |x::l=>if x+1000000000*(gx 1000000000 b l).2<b then x::dig 1000000000 (gx 1000000000 b l).2 else dig 1000000000 ((x+1000000000*(gx 1000000000 b l).2)%b)
theorem C9{b:Nat}:∀{l:List Nat},lok 1000000000 l=true->(xe b l).take (dig 1000000000 (gx 1000000000 b l).2).length=dig 1000000000 (gx 1000000000 b l).2/\(dig 1000000000 (gx 1000000000 b l).2).length<=(xe b l).length
 | [],_=>by simp[xe,gx,dW]
 |x::l,h=>by
  rw[cX,Es,GE] at h;have e:(gx 1000000000 b (x::l)).2=(x+1000000000*(gx 1000000000 b l).2)%b:=by simp only[gx];rw[QQZ,QXc]
  rw[e,xe];split
  .rename_i Z
   rw[QQj Z,<-GY (by omega) h.1];exact⟨lE _,dm _⟩
  .exact⟨B5 (L9 _),L9 _⟩
def jg(A B:List Nat)(a:List Nat)(b k:Nat):Mem:=
 [.cells false 1 (iN .u64 A),.cells false 1 (iN .u64 B),.cells true 0 [.slice 5 0 (dig 1000000000 b).length none],.cells true 0 [.slice 6 0 a.length none],.cells true 1 (iN .u64 a),.cells true 1 (iN .u64 (dig 1000000000 b)),.cells true 1 (iN .u64 (List.replicate k 0++(gx 1000000000 b (a.drop k)).1))]
  ++ if k=a.length then [] else [.cells true 1 (iN .u64 (xe b (a.drop k)))]
def yk(a:List Nat)(b k:Nat):AV:=if k=a.length then .qF else .slice 7 0 (dig 1000000000 (gx 1000000000 b (a.drop k)).2).length none
theorem DJ(A B a:List Nat)(b top:Nat)(ha:lok 1000000000 a=true)(hl:a.length<=10000000)(hm:2<=(dig 1000000000 b).length)(hn:(dig 1000000000 b).length<=a.length)(aay:(dig 1000000000 b)[(dig 1000000000 b).length-1]? =some top)(hK:2000000000<K)(hb:ag f223=[b1,c]/\gk b1=[11,5]/\gk c=[13,12]):
  ∃F:Env->Bool->Env,∀V d,(ad V 0=.slice 4 0 a.length none/\ad V 3=.ptr 2 0/\ad V 4=.ptr 3 0/\ad V 10=.int .u64 top/\ad V 5=.qF/\ad V 11=.int .i64 ((a.length:Int)-1))->
   aL (aX prog) gk ei K 146 2 true (.loop b1) ⟨V,jg A B a b a.length,d⟩=some (.exit 2,⟨F V d,jg A B a b 0,d⟩)/\
   (ad (F V d) 5=yk a b 0/\(∀x∈[3,4,9],ad (F V d) x=ad V x)):=by
 refine bj hb.2.1 (fun V=>ad V 0=.slice 4 0 a.length none/\ad V 3=.ptr 2 0/\ad V 4=.ptr 3 0/\ad V 10=.int .u64 top/\ad V 5=.qF/\ad V 11=.int .i64 ((a.length:Int)-1))
  (fun V D' =>ad D' 5=yk a b 0/\(∀x∈[3,4,9],ad D' x=ad V x)) ?_
 rintro V dd ⟨h0,h3,h4,h10,h5,h11⟩;have J:=hb.1;simp[ag,aE,f223] at J;obtain⟨J,ZV⟩:=J;have ZI:an [11,5] (aa b1) V ((11,.int .i64 ((a.length:Int)-1))::(5,yk a b a.length)::V)=an [11,5] (aa b1) V V:=by simp[an,h5,h11,yk]
 rw[<-ZI];have ab9:(jg A B a b a.length).length=7:=by simp[jg]
 rw[ab9];refine bI (α:=Nat) (fun k=>⟨an [11,5] (aa b1) V ((11,.int .i64 ((k:Int)-1))::(5,yk a b k)::V),jg A B a b k,dd⟩) id (fun k=>k<=a.length) (.exit 2) _ dd _ (by simp) ?_ K a.length (L9 _) (by simp;omega);intro k hk;clear ZI ab9;have hbv:1000000000<=b:=by have h:=tf (B:=1000000000) (by omega) b (by rintro rfl;rw[dW] at hm;simp at hm);have:1000000000 ^ 1<=1000000000 ^ ((dig 1000000000 b).length-1):=P3 (by omega) (by omega);omega
 cases k with
 |zero=>
  right;subst J;simp
 |succ i=>
  left;have FS:i<a.length:=by omega
  obtain⟨x,hx,Zw⟩:=de FS;have ZL:=fa ha hx;have eA:a.drop i=x::a.drop (i+1):=by rw[N0 FS,Zw]
  have J':¬i=a.length:=by omega
  obtain⟨d1,d2,d3,d4⟩:=ju (B:=1000000000) (d:=b) (by omega) (a.drop (i+1)) (jI ha _);obtain⟨r,hr⟩:=xE ((gx 1000000000 b (a.drop (i+1))).2);obtain⟨q,hq⟩:=xE ((gx 1000000000 b (a.drop (i+1))).1);obtain⟨ZO,aaY⟩:=xE (xe b (a.drop (i+1)));obtain⟨t1,t2⟩:=C9 (b:=b) (jI ha (i+1));obtain⟨Z,hr'⟩:=xE (x+1000000000*r);have hq2:(gx 1000000000 b (a.drop i)).1=Z / b::q:=by rw[eA,hq,hr',hr];simp only[gx];rw[QQZ,QXc]
  have ZX:(gx 1000000000 b (a.drop i)).2=Z %b:=by rw[eA,hr',hr];simp only[gx];rw[QQZ,QXc]
  have ac6:xe b (a.drop i)=if Z <b then x::dig 1000000000 r else dig 1000000000 (Z %b):=by rw[eA,xe,<-hr,<-hr']
  have hqz:(List.replicate (i+1) 0++q:List Nat)=List.replicate i 0++0::q:=by rw[List.replicate_succ'];simp
  rw[<-hr] at t1 t2 d1;rw[<-aaY] at t1 t2;rw[<-hq] at d4;have htk:(iN .u64 ZO).take (dig 1000000000 r).length=iN .u64 (dig 1000000000 r):=by rw[iJ,t1]
  have U:aW (x::dig 1000000000 r)=dig 1000000000 Z :=by rw[hr'];exact GY (by omega) ZL
  have hrl:(dig 1000000000 r).length<=a.length:=by
   have:(dig 1000000000 r).length<=(dig 1000000000 b).length:=by
    rcases Nat.lt_or_ge (dig 1000000000 b).length (dig 1000000000 r).length with h | h
    .have:=dU (B:=1000000000) (by omega) h;omega
    .exact h
   omega
  have w1:IntKind.i64.wrap ((i:Int)-1)=(i:Int)-1:=af;have hI:(i:Int)<(a.length:Int):=by omega
  have e1:(((i+1:Nat):Int)-1)=(i:Int):=by omega
  have hR0:yk a b i=.slice 7 0 (dig 1000000000 (Z %b)).length none:=by unfold yk;rw[if_neg J',ZX]
  have hM0:jg A B a b i=[.cells false 1 (iN .u64 A),.cells false 1 (iN .u64 B),.cells true 0 [.slice 5 0 (dig 1000000000 b).length none],.cells true 0 [.slice 6 0 a.length none],.cells true 1 (iN .u64 a),.cells true 1 (iN .u64 (dig 1000000000 b)),.cells true 1 (iN .u64 (List.replicate i 0++Z / b::q)),
    .cells true 1 (iN .u64 (if Z <b then x::dig 1000000000 r else dig 1000000000 (Z %b)))]:=by unfold jg;rw[if_neg J',hq2,ac6];rfl
  have lo:∀v,lok 1000000000 (dig 1000000000 v)=true:=fun v=>ca (by omega) v
  have lt:∀v,aW (dig 1000000000 v)=dig 1000000000 v:=fun v=>cm (by omega) v
  have lv:∀v,ao 1000000000 (dig 1000000000 v)=v:=fun v=>bL (by omega) v
  have abR:(dig 1000000000 r).length+1<=1000000000:=by omega
  have hxl:lok 1000000000 (x::dig 1000000000 r)=true:=by rw[cX,lo];simp[ZL]
  have abS :(dig 1000000000 Z).length<=(dig 1000000000 r).length+1:=by rw[<-U];exact dm (x::dig 1000000000 r)
  have abH:(dig 1000000000 Z).length<=1000000000:=by omega
  refine⟨i,?_⟩;rw[e1];refine bt (r:=_/\_) (show i<=a.length/\id i<id (i+1) from⟨by omega,by simp⟩) ?_;by_cases X:i+1=a.length
  .have hd0:a.drop (i+1)=[]:=by rw[X,List.drop_length]
   have hr0:r=0:=by rw[hr,hd0];rfl
   have hq0:q=[]:=by rw[hq,hd0];rfl
   have afe:Z =x:=by omega
   have Zt :Z <b:=by omega
   have hR1:yk a b (i+1)=.qF:=by unfold yk;rw[if_pos X]
   have hM1:jg A B a b (i+1)=[.cells false 1 (iN .u64 A),.cells false 1 (iN .u64 B),.cells true 0 [.slice 5 0 (dig 1000000000 b).length none],.cells true 0 [.slice 6 0 a.length none],.cells true 1 (iN .u64 a),.cells true 1 (iN .u64 (dig 1000000000 b)),.cells true 1 (iN .u64 (List.replicate i 0++0::q))]:=by unfold jg;rw[if_pos X,<-hq,hqz];simp
   rw[hM1,hM0,hR1,hR0,if_pos Zt,QQj Zt,Nat.div_eq_of_lt Zt];have hc:kv Z b<0:=by unfold kv;rw[if_pos Zt];omega
   rw[hr0,dW] at U;rw[hr0,dW];have hs8:∀S R O N G C o Y l,bd .u64 (S::R::O::N::G::C::o::Y::.cells true 1 [.int .u64 (x:Int)]::l) (.slice 8 0 1 none)=some [x]:=fun S R O N G C o Y l=>aU (A:=[x]) rfl (by simp) rfl
   have aeb :∀S R O N G C o Y l,bd .u64 (S::R::O::N::G::C::o::Y::.cells true 1 [.int .u64 (x:Int)]::l) (.slice 8 0 (dig 1000000000 Z).length none)=some (dig 1000000000 Z):=fun S R O N G C o Y l=>by have H:=dm [x];rw[U] at H;refine aU rfl (by simpa using H) ?_;have:([.int .u64 (x:Int)]:List AV)=iN .u64 [x]:=rfl;rw[this,iJ,<-U,lE]
   have hs5:∀S R O N G l,bd .u64 (S::R::O::N::G::.cells true 1 (iN .u64 (dig 1000000000 b))::l) (.slice 5 0 (dig 1000000000 b).length none)=some (dig 1000000000 b):=fun S R O N G l=>aU rfl (by simp) (B5 (by simp))
   subst J;simp[ei,cC,cg,bR,h0,h3,Zw,hI,FS,hs8,aeb,hs5,U,lo,lt,lv,hc,w1,abH,cr]
  .have hR1:yk a b (i+1)=.slice 7 0 (dig 1000000000 r).length none:=by unfold yk;rw[if_neg X,<-hr]
   have hM1:jg A B a b (i+1)=[.cells false 1 (iN .u64 A),.cells false 1 (iN .u64 B),.cells true 0 [.slice 5 0 (dig 1000000000 b).length none],.cells true 0 [.slice 6 0 a.length none],.cells true 1 (iN .u64 a),.cells true 1 (iN .u64 (dig 1000000000 b)),.cells true 1 (iN .u64 (List.replicate i 0++0::q)),.cells true 1 (iN .u64 ZO)]:=by unfold jg;rw[if_neg X,<-hq,<-aaY,hqz];rfl
   have hs9:∀S R O N G C o Y a8 l,bd .u64 (S::R::O::N::G::C::o::Y::a8::.cells true 1 (.int .u64 (x:Int)::iN .u64 (dig 1000000000 r))::l) (.slice 9 0 (1+(dig 1000000000 r).length) none)=some (x::dig 1000000000 r):=fun S R O N G C o Y a8 l=>
    aU (A:=x::dig 1000000000 r) rfl (by simp;omega) (B5 (by simp;omega))
   have abT :∀S R O N G C o Y a8 l,bd .u64 (S::R::O::N::G::C::o::Y::a8::.cells true 1 (.int .u64 (x:Int)::iN .u64 (dig 1000000000 r))::l) (.slice 9 0 (dig 1000000000 Z).length none)=some (dig 1000000000 Z):=fun S R O N G C o Y a8 l=>by refine aU rfl (by simpa using abS) ?_;rw[<-cr,iJ,<-U,lE]
   have hs5:∀S R O N G l,bd .u64 (S::R::O::N::G::.cells true 1 (iN .u64 (dig 1000000000 b))::l) (.slice 5 0 (dig 1000000000 b).length none)=some (dig 1000000000 b):=fun S R O N G l=>aU rfl (by simp) (B5 (by simp))
   have g1:(1+(dig 1000000000 r).length)*8<=140737488355328:=by omega
   have g2:1+(dig 1000000000 r).length<=140737488355328:=by omega
   rw[hM1,hM0,hR1,hR0];by_cases Zt :Z <b
   .have hc:kv Z b<0:=by unfold kv;rw[if_pos Zt];omega
    rw[if_pos Zt,QQj Zt,Nat.div_eq_of_lt Zt];subst J;simp[ei,cC,cg,bR,h0,h3,Zw,hI,FS,hs9,abT,hs5,U,lo,lt,lv,hc,w1,abR,abH,t2,htk,g1,g2,cr]
   .rw[if_neg Zt]
    have hc:¬kv Z b<0:=by unfold kv;rw[if_neg Zt];split<;>omega
    have hrb:Z <1000000000*b:=by omega
    have hL:=yg (B:=1000000000) (by omega) rfl hrb (by omega);obtain⟨m,hmm⟩:=xE ((dig 1000000000 b).length);obtain⟨L,hLL⟩:=xE ((dig 1000000000 Z).length);obtain⟨p1,hp1⟩:=xE (L-1);have aec:p1<(dig 1000000000 Z).length:=by omega
    have wp1:IntKind.i64.wrap (((dig 1000000000 Z).length:Int)-1)=(p1:Int):=by rw[af];omega
    have acs:(p1:Int)<((dig 1000000000 Z).length:Int):=by omega
    obtain⟨D1,hD1,aff⟩:=de aec;have afg:=fa (lo Z) hD1;have aaJ:∀(j v:Nat),(dig 1000000000 Z)[j]? =some v->(AV.int IntKind.u64 (x:Int)::iN .u64 (dig 1000000000 r))[j]? =some (AV.int IntKind.u64 (v:Int)):=fun j v hv=>by
     rw[<-U,kU,List.getElem?_take] at hv;split at hv
     .rw[<-cr,Ts,hv];rfl
     .cases hv
    have hc1:=aaJ _ _ hD1;obtain⟨D,hDD,hDb⟩:∃D,((L=m/\D=D1)\/(L=m+1/\∃l,(dig 1000000000 Z)[m-1]? =some l/\D=D1*1000000000+l))/\D<1000000000*1000000000:=by
     rcases hL with h | h
     .exact⟨D1,.inl ⟨by omega,rfl⟩,by omega⟩
     .obtain⟨l,hl1,_⟩:=de (l:=dig 1000000000 Z) (i:=m-1) (by omega)
      have:=fa (lo Z) hl1;exact⟨D1*1000000000+l,.inr ⟨by omega,l,hl1,rfl⟩,by omega⟩
    obtain⟨gt,g3,g4⟩:=VM (B:=1000000000) (r:=Z) (b:=b) (m:=m) (D:=D) (top:=top) (by omega) hmm.symm (by omega) (by rw[hmm];exact aay) hrb (by omega) (by
     rcases hDD with⟨H,rfl⟩ | ⟨H,l,h2,rfl⟩
     .left;exact⟨by omega,by rw[show m-1=p1 by omega];exact hD1⟩
     .right;exact⟨by omega,D1,l,by rw[show m=p1 by omega];exact hD1,h2,rfl⟩)
    obtain⟨g,hg⟩:=xE (D / top);obtain⟨d0,hd0⟩:=xE (min g 999999999);obtain⟨t,ht⟩:=xE (Z / b);rw[<-hg,<-ht] at g3;rw[<-ht] at g4;have htd:t<=d0:=by omega
    have aed:d0<1000000000:=by omega
    have hbt:b*t<=Z :=by rw[ht];exact Nat.mul_div_le Z b
    have UV:0<b:=by omega
    have aee:d0<K:=by omega
    have hK0:0<K:=by omega
    have abU:(d0:Int)<1000000000:=by omega
    have aag:Z -b*t=Z %b:=by have:=Nat.mod_add_div Z b;rw[<-ht] at this;omega
    have mono:∀u v,u<=v->(dig 1000000000 u).length<=(dig 1000000000 v).length:=fun u v h=>by
     rcases Nat.lt_or_ge (dig 1000000000 v).length (dig 1000000000 u).length with h' | h'
     .have:=dU (B:=1000000000) (by omega) h';omega
     .exact h'
    have hlb:∀d,d<=d0->(dig 1000000000 (b*d)).length<=100000000:=fun d hd=>by
     have H:b*d<1000000000 ^ (m+1):=by have h2:=sU (B:=1000000000) (by omega) b;rw[<-hmm] at h2;rw[Nat.pow_succ];exact Nat.mul_lt_mul_of_lt_of_lt h2 (by omega)
     have:=fH (B:=1000000000) (by omega) H;omega
    have acH:∀d,d<=d0->0<d->(dig 1000000000 b).length<=(dig 1000000000 (b*d)).length:=fun d _ hd=>mono _ _ (Nat.le_mul_of_pos_right b hd)
    have abj:(x::dig 1000000000 r).take (dig 1000000000 Z).length=dig 1000000000 Z :=by rw[<-U,lE]
    have ae6:=fa (lo b) aay;have hgD:g<=D:=by rw[hg];exact Nat.div_le_self _ _
    have wg:IntKind.u64.wrap (g:Int)=(g:Int):=cS (by omega) (by omega);have wD:IntKind.u64.wrap ((D:Int) / (top:Int))=(g:Int):=by rw[<-Int.natCast_ediv,<-hg];exact wg
    have wD' :IntKind.u64.wrap ((D:Int).tdiv (top:Int))=(g:Int):=by rw[xi,<-hg];exact wg
    have aa8:¬top=0:=by omega
    have aaF:(if (999999999:Int)<(g:Int) then (999999999:Int) else (g:Int))=(d0:Int):=by split<;>omega
    have aa9:(dig 1000000000 Z).length<=100000000:=by omega
    have aaC:(dig 1000000000 (b*t)).length<=(dig 1000000000 Z).length:=mono _ _ hbt;have aa':(dig 1000000000 b).length<=100000000:=by omega
    have ac7:=hlb d0 (L9 _);have acu:(List.replicate i 0++0::q).take i=List.replicate i 0:=List.take_left' (by simp);have acv:(List.replicate i 0++0::q).drop (i+1)=q:=by rw[List.drop_append,ZN (by simp)];simp
    have hql:i<(List.replicate i 0++0::q).length:=by simp
    have adr:∀(v:Nat) S R O N G C o Y a8 a9 l,bd .u64 (S::R::O::N::G::C::o::Y::a8::a9::.cells true 1 (iN .u64 (dig 1000000000 v))::l) (.slice 10 0 (dig 1000000000 v).length none)=some (dig 1000000000 v):=fun v S R O N G C o Y a8 a9 l=>aU rfl (by simp) (B5 (by simp))
    have ads:∀(v:Nat) S R O N G C o Y a8 a9 a10 l,bd .u64 (S::R::O::N::G::C::o::Y::a8::a9::a10::.cells true 1 (iN .u64 (dig 1000000000 v))::l) (.slice 11 0 (dig 1000000000 v).length none)=some (dig 1000000000 v):=fun v S R O N G C o Y a8 a9 a10 l=>aU rfl (by simp) (B5 (by simp))
    rw[<-ht];rw[hmm] at hDD;rw[hLL] at hDD;subst J;rcases Nat.lt_or_ge t d0 with htlt | htge
    .obtain⟨F,hF⟩:=DI (K:=K) A B a.length a (List.replicate i 0++0::q) ZO (x::dig 1000000000 r) b Z d0 t ht abj (by simpa using abS) UV htlt aed aee hlb acH hb.1 hb.2.2
     simp only[fO,cr] at hF;subst ZV;rcases hDD with⟨H,rfl⟩ | ⟨H,l,h2,h3'⟩
     .have I:¬(dig 1000000000 b).length<(dig 1000000000 Z).length:=by omega
      clear H;simp[ei,cC,cg,bR,h0,h3,h4,h10,Zw,hI,FS,hs9,abT,hs5,U,lo,lt,lv,hc,w1,abR,abH,t2,htk,g1,g2,I,hc1,wp1,acs,wD,aa8,aaF,aa9,aaC,aa',abU,hF,ads,hbt,aag,iJ,rQ,acu,acv,Nat.testBit];rw[dE,cr]
     .have I:(dig 1000000000 b).length<(dig 1000000000 Z).length:=by omega
      obtain⟨p2,hp2⟩:=xE (m-1);rw[<-hmm,<-hp2] at h2;have hc2:=aaJ _ _ h2;have aef:=fa (lo Z) h2;have wp2:IntKind.i64.wrap (((dig 1000000000 Z).length:Int)-2)=(p2:Int):=by rw[af];omega
      have wl1:IntKind.u64.wrap ((D1:Int)*1000000000)=(D1:Int)*1000000000:=cS (by omega) (by omega);have wl2:IntKind.u64.wrap ((D1:Int)*1000000000+(l:Int))=(D:Int):=by rw[cS (by omega) (by omega)];omega
      have abI:(p2:Int)<((dig 1000000000 Z).length:Int):=by omega
      clear H;simp[ei,cC,cg,bR,h0,h3,h4,h10,Zw,hI,FS,hs9,abT,hs5,U,lo,lt,lv,hc,w1,abR,abH,t2,htk,g1,g2,I,hc2,wp2,abI,wl1,wl2,hc1,wp1,acs,wD,aa8,aaF,aa9,aaC,aa',abU,hF,ads,hbt,aag,iJ,rQ,acu,acv,Nat.testBit];rw[dE,cr]
    .have aeg:t=d0:=by omega
     rw[<-aeg] at ac7 abU aaF;obtain⟨F,hF⟩:=Bo (K:=K) A B a.length a (List.replicate i 0++0::q) ZO (x::dig 1000000000 r) b Z t hbt abj (by simpa using abS) hK0 (by omega) hb.1 hb.2.2;simp only[fO,cr] at hF;subst ZV;rcases hDD with⟨H,rfl⟩ | ⟨H,l,h2,h3'⟩
     .have I:¬(dig 1000000000 b).length<(dig 1000000000 Z).length:=by omega
      clear H;simp[ei,cC,cg,bR,h0,h3,h4,h10,Zw,hI,FS,hs9,abT,hs5,U,lo,lt,lv,hc,w1,abR,abH,t2,htk,g1,g2,I,hc1,wp1,acs,wD,aa8,aaF,aa9,aaC,aa',abU,hF,adr,hbt,aag,iJ,rQ,acu,acv,Nat.testBit];rw[dE,cr]
     .have I:(dig 1000000000 b).length<(dig 1000000000 Z).length:=by omega
      obtain⟨p2,hp2⟩:=xE (m-1);rw[<-hmm,<-hp2] at h2;have hc2:=aaJ _ _ h2;have aef:=fa (lo Z) h2;have wp2:IntKind.i64.wrap (((dig 1000000000 Z).length:Int)-2)=(p2:Int):=by rw[af];omega
      have wl1:IntKind.u64.wrap ((D1:Int)*1000000000)=(D1:Int)*1000000000:=cS (by omega) (by omega);have wl2:IntKind.u64.wrap ((D1:Int)*1000000000+(l:Int))=(D:Int):=by rw[cS (by omega) (by omega)];omega
      have abI:(p2:Int)<((dig 1000000000 Z).length:Int):=by omega
      clear H;simp[ei,cC,cg,bR,h0,h3,h4,h10,Zw,hI,FS,hs9,abT,hs5,U,lo,lt,lv,hc,w1,abR,abH,t2,htk,g1,g2,I,hc2,wp2,abI,wl1,wl2,hc1,wp1,acs,wD,aa8,aaF,aa9,aaC,aa',abU,hF,adr,hbt,aag,iJ,rQ,acu,acv,Nat.testBit];rw[dE,cr]
theorem FX(A B:List Nat)(H:Nat)(hA:lok 1000000000 A=true)(hB:lok 1000000000 B=true)(hl:A.length<=1000000)(tA:aW A=A)(tB:aW B=B)(hm:2<=B.length)(I:B[B.length-1]? =some H)(ZJ:ao 1000000000 B<=ao 1000000000 A):
  ∃q,aW q=dig 1000000000 (ao 1000000000 A / ao 1000000000 B)/\ae (aX prog) gk (aZ prog) ei 2000000001 223 [.slice 0 0 A.length none,.slice 1 0 B.length none] [.cells false 1 (iN .u64 A),.cells false 1 (iN .u64 B)]=
   some (if ao 1000000000 A%ao 1000000000 B=0 then⟨.tuple [.slice 2 0 (aW q).length none,.qF],none,[.cells true 1 (iN .u64 q)]⟩ else
    ⟨.tuple [.slice 2 0 (aW q).length none,.slice 3 0 (dig 1000000000 (ao 1000000000 A%ao 1000000000 B)).length none],none,[.cells true 1 (iN .u64 q),.cells true 1 (iN .u64 (dig 1000000000 (ao 1000000000 A%ao 1000000000 B)))]⟩):=by
 obtain⟨b1,c,hb⟩:∃b1 c,ag f223=[b1,c]/\gk b1=[11,5]/\gk c=[13,12]:=⟨_,_,rfl,by decide,by decide⟩
 have dA:=mJ (B:=1000000000) (by omega) hA tA;have dB:=mJ (B:=1000000000) (by omega) hB tB;obtain⟨av,S⟩:=xE (ao 1000000000 A);obtain⟨X,Y⟩:=xE (ao 1000000000 B);rw[<-S] at dA ZJ |-;rw[<-Y] at dB ZJ |-;have htb:=fa hB I;obtain⟨f,hf⟩:=xE (1000000000 / (H+1));have hf1:1<=f:=by rw[hf,Nat.le_div_iff_mul_le (by omega)];omega
 have afh:1000000000<=X:=by have h:=tf (B:=1000000000) (by omega) X (by rintro rfl;rw[dW] at dB;rw[<-dB] at hm;simp at hm);rw[dB] at h;have:1000000000 ^ 1<=1000000000 ^ (B.length-1):=P3 (by omega) (by omega);omega
 have htp:0<H:=by
  rcases QQK H with h | h
  .have h2:aW B=aW (B.take (B.length-1)):=by
    have FS:B.length-1<B.length:=by omega
    have ht:=(O2.1 I).2;conv=>lhs;rw[<-List.take_append_drop (B.length-1) B,N0 FS,ht,ZN (by omega),h]
    exact jK _
   have h3:=dm (B.take (B.length-1));rw[<-h2,tB,SP] at h3;omega
  .exact h
 have J:f<1000000000:=by rw[hf,Nat.div_lt_iff_lt_mul (by omega)];omega
 have mono:∀u v,u<=v->(dig 1000000000 u).length<=(dig 1000000000 v).length:=fun u v h=>by
  rcases Nat.lt_or_ge (dig 1000000000 v).length (dig 1000000000 u).length with h' | h'
  .have:=dU (B:=1000000000) (by omega) h';omega
  .exact h'
 have hmB:2<=(dig 1000000000 (X*f)).length:=by have:=mono X (X*f) (Nat.le_mul_of_pos_right X hf1);rw[dB] at this;omega
 have hmA:(dig 1000000000 (X*f)).length<=(dig 1000000000 (av*f)).length:=mono _ _ (QQk _ ZJ);have hlA:(dig 1000000000 (av*f)).length<=A.length+1:=by
  have h1:av*f<1000000000 ^ (A.length+1):=by have h2:=gW hA;rw[<-S] at h2;rw[Nat.pow_succ];exact Nat.mul_lt_mul_of_lt_of_lt h2 J
  exact fH (by omega) h1
 obtain⟨top,R,_⟩:=de (l:=dig 1000000000 (X*f)) (i:=(dig 1000000000 (X*f)).length-1) (by omega);obtain⟨F,hF⟩:=DJ (K:=2000000001) A B (dig 1000000000 (av*f)) (X*f) top (ca (by omega) _) (by omega) hmB hmA R (by omega) hb;obtain⟨a,ha⟩:=xE (dig 1000000000 (av*f));obtain⟨Z,V⟩:=xE (X*f);rw[<-ha,<-V] at hF hmA;rw[<-V] at R hmB;rw[<-ha] at hlA;have adt:0<Z:=by rw[V];exact Nat.mul_pos (by omega) (by omega)
 obtain⟨i1,i2,i3,i4⟩:=ju (B:=1000000000) adt a (by rw[ha];exact ca (by omega) _);have hva:ao 1000000000 a=av*f:=by rw[ha];exact bL (by omega) _
 rw[hva] at i2;obtain⟨q,hq⟩:=xE ((gx 1000000000 Z a).1);obtain⟨U,O⟩:=xE ((gx 1000000000 Z a).2);rw[<-hq,<-O] at i2;rw[<-hq] at i3 i4;rw[<-O] at i1;have hqv:ao 1000000000 q=av / X:=by
  have h1:(av*f) / Z=ao 1000000000 q:=by rw[<-i2,QQZ,Nat.mul_add_div adt,Nat.div_eq_of_lt i1,Nat.add_zero]
  rw[<-h1,V,Nat.mul_div_mul_right _ _ (by omega)]
 have hrv:U=(av%X)*f:=by
  have h1:(av*f)%Z=U:=by rw[<-i2,QQZ,Nat.mul_add_mod,QQj i1]
  rw[<-h1,V,Nat.mul_mod_mul_right]
 have hrf:U / f=av%X:=by rw[hrv,Nat.mul_div_cancel _ (by omega)]
 refine⟨q,by rw[<-dV (by omega) i3,hqv],?_⟩;have ZI:¬0=a.length:=by omega
 obtain⟨rt1,rt2⟩:=C9 (b:=Z) (l:=a) (by rw[ha];exact ca (by omega) _);obtain⟨row,aam⟩:=xE (xe Z a);rw[<-aam,<-O] at rt1 rt2;have hH0:jg A B a Z 0=[.cells false 1 (iN .u64 A),.cells false 1 (iN .u64 B),.cells true 0 [.slice 5 0 (dig 1000000000 Z).length none],.cells true 0 [.slice 6 0 a.length none],.cells true 1 (iN .u64 a),.cells true 1 (iN .u64 (dig 1000000000 Z)),.cells true 1 (iN .u64 q),.cells true 1 (iN .u64 row)]:=by unfold jg;rw[if_neg ZI,List.drop_zero,<-hq,<-aam];rfl
 have hHn:jg A B a Z a.length=[.cells false 1 (iN .u64 A),.cells false 1 (iN .u64 B),.cells true 0 [.slice 5 0 (dig 1000000000 Z).length none],.cells true 0 [.slice 6 0 a.length none],.cells true 1 (iN .u64 a),.cells true 1 (iN .u64 (dig 1000000000 Z)),.cells true 1 (iN .u64 (List.replicate a.length 0))]:=by unfold jg;rw[if_pos rfl,List.drop_length];simp[gx]
 have hR0:yk a Z 0=.slice 7 0 (dig 1000000000 U).length none:=by unfold yk;rw[if_neg ZI,List.drop_zero,<-O]
 rw[hH0,hHn,hR0] at hF;obtain⟨N,_⟩:=hb;simp[ag,aE,f223] at N;obtain⟨N,_⟩:=N;subst N;have lo:∀v,lok 1000000000 (dig 1000000000 v)=true:=fun v=>ca (by omega) v
 have lt:∀v,aW (dig 1000000000 v)=dig 1000000000 v:=fun v=>cm (by omega) v
 have lv:∀v,ao 1000000000 (dig 1000000000 v)=v:=fun v=>bL (by omega) v
 have hs0:∀l,bd .u64 (.cells false 1 (iN .u64 A)::l) (.slice 0 0 A.length none)=some A:=fun l=>aU rfl (by simp) (B5 (by simp))
 have hs1:∀x l,bd .u64 (x::.cells false 1 (iN .u64 B)::l) (.slice 1 0 B.length none)=some B:=fun x l=>aU rfl (by simp) (B5 (by simp))
 have hs6:∀L G C o m j l,bd .u64 (L::G::C::o::m::j::.cells true 1 (iN .u64 q)::l) (.slice 6 0 a.length none)=some q:=fun L G C o m j l=>aU rfl (by simp[i4]) (B5 (by simp[i4]))
 have hs7:∀L G C o m j a6 l,bd .u64 (L::G::C::o::m::j::a6::.cells true 1 (iN .u64 row)::l) (.slice 7 0 (dig 1000000000 U).length none)=some (dig 1000000000 U):=fun L G C o m j a6 l=>aU rfl (by simpa using rt2) (by rw[iJ,rt1])
 have hs8:∀L G C o m j a6 a7 l,bd .u64 (L::G::C::o::m::j::a6::a7::.cells true 1 [.int .u64 (f:Int)]::l) (.slice 8 0 1 none)=some [f]:=fun L G C o m j a6 a7 l=>aU (A:=[f]) rfl (by simp) rfl
 have hc:¬kv av X<0:=by unfold kv;rw[if_neg (by omega)];split<;>omega
 obtain⟨p,hp⟩:=xE (B.length-1);rw[<-hp] at I;have hpB:p<B.length:=by omega
 have ab' :B[p]=H:=(O2.1 I).2;obtain⟨p2,hp2⟩:=xE ((dig 1000000000 Z).length-1);rw[<-hp2] at R;have adu:p2<(dig 1000000000 Z).length:=by omega
 have abk :(dig 1000000000 Z)[p2]=top:=(O2.1 R).2;have hlB:B.length<=A.length:=by rw[<-dA,<-dB];exact mono _ _ ZJ
 have wp:IntKind.i64.wrap ((B.length:Int)-1)=(p:Int):=by rw[af];omega
 have wp2:IntKind.i64.wrap (((dig 1000000000 Z).length:Int)-1)=(p2:Int):=by rw[af];omega
 have hbl:(dig 1000000000 Z).length<=1000001:=by omega
 have wan:IntKind.i64.wrap ((a.length:Int)-1)=(a.length:Int)-1:=af;have hpI:(p:Int)<(B.length:Int):=by omega
 have abI:(p2:Int)<((dig 1000000000 Z).length:Int):=by omega
 obtain⟨t1,ht1⟩:=xE (α:=Nat) (H+1);have wt:IntKind.u64.wrap ((H:Int)+1)=(t1:Int):=by rw[cS (by omega) (by omega)];omega
 rw[<-ht1] at hf;have adv:¬t1=0:=by omega
 have wf0:IntKind.u64.wrap (f:Int)=(f:Int):=cS (by omega) (by omega);have wf:IntKind.u64.wrap ((1000000000:Int) / (t1:Int))=(f:Int):=by rw[show((1000000000:Int) / (t1:Int))=((1000000000 / t1:Nat):Int) from rfl,<-hf];exact wf0
 have wf' :IntKind.u64.wrap ((1000000000:Int).tdiv (t1:Int))=(f:Int):=by rw[show((1000000000:Int).tdiv (t1:Int))=((1000000000 / t1:Nat):Int) from rfl,<-hf];exact wf0
 have hB1:¬(B.length:Int)=1:=by omega
 have hfI:(f:Int)<1000000000:=by omega
 have hl8:A.length<=100000000:=by omega
 have hl9:A.length<=1000000000:=by omega
 have adw:B.length<=100000000:=by omega
 have hq9:q.length<=1000000000:=by omega
 have h8:8*(a.length:Int)<=281474976710656:=by omega
 have h9:(a.length:Int)<=281474976710656:=by omega
 have adx:(dig 1000000000 U).length<=100000000:=by have:(dig 1000000000 U).length<=(dig 1000000000 Z).length:=mono _ _ (by omega);omega
 have hf0:0<f:=hf1;by_cases hz:av%X=0
 .have afi:U=0:=by rw[hrv,hz,Nat.zero_mul]
  have acJ:U<f:=by omega
  rw[if_pos hz];simp[ae,agX,f223,ei,cC,cg,bR,hs0,hs1,hs6,hs7,hs8,hA,hB,<-S,<-Y,<-ha,<-V,tA,tB,hc,lo,lt,lv,wp,wp2,wan,hpI,abI,ab',abk,hpB,adu,wt,adv,wf',hB1,hfI,hl8,hl9,adw,hq9,h8,h9,hF,adx,hf0,J,acJ,rU,Nat.testBit]
 .have acJ:¬U<f:=by have:f<=av%X*f:=Nat.le_mul_of_pos_left f (by omega);omega
  rw[if_neg hz];simp[ae,agX,f223,ei,cC,cg,bR,hs0,hs1,hs6,hs7,hs8,hA,hB,<-S,<-Y,<-ha,<-V,tA,tB,hc,lo,lt,lv,wp,wp2,wan,hpI,abI,ab',abk,hpB,adu,wt,adv,wf',hB1,hfI,hl8,hl9,adw,hq9,h8,h9,hF,adx,hf0,J,acJ,hrf,rU,Nat.testBit];exact⟨rfl,rfl⟩
theorem PW{B:List Nat}(J:lok 1000000000 A=true)(Y:lok 1000000000 B=true)(hl:A.length<=1000000)(tA:aW A=A)(tB:aW B=B)(hm:2<=B.length)(ZJ:ao 1000000000 B<=ao 1000000000 A)(H:afw .u64 M x A)(I:afw .u64 M y B):
  if ao 1000000000 A%ao 1000000000 B=0 then kO prog 223 [x,y] M (.tuple [.slice M.length 0 (dig 1000000000 (ao 1000000000 A / ao 1000000000 B)).length none,.qF]) (M++[.cells true 1 (iN .u64 (dig 1000000000 (ao 1000000000 A / ao 1000000000 B)))])
  else kO prog 223 [x,y] M (.tuple [.slice M.length 0 (dig 1000000000 (ao 1000000000 A / ao 1000000000 B)).length none,.slice (M.length+1) 0 (dig 1000000000 (ao 1000000000 A%ao 1000000000 B)).length none])
   (M++[.cells true 1 (iN .u64 (dig 1000000000 (ao 1000000000 A / ao 1000000000 B))),.cells true 1 (iN .u64 (dig 1000000000 (ao 1000000000 A%ao 1000000000 B)))]):=by
 obtain⟨X,V,_⟩:=de (l:=B) (i:=B.length-1) (by omega);obtain⟨q,R,h⟩:=FX A B X J Y hl tA tB hm V ZJ;have:=(aB aj (aI _) It (aQ _) h).1;split
 .rename_i U
  rw[if_pos U] at this;simp only[afl.mem,Option.getD_none,List.cons_append,List.nil_append] at this;have S:=kO.agn (m2:=[.cells false 1 (iN .u64 A),.cells false 1 (iN .u64 B),.cells true 1 (iN .u64 (aW q))]) this rfl (fun b s Z=>by
   match b with
   |0=>simp at Z;subst Z;exact⟨_,rfl,.inl rfl⟩
   |1=>simp at Z;subst Z;exact⟨_,rfl,.inl rfl⟩
   |2=>simp at Z;subst Z;exact⟨_,rfl,.row (dG _)⟩
   |b+3=>simp at Z)
  obtain⟨b,c,rfl,rfl,h3⟩:=kO.agi (new:=[.cells true 1 (iN .u64 (aW q))]) rfl S H I;rw[R] at h3;simpa [AV.ren,AV.afI,fA] using h3
 .rename_i U
  rw[if_neg U] at this;simp only[afl.mem,Option.getD_none,List.cons_append,List.nil_append] at this;have S:=kO.agn (m2:=[.cells false 1 (iN .u64 A),.cells false 1 (iN .u64 B),.cells true 1 (iN .u64 (aW q)),.cells true 1 (iN .u64 (dig 1000000000 (ao 1000000000 A%ao 1000000000 B)))]) this rfl (fun b s Z=>by
   match b with
   |0=>simp at Z;subst Z;exact⟨_,rfl,.inl rfl⟩
   |1=>simp at Z;subst Z;exact⟨_,rfl,.inl rfl⟩
   |2=>simp at Z;subst Z;exact⟨_,rfl,.row (dG _)⟩
   |3=>simp at Z;subst Z;exact⟨_,rfl,.inl rfl⟩
   |b+4=>simp at Z)
  obtain⟨b,c,rfl,rfl,h3⟩:=kO.agi (new:=[.cells true 1 (iN .u64 (aW q)),.cells true 1 (iN .u64 (dig 1000000000 (ao 1000000000 A%ao 1000000000 B)))]) rfl S H I;rw[R] at h3;simpa [AV.ren,AV.afI,fA] using h3
noncomputable def cv:y9:=fun c Z M=>match c,Z with
 |.fn 223,[x,y]=>match bd .u64 M x,bd .u64 M y with
  |some A,some B=>if lok 1000000000 A=true/\lok 1000000000 B=true/\A.length<=1000000/\aW A=A/\aW B=B/\0<ao 1000000000 B then
    (if ao 1000000000 A<ao 1000000000 B then some ⟨.tuple [.qF,x],none,[]⟩
    else if 2<=B.length/\ao 1000000000 A%ao 1000000000 B=0 then some ⟨.tuple [.slice M.length 0 (dig 1000000000 (ao 1000000000 A / ao 1000000000 B)).length none,.qF],none,[.cells true 1 (iN .u64 (dig 1000000000 (ao 1000000000 A / ao 1000000000 B)))]⟩
    else some ⟨.tuple [.slice M.length 0 (dig 1000000000 (ao 1000000000 A / ao 1000000000 B)).length none,.slice (M.length+1) 0 (dig 1000000000 (ao 1000000000 A%ao 1000000000 B)).length none],none,[.cells true 1 (iN .u64 (dig 1000000000 (ao 1000000000 A / ao 1000000000 B))),.cells true 1 (iN .u64 (dig 1000000000 (ao 1000000000 A%ao 1000000000 B)))]⟩) else none
  |_,_=>none
 |c,Z=>cC c Z M
theorem Iu:qS prog cv:=by
 refine cw fun c G M r h=>?_
 unfold cv at h;split at h
 .split at h
  .rename_i A B V U
   split at h
   .rename_i C
    obtain⟨S,R,u,O,F,X⟩:=C;split at h
    .rename_i N
     cases h;refine au ?_;rw[List.append_nil];exact vN S R (by omega) O F N (bh V) (bh U)
    .rename_i N
     by_cases Z:2<=B.length
     .have:=PW S R u O F Z (by omega) (bh V) (bh U)
      split at h
      .rename_i L
       rw[if_pos L.2] at this;cases h;exact au this
      .rename_i L
       rw[if_neg (fun e=>L ⟨Z,e⟩)] at this;cases h;exact au this
     .rw[if_neg (fun e=>Z e.1)] at h
      obtain⟨d,rfl⟩:∃d,B=[d]:=by
       match B,Z,X with
       | [],_,X=>simp[ao] at X
       | [d],_,_=>exact⟨d,rfl⟩
       |_::_::_,Z,_=>simp at Z
      have o:ao 1000000000 [d]=d:=by simp[ao]
      rw[o] at X N h;have m:d<1000000000:=by simpa [lok] using R
      cases h;exact au (Et X m S (by omega) O (by omega) (bh V) (bh U))
   .cases h
  .cases h
 .exact ee qQ h
end Go.Proofs
