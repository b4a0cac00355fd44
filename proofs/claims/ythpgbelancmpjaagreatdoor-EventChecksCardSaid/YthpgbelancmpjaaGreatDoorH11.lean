/- See H38. -/
import Derived.Test.YthpgbelancmpjaaGreatDoorH10
set_option linter.all false
set_option maxRecDepth 100000
set_option maxHeartbeats 40000000
namespace Go.Proofs
open Go.Eng
open Tryz
noncomputable def ct:afu:=fun c Z M=>match c,Z with
 |.fn 248,[x,y]=>match bl .u64 M x,bl .u64 M y with
  |some A,some B=>if lok 1000000000 A=true/\lok 1000000000 B=true/\A.length<=100000000/\B.length<=100000000 then some ⟨.slice M.length 0 (dig 1000000000 (aq 1000000000 A+aq 1000000000 B)).length none,none,[.cells true 1 (iN .u64 (dig 1000000000 (aq 1000000000 A+aq 1000000000 B)))]⟩ else none
  |_,_=>none
 |.fn 250,[x,y]=>match bl .u64 M x,bl .u64 M y with
  |some A,some B=>if lok 1000000000 A=true/\lok 1000000000 B=true/\A.length<=100000000/\B.length<=A.length/\aq 1000000000 B<=aq 1000000000 A then some ⟨.slice M.length 0 (dig 1000000000 (aq 1000000000 A-aq 1000000000 B)).length none,none,[.cells true 1 (iN .u64 (dig 1000000000 (aq 1000000000 A-aq 1000000000 B)))]⟩ else none
  |_,_=>none
 |.fn 211,[x,y]=>match bl .u64 M x,bl .u64 M y with
  |some A,some B=>if lok 1000000000 A=true/\lok 1000000000 B=true/\A.length<=100000000/\B.length<=100000000 then some ⟨.slice M.length 0 (dig 1000000000 (aq 1000000000 A*aq 1000000000 B)).length none,none,[.cells true 1 (iN .u64 (dig 1000000000 (aq 1000000000 A*aq 1000000000 B)))]⟩ else none
  |_,_=>none
 |.fn 255,[x]=>match x with
  |.slice b 0 n none=>if b<M.length then some ⟨.func 279 [.ptr M.length 0],none,[.cells true 0 [.slice b 0 n none]]⟩ else none
  |_=>none
 |.fn 253,[x]=>bP (.fn 253) [x] M
 |.fn 249,[x,y]=>bP (.fn 249) [x,y] M
 |_,_=>none
theorem qT:afs prog ct:=by
 refine cG fun c N M r h=>?_
 unfold ct at h;split at h
 .split at h
  .rename_i Z X
   split at h
   .rename_i V
    obtain⟨U,S,R,Q⟩:=V;cases h;exact aA (MP U S R Q (br Z) (br X))
   .cases h
  .cases h
 .split at h
  .rename_i Z X
   split at h
   .rename_i V
    obtain⟨U,S,R,Q,F⟩:=V;cases h;exact aA (H2 U S R Q F (br Z) (br X))
   .cases h
  .cases h
 .split at h
  .rename_i Z X
   split at h
   .rename_i V
    obtain⟨U,S,R,Q⟩:=V;cases h;exact aA (Im U S R Q (br Z) (br X))
   .cases h
  .cases h
 .split at h
  .split at h
   .rename_i D
    cases h;refine aB (T:=aL prog) (lv:=fun _=>[]) (G:=bq prog) (O:=bC) (K:=1) ak (aI _) (ar _) (aQ _) ?_;exact Bf _ _ M D
   .cases h
  .cases h
 .exact ee ja h
 .exact ee ja h
 .cases h
theorem ag5:bq prog 223=some f223:=by kernel_rfl
theorem Gg(A:List Nat)(d:Nat)(H:0<d)(hd:d<1000000000)(J:lok 1000000000 A=true)(hl:A.length<=100000000)(tA:bd A=A)(I:d<=aq 1000000000 A):
  ∃O:afu,afs prog O/\ad (aL prog) (fun _=>[]) (bq prog) (ct.or O) 1 223 [.slice 0 0 A.length none,.slice 1 0 1 none] [.cells false 1 (iN .u64 A),.cells false 1 [.int .u64 (d:Int)]]=
   some ⟨.tuple [.slice 2 0 (bd (fZ 1000000000 d A).1).length none,.slice 3 0 (bd [(fZ 1000000000 d A).2]).length none],some [.cells false 1 (iN .u64 A),.cells false 1 [.int .u64 (d:Int)]],[.cells true 1 (iN .u64 (fZ 1000000000 d A).1),.cells true 1 [.int .u64 (((fZ 1000000000 d A).2:Nat):Int)]]⟩:=by
 obtain⟨U,X,Z,B⟩:∃U X Z,eL f223=[(U,X,Z)]:=⟨_,_,_,rfl⟩
 have S:0<A.length:=by
  rcases P1 A.length with h | h
  .rw[GT h] at I;simp[aq] at I;omega
  .exact h
 obtain⟨O,hO,R⟩:=Ed A d H hd J (by omega) S B;refine⟨O,hO,?_⟩;obtain⟨i1,i2,i3,C⟩:=CL H hd A J;have Q:∀V,ma A d U X Z V 0=[.cells false 1 (iN .u64 A),.cells false 1 [.int .u64 (d:Int)],.cells true 0 [.slice 1 0 1 none],.cells true 0 [.slice 4 0 A.length none],
  .cells true 1 (iN .u64 (fZ 1000000000 d A).1),.cells true 0 [.int .u64 (((fZ 1000000000 d A).2:Nat):Int)],.cells true 0 [.slice 0 0 A.length none],.loop ⟨.ready,none,V,146,U,X,Z⟩]:=fun V=>rfl
 have N:∀V,ma A d U X Z V A.length=[.cells false 1 (iN .u64 A),.cells false 1 [.int .u64 (d:Int)],.cells true 0 [.slice 1 0 1 none],.cells true 0 [.slice 4 0 A.length none],
  .cells true 1 (iN .u64 (List.replicate A.length 0)),.cells true 0 [.int .u64 0],.cells true 0 [.slice 0 0 A.length none],.loop ⟨.ready,none,V,146,U,X,Z⟩]:=fun V=>by
  unfold ma;rw[List.drop_length];simp[fZ]
 have M:∀V,(aa V 3=.ptr 2 0/\aa V 4=.ptr 3 0/\aa V 6=.ptr 5 0/\V.flatMap (fun e=>e.2.refs 8)=[])->
   O (.fn 279) [.yield 7,.ptr 6 0] [.cells false 1 (iN .u64 A),.cells false 1 [.int .u64 (d:Int)],.cells true 0 [.slice 1 0 1 none],.cells true 0 [.slice 4 0 A.length none],
  .cells true 1 (iN .u64 (List.replicate A.length 0)),.cells true 0 [.int .u64 0],.cells true 0 [.slice 0 0 A.length none],.loop ⟨.ready,none,V,146,U,X,Z⟩]=some ⟨.tuple [],some [.cells false 1 (iN .u64 A),.cells false 1 [.int .u64 (d:Int)],.cells true 0 [.slice 1 0 1 none],.cells true 0 [.slice 4 0 A.length none],
  .cells true 1 (iN .u64 (fZ 1000000000 d A).1),.cells true 0 [.int .u64 (((fZ 1000000000 d A).2:Nat):Int)],.cells true 0 [.slice 0 0 A.length none],.loop ⟨.ready,none,V,146,U,X,Z⟩],[]⟩:=fun V h=>by
  have:=R V h
  rwa [N,Q] at this
 clear R Q N;obtain⟨q,W⟩:=xE ((fZ 1000000000 d A).1);obtain⟨r,hr⟩:=xE ((fZ 1000000000 d A).2);rw[<-W,<-hr] at M |-;rw[<-W] at i3 C;simp[eL,fX,f223] at B;obtain⟨rfl,rfl,rfl⟩:=B;have hs0:∀l,bl .u64 (.cells false 1 (iN .u64 A)::l) (.slice 0 0 A.length none)=some A:=fun l=>aW rfl (by simp) (An (by simp))
 have hs1:∀l,bl .u64 (.cells false 1 (iN .u64 A)::.cells false 1 [.int .u64 (d:Int)]::l) (.slice 1 0 1 none)=some [d]:=fun l=>aW (A:=[d]) rfl (by simp) rfl
 have hs4:∀K G F D l,bl .u64 (K::G::F::D::.cells true 1 (iN .u64 q)::l) (.slice 4 0 A.length none)=some q:=fun K G F D l=>aW rfl (by simp[C]) (An (by simp[C]))
 have y:∀K G F D a4 a5 a6 a7 l,bl .u64 (K::G::F::D::a4::a5::a6::a7::.cells true 1 [.int .u64 (r:Int)]::l) (.slice 8 0 1 none)=some [r]:=fun K G F D a4 a5 a6 a7 l=>aW (A:=[r]) rfl (by simp) rfl
 have u:lok 1000000000 [d]=true:=by simp[lok];omega
 have o:bd [d]=[d]:=by simp[bd];omega
 have m:aq 1000000000 [d]=d:=by simp[aq]
 have j:¬j9 (aq 1000000000 A) d<0:=by unfold j9;rw[if_neg (by omega)];split<;>omega
 have h8:8*(A.length:Int)<=281474976710656:=by omega
 have h9:(A.length:Int)<=281474976710656:=by omega
 have Y:A.length<=1000000000:=by omega
 simp[ad,ag5,f223,afu.or,ct,bP,hs0,hs1,J,tA,u,o,m,j,h8,h9,Y,rW,vi,M,hs4,y,C,zn,Nat.testBit];exact⟨rfl,rfl⟩
variable{B:Nat}{l:List Nat}
theorem UE(h:lok B l=true):lok B (bd l)=true:=by rw[kM l];exact jx h _
theorem mV(H:2<=B)(h:lok B l=true)(I:bd l=l):dig B (aq B l)=l:=by rw[dW H h,I]
variable{A:List Nat}{d:Nat}
theorem Ik(hd:d<1000000000)(H:lok 1000000000 A=true)(I:A.length<=100000000):
  bz prog 266 [.slice 0 0 A.length none,.int .u64 (d:Int)] [.cells false 1 (iN .u64 A)] (.slice 1 0 (dig 1000000000 (aq 1000000000 A*d)).length none) [.cells false 1 (iN .u64 A),.cells true 1 (iN .u64 (dig 1000000000 (aq 1000000000 A*d)))]:=by
 have S:bq prog 266=some f266:=by kernel_rfl
 have hs0:∀l,bl .u64 (.cells false 1 (iN .u64 A)::l) (.slice 0 0 A.length none)=some A:=fun l=>aW rfl (by simp) (An (by simp))
 have hs1:∀Z l,bl .u64 (Z::.cells true 1 [.int .u64 (d:Int)]::l) (.slice 1 0 1 none)=some [d]:=fun Z l=>aW (A:=[d]) rfl (by simp) rfl
 have hs2:∀Z l,bl .u64 (Z::.cells true 1 [.int .u64 (d:Int)]::l) (.slice 1 0 (bd [d]).length none)=some (bd [d]):=fun Z l=>aW rfl (by have:=dw [d];simpa using this) (by have:([.int .u64 (d:Int)]:List AV)=iN .u64 [d]:=rfl;rw[this,iA,lF])
 have X:lok 1000000000 (bd [d])=true:=UE (by simp[lok];omega);have V:aq 1000000000 (bd [d])=d:=by rw[Fx];simp[aq]
 have U:(bd [d]).length<=100000000:=by have:=dw [d];simp at this;omega
 have h:ad (aL prog) (fun _=>[]) (bq prog) ct 1 266 [.slice 0 0 A.length none,.int .u64 (d:Int)] [.cells false 1 (iN .u64 A)]=some ⟨.slice 1 0 (dig 1000000000 (aq 1000000000 A*d)).length none,none,[.cells true 1 (iN .u64 (dig 1000000000 (aq 1000000000 A*d)))]⟩:=by simp[ad,S,f266,ct,bP,hs0,hs1,hs2,H,I,X,V,U]
 have:=(aB ak (aI _) qT (aQ _) h).1;simpa [afw.mem] using this
variable{M:Mem}{x:AV}
theorem Ij(hd:d<1000000000)(H:lok 1000000000 A=true)(I:A.length<=100000000)(hx:afO .u64 M x A):
  bz prog 266 [x,.int .u64 (d:Int)] M (.slice M.length 0 (dig 1000000000 (aq 1000000000 A*d)).length none) (M++[.cells true 1 (iN .u64 (dig 1000000000 (aq 1000000000 A*d)))]):=by
 obtain⟨b,rfl,h⟩:=bz.ag2 (new:=[.cells true 1 (iN .u64 (dig 1000000000 (aq 1000000000 A*d)))]) (rest:=[.int .u64 (d:Int)]) rfl rfl (Ik hd H I) hx;simpa [AV.ren,back] using h
noncomputable def cH:afu:=fun c Z M=>match c,Z with
 |.fn 266,[x,.int .u64 d]=>match bl .u64 M x with
  |some A=>if lok 1000000000 A=true/\A.length<=100000000/\0<=d/\d<1000000000 then some ⟨.slice M.length 0 (dig 1000000000 (aq 1000000000 A*d.toNat)).length none,none,[.cells true 1 (iN .u64 (dig 1000000000 (aq 1000000000 A*d.toNat)))]⟩ else none
  |_=>none
 |c,Z=>ct c Z M
theorem qU:afs prog cH:=by
 refine cG fun c Z M r h=>?_
 unfold cH at h;split at h
 .split at h
  .rename_i V
   split at h
   .rename_i U
    obtain⟨S,R,X,Q⟩:=U;cases h;have O:=(Int.toNat_lt X).2 Q;have:=Ij O S R (br V);rw[QQb X] at this;exact aA this
   .cases h
  .cases h
 .exact ee qT h
def fO(c:Code):List Nat:=if (ae c).contains 11 then [11,5] else [13,12]
theorem jf{B d:Nat}(hd:0<d):∀l:List Nat,lok B l=true->(fZ B d l).2<d/\aq B (fZ B d l).1*d+(fZ B d l).2=aq B l/\lok B (fZ B d l).1=true/\(fZ B d l).1.length=l.length
 | [],_=>by simp[fZ,aq,lok,hd]
 |x::l,h=>by
  rw[di,Ar,Cs] at h;obtain⟨X,V,U,S⟩:=jf hd l h.2;simp only[fZ];have Z:=Nat.mod_add_div ((fZ B d l).2*B+x) d;refine⟨Nat.mod_lt _ hd,?_,?_,by simp[S]⟩
  .rw[aq,aq,<-V,Nat.add_mul,Nat.mul_add]
   rw[SP d] at Z;rw[QQk,SP B (fZ B d l).2];omega
  .rw[di,Ar,Cs]
   refine⟨?_,U⟩;rw[Nat.div_lt_iff_lt_mul hd];have h3:((fZ B d l).2+1)*B<=d*B:=QQe _ X;rw[Nat.add_mul] at h3;rw[SP B d];omega
variable{y:AV}
theorem vP{B:List Nat}(H:lok 1000000000 A=true)(I:lok 1000000000 B=true)(J:A.length<=1000000000)(tA:bd A=A)(W:bd B=B)(Y:aq 1000000000 A<aq 1000000000 B)(hx:afO .u64 M x A)(hy:afO .u64 M y B):
  bz prog 223 [x,y] M (.tuple [.kO,x]) M:=by
 have hs0:∀l,bl .u64 (.cells false 1 (iN .u64 A)::l) (.slice 0 0 A.length none)=some A:=fun l=>aW rfl (by simp) (An (by simp))
 have hs1:∀a l,bl .u64 (a::.cells false 1 (iN .u64 B)::l) (.slice 1 0 B.length none)=some B:=fun a l=>aW rfl (by simp) (An (by simp))
 have Z:j9 (aq 1000000000 A) (aq 1000000000 B)<0:=by unfold j9;rw[if_pos Y];omega
 have h:ad (aL prog) fO (bq prog) cH 1 223 [.slice 0 0 A.length none,.slice 1 0 B.length none] [.cells false 1 (iN .u64 A),.cells false 1 (iN .u64 B)]=some ⟨.tuple [.kO,.slice 0 0 A.length none],none,[]⟩:=by simp[ad,ag5,f223,cH,ct,bP,hs0,hs1,H,I,J,tA,W,Z]
 have:=(aB ak (aI _) qU (aQ _) h).1;simp only[afw.mem,Option.getD_none,List.append_nil] at this;obtain⟨b,c,rfl,rfl,h3⟩:=bz.agq (new:=[]) rfl this hx hy;simpa [AV.ren,AV.afR,back] using h3
theorem ET(H:0<d)(hd:d<1000000000)(J:lok 1000000000 A=true)(W:A.length<=100000000)(tA:bd A=A)(I:d<=aq 1000000000 A)(hx:afO .u64 M x A)(Y:afO .u64 M y [d]):
  bz prog 223 [x,y] M (.tuple [.slice M.length 0 (dig 1000000000 (aq 1000000000 A / d)).length none,.slice (M.length+1) 0 (dig 1000000000 (aq 1000000000 A%d)).length none]) (M++[.cells true 1 (iN .u64 (dig 1000000000 (aq 1000000000 A / d))),.cells true 1 (iN .u64 (dig 1000000000 (aq 1000000000 A%d)))]):=by
 obtain⟨O,S,h⟩:=Gg A d H hd J W tA I;obtain⟨X,V,R,N⟩:=jf H A J;have Q:aq 1000000000 (fZ 1000000000 d A).1=aq 1000000000 A / d:=by rw[<-V,SP,Nat.mul_add_div H,Nat.div_eq_of_lt X,Nat.add_zero]
 have K:(fZ 1000000000 d A).2=aq 1000000000 A%d:=by rw[<-V,SP,Nat.mul_add_mod,QQa X]
 have f1:bd (fZ 1000000000 d A).1=dig 1000000000 (aq 1000000000 A / d):=by rw[<-dW (by omega) R,Q]
 have f2:bd [(fZ 1000000000 d A).2]=dig 1000000000 (aq 1000000000 A%d):=by rw[<-dW (B:=1000000000) (by omega) (by simp[lok];omega)];congr 1
 have:=(aB ak (aI _) (qT.or S) (aQ _) h).1;simp only[afw.mem,Option.getD_some,List.cons_append,List.nil_append] at this;have U:=bz.agu (m2:=[.cells false 1 (iN .u64 A),.cells false 1 (iN .u64 [d]),.cells true 1 (iN .u64 (dig 1000000000 (aq 1000000000 A / d))),.cells true 1 (iN .u64 (dig 1000000000 (aq 1000000000 A%d)))]) this rfl (fun b s Z=>by
  match b with
  |0=>simp at Z;subst Z;exact⟨_,rfl,.inl rfl⟩
  |1=>simp at Z;subst Z;exact⟨_,rfl,.inl rfl⟩
  |2=>simp at Z;subst Z;exact⟨_,rfl,.row (by rw[<-f1];exact dK _)⟩
  |3=>simp at Z;subst Z;exact⟨_,rfl,by have:=ag3.row (k:=.u64) (o:=true) (es:=1) (dK [(fZ 1000000000 d A).2]);rw[f2] at this;exact this⟩
  |b+4=>simp at Z)
 rw[f1,f2] at U;obtain⟨b,c,rfl,rfl,h3⟩:=bz.agq (B:=[d]) (new:=[.cells true 1 (iN .u64 (dig 1000000000 (aq 1000000000 A / d))),.cells true 1 (iN .u64 (dig 1000000000 (aq 1000000000 A%d)))]) rfl U hx Y;simpa [AV.ren,AV.afR,back] using h3
noncomputable def eg:afu:=fun c Z M=>match c,Z with
 |.fn 223,[x,y]=>match bl .u64 M x,bl .u64 M y with
  |some A,some [d]=>if lok 1000000000 A=true/\A.length<=100000000/\bd A=A/\0<d/\d<1000000000 then
    (if aq 1000000000 A<d then some ⟨.tuple [.kO,x],none,[]⟩ else some ⟨.tuple [.slice M.length 0 (dig 1000000000 (aq 1000000000 A / d)).length none,.slice (M.length+1) 0 (dig 1000000000 (aq 1000000000 A%d)).length none],none,[.cells true 1 (iN .u64 (dig 1000000000 (aq 1000000000 A / d))),.cells true 1 (iN .u64 (dig 1000000000 (aq 1000000000 A%d)))]⟩) else none
  |_,_=>none
 |c,Z=>cH c Z M
theorem Iy:afs prog eg:=by
 refine cG fun c Z M r h=>?_
 unfold eg at h;split at h
 .split at h
  .rename_i X V
   split at h
   .rename_i O
    obtain⟨U,N,S,K,R⟩:=O;split at h
    .rename_i Q
     cases h;have:=vP U (B:=[_]) (by simp[lok];exact R) (by omega) S (by simp[bd];omega) (by simpa [aq] using Q) (br X) (br V);refine aA ?_;rw[List.append_nil];exact this
    .rename_i Q
     cases h;exact aA (ET K R U N S (by omega) (br X) (br V))
   .cases h
  .cases h
 .exact ee qU h
def fy(A B:List Nat)(n m:Nat)(a b q H I:List Nat)(l:Mem):Mem:=
 .cells false 1 (iN .u64 A)::.cells false 1 (iN .u64 B)::.cells true 0 [.slice 5 0 m none]::.cells true 0 [.slice 6 0 n none]::.cells true 1 (iN .u64 a)::.cells true 1 (iN .u64 b)::.cells true 1 (iN .u64 q)::.cells true 1 (iN .u64 H)::.y9::.cells true 1 (iN .u64 I)::l
variable{K:Nat}{b1 c:Code}
theorem Eb(A B:List Nat)(n:Nat)(a q H I:List Nat)(b r d0 t:Nat)(ht:t=r / b)(Y:I.take (dig 1000000000 r).length=dig 1000000000 r)(hrl:(dig 1000000000 r).length<=I.length)(T':0<b)(hd0:t<d0)(hdB:d0<1000000000)(hK:d0<K)(hlb:∀d,d<=d0->(dig 1000000000 (b*d)).length<=100000000)(ac':∀d,d<=d0->0<d->(dig 1000000000 b).length<=(dig 1000000000 (b*d)).length)(J:ah f223=[b1,c])(W:fO c=[13,12]):
  ∃F:Env->Bool->Env,∀Z d,(aa Z 3=.ptr 2 0/\aa Z 5=.slice 9 0 (dig 1000000000 r).length none/\aa Z 12=.int .u64 d0/\aa Z 13=.slice 10 0 (dig 1000000000 (b*d0)).length none)->
   aO (aL prog) fO eg K 146 2 true (.loop c) ⟨Z,fy A B n (dig 1000000000 b).length a (dig 1000000000 b) q H I [.cells true 1 (iN .u64 (dig 1000000000 (b*d0)))],d⟩=
    some (.exit 4,⟨F Z d,fy A B n (dig 1000000000 b).length a (dig 1000000000 b) q H I [.cells true 1 (iN .u64 (dig 1000000000 (b*d0))),.cells true 1 (iN .u64 (dig 1000000000 (b*t)))],d⟩)/\
   (aa (F Z d) 13=.slice 11 0 (dig 1000000000 (b*t)).length none/\aa (F Z d) 12=.int .u64 (t:Int)/\(∀x∈[0,3,4,5,9,10,11],aa (F Z d) x=aa Z x)):=by
 refine bG W (fun Z=>aa Z 3=.ptr 2 0/\aa Z 5=.slice 9 0 (dig 1000000000 r).length none/\aa Z 12=.int .u64 d0/\aa Z 13=.slice 10 0 (dig 1000000000 (b*d0)).length none)
  (fun Z C =>aa C 13=.slice 11 0 (dig 1000000000 (b*t)).length none/\aa C 12=.int .u64 (t:Int)/\(∀x∈[0,3,4,5,9,10,11],aa C x=aa Z x)) ?_
 clear W;rintro Z dd ⟨h3,h5,h12,h13⟩;simp[ah,aw,f223] at J;obtain⟨_,J⟩:=J;obtain⟨S,hS⟩:∃S:Nat->XS,(S d0=⟨au [13,12] (ae c) Z ((13,.slice 10 0 (dig 1000000000 (b*d0)).length none)::(12,.int .u64 (d0:Int))::Z),fy A B n (dig 1000000000 b).length a (dig 1000000000 b) q H I [.cells true 1 (iN .u64 (dig 1000000000 (b*d0)))],dd⟩)/\
   (∀e,e≠d0->S e=⟨au [13,12] (ae c) Z ((13,.slice 11 0 (dig 1000000000 (b*e)).length none)::(12,.int .u64 (e:Int))::Z),fy A B n (dig 1000000000 b).length a (dig 1000000000 b) q H I [.cells true 1 (iN .u64 (dig 1000000000 (b*d0))),.cells true 1 (iN .u64 (dig 1000000000 (b*e)))],dd⟩):=
  ⟨fun e=>if e=d0 then⟨au [13,12] (ae c) Z ((13,.slice 10 0 (dig 1000000000 (b*d0)).length none)::(12,.int .u64 (d0:Int))::Z),fy A B n (dig 1000000000 b).length a (dig 1000000000 b) q H I [.cells true 1 (iN .u64 (dig 1000000000 (b*d0)))],dd⟩
   else⟨au [13,12] (ae c) Z ((13,.slice 11 0 (dig 1000000000 (b*e)).length none)::(12,.int .u64 (e:Int))::Z),fy A B n (dig 1000000000 b).length a (dig 1000000000 b) q H I [.cells true 1 (iN .u64 (dig 1000000000 (b*d0))),.cells true 1 (iN .u64 (dig 1000000000 (b*e)))],dd⟩,by simp,fun e he=>by simp[he]⟩
 have u:(⟨au [13,12] (ae c) Z Z,fy A B n (dig 1000000000 b).length a (dig 1000000000 b) q H I [.cells true 1 (iN .u64 (dig 1000000000 (b*d0)))],dd⟩:XS)=S d0:=by rw[hS.1];simp[au,h12,h13]
 rw[u];have C':(fy A B n (dig 1000000000 b).length a (dig 1000000000 b) q H I [.cells true 1 (iN .u64 (dig 1000000000 (b*d0)))]).length=11:=rfl;rw[C'];refine bZ (α:=Nat) S (fun e=>e-t) (fun e=>t<=e/\e<=d0) (.exit 4) _ dd _ (by simp) ?_ K d0 ⟨by omega,Es _⟩ (by omega);rintro e ⟨he1,he2⟩;have X:∀l,bl .u64 (fy A B n (dig 1000000000 b).length a (dig 1000000000 b) q H I l) (.slice 9 0 (dig 1000000000 r).length none)=some (dig 1000000000 r):=fun l=>aW rfl (by simpa using hrl) (by rw[iA,Y])
 have U:∀l,bl .u64 (fy A B n (dig 1000000000 b).length a (dig 1000000000 b) q H I l) (.slice 5 0 (dig 1000000000 b).length none)=some (dig 1000000000 b):=fun l=>aW rfl (by simp) (An (by simp))
 have G:∀l,bl .u64 (fy A B n (dig 1000000000 b).length a (dig 1000000000 b) q H I (.cells true 1 (iN .u64 (dig 1000000000 (b*d0)))::l)) (.slice 10 0 (dig 1000000000 (b*d0)).length none)=some (dig 1000000000 (b*d0)):=fun l=>aW rfl (by simp) (An (by simp))
 have R:∀x l,bl .u64 (fy A B n (dig 1000000000 b).length a (dig 1000000000 b) q H I (x::.cells true 1 (iN .u64 (dig 1000000000 (b*e)))::l)) (.slice 11 0 (dig 1000000000 (b*e)).length none)=some (dig 1000000000 (b*e)):=fun x l=>aW rfl (by simp) (An (by simp))
 have o:∀v,lok 1000000000 (dig 1000000000 v)=true:=fun v=>cc (by omega) v
 have m:∀v,bd (dig 1000000000 v)=dig 1000000000 v:=fun v=>cB (by omega) v
 have j:∀v,aq 1000000000 (dig 1000000000 v)=v:=fun v=>bN (by omega) v
 have hle:=hlb e he2;have V:(dig 1000000000 (b*e)).length<=1000000000:=by omega
 simp only[fy] at X U G R hS;by_cases hq:e=t
 .right
  have G':e≠d0:=by omega
  have D:¬0<j9 (b*e) r:=by
   have:b*e<=r:=by rw[hq,ht];exact Nat.mul_div_le r b
   unfold j9;split
   .omega
   .rw[if_neg (by omega)];omega
  rw[hS.2 e G',<-hq];clear hS;subst J;simp[eg,cH,ct,bP,fy,h3,h5,X,R,o,m,j,V,D]
 .left
  have hqe:t<e:=by omega
  have hgt:r<b*e:=by
   have:=(Nat.div_lt_iff_lt_mul T').1 (ht▸hqe)
   rwa [SP] at this
  have D:0<j9 (b*e) r:=by unfold j9;rw[if_neg (by omega),if_pos hgt];omega
  have Q:b<=b*e:=Nat.le_mul_of_pos_right b (by omega);have O:b*e-b=b*(e-1):=by rw[Nat.mul_sub,Nat.mul_one]
  have Z':=ac' e he2 (by omega);have w1:IntKind.u64.wrap ((e:Int)-1)=((e-1:Nat):Int):=by rw[dc (by omega) (by omega)];omega
  have N:(dig 1000000000 (b*e)).length<=100000000:=hle;refine⟨e-1,?_⟩;rw[hS.2 (e-1) (by omega)];by_cases hd:e=d0
  .rw[hd] at D Q O Z' w1 N V |-
   rw[hS.1];clear hS;subst J;simp[eg,cH,ct,bP,h3,h5,X,U,G,o,m,j,V,D,Q,Z',O,w1,N];omega
  .rw[hS.2 e hd]
   clear hS;subst J;simp[eg,cH,ct,bP,h3,h5,X,U,R,o,m,j,V,D,Q,Z',O,w1,N];omega
theorem Bw(A B:List Nat)(n:Nat)(a q H I:List Nat)(b r t:Nat)(ht:b*t<=r)(Y:I.take (dig 1000000000 r).length=dig 1000000000 r)(hrl:(dig 1000000000 r).length<=I.length)(hK:0<K)(hlb:(dig 1000000000 (b*t)).length<=1000000000)(W:ah f223=[b1,c])(J:fO c=[13,12]):
  ∃F:Env->Bool->Env,∀Z d,(aa Z 3=.ptr 2 0/\aa Z 5=.slice 9 0 (dig 1000000000 r).length none/\aa Z 12=.int .u64 t/\aa Z 13=.slice 10 0 (dig 1000000000 (b*t)).length none)->
   aO (aL prog) fO eg K 146 2 true (.loop c) ⟨Z,fy A B n (dig 1000000000 b).length a (dig 1000000000 b) q H I [.cells true 1 (iN .u64 (dig 1000000000 (b*t)))],d⟩=
    some (.exit 4,⟨F Z d,fy A B n (dig 1000000000 b).length a (dig 1000000000 b) q H I [.cells true 1 (iN .u64 (dig 1000000000 (b*t)))],d⟩)/\
   (aa (F Z d) 13=.slice 10 0 (dig 1000000000 (b*t)).length none/\aa (F Z d) 12=.int .u64 (t:Int)/\(∀x∈[0,3,4,5,9,10,11],aa (F Z d) x=aa Z x)):=by
 refine bG J (fun Z=>aa Z 3=.ptr 2 0/\aa Z 5=.slice 9 0 (dig 1000000000 r).length none/\aa Z 12=.int .u64 t/\aa Z 13=.slice 10 0 (dig 1000000000 (b*t)).length none)
  (fun Z U =>aa U 13=.slice 10 0 (dig 1000000000 (b*t)).length none/\aa U 12=.int .u64 (t:Int)/\(∀x∈[0,3,4,5,9,10,11],aa U x=aa Z x)) ?_
 clear J;rintro Z dd ⟨h3,h5,h12,h13⟩;simp[ah,aw,f223] at W;obtain⟨_,W⟩:=W;obtain⟨K,rfl⟩:∃S,K=S +1:=⟨K-1,by omega⟩
 have X:∀l,bl .u64 (fy A B n (dig 1000000000 b).length a (dig 1000000000 b) q H I l) (.slice 9 0 (dig 1000000000 r).length none)=some (dig 1000000000 r):=fun l=>aW rfl (by simpa using hrl) (by rw[iA,Y])
 have V:∀l,bl .u64 (fy A B n (dig 1000000000 b).length a (dig 1000000000 b) q H I (.cells true 1 (iN .u64 (dig 1000000000 (b*t)))::l)) (.slice 10 0 (dig 1000000000 (b*t)).length none)=some (dig 1000000000 (b*t)):=fun l=>aW rfl (by simp) (An (by simp))
 have R:∀v,lok 1000000000 (dig 1000000000 v)=true:=fun v=>cc (by omega) v
 have Q:∀v,bd (dig 1000000000 v)=dig 1000000000 v:=fun v=>cB (by omega) v
 have O:∀v,aq 1000000000 (dig 1000000000 v)=v:=fun v=>bN (by omega) v
 have N:¬0<j9 (b*t) r:=by
  unfold j9;split
  .omega
  .rw[if_neg (by omega)];omega
 simp only[fy] at X V;subst W;simp[ga,eg,cH,ct,bP,fy,h3,h5,h12,h13,X,V,R,Q,O,hlb,N]
def xn(b:Nat):List Nat->List Nat
 | []=>[]
 |x::l=>if x+1000000000*(fZ 1000000000 b l).2<b then x::dig 1000000000 (fZ 1000000000 b l).2 else dig 1000000000 ((x+1000000000*(fZ 1000000000 b l).2)%b)
theorem Dy{b:Nat}:∀{l:List Nat},lok 1000000000 l=true->(xn b l).take (dig 1000000000 (fZ 1000000000 b l).2).length=dig 1000000000 (fZ 1000000000 b l).2/\(dig 1000000000 (fZ 1000000000 b l).2).length<=(xn b l).length
 | [],_=>by simp[xn,fZ,dX]
 |x::l,h=>by
  rw[di,Ar,Cs] at h;have e:(fZ 1000000000 b (x::l)).2=(x+1000000000*(fZ 1000000000 b l).2)%b:=by simp only[fZ];rw[SP,QXX]
  rw[e,xn];split
  .rename_i Z
   rw[QQa Z,<-Hd (by omega) h.1];exact⟨lF _,dw _⟩
  .exact⟨An (Es _),Es _⟩
def iU(A B:List Nat)(a:List Nat)(b k:Nat):Mem:=
 [.cells false 1 (iN .u64 A),.cells false 1 (iN .u64 B),.cells true 0 [.slice 5 0 (dig 1000000000 b).length none],.cells true 0 [.slice 6 0 a.length none],.cells true 1 (iN .u64 a),.cells true 1 (iN .u64 (dig 1000000000 b)),.cells true 1 (iN .u64 (List.replicate k 0++(fZ 1000000000 b (a.drop k)).1))]
  ++ if k=a.length then [] else [.cells true 1 (iN .u64 (xn b (a.drop k)))]
def yD(a:List Nat)(b k:Nat):AV:=if k=a.length then .kO else .slice 7 0 (dig 1000000000 (fZ 1000000000 b (a.drop k)).2).length none
theorem Ec(A B a:List Nat)(b top:Nat)(ha:lok 1000000000 a=true)(hl:a.length<=10000000)(hm:2<=(dig 1000000000 b).length)(hn:(dig 1000000000 b).length<=a.length)(aa1:(dig 1000000000 b)[(dig 1000000000 b).length-1]? =some top)(hK:2000000000<K)(hb:ah f223=[b1,c]/\fO b1=[11,5]/\fO c=[13,12]):
  ∃F:Env->Bool->Env,∀V d,(aa V 0=.slice 4 0 a.length none/\aa V 3=.ptr 2 0/\aa V 4=.ptr 3 0/\aa V 10=.int .u64 top/\aa V 5=.kO/\aa V 11=.int .i64 ((a.length:Int)-1))->
   aO (aL prog) fO eg K 146 2 true (.loop b1) ⟨V,iU A B a b a.length,d⟩=some (.exit 2,⟨F V d,iU A B a b 0,d⟩)/\
   (aa (F V d) 5=yD a b 0/\(∀x∈[3,4,9],aa (F V d) x=aa V x)):=by
 refine bG hb.2.1 (fun V=>aa V 0=.slice 4 0 a.length none/\aa V 3=.ptr 2 0/\aa V 4=.ptr 3 0/\aa V 10=.int .u64 top/\aa V 5=.kO/\aa V 11=.int .i64 ((a.length:Int)-1))
  (fun V AC =>aa AC 5=yD a b 0/\(∀x∈[3,4,9],aa AC x=aa V x)) ?_
 rintro V dd ⟨h0,h3,h4,h10,h5,h11⟩;have W:=hb.1;simp[ah,aw,f223] at W;obtain⟨W,hb2⟩:=W;have hn0:au [11,5] (ae b1) V ((11,.int .i64 ((a.length:Int)-1))::(5,yD a b a.length)::V)=au [11,5] (ae b1) V V:=by simp[au,h5,h11,yD]
 rw[<-hn0];have acE:(iU A B a b a.length).length=7:=by simp[iU]
 rw[acE];refine bZ (α:=Nat) (fun k=>⟨au [11,5] (ae b1) V ((11,.int .i64 ((k:Int)-1))::(5,yD a b k)::V),iU A B a b k,dd⟩) id (fun k=>k<=a.length) (.exit 2) _ dd _ (by simp) ?_ K a.length (Es _) (by simp;omega);intro k hk;clear hn0 acE;have hbv:1000000000<=b:=by have h:=tn (B:=1000000000) (by omega) b (by rintro rfl;rw[dX] at hm;simp at hm);have:1000000000 ^ 1<=1000000000 ^ ((dig 1000000000 b).length-1):=L9 (by omega) (by omega);omega
 cases k with
 |zero=>
  right;subst W;simp
 |succ i=>
  left;have A':i<a.length:=by omega
  obtain⟨x,hx,J⟩:=dp A';have hxb:=eK ha hx;have eA:a.drop i=x::a.drop (i+1):=by rw[LU A',J]
  have G':¬i=a.length:=by omega
  obtain⟨d1,d2,d3,d4⟩:=jf (B:=1000000000) (d:=b) (by omega) (a.drop (i+1)) (jw ha _);obtain⟨r,hr⟩:=xE ((fZ 1000000000 b (a.drop (i+1))).2);obtain⟨q,hq⟩:=xE ((fZ 1000000000 b (a.drop (i+1))).1);obtain⟨raw,abq⟩:=xE (xn b (a.drop (i+1)));obtain⟨t1,t2⟩:=Dy (b:=b) (jw ha (i+1));obtain⟨Z,hr'⟩:=xE (x+1000000000*r);have hq2:(fZ 1000000000 b (a.drop i)).1=Z / b::q:=by rw[eA,hq,hr',hr];simp only[fZ];rw[SP,QXX]
  have hr2:(fZ 1000000000 b (a.drop i)).2=Z %b:=by rw[eA,hr',hr];simp only[fZ];rw[SP,QXX]
  have adB:xn b (a.drop i)=if Z <b then x::dig 1000000000 r else dig 1000000000 (Z %b):=by rw[eA,xn,<-hr,<-hr']
  have hqz:(List.replicate (i+1) 0++q:List Nat)=List.replicate i 0++0::q:=by rw[List.replicate_succ'];simp
  rw[<-hr] at t1 t2 d1;rw[<-abq] at t1 t2;rw[<-hq] at d4;have htk:(iN .u64 raw).take (dig 1000000000 r).length=iN .u64 (dig 1000000000 r):=by rw[iA,t1]
  have U:bd (x::dig 1000000000 r)=dig 1000000000 Z :=by rw[hr'];exact Hd (by omega) hxb
  have hrl:(dig 1000000000 r).length<=a.length:=by
   have:(dig 1000000000 r).length<=(dig 1000000000 b).length:=by
    rcases Nat.lt_or_ge (dig 1000000000 b).length (dig 1000000000 r).length with h | h
    .have:=dV (B:=1000000000) (by omega) h;omega
    .exact h
   omega
  have w1:IntKind.i64.wrap ((i:Int)-1)=(i:Int)-1:=af;have hI:(i:Int)<(a.length:Int):=by omega
  have e1:(((i+1:Nat):Int)-1)=(i:Int):=by omega
  have hR0:yD a b i=.slice 7 0 (dig 1000000000 (Z %b)).length none:=by unfold yD;rw[if_neg G',hr2]
  have hM0:iU A B a b i=[.cells false 1 (iN .u64 A),.cells false 1 (iN .u64 B),.cells true 0 [.slice 5 0 (dig 1000000000 b).length none],.cells true 0 [.slice 6 0 a.length none],.cells true 1 (iN .u64 a),.cells true 1 (iN .u64 (dig 1000000000 b)),.cells true 1 (iN .u64 (List.replicate i 0++Z / b::q)),
    .cells true 1 (iN .u64 (if Z <b then x::dig 1000000000 r else dig 1000000000 (Z %b)))]:=by unfold iU;rw[if_neg G',hq2,adB];rfl
  have lo:∀v,lok 1000000000 (dig 1000000000 v)=true:=fun v=>cc (by omega) v
  have lt:∀v,bd (dig 1000000000 v)=dig 1000000000 v:=fun v=>cB (by omega) v
  have lv:∀v,aq 1000000000 (dig 1000000000 v)=v:=fun v=>bN (by omega) v
  have ack:(dig 1000000000 r).length+1<=1000000000:=by omega
  have hxl:lok 1000000000 (x::dig 1000000000 r)=true:=by rw[di,lo];simp[hxb]
  have acm :(dig 1000000000 Z).length<=(dig 1000000000 r).length+1:=by rw[<-U];exact dw (x::dig 1000000000 r)
  have ab':(dig 1000000000 Z).length<=1000000000:=by omega
  refine⟨i,?_⟩;rw[e1];refine bF (r:=_/\_) (show i<=a.length/\id i<id (i+1) from⟨by omega,by simp⟩) ?_;by_cases X:i+1=a.length
  .have hd0:a.drop (i+1)=[]:=by rw[X,List.drop_length]
   have hr0:r=0:=by rw[hr,hd0];rfl
   have hq0:q=[]:=by rw[hq,hd0];rfl
   have afl:Z =x:=by omega
   have S :Z <b:=by omega
   have hR1:yD a b (i+1)=.kO:=by unfold yD;rw[if_pos X]
   have hM1:iU A B a b (i+1)=[.cells false 1 (iN .u64 A),.cells false 1 (iN .u64 B),.cells true 0 [.slice 5 0 (dig 1000000000 b).length none],.cells true 0 [.slice 6 0 a.length none],.cells true 1 (iN .u64 a),.cells true 1 (iN .u64 (dig 1000000000 b)),.cells true 1 (iN .u64 (List.replicate i 0++0::q))]:=by unfold iU;rw[if_pos X,<-hq,hqz];simp
   rw[hM1,hM0,hR1,hR0,if_pos S,QQa S,Nat.div_eq_of_lt S];have hc:j9 Z b<0:=by unfold j9;rw[if_pos S];omega
   rw[hr0,dX] at U;rw[hr0,dX];have hs8:∀R Q O N G C o Y l,bl .u64 (R::Q::O::N::G::C::o::Y::.cells true 1 [.int .u64 (x:Int)]::l) (.slice 8 0 1 none)=some [x]:=fun R Q O N G C o Y l=>aW (A:=[x]) rfl (by simp) rfl
   have aeE :∀R Q O N G C o Y l,bl .u64 (R::Q::O::N::G::C::o::Y::.cells true 1 [.int .u64 (x:Int)]::l) (.slice 8 0 (dig 1000000000 Z).length none)=some (dig 1000000000 Z):=fun R Q O N G C o Y l=>by have H:=dw [x];rw[U] at H;refine aW rfl (by simpa using H) ?_;have:([.int .u64 (x:Int)]:List AV)=iN .u64 [x]:=rfl;rw[this,iA,<-U,lF]
   have hs5:∀R Q O N G l,bl .u64 (R::Q::O::N::G::.cells true 1 (iN .u64 (dig 1000000000 b))::l) (.slice 5 0 (dig 1000000000 b).length none)=some (dig 1000000000 b):=fun R Q O N G l=>aW rfl (by simp) (An (by simp))
   subst W;simp[eg,cH,ct,bP,h0,h3,J,hI,A',hs8,aeE,hs5,U,lo,lt,lv,hc,w1,ab',cD]
  .have hR1:yD a b (i+1)=.slice 7 0 (dig 1000000000 r).length none:=by unfold yD;rw[if_neg X,<-hr]
   have hM1:iU A B a b (i+1)=[.cells false 1 (iN .u64 A),.cells false 1 (iN .u64 B),.cells true 0 [.slice 5 0 (dig 1000000000 b).length none],.cells true 0 [.slice 6 0 a.length none],.cells true 1 (iN .u64 a),.cells true 1 (iN .u64 (dig 1000000000 b)),.cells true 1 (iN .u64 (List.replicate i 0++0::q)),.cells true 1 (iN .u64 raw)]:=by unfold iU;rw[if_neg X,<-hq,<-abq,hqz];rfl
   have hs9:∀R Q O N G C o Y a8 l,bl .u64 (R::Q::O::N::G::C::o::Y::a8::.cells true 1 (.int .u64 (x:Int)::iN .u64 (dig 1000000000 r))::l) (.slice 9 0 (1+(dig 1000000000 r).length) none)=some (x::dig 1000000000 r):=fun R Q O N G C o Y a8 l=>
    aW (A:=x::dig 1000000000 r) rfl (by simp;omega) (An (by simp;omega))
   have acn :∀R Q O N G C o Y a8 l,bl .u64 (R::Q::O::N::G::C::o::Y::a8::.cells true 1 (.int .u64 (x:Int)::iN .u64 (dig 1000000000 r))::l) (.slice 9 0 (dig 1000000000 Z).length none)=some (dig 1000000000 Z):=fun R Q O N G C o Y a8 l=>by refine aW rfl (by simpa using acm) ?_;rw[<-cD,iA,<-U,lF]
   have hs5:∀R Q O N G l,bl .u64 (R::Q::O::N::G::.cells true 1 (iN .u64 (dig 1000000000 b))::l) (.slice 5 0 (dig 1000000000 b).length none)=some (dig 1000000000 b):=fun R Q O N G l=>aW rfl (by simp) (An (by simp))
   have g1:(1+(dig 1000000000 r).length)*8<=140737488355328:=by omega
   have g2:1+(dig 1000000000 r).length<=140737488355328:=by omega
   rw[hM1,hM0,hR1,hR0];by_cases S :Z <b
   .have hc:j9 Z b<0:=by unfold j9;rw[if_pos S];omega
    rw[if_pos S,QQa S,Nat.div_eq_of_lt S];subst W;simp[eg,cH,ct,bP,h0,h3,J,hI,A',hs9,acn,hs5,U,lo,lt,lv,hc,w1,ack,ab',t2,htk,g1,g2,cD]
   .rw[if_neg S]
    have hc:¬j9 Z b<0:=by unfold j9;rw[if_neg S];split<;>omega
    have hrb:Z <1000000000*b:=by omega
    have hL:=yA (B:=1000000000) (by omega) rfl hrb (by omega);obtain⟨m,hmm⟩:=xE ((dig 1000000000 b).length);obtain⟨L,hLL⟩:=xE ((dig 1000000000 Z).length);obtain⟨p1,hp1⟩:=xE (L-1);have aeF:p1<(dig 1000000000 Z).length:=by omega
    have wp1:IntKind.i64.wrap (((dig 1000000000 Z).length:Int)-1)=(p1:Int):=by rw[af];omega
    have acW:(p1:Int)<((dig 1000000000 Z).length:Int):=by omega
    obtain⟨D1,hD1,afm⟩:=dp aeF;have afn:=eK (lo Z) hD1;have abd:∀(j v:Nat),(dig 1000000000 Z)[j]? =some v->(AV.int IntKind.u64 (x:Int)::iN .u64 (dig 1000000000 r))[j]? =some (AV.int IntKind.u64 (v:Int)):=fun j v hv=>by
     rw[<-U,kM,List.getElem?_take] at hv;split at hv
     .rw[<-cD,Uj,hv];rfl
     .cases hv
    have hc1:=abd _ _ hD1;obtain⟨D,hDD,hDb⟩:∃D,((L=m/\D=D1)\/(L=m+1/\∃l,(dig 1000000000 Z)[m-1]? =some l/\D=D1*1000000000+l))/\D<1000000000*1000000000:=by
     rcases hL with h | h
     .exact⟨D1,.inl ⟨by omega,rfl⟩,by omega⟩
     .obtain⟨l,hl1,_⟩:=dp (l:=dig 1000000000 Z) (i:=m-1) (by omega)
      have:=eK (lo Z) hl1;exact⟨D1*1000000000+l,.inr ⟨by omega,l,hl1,rfl⟩,by omega⟩
    obtain⟨gt,g3,g4⟩:=WB (B:=1000000000) (r:=Z) (b:=b) (m:=m) (D:=D) (top:=top) (by omega) hmm.symm (by omega) (by rw[hmm];exact aa1) hrb (by omega) (by
     rcases hDD with⟨H,rfl⟩ | ⟨H,l,h2,rfl⟩
     .left;exact⟨by omega,by rw[show m-1=p1 by omega];exact hD1⟩
     .right;exact⟨by omega,D1,l,by rw[show m=p1 by omega];exact hD1,h2,rfl⟩)
    obtain⟨g,hg⟩:=xE (D / top);obtain⟨d0,hd0⟩:=xE (min g 999999999);obtain⟨t,ht⟩:=xE (Z / b);rw[<-hg,<-ht] at g3;rw[<-ht] at g4;have htd:t<=d0:=by omega
    have aeG:d0<1000000000:=by omega
    have hbt:b*t<=Z :=by rw[ht];exact Nat.mul_div_le Z b
    have T':0<b:=by omega
    have aeH:d0<K:=by omega
    have hK0:0<K:=by omega
    have aco:(d0:Int)<1000000000:=by omega
    have aaE:Z -b*t=Z %b:=by have:=Nat.mod_add_div Z b;rw[<-ht] at this;omega
    have mono:∀u v,u<=v->(dig 1000000000 u).length<=(dig 1000000000 v).length:=fun u v h=>by
     rcases Nat.lt_or_ge (dig 1000000000 v).length (dig 1000000000 u).length with h' | h'
     .have:=dV (B:=1000000000) (by omega) h';omega
     .exact h'
    have hlb:∀d,d<=d0->(dig 1000000000 (b*d)).length<=100000000:=fun d hd=>by
     have H:b*d<1000000000 ^ (m+1):=by have h2:=sR (B:=1000000000) (by omega) b;rw[<-hmm] at h2;rw[Nat.pow_succ];exact Nat.mul_lt_mul_of_lt_of_lt h2 (by omega)
     have:=fm (B:=1000000000) (by omega) H;omega
    have ac':∀d,d<=d0->0<d->(dig 1000000000 b).length<=(dig 1000000000 (b*d)).length:=fun d _ hd=>mono _ _ (Nat.le_mul_of_pos_right b hd)
    have abM:(x::dig 1000000000 r).take (dig 1000000000 Z).length=dig 1000000000 Z :=by rw[<-U,lF]
    have aff:=eK (lo b) aa1;have hgD:g<=D:=by rw[hg];exact Nat.div_le_self _ _
    have wg:IntKind.u64.wrap (g:Int)=(g:Int):=dc (by omega) (by omega);have wD:IntKind.u64.wrap ((D:Int) / (top:Int))=(g:Int):=by rw[<-Int.natCast_ediv,<-hg];exact wg
    have wD' :IntKind.u64.wrap ((D:Int).tdiv (top:Int))=(g:Int):=by rw[xt,<-hg];exact wg
    have abA:¬top=0:=by omega
    have aa9:(if (999999999:Int)<(g:Int) then (999999999:Int) else (g:Int))=(d0:Int):=by split<;>omega
    have abB:(dig 1000000000 Z).length<=100000000:=by omega
    have aa5:(dig 1000000000 (b*t)).length<=(dig 1000000000 Z).length:=mono _ _ hbt;have abC:(dig 1000000000 b).length<=100000000:=by omega
    have adC:=hlb d0 (Es _);have acX:(List.replicate i 0++0::q).take i=List.replicate i 0:=List.take_left' (by simp);have acY:(List.replicate i 0++0::q).drop (i+1)=q:=by rw[List.drop_append,M6 (by simp)];simp
    have hql:i<(List.replicate i 0++0::q).length:=by simp
    have adU:∀(v:Nat) R Q O N G C o Y a8 a9 l,bl .u64 (R::Q::O::N::G::C::o::Y::a8::a9::.cells true 1 (iN .u64 (dig 1000000000 v))::l) (.slice 10 0 (dig 1000000000 v).length none)=some (dig 1000000000 v):=fun v R Q O N G C o Y a8 a9 l=>aW rfl (by simp) (An (by simp))
    have adV:∀(v:Nat) R Q O N G C o Y a8 a9 a10 l,bl .u64 (R::Q::O::N::G::C::o::Y::a8::a9::a10::.cells true 1 (iN .u64 (dig 1000000000 v))::l) (.slice 11 0 (dig 1000000000 v).length none)=some (dig 1000000000 v):=fun v R Q O N G C o Y a8 a9 a10 l=>aW rfl (by simp) (An (by simp))
    rw[<-ht];rw[hmm] at hDD;rw[hLL] at hDD;subst W;rcases Nat.lt_or_ge t d0 with htlt | htge
    .obtain⟨F,hF⟩:=Eb (K:=K) A B a.length a (List.replicate i 0++0::q) raw (x::dig 1000000000 r) b Z d0 t ht abM (by simpa using acm) T' htlt aeG aeH hlb ac' hb.1 hb.2.2
     simp only[fy,cD] at hF;subst hb2;rcases hDD with⟨H,rfl⟩ | ⟨H,l,h2,h3'⟩
     .have I:¬(dig 1000000000 b).length<(dig 1000000000 Z).length:=by omega
      clear H;simp[eg,cH,ct,bP,h0,h3,h4,h10,J,hI,A',hs9,acn,hs5,U,lo,lt,lv,hc,w1,ack,ab',t2,htk,g1,g2,I,hc1,wp1,acW,wD,abA,aa9,abB,aa5,abC,aco,hF,adV,hbt,aaE,iA,rV,acX,acY,Nat.testBit];rw[dJ,cD]
     .have I:(dig 1000000000 b).length<(dig 1000000000 Z).length:=by omega
      obtain⟨p2,hp2⟩:=xE (m-1);rw[<-hmm,<-hp2] at h2;have hc2:=abd _ _ h2;have aeI:=eK (lo Z) h2;have wp2:IntKind.i64.wrap (((dig 1000000000 Z).length:Int)-2)=(p2:Int):=by rw[af];omega
      have wl1:IntKind.u64.wrap ((D1:Int)*1000000000)=(D1:Int)*1000000000:=dc (by omega) (by omega);have wl2:IntKind.u64.wrap ((D1:Int)*1000000000+(l:Int))=(D:Int):=by rw[dc (by omega) (by omega)];omega
      have aca:(p2:Int)<((dig 1000000000 Z).length:Int):=by omega
      clear H;simp[eg,cH,ct,bP,h0,h3,h4,h10,J,hI,A',hs9,acn,hs5,U,lo,lt,lv,hc,w1,ack,ab',t2,htk,g1,g2,I,hc2,wp2,aca,wl1,wl2,hc1,wp1,acW,wD,abA,aa9,abB,aa5,abC,aco,hF,adV,hbt,aaE,iA,rV,acX,acY,Nat.testBit];rw[dJ,cD]
    .have aeJ:t=d0:=by omega
     rw[<-aeJ] at adC aco aa9;obtain⟨F,hF⟩:=Bw (K:=K) A B a.length a (List.replicate i 0++0::q) raw (x::dig 1000000000 r) b Z t hbt abM (by simpa using acm) hK0 (by omega) hb.1 hb.2.2;simp only[fy,cD] at hF;subst hb2;rcases hDD with⟨H,rfl⟩ | ⟨H,l,h2,h3'⟩
     .have I:¬(dig 1000000000 b).length<(dig 1000000000 Z).length:=by omega
      clear H;simp[eg,cH,ct,bP,h0,h3,h4,h10,J,hI,A',hs9,acn,hs5,U,lo,lt,lv,hc,w1,ack,ab',t2,htk,g1,g2,I,hc1,wp1,acW,wD,abA,aa9,abB,aa5,abC,aco,hF,adU,hbt,aaE,iA,rV,acX,acY,Nat.testBit];rw[dJ,cD]
     .have I:(dig 1000000000 b).length<(dig 1000000000 Z).length:=by omega
      obtain⟨p2,hp2⟩:=xE (m-1);rw[<-hmm,<-hp2] at h2;have hc2:=abd _ _ h2;have aeI:=eK (lo Z) h2;have wp2:IntKind.i64.wrap (((dig 1000000000 Z).length:Int)-2)=(p2:Int):=by rw[af];omega
      have wl1:IntKind.u64.wrap ((D1:Int)*1000000000)=(D1:Int)*1000000000:=dc (by omega) (by omega);have wl2:IntKind.u64.wrap ((D1:Int)*1000000000+(l:Int))=(D:Int):=by rw[dc (by omega) (by omega)];omega
      have aca:(p2:Int)<((dig 1000000000 Z).length:Int):=by omega
      clear H;simp[eg,cH,ct,bP,h0,h3,h4,h10,J,hI,A',hs9,acn,hs5,U,lo,lt,lv,hc,w1,ack,ab',t2,htk,g1,g2,I,hc2,wp2,aca,wl1,wl2,hc1,wp1,acW,wD,abA,aa9,abB,aa5,abC,aco,hF,adU,hbt,aaE,iA,rV,acX,acY,Nat.testBit];rw[dJ,cD]
theorem Gh(A B:List Nat)(H:Nat)(hA:lok 1000000000 A=true)(hB:lok 1000000000 B=true)(hl:A.length<=1000000)(tA:bd A=A)(tB:bd B=B)(hm:2<=B.length)(I:B[B.length-1]? =some H)(J:aq 1000000000 B<=aq 1000000000 A):
  ∃q,bd q=dig 1000000000 (aq 1000000000 A / aq 1000000000 B)/\ad (aL prog) fO (bq prog) eg 2000000001 223 [.slice 0 0 A.length none,.slice 1 0 B.length none] [.cells false 1 (iN .u64 A),.cells false 1 (iN .u64 B)]=
   some (if aq 1000000000 A%aq 1000000000 B=0 then⟨.tuple [.slice 2 0 (bd q).length none,.kO],none,[.cells true 1 (iN .u64 q)]⟩ else
    ⟨.tuple [.slice 2 0 (bd q).length none,.slice 3 0 (dig 1000000000 (aq 1000000000 A%aq 1000000000 B)).length none],none,[.cells true 1 (iN .u64 q),.cells true 1 (iN .u64 (dig 1000000000 (aq 1000000000 A%aq 1000000000 B)))]⟩):=by
 obtain⟨b1,c,hb⟩:∃b1 c,ah f223=[b1,c]/\fO b1=[11,5]/\fO c=[13,12]:=⟨_,_,rfl,by decide,by decide⟩
 have dA:=mV (B:=1000000000) (by omega) hA tA;have dB:=mV (B:=1000000000) (by omega) hB tB;obtain⟨av,S⟩:=xE (aq 1000000000 A);obtain⟨X,j⟩:=xE (aq 1000000000 B);rw[<-S] at dA J |-;rw[<-j] at dB J |-;have htb:=eK hB I;obtain⟨f,hf⟩:=xE (1000000000 / (H+1));have hf1:1<=f:=by rw[hf,Nat.le_div_iff_mul_le (by omega)];omega
 have afo:1000000000<=X:=by have h:=tn (B:=1000000000) (by omega) X (by rintro rfl;rw[dX] at dB;rw[<-dB] at hm;simp at hm);rw[dB] at h;have:1000000000 ^ 1<=1000000000 ^ (B.length-1):=L9 (by omega) (by omega);omega
 have htp:0<H:=by
  rcases P1 H with h | h
  .have h2:bd B=bd (B.take (B.length-1)):=by
    have A':B.length-1<B.length:=by omega
    have ht:=(Hi.1 I).2;conv=>lhs;rw[<-List.take_append_drop (B.length-1) B,LU A',ht,M6 (by omega),h]
    exact jy _
   have h3:=dw (B.take (B.length-1));rw[<-h2,tB,M0] at h3;omega
  .exact h
 have Y:f<1000000000:=by rw[hf,Nat.div_lt_iff_lt_mul (by omega)];omega
 have mono:∀u v,u<=v->(dig 1000000000 u).length<=(dig 1000000000 v).length:=fun u v h=>by
  rcases Nat.lt_or_ge (dig 1000000000 v).length (dig 1000000000 u).length with h' | h'
  .have:=dV (B:=1000000000) (by omega) h';omega
  .exact h'
 have hmB:2<=(dig 1000000000 (X*f)).length:=by have:=mono X (X*f) (Nat.le_mul_of_pos_right X hf1);rw[dB] at this;omega
 have hmA:(dig 1000000000 (X*f)).length<=(dig 1000000000 (av*f)).length:=mono _ _ (QQe _ J);have hlA:(dig 1000000000 (av*f)).length<=A.length+1:=by
  have h1:av*f<1000000000 ^ (A.length+1):=by have h2:=gN hA;rw[<-S] at h2;rw[Nat.pow_succ];exact Nat.mul_lt_mul_of_lt_of_lt h2 Y
  exact fm (by omega) h1
 obtain⟨top,R,_⟩:=dp (l:=dig 1000000000 (X*f)) (i:=(dig 1000000000 (X*f)).length-1) (by omega);obtain⟨F,hF⟩:=Ec (K:=2000000001) A B (dig 1000000000 (av*f)) (X*f) top (cc (by omega) _) (by omega) hmB hmA R (by omega) hb;obtain⟨a,W⟩:=xE (dig 1000000000 (av*f));obtain⟨Z,V⟩:=xE (X*f);rw[<-W,<-V] at hF hmA;rw[<-V] at R hmB;rw[<-W] at hlA;have adW:0<Z:=by rw[V];exact Nat.mul_pos (by omega) (by omega)
 obtain⟨i1,i2,i3,i4⟩:=jf (B:=1000000000) adW a (by rw[W];exact cc (by omega) _);have hva:aq 1000000000 a=av*f:=by rw[W];exact bN (by omega) _
 rw[hva] at i2;obtain⟨q,hq⟩:=xE ((fZ 1000000000 Z a).1);obtain⟨U,Q⟩:=xE ((fZ 1000000000 Z a).2);rw[<-hq,<-Q] at i2;rw[<-hq] at i3 i4;rw[<-Q] at i1;have hqv:aq 1000000000 q=av / X:=by
  have h1:(av*f) / Z=aq 1000000000 q:=by rw[<-i2,SP,Nat.mul_add_div adW,Nat.div_eq_of_lt i1,Nat.add_zero]
  rw[<-h1,V,Nat.mul_div_mul_right _ _ (by omega)]
 have hrv:U=(av%X)*f:=by
  have h1:(av*f)%Z=U:=by rw[<-i2,SP,Nat.mul_add_mod,QQa i1]
  rw[<-h1,V,Nat.mul_mod_mul_right]
 have hrf:U / f=av%X:=by rw[hrv,Nat.mul_div_cancel _ (by omega)]
 refine⟨q,by rw[<-dW (by omega) i3,hqv],?_⟩;have hn0:¬0=a.length:=by omega
 obtain⟨rt1,rt2⟩:=Dy (b:=Z) (l:=a) (by rw[W];exact cc (by omega) _);obtain⟨row,Y'⟩:=xE (xn Z a);rw[<-Y',<-Q] at rt1 rt2;have hH0:iU A B a Z 0=[.cells false 1 (iN .u64 A),.cells false 1 (iN .u64 B),.cells true 0 [.slice 5 0 (dig 1000000000 Z).length none],.cells true 0 [.slice 6 0 a.length none],.cells true 1 (iN .u64 a),.cells true 1 (iN .u64 (dig 1000000000 Z)),.cells true 1 (iN .u64 q),.cells true 1 (iN .u64 row)]:=by unfold iU;rw[if_neg hn0,List.drop_zero,<-hq,<-Y'];rfl
 have hHn:iU A B a Z a.length=[.cells false 1 (iN .u64 A),.cells false 1 (iN .u64 B),.cells true 0 [.slice 5 0 (dig 1000000000 Z).length none],.cells true 0 [.slice 6 0 a.length none],.cells true 1 (iN .u64 a),.cells true 1 (iN .u64 (dig 1000000000 Z)),.cells true 1 (iN .u64 (List.replicate a.length 0))]:=by unfold iU;rw[if_pos rfl,List.drop_length];simp[fZ]
 have hR0:yD a Z 0=.slice 7 0 (dig 1000000000 U).length none:=by unfold yD;rw[if_neg hn0,List.drop_zero,<-Q]
 rw[hH0,hHn,hR0] at hF;obtain⟨O,_⟩:=hb;simp[ah,aw,f223] at O;obtain⟨O,_⟩:=O;subst O;have lo:∀v,lok 1000000000 (dig 1000000000 v)=true:=fun v=>cc (by omega) v
 have lt:∀v,bd (dig 1000000000 v)=dig 1000000000 v:=fun v=>cB (by omega) v
 have lv:∀v,aq 1000000000 (dig 1000000000 v)=v:=fun v=>bN (by omega) v
 have hs0:∀l,bl .u64 (.cells false 1 (iN .u64 A)::l) (.slice 0 0 A.length none)=some A:=fun l=>aW rfl (by simp) (An (by simp))
 have hs1:∀x l,bl .u64 (x::.cells false 1 (iN .u64 B)::l) (.slice 1 0 B.length none)=some B:=fun x l=>aW rfl (by simp) (An (by simp))
 have hs6:∀N G D C o m l,bl .u64 (N::G::D::C::o::m::.cells true 1 (iN .u64 q)::l) (.slice 6 0 a.length none)=some q:=fun N G D C o m l=>aW rfl (by simp[i4]) (An (by simp[i4]))
 have hs7:∀N G D C o m a6 l,bl .u64 (N::G::D::C::o::m::a6::.cells true 1 (iN .u64 row)::l) (.slice 7 0 (dig 1000000000 U).length none)=some (dig 1000000000 U):=fun N G D C o m a6 l=>aW rfl (by simpa using rt2) (by rw[iA,rt1])
 have hs8:∀N G D C o m a6 a7 l,bl .u64 (N::G::D::C::o::m::a6::a7::.cells true 1 [.int .u64 (f:Int)]::l) (.slice 8 0 1 none)=some [f]:=fun N G D C o m a6 a7 l=>aW (A:=[f]) rfl (by simp) rfl
 have hc:¬j9 av X<0:=by unfold j9;rw[if_neg (by omega)];split<;>omega
 obtain⟨p,hp⟩:=xE (B.length-1);rw[<-hp] at I;have hpB:p<B.length:=by omega
 have acF :B[p]=H:=(Hi.1 I).2;obtain⟨p2,hp2⟩:=xE ((dig 1000000000 Z).length-1);rw[<-hp2] at R;have adX:p2<(dig 1000000000 Z).length:=by omega
 have abN :(dig 1000000000 Z)[p2]=top:=(Hi.1 R).2;have hlB:B.length<=A.length:=by rw[<-dA,<-dB];exact mono _ _ J
 have wp:IntKind.i64.wrap ((B.length:Int)-1)=(p:Int):=by rw[af];omega
 have wp2:IntKind.i64.wrap (((dig 1000000000 Z).length:Int)-1)=(p2:Int):=by rw[af];omega
 have hbl:(dig 1000000000 Z).length<=1000001:=by omega
 have wan:IntKind.i64.wrap ((a.length:Int)-1)=(a.length:Int)-1:=af;have hpI:(p:Int)<(B.length:Int):=by omega
 have aca:(p2:Int)<((dig 1000000000 Z).length:Int):=by omega
 obtain⟨t1,ht1⟩:=xE (α:=Nat) (H+1);have wt:IntKind.u64.wrap ((H:Int)+1)=(t1:Int):=by rw[dc (by omega) (by omega)];omega
 rw[<-ht1] at hf;have adY:¬t1=0:=by omega
 have wf0:IntKind.u64.wrap (f:Int)=(f:Int):=dc (by omega) (by omega);have wf:IntKind.u64.wrap ((1000000000:Int) / (t1:Int))=(f:Int):=by rw[show((1000000000:Int) / (t1:Int))=((1000000000 / t1:Nat):Int) from rfl,<-hf];exact wf0
 have wf' :IntKind.u64.wrap ((1000000000:Int).tdiv (t1:Int))=(f:Int):=by rw[show((1000000000:Int).tdiv (t1:Int))=((1000000000 / t1:Nat):Int) from rfl,<-hf];exact wf0
 have hB1:¬(B.length:Int)=1:=by omega
 have hfI:(f:Int)<1000000000:=by omega
 have hl8:A.length<=100000000:=by omega
 have hl9:A.length<=1000000000:=by omega
 have adZ:B.length<=100000000:=by omega
 have hq9:q.length<=1000000000:=by omega
 have h8:8*(a.length:Int)<=281474976710656:=by omega
 have h9:(a.length:Int)<=281474976710656:=by omega
 have ad0:(dig 1000000000 U).length<=100000000:=by have:(dig 1000000000 U).length<=(dig 1000000000 Z).length:=mono _ _ (by omega);omega
 have hf0:0<f:=hf1;by_cases hz:av%X=0
 .have afp:U=0:=by rw[hrv,hz,Nat.zero_mul]
  have adb:U<f:=by omega
  rw[if_pos hz];simp[ad,ag5,f223,eg,cH,ct,bP,hs0,hs1,hs6,hs7,hs8,hA,hB,<-S,<-j,<-W,<-V,tA,tB,hc,lo,lt,lv,wp,wp2,wan,hpI,aca,acF,abN,hpB,adX,wt,adY,wf',hB1,hfI,hl8,hl9,adZ,hq9,h8,h9,hF,ad0,hf0,Y,adb,rW,Nat.testBit]
 .have adb:¬U<f:=by have:f<=av%X*f:=Nat.le_mul_of_pos_left f (by omega);omega
  rw[if_neg hz];simp[ad,ag5,f223,eg,cH,ct,bP,hs0,hs1,hs6,hs7,hs8,hA,hB,<-S,<-j,<-W,<-V,tA,tB,hc,lo,lt,lv,wp,wp2,wan,hpI,aca,acF,abN,hpB,adX,wt,adY,wf',hB1,hfI,hl8,hl9,adZ,hq9,h8,h9,hF,ad0,hf0,Y,adb,hrf,rW,Nat.testBit];exact⟨rfl,rfl⟩
theorem Pq{B:List Nat}(J:lok 1000000000 A=true)(W:lok 1000000000 B=true)(Y:A.length<=1000000)(tA:bd A=A)(tB:bd B=B)(hm:2<=B.length)(H:aq 1000000000 B<=aq 1000000000 A)(hx:afO .u64 M x A)(I:afO .u64 M y B):
  if aq 1000000000 A%aq 1000000000 B=0 then bz prog 223 [x,y] M (.tuple [.slice M.length 0 (dig 1000000000 (aq 1000000000 A / aq 1000000000 B)).length none,.kO]) (M++[.cells true 1 (iN .u64 (dig 1000000000 (aq 1000000000 A / aq 1000000000 B)))])
  else bz prog 223 [x,y] M (.tuple [.slice M.length 0 (dig 1000000000 (aq 1000000000 A / aq 1000000000 B)).length none,.slice (M.length+1) 0 (dig 1000000000 (aq 1000000000 A%aq 1000000000 B)).length none])
   (M++[.cells true 1 (iN .u64 (dig 1000000000 (aq 1000000000 A / aq 1000000000 B))),.cells true 1 (iN .u64 (dig 1000000000 (aq 1000000000 A%aq 1000000000 B)))]):=by
 obtain⟨X,V,_⟩:=dp (l:=B) (i:=B.length-1) (by omega);obtain⟨q,R,h⟩:=Gh A B X J W Y tA tB hm V H;have:=(aB ak (aI _) Iy (aQ _) h).1;split
 .rename_i U
  rw[if_pos U] at this;simp only[afw.mem,Option.getD_none,List.cons_append,List.nil_append] at this;have S:=bz.agu (m2:=[.cells false 1 (iN .u64 A),.cells false 1 (iN .u64 B),.cells true 1 (iN .u64 (bd q))]) this rfl (fun b s Z=>by
   match b with
   |0=>simp at Z;subst Z;exact⟨_,rfl,.inl rfl⟩
   |1=>simp at Z;subst Z;exact⟨_,rfl,.inl rfl⟩
   |2=>simp at Z;subst Z;exact⟨_,rfl,.row (dK _)⟩
   |b+3=>simp at Z)
  obtain⟨b,c,rfl,rfl,h3⟩:=bz.agq (new:=[.cells true 1 (iN .u64 (bd q))]) rfl S hx I;rw[R] at h3;simpa [AV.ren,AV.afR,back] using h3
 .rename_i U
  rw[if_neg U] at this;simp only[afw.mem,Option.getD_none,List.cons_append,List.nil_append] at this;have S:=bz.agu (m2:=[.cells false 1 (iN .u64 A),.cells false 1 (iN .u64 B),.cells true 1 (iN .u64 (bd q)),.cells true 1 (iN .u64 (dig 1000000000 (aq 1000000000 A%aq 1000000000 B)))]) this rfl (fun b s Z=>by
   match b with
   |0=>simp at Z;subst Z;exact⟨_,rfl,.inl rfl⟩
   |1=>simp at Z;subst Z;exact⟨_,rfl,.inl rfl⟩
   |2=>simp at Z;subst Z;exact⟨_,rfl,.row (dK _)⟩
   |3=>simp at Z;subst Z;exact⟨_,rfl,.inl rfl⟩
   |b+4=>simp at Z)
  obtain⟨b,c,rfl,rfl,h3⟩:=bz.agq (new:=[.cells true 1 (iN .u64 (bd q)),.cells true 1 (iN .u64 (dig 1000000000 (aq 1000000000 A%aq 1000000000 B)))]) rfl S hx I;rw[R] at h3;simpa [AV.ren,AV.afR,back] using h3
noncomputable def cE:afu:=fun c Z M=>match c,Z with
 |.fn 223,[x,y]=>match bl .u64 M x,bl .u64 M y with
  |some A,some B=>if lok 1000000000 A=true/\lok 1000000000 B=true/\A.length<=1000000/\bd A=A/\bd B=B/\0<aq 1000000000 B then
    (if aq 1000000000 A<aq 1000000000 B then some ⟨.tuple [.kO,x],none,[]⟩
    else if 2<=B.length/\aq 1000000000 A%aq 1000000000 B=0 then some ⟨.tuple [.slice M.length 0 (dig 1000000000 (aq 1000000000 A / aq 1000000000 B)).length none,.kO],none,[.cells true 1 (iN .u64 (dig 1000000000 (aq 1000000000 A / aq 1000000000 B)))]⟩
    else some ⟨.tuple [.slice M.length 0 (dig 1000000000 (aq 1000000000 A / aq 1000000000 B)).length none,.slice (M.length+1) 0 (dig 1000000000 (aq 1000000000 A%aq 1000000000 B)).length none],none,[.cells true 1 (iN .u64 (dig 1000000000 (aq 1000000000 A / aq 1000000000 B))),.cells true 1 (iN .u64 (dig 1000000000 (aq 1000000000 A%aq 1000000000 B)))]⟩) else none
  |_,_=>none
 |c,Z=>cH c Z M
theorem Iz:afs prog cE:=by
 refine cG fun c G M r h=>?_
 unfold cE at h;split at h
 .split at h
  .rename_i A B V U
   split at h
   .rename_i D
    obtain⟨S,R,C,Q,F,X⟩:=D;split at h
    .rename_i O
     cases h;refine aA ?_;rw[List.append_nil];exact vP S R (by omega) Q F O (br V) (br U)
    .rename_i O
     by_cases Z:2<=B.length
     .have:=Pq S R C Q F Z (by omega) (br V) (br U)
      split at h
      .rename_i N
       rw[if_pos N.2] at this;cases h;exact aA this
      .rename_i N
       rw[if_neg (fun e=>N ⟨Z,e⟩)] at this;cases h;exact aA this
     .rw[if_neg (fun e=>Z e.1)] at h
      obtain⟨d,rfl⟩:∃d,B=[d]:=by
       match B,Z,X with
       | [],_,X=>simp[aq] at X
       | [d],_,_=>exact⟨d,rfl⟩
       |_::_::_,Z,_=>simp at Z
      have u:aq 1000000000 [d]=d:=by simp[aq]
      rw[u] at X O h;have o:d<1000000000:=by simpa [lok] using R
      cases h;exact aA (ET X o S (by omega) Q (by omega) (br V) (br U))
   .cases h
  .cases h
 .exact ee qU h
end Go.Proofs
