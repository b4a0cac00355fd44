/- See I36. -/
import Derived.Test.YtgafjliihahjgaaGreatDoorI10
set_option linter.all false
set_option maxRecDepth 100000
set_option maxHeartbeats 40000000
namespace Go.Proofs
open Go.Eng
open Tryz
noncomputable def bV:af3:=fun c Z M=>match c,Z with
 |.fn 244,[x,y]=>match cb .u64 M x,cb .u64 M y with
  |some A,some B=>if lok 1000000000 A=true/\lok 1000000000 B=true/\A.length<=100000000/\B.length<=100000000 then some ⟨.slice M.length 0 (dig 1000000000 (aG 1000000000 A+aG 1000000000 B)).length none,none,[.cells true 1 (iN .u64 (dig 1000000000 (aG 1000000000 A+aG 1000000000 B)))]⟩ else none
  |_,_=>none
 |.fn 226,[x,y]=>match cb .u64 M x,cb .u64 M y with
  |some A,some B=>if lok 1000000000 A=true/\lok 1000000000 B=true/\A.length<=100000000/\B.length<=A.length/\aG 1000000000 B<=aG 1000000000 A then some ⟨.slice M.length 0 (dig 1000000000 (aG 1000000000 A-aG 1000000000 B)).length none,none,[.cells true 1 (iN .u64 (dig 1000000000 (aG 1000000000 A-aG 1000000000 B)))]⟩ else none
  |_,_=>none
 |.fn 173,[x,y]=>match cb .u64 M x,cb .u64 M y with
  |some A,some B=>if lok 1000000000 A=true/\lok 1000000000 B=true/\A.length<=100000000/\B.length<=100000000 then some ⟨.slice M.length 0 (dig 1000000000 (aG 1000000000 A*aG 1000000000 B)).length none,none,[.cells true 1 (iN .u64 (dig 1000000000 (aG 1000000000 A*aG 1000000000 B)))]⟩ else none
  |_,_=>none
 |.fn 224,[x]=>match x with
  |.slice b 0 n none=>if b<M.length then some ⟨.func 265 [.ptr M.length 0],none,[.cells true 0 [.slice b 0 n none]]⟩ else none
  |_=>none
 |.fn 222,[x]=>bu (.fn 222) [x] M
 |.fn 223,[x,y]=>bu (.fn 223) [x,y] M
 |_,_=>none
theorem rh:adM prog bV:=by
 refine cP fun c F M r h=>?_
 unfold bV at h;split at h
 .split at h
  .rename_i Z X
   split at h
   .rename_i hc
    obtain⟨W,V,S,J⟩:=hc;cases h;exact aC (NS W V S J (cD Z) (cD X))
   .cases h
  .cases h
 .split at h
  .rename_i Z X
   split at h
   .rename_i hc
    obtain⟨W,V,S,J,D⟩:=hc;cases h;exact aC (IV W V S J D (cD Z) (cD X))
   .cases h
  .cases h
 .split at h
  .rename_i Z X
   split at h
   .rename_i hc
    obtain⟨W,V,S,J⟩:=hc;cases h;exact aC (Jb W V S J (cD Z) (cD X))
   .cases h
  .cases h
 .split at h
  .split at h
   .rename_i C
    cases h;refine ah (T:=aU prog) (lv:=fun _=>[]) (G:=aS prog) (O:=bD) (K:=1) ae (al _) (aj _) (ao _) ?_;exact BB _ _ M C
   .cases h
  .cases h
 .exact fK jL h
 .exact fK jL h
 .cases h
theorem ahK:aS prog 148=some f148:=by kernel_rfl
theorem GN(A:List Nat)(d:Nat)(y:0<d)(hd:d<1000000000)(I:lok 1000000000 A=true)(hl:A.length<=100000000)(tA:bB A=A)(H:d<=aG 1000000000 A):
  ∃O:af3,adM prog O/\aa (aU prog) (fun _=>[]) (aS prog) (bV.or O) 1 148 [.slice 0 0 A.length none,.slice 1 0 1 none] [.cells false 1 (iN .u64 A),.cells false 1 [.int .u64 (d:Int)]]=
   some ⟨.tuple [.slice 2 0 (bB (jg 1000000000 d A).1).length none,.slice 3 0 (bB [(jg 1000000000 d A).2]).length none],some [.cells false 1 (iN .u64 A),.cells false 1 [.int .u64 (d:Int)]],[.cells true 1 (iN .u64 (jg 1000000000 d A).1),.cells true 1 [.int .u64 (((jg 1000000000 d A).2:Nat):Int)]]⟩:=by
 obtain⟨W,V,Z,u⟩:∃W V Z,dD f148=[(W,V,Z)]:=⟨_,_,_,rfl⟩
 have S:0<A.length:=by
  rcases QQY A.length with h | h
  .rw[M0 h] at H;simp[aG] at H;omega
  .exact h
 obtain⟨O,hO,M⟩:=EC A d y hd I (by omega) S u;refine⟨O,hO,?_⟩;obtain⟨i1,i2,i3,z⟩:=C8 y hd A I;have K:∀X,mH A d W V Z X 0=[.cells false 1 (iN .u64 A),.cells false 1 [.int .u64 (d:Int)],.cells true 0 [.slice 1 0 1 none],.cells true 0 [.slice 4 0 A.length none],
  .cells true 1 (iN .u64 (jg 1000000000 d A).1),.cells true 0 [.int .u64 (((jg 1000000000 d A).2:Nat):Int)],.cells true 0 [.slice 0 0 A.length none],.loop ⟨.ready,none,X,146,W,V,Z⟩]:=fun X=>rfl
 have J:∀X,mH A d W V Z X A.length=[.cells false 1 (iN .u64 A),.cells false 1 [.int .u64 (d:Int)],.cells true 0 [.slice 1 0 1 none],.cells true 0 [.slice 4 0 A.length none],
  .cells true 1 (iN .u64 (List.replicate A.length 0)),.cells true 0 [.int .u64 0],.cells true 0 [.slice 0 0 A.length none],.loop ⟨.ready,none,X,146,W,V,Z⟩]:=fun X=>by
  unfold mH;rw[List.drop_length];simp[jg]
 have G:∀X,(ad X 3=.ptr 2 0/\ad X 4=.ptr 3 0/\ad X 6=.ptr 5 0/\X.flatMap (fun e=>e.2.refs 8)=[])->
   O (.fn 265) [.yield 7,.ptr 6 0] [.cells false 1 (iN .u64 A),.cells false 1 [.int .u64 (d:Int)],.cells true 0 [.slice 1 0 1 none],.cells true 0 [.slice 4 0 A.length none],
  .cells true 1 (iN .u64 (List.replicate A.length 0)),.cells true 0 [.int .u64 0],.cells true 0 [.slice 0 0 A.length none],.loop ⟨.ready,none,X,146,W,V,Z⟩]=some ⟨.tuple [],some [.cells false 1 (iN .u64 A),.cells false 1 [.int .u64 (d:Int)],.cells true 0 [.slice 1 0 1 none],.cells true 0 [.slice 4 0 A.length none],
  .cells true 1 (iN .u64 (jg 1000000000 d A).1),.cells true 0 [.int .u64 (((jg 1000000000 d A).2:Nat):Int)],.cells true 0 [.slice 0 0 A.length none],.loop ⟨.ready,none,X,146,W,V,Z⟩],[]⟩:=fun X h=>by
  have:=M X h
  rwa [J,K] at this
 clear M K J;obtain⟨q,hq⟩:=xE ((jg 1000000000 d A).1);obtain⟨r,hr⟩:=xE ((jg 1000000000 d A).2);rw[<-hq,<-hr] at G |-;rw[<-hq] at i3 z;simp[dD,fP,f148] at u;obtain⟨rfl,rfl,rfl⟩:=u;have hs0:∀l,cb .u64 (.cells false 1 (iN .u64 A)::l) (.slice 0 0 A.length none)=some A:=fun l=>bq rfl (by simp) (GE (by simp))
 have hs1:∀l,cb .u64 (.cells false 1 (iN .u64 A)::.cells false 1 [.int .u64 (d:Int)]::l) (.slice 1 0 1 none)=some [d]:=fun l=>bq (A:=[d]) rfl (by simp) rfl
 have hs4:∀F D C B l,cb .u64 (F::D::C::B::.cells true 1 (iN .u64 q)::l) (.slice 4 0 A.length none)=some q:=fun F D C B l=>bq rfl (by simp[z]) (GE (by simp[z]))
 have m:∀F D C B a4 a5 a6 a7 l,cb .u64 (F::D::C::B::a4::a5::a6::a7::.cells true 1 [.int .u64 (r:Int)]::l) (.slice 8 0 1 none)=some [r]:=fun F D C B a4 a5 a6 a7 l=>bq (A:=[r]) rfl (by simp) rfl
 have j:lok 1000000000 [d]=true:=by simp[lok];omega
 have Y:bB [d]=[d]:=by simp[bB];omega
 have R:aG 1000000000 [d]=d:=by simp[aG]
 have Q:¬lC (aG 1000000000 A) d<0:=by unfold lC;rw[if_neg (by omega)];split<;>omega
 have h8:8*(A.length:Int)<=281474976710656:=by omega
 have h9:(A.length:Int)<=281474976710656:=by omega
 have h10:A.length<=1000000000:=by omega
 simp[aa,ahK,f148,af3.or,bV,bu,hs0,hs1,I,tA,j,Y,R,Q,h8,h9,h10,xH,vV,G,hs4,m,z,mJ,Nat.testBit];exact⟨rfl,rfl⟩
variable{B:Nat}{l:List Nat}
theorem Vc(h:lok B l=true):lok B (bB l)=true:=by rw[lG l];exact kU h _
theorem Bp(y:2<=B)(h:lok B l=true)(H:bB l=l):dig B (aG B l)=l:=by rw[gP y h,H]
variable{A:List Nat}{d:Nat}
theorem I9(hd:d<1000000000)(y:lok 1000000000 A=true)(H:A.length<=100000000):
  kO prog 225 [.slice 0 0 A.length none,.int .u64 (d:Int)] [.cells false 1 (iN .u64 A)] (.slice 1 0 (dig 1000000000 (aG 1000000000 A*d)).length none) [.cells false 1 (iN .u64 A),.cells true 1 (iN .u64 (dig 1000000000 (aG 1000000000 A*d)))]:=by
 have S:aS prog 225=some f225:=by kernel_rfl
 have hs0:∀l,cb .u64 (.cells false 1 (iN .u64 A)::l) (.slice 0 0 A.length none)=some A:=fun l=>bq rfl (by simp) (GE (by simp))
 have hs1:∀Z l,cb .u64 (Z::.cells true 1 [.int .u64 (d:Int)]::l) (.slice 1 0 1 none)=some [d]:=fun Z l=>bq (A:=[d]) rfl (by simp) rfl
 have hs2:∀Z l,cb .u64 (Z::.cells true 1 [.int .u64 (d:Int)]::l) (.slice 1 0 (bB [d]).length none)=some (bB [d]):=fun Z l=>bq rfl (by have:=ef [d];simpa using this) (by have:([.int .u64 (d:Int)]:List AV)=iN .u64 [d]:=rfl;rw[this,jF,pc])
 have X:lok 1000000000 (bB [d])=true:=Vc (by simp[lok];omega);have W:aG 1000000000 (bB [d])=d:=by rw[F6];simp[aG]
 have V:(bB [d]).length<=100000000:=by have:=ef [d];simp at this;omega
 have h:aa (aU prog) (fun _=>[]) (aS prog) bV 1 225 [.slice 0 0 A.length none,.int .u64 (d:Int)] [.cells false 1 (iN .u64 A)]=some ⟨.slice 1 0 (dig 1000000000 (aG 1000000000 A*d)).length none,none,[.cells true 1 (iN .u64 (dig 1000000000 (aG 1000000000 A*d)))]⟩:=by simp[aa,S,f225,bV,bu,hs0,hs1,hs2,y,H,X,W,V]
 have:=(ah ae (al _) rh (ao _) h).1;simpa [afA.mem] using this
variable{M:Mem}{x:AV}
theorem I8(hd:d<1000000000)(y:lok 1000000000 A=true)(H:A.length<=100000000)(hx:agi .u64 M x A):
  kO prog 225 [x,.int .u64 (d:Int)] M (.slice M.length 0 (dig 1000000000 (aG 1000000000 A*d)).length none) (M++[.cells true 1 (iN .u64 (dig 1000000000 (aG 1000000000 A*d)))]):=by
 obtain⟨b,rfl,h⟩:=kO.aip (new:=[.cells true 1 (iN .u64 (dig 1000000000 (aG 1000000000 A*d)))]) (rest:=[.int .u64 (d:Int)]) rfl rfl (I9 hd y H) hx;simpa [AV.ren,eg] using h
noncomputable def cq:af3:=fun c Z M=>match c,Z with
 |.fn 225,[x,.int .u64 d]=>match cb .u64 M x with
  |some A=>if lok 1000000000 A=true/\A.length<=100000000/\0<=d/\d<1000000000 then some ⟨.slice M.length 0 (dig 1000000000 (aG 1000000000 A*d.toNat)).length none,none,[.cells true 1 (iN .u64 (dig 1000000000 (aG 1000000000 A*d.toNat)))]⟩ else none
  |_=>none
 |c,Z=>bV c Z M
theorem rl:adM prog cq:=by
 refine cP fun c Z M r h=>?_
 unfold cq at h;split at h
 .split at h
  .rename_i W
   split at h
   .rename_i hc
    obtain⟨V,S,X,O⟩:=hc;cases h;have K:=(Int.toNat_lt X).2 O;have:=I8 K V S (cD W);rw[QQe X] at this;exact aC this
   .cases h
  .cases h
 .exact fK rh h
def gw(c:Code):List Nat:=if (ab c).contains 11 then [11,5] else [13,12]
theorem tU{B d:Nat}(hd:0<d):∀l:List Nat,lok B l=true->(jg B d l).2<d/\aG B (jg B d l).1*d+(jg B d l).2=aG B l/\lok B (jg B d l).1=true/\(jg B d l).1.length=l.length
 | [],_=>by simp[jg,aG,lok,hd]
 |x::l,h=>by
  rw[dL,Es,L0] at h;obtain⟨X,W,V,S⟩:=tU hd l h.2;simp only[jg];have Z:=Nat.mod_add_div ((jg B d l).2*B+x) d;refine⟨Nat.mod_lt _ hd,?_,?_,by simp[S]⟩
  .rw[aG,aG,<-W,Nat.add_mul,Nat.mul_add]
   rw[V1 d] at Z;rw[QQh,V1 B (jg B d l).2];omega
  .rw[dL,Es,L0]
   refine⟨?_,V⟩;rw[Nat.div_lt_iff_lt_mul hd];have h3:((jg B d l).2+1)*B<=d*B:=QQf _ X;rw[Nat.add_mul] at h3;rw[V1 B d];omega
variable{y:AV}
theorem wM{B:List Nat}(H:lok 1000000000 A=true)(I:lok 1000000000 B=true)(Q:A.length<=1000000000)(tA:bB A=A)(R:bB B=B)(Y:aG 1000000000 A<aG 1000000000 B)(hx:agi .u64 M x A)(hy:agi .u64 M y B):
  kO prog 148 [x,y] M (.tuple [.y9,x]) M:=by
 have hs0:∀l,cb .u64 (.cells false 1 (iN .u64 A)::l) (.slice 0 0 A.length none)=some A:=fun l=>bq rfl (by simp) (GE (by simp))
 have hs1:∀a l,cb .u64 (a::.cells false 1 (iN .u64 B)::l) (.slice 1 0 B.length none)=some B:=fun a l=>bq rfl (by simp) (GE (by simp))
 have hc:lC (aG 1000000000 A) (aG 1000000000 B)<0:=by unfold lC;rw[if_pos Y];omega
 have h:aa (aU prog) gw (aS prog) cq 1 148 [.slice 0 0 A.length none,.slice 1 0 B.length none] [.cells false 1 (iN .u64 A),.cells false 1 (iN .u64 B)]=some ⟨.tuple [.y9,.slice 0 0 A.length none],none,[]⟩:=by simp[aa,ahK,f148,cq,bV,bu,hs0,hs1,H,I,Q,tA,R,hc]
 have:=(ah ae (al _) rl (ao _) h).1;simp only[afA.mem,Option.getD_none,List.append_nil] at this;obtain⟨b,c,rfl,rfl,h3⟩:=kO.ag8 (new:=[]) rfl this hx hy;simpa [AV.ren,AV.agd,eg] using h3
theorem Ff(H:0<d)(hd:d<1000000000)(Q:lok 1000000000 A=true)(R:A.length<=100000000)(tA:bB A=A)(I:d<=aG 1000000000 A)(hx:agi .u64 M x A)(Y:agi .u64 M y [d]):
  kO prog 148 [x,y] M (.tuple [.slice M.length 0 (dig 1000000000 (aG 1000000000 A / d)).length none,.slice (M.length+1) 0 (dig 1000000000 (aG 1000000000 A%d)).length none]) (M++[.cells true 1 (iN .u64 (dig 1000000000 (aG 1000000000 A / d))),.cells true 1 (iN .u64 (dig 1000000000 (aG 1000000000 A%d)))]):=by
 obtain⟨O,S,h⟩:=GN A d H hd Q R tA I;obtain⟨X,W,K,G⟩:=tU H A Q;have J:aG 1000000000 (jg 1000000000 d A).1=aG 1000000000 A / d:=by rw[<-W,V1,Nat.mul_add_div H,Nat.div_eq_of_lt X,Nat.add_zero]
 have F:(jg 1000000000 d A).2=aG 1000000000 A%d:=by rw[<-W,V1,Nat.mul_add_mod,QQd X]
 have f1:bB (jg 1000000000 d A).1=dig 1000000000 (aG 1000000000 A / d):=by rw[<-gP (by omega) K,J]
 have f2:bB [(jg 1000000000 d A).2]=dig 1000000000 (aG 1000000000 A%d):=by rw[<-gP (B:=1000000000) (by omega) (by simp[lok];omega)];congr 1
 have:=(ah ae (al _) (rh.or S) (ao _) h).1;simp only[afA.mem,Option.getD_some,List.cons_append,List.nil_append] at this;have V:=kO.ahj (m2:=[.cells false 1 (iN .u64 A),.cells false 1 (iN .u64 [d]),.cells true 1 (iN .u64 (dig 1000000000 (aG 1000000000 A / d))),.cells true 1 (iN .u64 (dig 1000000000 (aG 1000000000 A%d)))]) this rfl (fun b s Z=>by
  match b with
  |0=>simp at Z;subst Z;exact⟨_,rfl,.inl rfl⟩
  |1=>simp at Z;subst Z;exact⟨_,rfl,.inl rfl⟩
  |2=>simp at Z;subst Z;exact⟨_,rfl,.row (by rw[<-f1];exact fG _)⟩
  |3=>simp at Z;subst Z;exact⟨_,rfl,by have:=ahJ.row (k:=.u64) (o:=true) (es:=1) (fG [(jg 1000000000 d A).2]);rw[f2] at this;exact this⟩
  |b+4=>simp at Z)
 rw[f1,f2] at V;obtain⟨b,c,rfl,rfl,h3⟩:=kO.ag8 (B:=[d]) (new:=[.cells true 1 (iN .u64 (dig 1000000000 (aG 1000000000 A / d))),.cells true 1 (iN .u64 (dig 1000000000 (aG 1000000000 A%d)))]) rfl V hx Y;simpa [AV.ren,AV.agd,eg] using h3
noncomputable def ei:af3:=fun c Z M=>match c,Z with
 |.fn 148,[x,y]=>match cb .u64 M x,cb .u64 M y with
  |some A,some [d]=>if lok 1000000000 A=true/\A.length<=100000000/\bB A=A/\0<d/\d<1000000000 then
    (if aG 1000000000 A<d then some ⟨.tuple [.y9,x],none,[]⟩ else some ⟨.tuple [.slice M.length 0 (dig 1000000000 (aG 1000000000 A / d)).length none,.slice (M.length+1) 0 (dig 1000000000 (aG 1000000000 A%d)).length none],none,[.cells true 1 (iN .u64 (dig 1000000000 (aG 1000000000 A / d))),.cells true 1 (iN .u64 (dig 1000000000 (aG 1000000000 A%d)))]⟩) else none
  |_,_=>none
 |c,Z=>cq c Z M
theorem Jd:adM prog ei:=by
 refine cP fun c Z M r h=>?_
 unfold ei at h;split at h
 .split at h
  .rename_i X W
   split at h
   .rename_i hc
    obtain⟨V,J,S,G,O⟩:=hc;split at h
    .rename_i K
     cases h;have:=wM V (B:=[_]) (by simp[lok];exact O) (by omega) S (by simp[bB];omega) (by simpa [aG] using K) (cD X) (cD W);refine aC ?_;rw[List.append_nil];exact this
    .rename_i K
     cases h;exact aC (Ff G O V J S (by omega) (cD X) (cD W))
   .cases h
  .cases h
 .exact fK rl h
def fX(A B:List Nat)(n m:Nat)(a b q H I:List Nat)(l:Mem):Mem:=
 .cells false 1 (iN .u64 A)::.cells false 1 (iN .u64 B)::.cells true 0 [.slice 5 0 m none]::.cells true 0 [.slice 6 0 n none]::.cells true 1 (iN .u64 a)::.cells true 1 (iN .u64 b)::.cells true 1 (iN .u64 q)::.cells true 1 (iN .u64 H)::.HS::.cells true 1 (iN .u64 I)::l
variable{K:Nat}{b1 c:Code}
theorem EA(A B:List Nat)(n:Nat)(a q H I:List Nat)(b r d0 t:Nat)(ht:t=r / b)(Y:I.take (dig 1000000000 r).length=dig 1000000000 r)(hrl:(dig 1000000000 r).length<=I.length)(hb0:0<b)(hd0:t<d0)(hdB:d0<1000000000)(hK:d0<K)(hlb:∀d,d<=d0->(dig 1000000000 (b*d)).length<=100000000)(adk:∀d,d<=d0->0<d->(dig 1000000000 b).length<=(dig 1000000000 (b*d)).length)(Q:ag f148=[b1,c])(R:gw c=[13,12]):
  ∃F:Env->Bool->Env,∀Z d,(ad Z 3=.ptr 2 0/\ad Z 5=.slice 9 0 (dig 1000000000 r).length none/\ad Z 12=.int .u64 d0/\ad Z 13=.slice 10 0 (dig 1000000000 (b*d0)).length none)->
   aT (aU prog) gw ei K 146 2 true (.loop c) ⟨Z,fX A B n (dig 1000000000 b).length a (dig 1000000000 b) q H I [.cells true 1 (iN .u64 (dig 1000000000 (b*d0)))],d⟩=
    some (.exit 4,⟨F Z d,fX A B n (dig 1000000000 b).length a (dig 1000000000 b) q H I [.cells true 1 (iN .u64 (dig 1000000000 (b*d0))),.cells true 1 (iN .u64 (dig 1000000000 (b*t)))],d⟩)/\
   (ad (F Z d) 13=.slice 11 0 (dig 1000000000 (b*t)).length none/\ad (F Z d) 12=.int .u64 (t:Int)/\(∀x∈[0,3,4,5,9,10,11],ad (F Z d) x=ad Z x)):=by
 refine bG R (fun Z=>ad Z 3=.ptr 2 0/\ad Z 5=.slice 9 0 (dig 1000000000 r).length none/\ad Z 12=.int .u64 d0/\ad Z 13=.slice 10 0 (dig 1000000000 (b*d0)).length none)
  (fun Z u =>ad u 13=.slice 11 0 (dig 1000000000 (b*t)).length none/\ad u 12=.int .u64 (t:Int)/\(∀x∈[0,3,4,5,9,10,11],ad u x=ad Z x)) ?_
 clear R;rintro Z dd ⟨h3,h5,h12,h13⟩;simp[ag,aH,f148] at Q;obtain⟨_,Q⟩:=Q;obtain⟨S,X⟩:∃S:Nat->XS,(S d0=⟨au [13,12] (ab c) Z ((13,.slice 10 0 (dig 1000000000 (b*d0)).length none)::(12,.int .u64 (d0:Int))::Z),fX A B n (dig 1000000000 b).length a (dig 1000000000 b) q H I [.cells true 1 (iN .u64 (dig 1000000000 (b*d0)))],dd⟩)/\
   (∀e,e≠d0->S e=⟨au [13,12] (ab c) Z ((13,.slice 11 0 (dig 1000000000 (b*e)).length none)::(12,.int .u64 (e:Int))::Z),fX A B n (dig 1000000000 b).length a (dig 1000000000 b) q H I [.cells true 1 (iN .u64 (dig 1000000000 (b*d0))),.cells true 1 (iN .u64 (dig 1000000000 (b*e)))],dd⟩):=
  ⟨fun e=>if e=d0 then⟨au [13,12] (ab c) Z ((13,.slice 10 0 (dig 1000000000 (b*d0)).length none)::(12,.int .u64 (d0:Int))::Z),fX A B n (dig 1000000000 b).length a (dig 1000000000 b) q H I [.cells true 1 (iN .u64 (dig 1000000000 (b*d0)))],dd⟩
   else⟨au [13,12] (ab c) Z ((13,.slice 11 0 (dig 1000000000 (b*e)).length none)::(12,.int .u64 (e:Int))::Z),fX A B n (dig 1000000000 b).length a (dig 1000000000 b) q H I [.cells true 1 (iN .u64 (dig 1000000000 (b*d0))),.cells true 1 (iN .u64 (dig 1000000000 (b*e)))],dd⟩,by simp,fun e he=>by simp[he]⟩
 have m:(⟨au [13,12] (ab c) Z Z,fX A B n (dig 1000000000 b).length a (dig 1000000000 b) q H I [.cells true 1 (iN .u64 (dig 1000000000 (b*d0)))],dd⟩:XS)=S d0:=by rw[X.1];simp[au,h12,h13]
 rw[m];have Do:(fX A B n (dig 1000000000 b).length a (dig 1000000000 b) q H I [.cells true 1 (iN .u64 (dig 1000000000 (b*d0)))]).length=11:=rfl;rw[Do];refine bW (α:=Nat) S (fun e=>e-t) (fun e=>t<=e/\e<=d0) (.exit 4) _ dd _ (by simp) ?_ K d0 ⟨by omega,L9 _⟩ (by omega);rintro e ⟨he1,he2⟩;have W:∀l,cb .u64 (fX A B n (dig 1000000000 b).length a (dig 1000000000 b) q H I l) (.slice 9 0 (dig 1000000000 r).length none)=some (dig 1000000000 r):=fun l=>bq rfl (by simpa using hrl) (by rw[jF,Y])
 have j:∀l,cb .u64 (fX A B n (dig 1000000000 b).length a (dig 1000000000 b) q H I l) (.slice 5 0 (dig 1000000000 b).length none)=some (dig 1000000000 b):=fun l=>bq rfl (by simp) (GE (by simp))
 have z:∀l,cb .u64 (fX A B n (dig 1000000000 b).length a (dig 1000000000 b) q H I (.cells true 1 (iN .u64 (dig 1000000000 (b*d0)))::l)) (.slice 10 0 (dig 1000000000 (b*d0)).length none)=some (dig 1000000000 (b*d0)):=fun l=>bq rfl (by simp) (GE (by simp))
 have O:∀x l,cb .u64 (fX A B n (dig 1000000000 b).length a (dig 1000000000 b) q H I (x::.cells true 1 (iN .u64 (dig 1000000000 (b*e)))::l)) (.slice 11 0 (dig 1000000000 (b*e)).length none)=some (dig 1000000000 (b*e)):=fun x l=>bq rfl (by simp) (GE (by simp))
 have lo:∀v,lok 1000000000 (dig 1000000000 v)=true:=fun v=>dI (by omega) v
 have lt:∀v,bB (dig 1000000000 v)=dig 1000000000 v:=fun v=>ed (by omega) v
 have lv:∀v,aG 1000000000 (dig 1000000000 v)=v:=fun v=>cY (by omega) v
 have hle:=hlb e he2;have V:(dig 1000000000 (b*e)).length<=1000000000:=by omega
 simp only[fX] at W j z O X;by_cases hq:e=t
 .right
  have IR:e≠d0:=by omega
  have hc:¬0<lC (b*e) r:=by
   have:b*e<=r:=by rw[hq,ht];exact Nat.mul_div_le r b
   unfold lC;split
   .omega
   .rw[if_neg (by omega)];omega
  rw[X.2 e IR,<-hq];clear X;subst Q;simp[ei,cq,bV,bu,fX,h3,h5,W,O,lo,lt,lv,V,hc]
 .left
  have hqe:t<e:=by omega
  have hgt:r<b*e:=by
   have:=(Nat.div_lt_iff_lt_mul hb0).1 (ht▸hqe)
   rwa [V1] at this
  have hc:0<lC (b*e) r:=by unfold lC;rw[if_neg (by omega),if_pos hgt];omega
  have J:b<=b*e:=Nat.le_mul_of_pos_right b (by omega);have G:b*e-b=b*(e-1):=by rw[Nat.mul_sub,Nat.mul_one]
  have D:=adk e he2 (by omega);have w1:IntKind.u64.wrap ((e:Int)-1)=((e-1:Nat):Int):=by rw[cS (by omega) (by omega)];omega
  have C:(dig 1000000000 (b*e)).length<=100000000:=hle;refine⟨e-1,?_⟩;rw[X.2 (e-1) (by omega)];by_cases hd:e=d0
  .rw[hd] at hc J G D w1 C V |-
   rw[X.1];clear X;subst Q;simp[ei,cq,bV,bu,h3,h5,W,j,z,lo,lt,lv,V,hc,J,D,G,w1,C];omega
  .rw[X.2 e hd]
   clear X;subst Q;simp[ei,cq,bV,bu,h3,h5,W,j,O,lo,lt,lv,V,hc,J,D,G,w1,C];omega
theorem Cj(A B:List Nat)(n:Nat)(a q H I:List Nat)(b r t:Nat)(ht:b*t<=r)(Y:I.take (dig 1000000000 r).length=dig 1000000000 r)(hrl:(dig 1000000000 r).length<=I.length)(hK:0<K)(hlb:(dig 1000000000 (b*t)).length<=1000000000)(R:ag f148=[b1,c])(Q:gw c=[13,12]):
  ∃F:Env->Bool->Env,∀Z d,(ad Z 3=.ptr 2 0/\ad Z 5=.slice 9 0 (dig 1000000000 r).length none/\ad Z 12=.int .u64 t/\ad Z 13=.slice 10 0 (dig 1000000000 (b*t)).length none)->
   aT (aU prog) gw ei K 146 2 true (.loop c) ⟨Z,fX A B n (dig 1000000000 b).length a (dig 1000000000 b) q H I [.cells true 1 (iN .u64 (dig 1000000000 (b*t)))],d⟩=
    some (.exit 4,⟨F Z d,fX A B n (dig 1000000000 b).length a (dig 1000000000 b) q H I [.cells true 1 (iN .u64 (dig 1000000000 (b*t)))],d⟩)/\
   (ad (F Z d) 13=.slice 10 0 (dig 1000000000 (b*t)).length none/\ad (F Z d) 12=.int .u64 (t:Int)/\(∀x∈[0,3,4,5,9,10,11],ad (F Z d) x=ad Z x)):=by
 refine bG Q (fun Z=>ad Z 3=.ptr 2 0/\ad Z 5=.slice 9 0 (dig 1000000000 r).length none/\ad Z 12=.int .u64 t/\ad Z 13=.slice 10 0 (dig 1000000000 (b*t)).length none)
  (fun Z V =>ad V 13=.slice 10 0 (dig 1000000000 (b*t)).length none/\ad V 12=.int .u64 (t:Int)/\(∀x∈[0,3,4,5,9,10,11],ad V x=ad Z x)) ?_
 clear Q;rintro Z dd ⟨h3,h5,h12,h13⟩;simp[ag,aH,f148] at R;obtain⟨_,R⟩:=R;obtain⟨K,rfl⟩:∃S,K=S +1:=⟨K-1,by omega⟩
 have X:∀l,cb .u64 (fX A B n (dig 1000000000 b).length a (dig 1000000000 b) q H I l) (.slice 9 0 (dig 1000000000 r).length none)=some (dig 1000000000 r):=fun l=>bq rfl (by simpa using hrl) (by rw[jF,Y])
 have W:∀l,cb .u64 (fX A B n (dig 1000000000 b).length a (dig 1000000000 b) q H I (.cells true 1 (iN .u64 (dig 1000000000 (b*t)))::l)) (.slice 10 0 (dig 1000000000 (b*t)).length none)=some (dig 1000000000 (b*t)):=fun l=>bq rfl (by simp) (GE (by simp))
 have O:∀v,lok 1000000000 (dig 1000000000 v)=true:=fun v=>dI (by omega) v
 have J:∀v,bB (dig 1000000000 v)=dig 1000000000 v:=fun v=>ed (by omega) v
 have G:∀v,aG 1000000000 (dig 1000000000 v)=v:=fun v=>cY (by omega) v
 have hc:¬0<lC (b*t) r:=by
  unfold lC;split
  .omega
  .rw[if_neg (by omega)];omega
 simp only[fX] at X W;subst R;simp[fW,ei,cq,bV,bu,fX,h3,h5,h12,h13,X,W,O,J,G,hlb,hc]
def ya(b:Nat):List Nat->List Nat
 | []=>[]
 |x::l=>if x+1000000000*(jg 1000000000 b l).2<b then x::dig 1000000000 (jg 1000000000 b l).2 else dig 1000000000 ((x+1000000000*(jg 1000000000 b l).2)%b)
theorem DS{b:Nat}:∀{l:List Nat},lok 1000000000 l=true->(ya b l).take (dig 1000000000 (jg 1000000000 b l).2).length=dig 1000000000 (jg 1000000000 b l).2/\(dig 1000000000 (jg 1000000000 b l).2).length<=(ya b l).length
 | [],_=>by simp[ya,jg,fz]
 |x::l,h=>by
  rw[dL,Es,L0] at h;have e:(jg 1000000000 b (x::l)).2=(x+1000000000*(jg 1000000000 b l).2)%b:=by simp only[jg];rw[V1,QXJ]
  rw[e,ya];split
  .rename_i Z
   rw[QQd Z,<-P0 (by omega) h.1];exact⟨pc _,ef _⟩
  .exact⟨GE (L9 _),L9 _⟩
def jE(A B:List Nat)(a:List Nat)(b k:Nat):Mem:=
 [.cells false 1 (iN .u64 A),.cells false 1 (iN .u64 B),.cells true 0 [.slice 5 0 (dig 1000000000 b).length none],.cells true 0 [.slice 6 0 a.length none],.cells true 1 (iN .u64 a),.cells true 1 (iN .u64 (dig 1000000000 b)),.cells true 1 (iN .u64 (List.replicate k 0++(jg 1000000000 b (a.drop k)).1))]
  ++ if k=a.length then [] else [.cells true 1 (iN .u64 (ya b (a.drop k)))]
def zd(a:List Nat)(b k:Nat):AV:=if k=a.length then .y9 else .slice 7 0 (dig 1000000000 (jg 1000000000 b (a.drop k)).2).length none
theorem EB(A B a:List Nat)(b top:Nat)(ha:lok 1000000000 a=true)(hl:a.length<=10000000)(hm:2<=(dig 1000000000 b).length)(hn:(dig 1000000000 b).length<=a.length)(aa7:(dig 1000000000 b)[(dig 1000000000 b).length-1]? =some top)(hK:2000000000<K)(hb:ag f148=[b1,c]/\gw b1=[11,5]/\gw c=[13,12]):
  ∃F:Env->Bool->Env,∀W d,(ad W 0=.slice 4 0 a.length none/\ad W 3=.ptr 2 0/\ad W 4=.ptr 3 0/\ad W 10=.int .u64 top/\ad W 5=.y9/\ad W 11=.int .i64 ((a.length:Int)-1))->
   aT (aU prog) gw ei K 146 2 true (.loop b1) ⟨W,jE A B a b a.length,d⟩=some (.exit 2,⟨F W d,jE A B a b 0,d⟩)/\
   (ad (F W d) 5=zd a b 0/\(∀x∈[3,4,9],ad (F W d) x=ad W x)):=by
 refine bG hb.2.1 (fun W=>ad W 0=.slice 4 0 a.length none/\ad W 3=.ptr 2 0/\ad W 4=.ptr 3 0/\ad W 10=.int .u64 top/\ad W 5=.y9/\ad W 11=.int .i64 ((a.length:Int)-1))
  (fun W AC =>ad AC 5=zd a b 0/\(∀x∈[3,4,9],ad AC x=ad W x)) ?_
 rintro W dd ⟨h0,h3,h4,h10,h5,h11⟩;have Q:=hb.1;simp[ag,aH,f148] at Q;obtain⟨Q,hb2⟩:=Q;have hn0:au [11,5] (ab b1) W ((11,.int .i64 ((a.length:Int)-1))::(5,zd a b a.length)::W)=au [11,5] (ab b1) W W:=by simp[au,h5,h11,zd]
 rw[<-hn0];have acJ:(jE A B a b a.length).length=7:=by simp[jE]
 rw[acJ];refine bW (α:=Nat) (fun k=>⟨au [11,5] (ab b1) W ((11,.int .i64 ((k:Int)-1))::(5,zd a b k)::W),jE A B a b k,dd⟩) id (fun k=>k<=a.length) (.exit 2) _ dd _ (by simp) ?_ K a.length (L9 _) (by simp;omega);intro k hk;clear hn0 acJ;have hbv:1000000000<=b:=by have h:=ug (B:=1000000000) (by omega) b (by rintro rfl;rw[fz] at hm;simp at hm);have:1000000000 ^ 1<=1000000000 ^ ((dig 1000000000 b).length-1):=P1 (by omega) (by omega);omega
 cases k with
 |zero=>
  right;subst Q;simp
 |succ i=>
  left;have B':i<a.length:=by omega
  obtain⟨x,hx,I⟩:=fe B';have hxb:=im ha hx;have eA:a.drop i=x::a.drop (i+1):=by rw[N2 B',I]
  have IR:¬i=a.length:=by omega
  obtain⟨d1,d2,d3,d4⟩:=tU (B:=1000000000) (d:=b) (by omega) (a.drop (i+1)) (ma ha _);obtain⟨r,hr⟩:=xE ((jg 1000000000 b (a.drop (i+1))).2);obtain⟨q,hq⟩:=xE ((jg 1000000000 b (a.drop (i+1))).1);obtain⟨raw,abp⟩:=xE (ya b (a.drop (i+1)));obtain⟨t1,t2⟩:=DS (b:=b) (ma ha (i+1));obtain⟨Z,hr'⟩:=xE (x+1000000000*r);have hq2:(jg 1000000000 b (a.drop i)).1=Z / b::q:=by rw[eA,hq,hr',hr];simp only[jg];rw[V1,QXJ]
  have hr2:(jg 1000000000 b (a.drop i)).2=Z %b:=by rw[eA,hr',hr];simp only[jg];rw[V1,QXJ]
  have adO:ya b (a.drop i)=if Z <b then x::dig 1000000000 r else dig 1000000000 (Z %b):=by rw[eA,ya,<-hr,<-hr']
  have hqz:(List.replicate (i+1) 0++q:List Nat)=List.replicate i 0++0::q:=by rw[List.replicate_succ'];simp
  rw[<-hr] at t1 t2 d1;rw[<-abp] at t1 t2;rw[<-hq] at d4;have htk:(iN .u64 raw).take (dig 1000000000 r).length=iN .u64 (dig 1000000000 r):=by rw[jF,t1]
  have V:bB (x::dig 1000000000 r)=dig 1000000000 Z :=by rw[hr'];exact P0 (by omega) hxb
  have hrl:(dig 1000000000 r).length<=a.length:=by
   have:(dig 1000000000 r).length<=(dig 1000000000 b).length:=by
    rcases Nat.lt_or_ge (dig 1000000000 b).length (dig 1000000000 r).length with h | h
    .have:=fy (B:=1000000000) (by omega) h;omega
    .exact h
   omega
  have w1:IntKind.i64.wrap ((i:Int)-1)=(i:Int)-1:=ai;have hI:(i:Int)<(a.length:Int):=by omega
  have e1:(((i+1:Nat):Int)-1)=(i:Int):=by omega
  have hR0:zd a b i=.slice 7 0 (dig 1000000000 (Z %b)).length none:=by unfold zd;rw[if_neg IR,hr2]
  have hM0:jE A B a b i=[.cells false 1 (iN .u64 A),.cells false 1 (iN .u64 B),.cells true 0 [.slice 5 0 (dig 1000000000 b).length none],.cells true 0 [.slice 6 0 a.length none],.cells true 1 (iN .u64 a),.cells true 1 (iN .u64 (dig 1000000000 b)),.cells true 1 (iN .u64 (List.replicate i 0++Z / b::q)),
    .cells true 1 (iN .u64 (if Z <b then x::dig 1000000000 r else dig 1000000000 (Z %b)))]:=by unfold jE;rw[if_neg IR,hq2,adO];rfl
  have lo:∀v,lok 1000000000 (dig 1000000000 v)=true:=fun v=>dI (by omega) v
  have lt:∀v,bB (dig 1000000000 v)=dig 1000000000 v:=fun v=>ed (by omega) v
  have lv:∀v,aG 1000000000 (dig 1000000000 v)=v:=fun v=>cY (by omega) v
  have acq:(dig 1000000000 r).length+1<=1000000000:=by omega
  have hxl:lok 1000000000 (x::dig 1000000000 r)=true:=by rw[dL,lo];simp[hxb]
  have acr :(dig 1000000000 Z).length<=(dig 1000000000 r).length+1:=by rw[<-V];exact ef (x::dig 1000000000 r)
  have acb:(dig 1000000000 Z).length<=1000000000:=by omega
  refine⟨i,?_⟩;rw[e1];refine bM (r:=_/\_) (show i<=a.length/\id i<id (i+1) from⟨by omega,by simp⟩) ?_;by_cases X:i+1=a.length
  .have hd0:a.drop (i+1)=[]:=by rw[X,List.drop_length]
   have hr0:r=0:=by rw[hr,hd0];rfl
   have hq0:q=[]:=by rw[hq,hd0];rfl
   have afQ:Z =x:=by omega
   have X' :Z <b:=by omega
   have hR1:zd a b (i+1)=.y9:=by unfold zd;rw[if_pos X]
   have hM1:jE A B a b (i+1)=[.cells false 1 (iN .u64 A),.cells false 1 (iN .u64 B),.cells true 0 [.slice 5 0 (dig 1000000000 b).length none],.cells true 0 [.slice 6 0 a.length none],.cells true 1 (iN .u64 a),.cells true 1 (iN .u64 (dig 1000000000 b)),.cells true 1 (iN .u64 (List.replicate i 0++0::q))]:=by unfold jE;rw[if_pos X,<-hq,hqz];simp
   rw[hM1,hM0,hR1,hR0,if_pos X',QQd X',Nat.div_eq_of_lt X'];have hc:lC Z b<0:=by unfold lC;rw[if_pos X'];omega
   rw[hr0,fz] at V;rw[hr0,fz];have hs8:∀S O J G C z Y R l,cb .u64 (S::O::J::G::C::z::Y::R::.cells true 1 [.int .u64 (x:Int)]::l) (.slice 8 0 1 none)=some [x]:=fun S O J G C z Y R l=>bq (A:=[x]) rfl (by simp) rfl
   have aeR :∀S O J G C z Y R l,cb .u64 (S::O::J::G::C::z::Y::R::.cells true 1 [.int .u64 (x:Int)]::l) (.slice 8 0 (dig 1000000000 Z).length none)=some (dig 1000000000 Z):=fun S O J G C z Y R l=>by have h1:=ef [x];rw[V] at h1;refine bq rfl (by simpa using h1) ?_;have:([.int .u64 (x:Int)]:List AV)=iN .u64 [x]:=rfl;rw[this,jF,<-V,pc]
   have hs5:∀S O J G C l,cb .u64 (S::O::J::G::C::.cells true 1 (iN .u64 (dig 1000000000 b))::l) (.slice 5 0 (dig 1000000000 b).length none)=some (dig 1000000000 b):=fun S O J G C l=>bq rfl (by simp) (GE (by simp))
   subst Q;simp[ei,cq,bV,bu,h0,h3,I,hI,B',hs8,aeR,hs5,V,lo,lt,lv,hc,w1,acb,de]
  .have hR1:zd a b (i+1)=.slice 7 0 (dig 1000000000 r).length none:=by unfold zd;rw[if_neg X,<-hr]
   have hM1:jE A B a b (i+1)=[.cells false 1 (iN .u64 A),.cells false 1 (iN .u64 B),.cells true 0 [.slice 5 0 (dig 1000000000 b).length none],.cells true 0 [.slice 6 0 a.length none],.cells true 1 (iN .u64 a),.cells true 1 (iN .u64 (dig 1000000000 b)),.cells true 1 (iN .u64 (List.replicate i 0++0::q)),.cells true 1 (iN .u64 raw)]:=by unfold jE;rw[if_neg X,<-hq,<-abp,hqz];rfl
   have hs9:∀S O J G C z Y R a8 l,cb .u64 (S::O::J::G::C::z::Y::R::a8::.cells true 1 (.int .u64 (x:Int)::iN .u64 (dig 1000000000 r))::l) (.slice 9 0 (1+(dig 1000000000 r).length) none)=some (x::dig 1000000000 r):=fun S O J G C z Y R a8 l=>
    bq (A:=x::dig 1000000000 r) rfl (by simp;omega) (GE (by simp;omega))
   have acs :∀S O J G C z Y R a8 l,cb .u64 (S::O::J::G::C::z::Y::R::a8::.cells true 1 (.int .u64 (x:Int)::iN .u64 (dig 1000000000 r))::l) (.slice 9 0 (dig 1000000000 Z).length none)=some (dig 1000000000 Z):=fun S O J G C z Y R a8 l=>by refine bq rfl (by simpa using acr) ?_;rw[<-de,jF,<-V,pc]
   have hs5:∀S O J G C l,cb .u64 (S::O::J::G::C::.cells true 1 (iN .u64 (dig 1000000000 b))::l) (.slice 5 0 (dig 1000000000 b).length none)=some (dig 1000000000 b):=fun S O J G C l=>bq rfl (by simp) (GE (by simp))
   have g1:(1+(dig 1000000000 r).length)*8<=140737488355328:=by omega
   have g2:1+(dig 1000000000 r).length<=140737488355328:=by omega
   rw[hM1,hM0,hR1,hR0];by_cases X' :Z <b
   .have hc:lC Z b<0:=by unfold lC;rw[if_pos X'];omega
    rw[if_pos X',QQd X',Nat.div_eq_of_lt X'];subst Q;simp[ei,cq,bV,bu,h0,h3,I,hI,B',hs9,acs,hs5,V,lo,lt,lv,hc,w1,acq,acb,t2,htk,g1,g2,de]
   .rw[if_neg X']
    have hc:¬lC Z b<0:=by unfold lC;rw[if_neg X'];split<;>omega
    have hrb:Z <1000000000*b:=by omega
    have hL:=y7 (B:=1000000000) (by omega) rfl hrb (by omega);obtain⟨m,hmm⟩:=xE ((dig 1000000000 b).length);obtain⟨L,hLL⟩:=xE ((dig 1000000000 Z).length);obtain⟨p1,hp1⟩:=xE (L-1);have aeS:p1<(dig 1000000000 Z).length:=by omega
    have wp1:IntKind.i64.wrap (((dig 1000000000 Z).length:Int)-1)=(p1:Int):=by rw[ai];omega
    have acZ:(p1:Int)<((dig 1000000000 Z).length:Int):=by omega
    obtain⟨D1,hD1,afR⟩:=fe aeS;have afS:=im (lo Z) hD1;have aat:∀(j v:Nat),(dig 1000000000 Z)[j]? =some v->(AV.int IntKind.u64 (x:Int)::iN .u64 (dig 1000000000 r))[j]? =some (AV.int IntKind.u64 (v:Int)):=fun j v hv=>by
     rw[<-V,lG,List.getElem?_take] at hv;split at hv
     .rw[<-de,UP,hv];rfl
     .cases hv
    have hc1:=aat _ _ hD1;obtain⟨D,hDD,hDb⟩:∃D,((L=m/\D=D1)\/(L=m+1/\∃l,(dig 1000000000 Z)[m-1]? =some l/\D=D1*1000000000+l))/\D<1000000000*1000000000:=by
     rcases hL with h | h
     .exact⟨D1,.inl ⟨by omega,rfl⟩,by omega⟩
     .obtain⟨l,hl1,_⟩:=fe (l:=dig 1000000000 Z) (i:=m-1) (by omega)
      have:=im (lo Z) hl1;exact⟨D1*1000000000+l,.inr ⟨by omega,l,hl1,rfl⟩,by omega⟩
    obtain⟨gt,g3,g4⟩:=WZ (B:=1000000000) (r:=Z) (b:=b) (m:=m) (D:=D) (top:=top) (by omega) hmm.symm (by omega) (by rw[hmm];exact aa7) hrb (by omega) (by
     rcases hDD with⟨h1,rfl⟩ | ⟨h1,l,h2,rfl⟩
     .left;exact⟨by omega,by rw[show m-1=p1 by omega];exact hD1⟩
     .right;exact⟨by omega,D1,l,by rw[show m=p1 by omega];exact hD1,h2,rfl⟩)
    obtain⟨g,hg⟩:=xE (D / top);obtain⟨d0,hd0⟩:=xE (min g 999999999);obtain⟨t,ht⟩:=xE (Z / b);rw[<-hg,<-ht] at g3;rw[<-ht] at g4;have htd:t<=d0:=by omega
    have aeT:d0<1000000000:=by omega
    have hbt:b*t<=Z :=by rw[ht];exact Nat.mul_div_le Z b
    have hb0:0<b:=by omega
    have aeU:d0<K:=by omega
    have hK0:0<K:=by omega
    have acu:(d0:Int)<1000000000:=by omega
    have aaX:Z -b*t=Z %b:=by have:=Nat.mod_add_div Z b;rw[<-ht] at this;omega
    have mono:∀u v,u<=v->(dig 1000000000 u).length<=(dig 1000000000 v).length:=fun u v h=>by
     rcases Nat.lt_or_ge (dig 1000000000 v).length (dig 1000000000 u).length with h' | h'
     .have:=fy (B:=1000000000) (by omega) h';omega
     .exact h'
    have hlb:∀d,d<=d0->(dig 1000000000 (b*d)).length<=100000000:=fun d hd=>by
     have h1:b*d<1000000000 ^ (m+1):=by have h2:=y8 (B:=1000000000) (by omega) b;rw[<-hmm] at h2;rw[Nat.pow_succ];exact Nat.mul_lt_mul_of_lt_of_lt h2 (by omega)
     have:=gO (B:=1000000000) (by omega) h1;omega
    have adk:∀d,d<=d0->0<d->(dig 1000000000 b).length<=(dig 1000000000 (b*d)).length:=fun d _ hd=>mono _ _ (Nat.le_mul_of_pos_right b hd)
    have abO:(x::dig 1000000000 r).take (dig 1000000000 Z).length=dig 1000000000 Z :=by rw[<-V,pc]
    have afJ:=im (lo b) aa7;have hgD:g<=D:=by rw[hg];exact Nat.div_le_self _ _
    have wg:IntKind.u64.wrap (g:Int)=(g:Int):=cS (by omega) (by omega);have wD:IntKind.u64.wrap ((D:Int) / (top:Int))=(g:Int):=by rw[<-Int.natCast_ediv,<-hg];exact wg
    have wD' :IntKind.u64.wrap ((D:Int).tdiv (top:Int))=(g:Int):=by rw[yd,<-hg];exact wg
    have abE:¬top=0:=by omega
    have aa8:(if (999999999:Int)<(g:Int) then (999999999:Int) else (g:Int))=(d0:Int):=by split<;>omega
    have abF:(dig 1000000000 Z).length<=100000000:=by omega
    have aa5:(dig 1000000000 (b*t)).length<=(dig 1000000000 Z).length:=mono _ _ hbt;have abG:(dig 1000000000 b).length<=100000000:=by omega
    have adP:=hlb d0 (L9 _);have ac0:(List.replicate i 0++0::q).take i=List.replicate i 0:=List.take_left' (by simp);have ac1:(List.replicate i 0++0::q).drop (i+1)=q:=by rw[List.drop_append,Mp (by simp)];simp
    have hql:i<(List.replicate i 0++0::q).length:=by simp
    have ad7:∀(v:Nat) S O J G C z Y R a8 a9 l,cb .u64 (S::O::J::G::C::z::Y::R::a8::a9::.cells true 1 (iN .u64 (dig 1000000000 v))::l) (.slice 10 0 (dig 1000000000 v).length none)=some (dig 1000000000 v):=fun v S O J G C z Y R a8 a9 l=>bq rfl (by simp) (GE (by simp))
    have ad8:∀(v:Nat) S O J G C z Y R a8 a9 a10 l,cb .u64 (S::O::J::G::C::z::Y::R::a8::a9::a10::.cells true 1 (iN .u64 (dig 1000000000 v))::l) (.slice 11 0 (dig 1000000000 v).length none)=some (dig 1000000000 v):=fun v S O J G C z Y R a8 a9 a10 l=>bq rfl (by simp) (GE (by simp))
    rw[<-ht];rw[hmm] at hDD;rw[hLL] at hDD;subst Q;rcases Nat.lt_or_ge t d0 with htlt | htge
    .obtain⟨F,hF⟩:=EA (K:=K) A B a.length a (List.replicate i 0++0::q) raw (x::dig 1000000000 r) b Z d0 t ht abO (by simpa using acr) hb0 htlt aeT aeU hlb adk hb.1 hb.2.2
     simp only[fX,de] at hF;subst hb2;rcases hDD with⟨h1,rfl⟩ | ⟨h1,l,h2,h3'⟩
     .have H:¬(dig 1000000000 b).length<(dig 1000000000 Z).length:=by omega
      clear h1;simp[ei,cq,bV,bu,h0,h3,h4,h10,I,hI,B',hs9,acs,hs5,V,lo,lt,lv,hc,w1,acq,acb,t2,htk,g1,g2,H,hc1,wp1,acZ,wD,abE,aa8,abF,aa5,abG,acu,hF,ad8,hbt,aaX,jF,sM,ac0,ac1,Nat.testBit];rw[eO,de]
     .have H:(dig 1000000000 b).length<(dig 1000000000 Z).length:=by omega
      obtain⟨p2,hp2⟩:=xE (m-1);rw[<-hmm,<-hp2] at h2;have hc2:=aat _ _ h2;have aeV:=im (lo Z) h2;have wp2:IntKind.i64.wrap (((dig 1000000000 Z).length:Int)-2)=(p2:Int):=by rw[ai];omega
      have wl1:IntKind.u64.wrap ((D1:Int)*1000000000)=(D1:Int)*1000000000:=cS (by omega) (by omega);have wl2:IntKind.u64.wrap ((D1:Int)*1000000000+(l:Int))=(D:Int):=by rw[cS (by omega) (by omega)];omega
      have acd:(p2:Int)<((dig 1000000000 Z).length:Int):=by omega
      clear h1;simp[ei,cq,bV,bu,h0,h3,h4,h10,I,hI,B',hs9,acs,hs5,V,lo,lt,lv,hc,w1,acq,acb,t2,htk,g1,g2,H,hc2,wp2,acd,wl1,wl2,hc1,wp1,acZ,wD,abE,aa8,abF,aa5,abG,acu,hF,ad8,hbt,aaX,jF,sM,ac0,ac1,Nat.testBit];rw[eO,de]
    .have aeW:t=d0:=by omega
     rw[<-aeW] at adP acu aa8;obtain⟨F,hF⟩:=Cj (K:=K) A B a.length a (List.replicate i 0++0::q) raw (x::dig 1000000000 r) b Z t hbt abO (by simpa using acr) hK0 (by omega) hb.1 hb.2.2;simp only[fX,de] at hF;subst hb2;rcases hDD with⟨h1,rfl⟩ | ⟨h1,l,h2,h3'⟩
     .have H:¬(dig 1000000000 b).length<(dig 1000000000 Z).length:=by omega
      clear h1;simp[ei,cq,bV,bu,h0,h3,h4,h10,I,hI,B',hs9,acs,hs5,V,lo,lt,lv,hc,w1,acq,acb,t2,htk,g1,g2,H,hc1,wp1,acZ,wD,abE,aa8,abF,aa5,abG,acu,hF,ad7,hbt,aaX,jF,sM,ac0,ac1,Nat.testBit];rw[eO,de]
     .have H:(dig 1000000000 b).length<(dig 1000000000 Z).length:=by omega
      obtain⟨p2,hp2⟩:=xE (m-1);rw[<-hmm,<-hp2] at h2;have hc2:=aat _ _ h2;have aeV:=im (lo Z) h2;have wp2:IntKind.i64.wrap (((dig 1000000000 Z).length:Int)-2)=(p2:Int):=by rw[ai];omega
      have wl1:IntKind.u64.wrap ((D1:Int)*1000000000)=(D1:Int)*1000000000:=cS (by omega) (by omega);have wl2:IntKind.u64.wrap ((D1:Int)*1000000000+(l:Int))=(D:Int):=by rw[cS (by omega) (by omega)];omega
      have acd:(p2:Int)<((dig 1000000000 Z).length:Int):=by omega
      clear h1;simp[ei,cq,bV,bu,h0,h3,h4,h10,I,hI,B',hs9,acs,hs5,V,lo,lt,lv,hc,w1,acq,acb,t2,htk,g1,g2,H,hc2,wp2,acd,wl1,wl2,hc1,wp1,acZ,wD,abE,aa8,abF,aa5,abG,acu,hF,ad7,hbt,aaX,jF,sM,ac0,ac1,Nat.testBit];rw[eO,de]
theorem GO(A B:List Nat)(H:Nat)(hA:lok 1000000000 A=true)(hB:lok 1000000000 B=true)(hl:A.length<=1000000)(tA:bB A=A)(tB:bB B=B)(hm:2<=B.length)(I:B[B.length-1]? =some H)(Q:aG 1000000000 B<=aG 1000000000 A):
  ∃q,bB q=dig 1000000000 (aG 1000000000 A / aG 1000000000 B)/\aa (aU prog) gw (aS prog) ei 2000000001 148 [.slice 0 0 A.length none,.slice 1 0 B.length none] [.cells false 1 (iN .u64 A),.cells false 1 (iN .u64 B)]=
   some (if aG 1000000000 A%aG 1000000000 B=0 then⟨.tuple [.slice 2 0 (bB q).length none,.y9],none,[.cells true 1 (iN .u64 q)]⟩ else
    ⟨.tuple [.slice 2 0 (bB q).length none,.slice 3 0 (dig 1000000000 (aG 1000000000 A%aG 1000000000 B)).length none],none,[.cells true 1 (iN .u64 q),.cells true 1 (iN .u64 (dig 1000000000 (aG 1000000000 A%aG 1000000000 B)))]⟩):=by
 obtain⟨b1,c,hb⟩:∃b1 c,ag f148=[b1,c]/\gw b1=[11,5]/\gw c=[13,12]:=⟨_,_,rfl,by decide,by decide⟩
 have dA:=Bp (B:=1000000000) (by omega) hA tA;have dB:=Bp (B:=1000000000) (by omega) hB tB;obtain⟨av,S⟩:=xE (aG 1000000000 A);obtain⟨X,R⟩:=xE (aG 1000000000 B);rw[<-S] at dA Q |-;rw[<-R] at dB Q |-;have htb:=im hB I;obtain⟨f,hf⟩:=xE (1000000000 / (H+1));have hf1:1<=f:=by rw[hf,Nat.le_div_iff_mul_le (by omega)];omega
 have afT:1000000000<=X:=by have h:=ug (B:=1000000000) (by omega) X (by rintro rfl;rw[fz] at dB;rw[<-dB] at hm;simp at hm);rw[dB] at h;have:1000000000 ^ 1<=1000000000 ^ (B.length-1):=P1 (by omega) (by omega);omega
 have htp:0<H:=by
  rcases QQY H with h | h
  .have h2:bB B=bB (B.take (B.length-1)):=by
    have B':B.length-1<B.length:=by omega
    have ht:=(N4.1 I).2;conv=>lhs;rw[<-List.take_append_drop (B.length-1) B,N2 B',ht,Mp (by omega),h]
    exact j9 _
   have h3:=ef (B.take (B.length-1));rw[<-h2,tB,P3] at h3;omega
  .exact h
 have hfB:f<1000000000:=by rw[hf,Nat.div_lt_iff_lt_mul (by omega)];omega
 have mono:∀u v,u<=v->(dig 1000000000 u).length<=(dig 1000000000 v).length:=fun u v h=>by
  rcases Nat.lt_or_ge (dig 1000000000 v).length (dig 1000000000 u).length with h' | h'
  .have:=fy (B:=1000000000) (by omega) h';omega
  .exact h'
 have hmB:2<=(dig 1000000000 (X*f)).length:=by have:=mono X (X*f) (Nat.le_mul_of_pos_right X hf1);rw[dB] at this;omega
 have hmA:(dig 1000000000 (X*f)).length<=(dig 1000000000 (av*f)).length:=mono _ _ (QQf _ Q);have hlA:(dig 1000000000 (av*f)).length<=A.length+1:=by
  have h1:av*f<1000000000 ^ (A.length+1):=by have h2:=jJ hA;rw[<-S] at h2;rw[Nat.pow_succ];exact Nat.mul_lt_mul_of_lt_of_lt h2 hfB
  exact gO (by omega) h1
 obtain⟨top,O,_⟩:=fe (l:=dig 1000000000 (X*f)) (i:=(dig 1000000000 (X*f)).length-1) (by omega);obtain⟨F,hF⟩:=EB (K:=2000000001) A B (dig 1000000000 (av*f)) (X*f) top (dI (by omega) _) (by omega) hmB hmA O (by omega) hb;obtain⟨a,ha⟩:=xE (dig 1000000000 (av*f));obtain⟨Z,W⟩:=xE (X*f);rw[<-ha,<-W] at hF hmA;rw[<-W] at O hmB;rw[<-ha] at hlA;have ad9:0<Z:=by rw[W];exact Nat.mul_pos (by omega) (by omega)
 obtain⟨i1,i2,i3,i4⟩:=tU (B:=1000000000) ad9 a (by rw[ha];exact dI (by omega) _);have hva:aG 1000000000 a=av*f:=by rw[ha];exact cY (by omega) _
 rw[hva] at i2;obtain⟨q,hq⟩:=xE ((jg 1000000000 Z a).1);obtain⟨V,J⟩:=xE ((jg 1000000000 Z a).2);rw[<-hq,<-J] at i2;rw[<-hq] at i3 i4;rw[<-J] at i1;have hqv:aG 1000000000 q=av / X:=by
  have h1:(av*f) / Z=aG 1000000000 q:=by rw[<-i2,V1,Nat.mul_add_div ad9,Nat.div_eq_of_lt i1,Nat.add_zero]
  rw[<-h1,W,Nat.mul_div_mul_right _ _ (by omega)]
 have hrv:V=(av%X)*f:=by
  have h1:(av*f)%Z=V:=by rw[<-i2,V1,Nat.mul_add_mod,QQd i1]
  rw[<-h1,W,Nat.mul_mod_mul_right]
 have hrf:V / f=av%X:=by rw[hrv,Nat.mul_div_cancel _ (by omega)]
 refine⟨q,by rw[<-gP (by omega) i3,hqv],?_⟩;have hn0:¬0=a.length:=by omega
 obtain⟨rt1,rt2⟩:=DS (b:=Z) (l:=a) (by rw[ha];exact dI (by omega) _);obtain⟨row,aaC⟩:=xE (ya Z a);rw[<-aaC,<-J] at rt1 rt2;have hH0:jE A B a Z 0=[.cells false 1 (iN .u64 A),.cells false 1 (iN .u64 B),.cells true 0 [.slice 5 0 (dig 1000000000 Z).length none],.cells true 0 [.slice 6 0 a.length none],.cells true 1 (iN .u64 a),.cells true 1 (iN .u64 (dig 1000000000 Z)),.cells true 1 (iN .u64 q),.cells true 1 (iN .u64 row)]:=by unfold jE;rw[if_neg hn0,List.drop_zero,<-hq,<-aaC];rfl
 have hHn:jE A B a Z a.length=[.cells false 1 (iN .u64 A),.cells false 1 (iN .u64 B),.cells true 0 [.slice 5 0 (dig 1000000000 Z).length none],.cells true 0 [.slice 6 0 a.length none],.cells true 1 (iN .u64 a),.cells true 1 (iN .u64 (dig 1000000000 Z)),.cells true 1 (iN .u64 (List.replicate a.length 0))]:=by unfold jE;rw[if_pos rfl,List.drop_length];simp[jg]
 have hR0:zd a Z 0=.slice 7 0 (dig 1000000000 V).length none:=by unfold zd;rw[if_neg hn0,List.drop_zero,<-J]
 rw[hH0,hHn,hR0] at hF;obtain⟨G,_⟩:=hb;simp[ag,aH,f148] at G;obtain⟨G,_⟩:=G;subst G;have lo:∀v,lok 1000000000 (dig 1000000000 v)=true:=fun v=>dI (by omega) v
 have lt:∀v,bB (dig 1000000000 v)=dig 1000000000 v:=fun v=>ed (by omega) v
 have lv:∀v,aG 1000000000 (dig 1000000000 v)=v:=fun v=>cY (by omega) v
 have hs0:∀l,cb .u64 (.cells false 1 (iN .u64 A)::l) (.slice 0 0 A.length none)=some A:=fun l=>bq rfl (by simp) (GE (by simp))
 have hs1:∀x l,cb .u64 (x::.cells false 1 (iN .u64 B)::l) (.slice 1 0 B.length none)=some B:=fun x l=>bq rfl (by simp) (GE (by simp))
 have hs6:∀D C z m j Y l,cb .u64 (D::C::z::m::j::Y::.cells true 1 (iN .u64 q)::l) (.slice 6 0 a.length none)=some q:=fun D C z m j Y l=>bq rfl (by simp[i4]) (GE (by simp[i4]))
 have hs7:∀D C z m j Y a6 l,cb .u64 (D::C::z::m::j::Y::a6::.cells true 1 (iN .u64 row)::l) (.slice 7 0 (dig 1000000000 V).length none)=some (dig 1000000000 V):=fun D C z m j Y a6 l=>bq rfl (by simpa using rt2) (by rw[jF,rt1])
 have hs8:∀D C z m j Y a6 a7 l,cb .u64 (D::C::z::m::j::Y::a6::a7::.cells true 1 [.int .u64 (f:Int)]::l) (.slice 8 0 1 none)=some [f]:=fun D C z m j Y a6 a7 l=>bq (A:=[f]) rfl (by simp) rfl
 have hc:¬lC av X<0:=by unfold lC;rw[if_neg (by omega)];split<;>omega
 obtain⟨p,hp⟩:=xE (B.length-1);rw[<-hp] at I;have hpB:p<B.length:=by omega
 have acK :B[p]=H:=(N4.1 I).2;obtain⟨p2,hp2⟩:=xE ((dig 1000000000 Z).length-1);rw[<-hp2] at O;have ad':p2<(dig 1000000000 Z).length:=by omega
 have abP :(dig 1000000000 Z)[p2]=top:=(N4.1 O).2;have hlB:B.length<=A.length:=by rw[<-dA,<-dB];exact mono _ _ Q
 have wp:IntKind.i64.wrap ((B.length:Int)-1)=(p:Int):=by rw[ai];omega
 have wp2:IntKind.i64.wrap (((dig 1000000000 Z).length:Int)-1)=(p2:Int):=by rw[ai];omega
 have hbl:(dig 1000000000 Z).length<=1000001:=by omega
 have wan:IntKind.i64.wrap ((a.length:Int)-1)=(a.length:Int)-1:=ai;have hpI:(p:Int)<(B.length:Int):=by omega
 have acd:(p2:Int)<((dig 1000000000 Z).length:Int):=by omega
 obtain⟨t1,ht1⟩:=xE (α:=Nat) (H+1);have wt:IntKind.u64.wrap ((H:Int)+1)=(t1:Int):=by rw[cS (by omega) (by omega)];omega
 rw[<-ht1] at hf;have aea:¬t1=0:=by omega
 have wf0:IntKind.u64.wrap (f:Int)=(f:Int):=cS (by omega) (by omega);have wf:IntKind.u64.wrap ((1000000000:Int) / (t1:Int))=(f:Int):=by rw[show((1000000000:Int) / (t1:Int))=((1000000000 / t1:Nat):Int) from rfl,<-hf];exact wf0
 have wf' :IntKind.u64.wrap ((1000000000:Int).tdiv (t1:Int))=(f:Int):=by rw[show((1000000000:Int).tdiv (t1:Int))=((1000000000 / t1:Nat):Int) from rfl,<-hf];exact wf0
 have hB1:¬(B.length:Int)=1:=by omega
 have hfI:(f:Int)<1000000000:=by omega
 have hl8:A.length<=100000000:=by omega
 have hl9:A.length<=1000000000:=by omega
 have aeb:B.length<=100000000:=by omega
 have hq9:q.length<=1000000000:=by omega
 have h8:8*(a.length:Int)<=281474976710656:=by omega
 have h9:(a.length:Int)<=281474976710656:=by omega
 have aec:(dig 1000000000 V).length<=100000000:=by have:(dig 1000000000 V).length<=(dig 1000000000 Z).length:=mono _ _ (by omega);omega
 have hf0:0<f:=hf1;by_cases hz:av%X=0
 .have afU:V=0:=by rw[hrv,hz,Nat.zero_mul]
  have adm:V<f:=by omega
  rw[if_pos hz];simp[aa,ahK,f148,ei,cq,bV,bu,hs0,hs1,hs6,hs7,hs8,hA,hB,<-S,<-R,<-ha,<-W,tA,tB,hc,lo,lt,lv,wp,wp2,wan,hpI,acd,acK,abP,hpB,ad',wt,aea,wf',hB1,hfI,hl8,hl9,aeb,hq9,h8,h9,hF,aec,hf0,hfB,adm,xH,Nat.testBit]
 .have adm:¬V<f:=by have:f<=av%X*f:=Nat.le_mul_of_pos_left f (by omega);omega
  rw[if_neg hz];simp[aa,ahK,f148,ei,cq,bV,bu,hs0,hs1,hs6,hs7,hs8,hA,hB,<-S,<-R,<-ha,<-W,tA,tB,hc,lo,lt,lv,wp,wp2,wan,hpI,acd,acK,abP,hpB,ad',wt,aea,wf',hB1,hfI,hl8,hl9,aeb,hq9,h8,h9,hF,aec,hf0,hfB,adm,hrf,xH,Nat.testBit];exact⟨rfl,rfl⟩
theorem QQ{B:List Nat}(Q:lok 1000000000 A=true)(R:lok 1000000000 B=true)(Y:A.length<=1000000)(tA:bB A=A)(tB:bB B=B)(hm:2<=B.length)(H:aG 1000000000 B<=aG 1000000000 A)(hx:agi .u64 M x A)(I:agi .u64 M y B):
  if aG 1000000000 A%aG 1000000000 B=0 then kO prog 148 [x,y] M (.tuple [.slice M.length 0 (dig 1000000000 (aG 1000000000 A / aG 1000000000 B)).length none,.y9]) (M++[.cells true 1 (iN .u64 (dig 1000000000 (aG 1000000000 A / aG 1000000000 B)))])
  else kO prog 148 [x,y] M (.tuple [.slice M.length 0 (dig 1000000000 (aG 1000000000 A / aG 1000000000 B)).length none,.slice (M.length+1) 0 (dig 1000000000 (aG 1000000000 A%aG 1000000000 B)).length none])
   (M++[.cells true 1 (iN .u64 (dig 1000000000 (aG 1000000000 A / aG 1000000000 B))),.cells true 1 (iN .u64 (dig 1000000000 (aG 1000000000 A%aG 1000000000 B)))]):=by
 obtain⟨X,W,_⟩:=fe (l:=B) (i:=B.length-1) (by omega);obtain⟨q,hq,h⟩:=GO A B X Q R Y tA tB hm W H;have:=(ah ae (al _) Jd (ao _) h).1;split
 .rename_i V
  rw[if_pos V] at this;simp only[afA.mem,Option.getD_none,List.cons_append,List.nil_append] at this;have S:=kO.ahj (m2:=[.cells false 1 (iN .u64 A),.cells false 1 (iN .u64 B),.cells true 1 (iN .u64 (bB q))]) this rfl (fun b s Z=>by
   match b with
   |0=>simp at Z;subst Z;exact⟨_,rfl,.inl rfl⟩
   |1=>simp at Z;subst Z;exact⟨_,rfl,.inl rfl⟩
   |2=>simp at Z;subst Z;exact⟨_,rfl,.row (fG _)⟩
   |b+3=>simp at Z)
  obtain⟨b,c,rfl,rfl,h3⟩:=kO.ag8 (new:=[.cells true 1 (iN .u64 (bB q))]) rfl S hx I;rw[hq] at h3;simpa [AV.ren,AV.agd,eg] using h3
 .rename_i V
  rw[if_neg V] at this;simp only[afA.mem,Option.getD_none,List.cons_append,List.nil_append] at this;have S:=kO.ahj (m2:=[.cells false 1 (iN .u64 A),.cells false 1 (iN .u64 B),.cells true 1 (iN .u64 (bB q)),.cells true 1 (iN .u64 (dig 1000000000 (aG 1000000000 A%aG 1000000000 B)))]) this rfl (fun b s Z=>by
   match b with
   |0=>simp at Z;subst Z;exact⟨_,rfl,.inl rfl⟩
   |1=>simp at Z;subst Z;exact⟨_,rfl,.inl rfl⟩
   |2=>simp at Z;subst Z;exact⟨_,rfl,.row (fG _)⟩
   |3=>simp at Z;subst Z;exact⟨_,rfl,.inl rfl⟩
   |b+4=>simp at Z)
  obtain⟨b,c,rfl,rfl,h3⟩:=kO.ag8 (new:=[.cells true 1 (iN .u64 (bB q)),.cells true 1 (iN .u64 (dig 1000000000 (aG 1000000000 A%aG 1000000000 B)))]) rfl S hx I;rw[hq] at h3;simpa [AV.ren,AV.agd,eg] using h3
noncomputable def cg:af3:=fun c Z M=>match c,Z with
 |.fn 148,[x,y]=>match cb .u64 M x,cb .u64 M y with
  |some A,some B=>if lok 1000000000 A=true/\lok 1000000000 B=true/\A.length<=1000000/\bB A=A/\bB B=B/\0<aG 1000000000 B then
    (if aG 1000000000 A<aG 1000000000 B then some ⟨.tuple [.y9,x],none,[]⟩
    else if 2<=B.length/\aG 1000000000 A%aG 1000000000 B=0 then some ⟨.tuple [.slice M.length 0 (dig 1000000000 (aG 1000000000 A / aG 1000000000 B)).length none,.y9],none,[.cells true 1 (iN .u64 (dig 1000000000 (aG 1000000000 A / aG 1000000000 B)))]⟩
    else some ⟨.tuple [.slice M.length 0 (dig 1000000000 (aG 1000000000 A / aG 1000000000 B)).length none,.slice (M.length+1) 0 (dig 1000000000 (aG 1000000000 A%aG 1000000000 B)).length none],none,[.cells true 1 (iN .u64 (dig 1000000000 (aG 1000000000 A / aG 1000000000 B))),.cells true 1 (iN .u64 (dig 1000000000 (aG 1000000000 A%aG 1000000000 B)))]⟩) else none
  |_,_=>none
 |c,Z=>cq c Z M
theorem Je:adM prog cg:=by
 refine cP fun c D M r h=>?_
 unfold cg at h;split at h
 .split at h
  .rename_i A B W V
   split at h
   .rename_i hc
    obtain⟨S,O,z,J,C,X⟩:=hc;split at h
    .rename_i G
     cases h;refine aC ?_;rw[List.append_nil];exact wM S O (by omega) J C G (cD W) (cD V)
    .rename_i G
     by_cases Z:2<=B.length
     .have:=QQ S O z J C Z (by omega) (cD W) (cD V)
      split at h
      .rename_i F
       rw[if_pos F.2] at this;cases h;exact aC this
      .rename_i F
       rw[if_neg (fun e=>F ⟨Z,e⟩)] at this;cases h;exact aC this
     .rw[if_neg (fun e=>Z e.1)] at h
      obtain⟨d,rfl⟩:∃d,B=[d]:=by
       match B,Z,X with
       | [],_,X=>simp[aG] at X
       | [d],_,_=>exact⟨d,rfl⟩
       |_::_::_,Z,_=>simp at Z
      have u:aG 1000000000 [d]=d:=by simp[aG]
      rw[u] at X G h;have m:d<1000000000:=by simpa [lok] using O
      cases h;exact aC (Ff X m S (by omega) J (by omega) (cD W) (cD V))
   .cases h
  .cases h
 .exact fK rl h
end Go.Proofs
