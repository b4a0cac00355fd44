/- See H38. -/
import Derived.Test.YthpgbelancmpjaaGreatDoorH35
set_option linter.all false
set_option maxRecDepth 100000
set_option maxHeartbeats 40000000
namespace Go.Eng
theorem bz.pad{P:Program}{f:FuncId}{args:List AV}{m H:Mem}{v:AV}(h:bz P f args m v H)(k:Nat):bz P f args m v (H++List.replicate k .y9):=by
 refine⟨h.1,fun base μ w Vs hG hH hV=>(h.2 base μ w Vs hG hH hV).mono ?_⟩;rintro e w' ⟨V,v',m',μ',rfl,q1,q2,q3,rfl,rfl⟩;have U:m'.length<=(m' ++List.replicate k afz.y9).length:=by rw[Nm];omega
 have S:∀(b:Nat) s,(m' ++List.replicate k afz.y9)[b]? =some s->m'[b]? =some s\/s=.y9:=fun b s Z=>by
  by_cases R:b<m'.length
  .rw[GE R] at Z;exact .inl Z
  .rw[Ns (by omega)] at Z
   exact .inr (List.eq_of_mem_replicate (Lo Z))
 have X:∀{b:Nat},eH (m' ++List.replicate k afz.y9) b->eH m' b:=fun {b} ⟨s,R,h2⟩=>by
  rcases S b s R with h | rfl
  .exact⟨s,h,h2⟩
  .cases h2
 refine⟨V,v',_,μ',rfl,q1.mono U (fun _ _=>rfl),⟨q2.afF,fun b s Z=>?_,fun b N M Z Q K O=>?_⟩,⟨Y2 q3.len U,q3.agree,q3.os,q3.tape,q3.output,q3.size,q3.frame,fun b Z=>q3.owner b (X Z),q3.drawn⟩,rfl,rfl⟩
 .rcases S b s Z with h | rfl
  .exact(q2.slot b s h).mono U (fun _ _=>rfl) (fun _=>rfl)
  .trivial
 .rcases S N M Q with h | rfl
  .exact q2.sep b N M (X Z) h K O
  .exact absurd rfl K
end Go.Eng
namespace Go.Proofs
open Go.Eng
open Tryz
def Zp(X:Nat->afz):Prop:=∀i,qA (X i)=true/\∀k,(X i).aft (fun b=>decide (b<11+k))=true
def Ud(X:Nat->afz):Mem:=[X 0,X 1,X 2,X 3,X 4]
theorem XW{x:afv}{n:Nat}:∃X k,Zp X/\Vt 6 x n++List.replicate k .y9=Ud X:=by
 have h3:=fC x;have Z:qA afz.y9=true/\∀k:Nat,afz.aft (fun b=>decide (b<11+k)) .y9=true:=⟨rfl,fun _=>rfl⟩
 have row:∀{es:Nat}{C:List AV},AV.afA C=true->qA (.cells true es C)=true/\∀k:Nat,afz.aft (fun b=>decide (b<11+k)) (.cells true es C)=true:=fun h=>⟨rfl,fun k=>iw h _⟩
 have S:∀L:List Int,AV.afA (qC (qH L))=true:=fun L=>by rw[Xo];exact fY _
 have R:∀{b n:Nat},b<11->∀k:Nat,AV.aft (fun b=>decide (b<11+k)) (.slice b 0 n none)=true:=fun h k=>by simp only[AV.aft,Cs];omega
 have U:∀a b c d e:afz,(qA a=true/\∀k:Nat,a.aft (fun b=>decide (b<11+k))=true)->(qA b=true/\∀k:Nat,b.aft (fun b=>decide (b<11+k))=true)->(qA c=true/\∀k:Nat,c.aft (fun b=>decide (b<11+k))=true)->(qA d=true/\∀k:Nat,d.aft (fun b=>decide (b<11+k))=true)->(qA e=true/\∀k:Nat,e.aft (fun b=>decide (b<11+k))=true)->
   ∃X,Zp X/\[a,b,c,d,e]=Ud X:=fun a b c d e O N M K G=>⟨fun i=>[a,b,c,d].getD i e,fun i=>by
  match i with
  |0=>exact O
  |1=>exact N
  |2=>exact M
  |3=>exact K
  |i+4=>exact G,rfl⟩
 have V:∀{Q:Mem}(k:Nat) {a b c d e:afz},Q++List.replicate k .y9=[a,b,c,d,e]->(∃X,Zp X/\[a,b,c,d,e]=Ud X)->∃X k,Zp X/\Q++List.replicate k .y9=Ud X:=fun k _ _ _ _ _ e ⟨X,h1,h2⟩=>⟨X,k,h1,e.trans h2⟩
 unfold Vt;rcases w8 x.kind with h | h | h | h | h
 .simp only[h,if_true]
  rcases h3 with h3 | h3 | h3
  .rw[h3]
   exact V 3 rfl (U _ _ _ _ _ (row (S _)) (row (fY _)) Z Z Z)
  .rw[h3]
   exact V 1 rfl (U _ _ _ _ _ (row (S _)) (row (fY _)) ⟨rfl,fun k=>by simp only[afz.aft,AV.afD,R (b:=9) (by omega) k,Bool.and_true]⟩ (row (S _)) Z)
  .rw[h3]
   exact V 0 rfl (U _ _ _ _ _ (row (S _)) (row (fY _)) ⟨rfl,fun k=>by simp only[afz.aft,AV.afD,R (b:=9) (by omega) k,R (b:=10) (by omega) k,Bool.and_true]⟩ (row (S _)) (row (S _)))
 .simp only[h,Nat.one_ne_zero,if_false,show¬(1:Nat)=2 by decide]
  exact V 5 rfl (U _ _ _ _ _ Z Z Z Z Z)
 .simp only[h,show¬(2:Nat)=0 by decide,if_false,if_true]
  exact V 4 rfl (U _ _ _ _ _ (row (wZ _)) Z Z Z Z)
 .simp only[h,show¬(3:Nat)=0 by decide,if_false,show¬(3:Nat)=2 by decide]
  exact V 5 rfl (U _ _ _ _ _ Z Z Z Z Z)
 .simp only[h,show¬(4:Nat)=0 by decide,if_false,show¬(4:Nat)=2 by decide]
  exact V 5 rfl (U _ _ _ _ _ Z Z Z Z Z)
variable{a:List AV}{f:FuncId}
theorem OK{g:FuncId}{b:List AV}{p:Mem->Prop}{r:afw}{m:Mem}{L:List (FuncId×List AV×(Mem->Prop)×afw)}(h:b≠a):ie ((f,a,p,r)::L) (.fn g) b m=ie L (.fn g) b m:=by rw[ie,if_neg (fun e=>h e.2.1)]
def qN(N:Mem)(f:FuncId)(a:List AV)(v:AV):FuncId×List AV×(Mem->Prop)×afw:=(f,a,(fun M=>∃Z,M=N++Z),⟨v,none,[]⟩)
def qR(r:Int)(N:Mem)(f:FuncId)(a:List AV)(v:AV):FuncId×List AV×(Mem->Prop)×afw:=(f,a,(fun M=>r≠0/\∃Z,M=N++Z),⟨v,none,[]⟩)
theorem AD{P:Program}{N:Mem}{v:AV}(h:∀Z,bz P f a (N++Z) v (N++Z)):∀M,(∃Z,M=N++Z)->oQ P (.fn f) a M ⟨v,none,[]⟩:=fun M ⟨Z,hM⟩=>by subst hM;exact cC (h Z)
def mB(s:afI)(C:List AV)(w i:Int)(nm q:List UInt8):Mem:=[.cells true 0 [.int .u8 s.kind,.int .i8 s.sx,.int .i8 s.sy,.bool s.half],.cells true 0 C,.cells true 0 [.int .u8 w,.int .i64 i,.str nm,.str q],.cells true 2 (pC s.P),.cells true 3 (tC s.T),.cells true 0 [.slice 3 0 s.P.length none,.slice 4 0 s.T.length none]]
variable{O:afu}{i w:Int}{nm q:List UInt8}
section
variable (hO:afs prog O)(s:afI)
include hO s
theorem IE(C H:List AV)(J:C.length=34)(I:AV.afA C=true)(W:H.length=32)(g1:H.all AV.adM=true){X:Nat->afz}(e1:∀M,O (.fn 7) [] M=some ⟨.bool true,none,[]⟩)(e2:∀M:Mem,M.length=3->O (.fn 8) [.agg [.int .u8 s.kind,.int .i8 s.sx,.int .i8 s.sy,.bool s.half]] M=some ⟨.agg [.slice 3 0 s.P.length none,.slice 4 0 s.T.length none],none,[.cells true 2 (pC s.P),.cells true 3 (tC s.T)]⟩)(e3:O (.fn 9) [.agg [.slice 3 0 s.P.length none,.slice 4 0 s.T.length none],.agg C,.str [110]] (mB s C w i nm q)=some ⟨.agg H,none,[X 0,X 1,X 2,X 3,X 4]⟩)(Y:nm.length<=40/\q.length<=40)(hT:∀env,(aa env 7=.ptr 5 0/\aa env 8=.ptr 11 0/\aa env 5=.ptr 2 0)->bV O 1100 nP (mB s C w i nm q++[X 0,X 1,X 2,X 3,X 4,.cells true 0 H]) env):
  bz prog 6 [s.av,.agg C,.agg [.int .u8 w,.int .i64 i,.str nm,.str q]] [] (.bool true) []:=by
 simp only[mB,List.cons_append,List.nil_append] at e3 hT;have Q:bq prog 6=some f6:=by kernel_rfl
 have r0:=eD I;have N:=iw I;have t34:C.take 34=C:=An (by omega);have t32:H.take 32=H:=An (by omega);have V:=ID;obtain⟨F,U⟩:=dY (β:=Env×Mem×Bool) (fun env d h=>hT env h d);have R:=fun env d h=>(U env d h).1
 have K:=fun env d h=>(U env d h).2
 clear U hT;obtain⟨T,Z⟩:=xE nP;simp only[<-Z] at R;rw[<-Z] at V;have G:¬(40:Int)<(nm.length:Int):=by omega
 have D:¬(40:Int)<(q.length:Int):=by omega
 have S:∃r,ao (aL prog) (fun _=>[13,13,13]) (bq prog) O 1100 6 [s.av,.agg C,.agg [.int .u8 w,.int .i64 i,.str nm,.str q]] []=some (.bool true,[]++r):=by unfold ao;rw[Q];dsimp only;rw[V];dsimp only;clear Z V hO;simp (maxSteps:=1000000) [-AV.adM,-AV.known,-List.all_eq_true,-afz.aft,vS,rS,aD,ag,aM,f6,sqA,afI.av,e1,e2,e3,J,r0,N,t34,t32,W,g1,G,D,R,K]
 obtain⟨r,S⟩:=S;exact bz.forget rfl (aX ak (aI _) hO (aQ _) S)
theorem IF(C:List AV)(I:C.length=34)(H:AV.afA C=true)(e1:∀M,O (.fn 7) [] M=some ⟨.bool true,none,[]⟩)(J:¬(nm.length<=40/\q.length<=40)):
  bz prog 6 [s.av,.agg C,.agg [.int .u8 w,.int .i64 i,.str nm,.str q]] [] (.bool true) []:=by
 have R:bq prog 6=some f6:=by kernel_rfl
 have r0:=eD H;have U:=iw H;have t34:C.take 34=C:=An (by omega);have X:=ID;obtain⟨T,Z⟩:=xE nP;rw[<-Z] at X;have V:∃r,ao (aL prog) (fun _=>[13,13,13]) (bq prog) O 1100 6 [s.av,.agg C,.agg [.int .u8 w,.int .i64 i,.str nm,.str q]] []=some (.bool true,[]++r):=by
  unfold ao;rw[R];dsimp only;rw[X];dsimp only;clear Z X hO;rcases (show (40:Int)<(nm.length:Int)∨(¬(40:Int)<(nm.length:Int)/\(40:Int)<(q.length:Int)) by omega) with S|S<;>simp (maxSteps:=1000000) [-AV.adM,-AV.known,-List.all_eq_true,-afz.aft,vS,rS,aD,ag,aM,f6,sqA,afI.av,e1,I,r0,U,t34,S]
 obtain⟨r,V⟩:=V;exact bz.forget rfl (aX ak (aI _) hO (aQ _) V)
end
theorem xJ(s:afI)(hs:s.Ok)(x:afv)(hx:x.Ok)(i:Int)(nm q:List UInt8)(hw:0<=w):bz prog 6 [s.av,.agg x.cells,.agg [.int .u8 w,.int .i64 i,.str nm,.str q]] [] (.bool true) []:=by
 by_cases hn:nm.length<=40/\q.length<=40
 rotate_left
 .refine IF (O:=ie [(7,[],(fun _=>True),⟨.bool true,none,[]⟩)]) (wU fun z I M _=>?_) s _ (afv.afE hx) x.closed (fun M=>dn trivial) hn
  simp only[lM] at I;subst I;exact cC (Bl M)
 obtain⟨p1,p2⟩:=FL s;obtain⟨C,u⟩:=xE x.cells;obtain⟨Y,R⟩:=xE (α:=Mem) (mB s C w i nm q);have H:=It x hx s.P.length s.T.length p1 p2 Y 3 4 (by rw[R];show 3<6;omega) (by rw[R];show 4<6;omega);have B:=XK x s.P.length p1 Y;have l5:Y.length=6:=by rw[R];rfl
 rw[l5] at H B;obtain⟨X,k,hX,e⟩:=XW (x:=x) (n:=s.P.length);have H:=H.pad k;have B:=B.more (List.replicate k .y9);rw[S2,e] at H B;have B:=B.more [.cells true 0 (Xc 6 x s.P.length)];obtain⟨G,hev⟩:=xE (Xc 6 x s.P.length);rw[<-hev] at H B;obtain⟨V,F⟩:=xE (Y++Ud X++[.cells true 0 G]);rw[<-F] at B;have l12:V.length=12:=by rw[F,R];rfl
 have m3:V[3]? =some (.cells true 2 (pC s.P)):=by rw[F,R];rfl
 have m4:V[4]? =some (.cells true 3 (tC s.T)):=by rw[F,R];rfl
 have m5:V[5]? =some (.cells true 0 [.slice 3 0 s.P.length none,.slice 4 0 s.T.length none]):=by rw[F,R];rfl
 have m11:V[11]? =some (.cells true 0 G):=by rw[F,R];rfl
 have m2:V[2]? =some (.cells true 0 [.int .u8 w,.int .i64 i,.str nm,.str q]):=by rw[F,R];rfl
 obtain⟨y,Q,c',r,g,hS,hW,D⟩:=Nv (i:=i) hw hn.1 hn.2 ⟨_,m3⟩ ⟨_,m4⟩ B;obtain⟨r,D,hr0⟩:=D.r0;obtain⟨g,D,hg1⟩:=D.g1;obtain⟨N,W⟩:=xE (V++(y++[.cells true 0 Q]));have o:EvW N Q c' :=by rw[W,<-S2];exact hW.more _
 have J:agO N G (cSk x s.P.length):=by rw[W];exact B.more _
 have S:∀{f a v},(∀Z:Mem,bz prog f a (V++y++Z) v (V++y++Z))->∀Z:Mem,bz prog f a (N++Z) v (N++Z):=fun h Z=>by have:=h ([.cells true 0 Q]++Z);rw[W];simpa only[S2] using this
 obtain⟨aec,v,hU,hTx⟩:=Iw o;have hMk:bz prog 9 [RX s 3 4,.agg C,.str [110]] Y (.agg G) (Y++[X 0,X 1,X 2,X 3,X 4]):=by rw[u];exact H
 obtain⟨L,K⟩:=xE (α:=List (FuncId×List AV×(Mem->Prop)×afw)) [(7,[],(fun _=>True),⟨.bool true,none,[]⟩),(8,[s.av],(fun M=>M.length=3),⟨RX s 3 4,none,[.cells true 2 (pC s.P),.cells true 3 (tC s.T)]⟩),(9,[RX s 3 4,.agg C,.str [110]],(fun M=>M=Y),⟨.agg G,none,[X 0,X 1,X 2,X 3,X 4]⟩),(23,[.agg G,.agg [.int .u8 w,.int .i64 i,.str nm,.str q]],(fun M=>M=V),⟨.agg Q,none,y⟩),qN N 24 [RX s 3 4,.agg Q] (.int .i64 r),qN N 25 [RX s 3 4,.agg Q] (.int .i64 r),qN N 25 [RX s 3 4,.agg G] (.int .i64 0),qN N 26 [.agg G,.agg Q] (.bool g),qN N 26 [.agg Q,.agg Q] (.bool true),qN N 27 [.agg G,.agg Q] (.bool g),qN N 18 [RX s 3 4,.agg Q,.agg [.str [],.str [],.str []]] (.tuple [.int .i64 0,.int .i64 (Mo r)]),qN N 21 [RX s 3 4,.agg Q,.agg [.str [],.str [],.str []]] (.tuple [.agg [.str [],.str [],.str []],.int .i64 (Mo r)]),qN N 20 [RX s 3 4,.agg Q,.agg [.str [],.str [],.str []]] (.tuple [.agg [.str [],.str [],.str []],.int .i64 (Mo r)]),qR r N 19 [RX s 3 4,.agg Q,.int .i64 0] (.tuple [.str [],.bool false,.int .i64 r]),qR r N 29 [RX s 3 4,.agg Q,.int .i64 0] (.tuple [.agg z12,.int .i64 r]),qR r N 11 [RX s 3 4,.agg Q,.int .i64 0] (.tuple [.kO,.int .i64 r]),(28,[.agg Q],(fun M=>M=N),⟨v,none,aec⟩)];have hO:afs prog (ie L):=wU fun z I M U=>by
  rw[K] at I;simp only[lM] at I;rcases I with rfl | rfl | rfl | rfl | rfl | rfl | rfl | rfl | rfl | rfl | rfl | rfl | rfl | rfl | rfl | rfl | rfl
  .exact cC (Bl M)
  .have U:M.length=3:=U
   have:=ME s hs M;rw[U] at this;exact aA this
  .have U:M=_:=U
   rw[U];exact aA hMk
  .have U:M=_:=U
   rw[U];exact aA hS
  .exact AD (S D.ahP) M U
  .exact AD (S D.chk) M U
  .exact AD (S D.ahx) M U
  .exact AD (S D.eq) M U
  .exact AD (S D.self) M U
  .exact AD (S D.same) M U
  .exact AD (S D.num) M U
  .exact AD (S D.ahA) M U
  .exact AD (S D.doo) M U
  .exact AD (S (D.ends U.1)) M U.2
  .exact AD (S (D.back U.1)) M U.2
  .exact AD (S (D.agP U.1)) M U.2
  .have U:M=_:=U
   rw[U];exact aA hU
 unfold qN qR at K;have m:∃Z,N=N++Z:=⟨[],(List.append_nil N).symm⟩
 have f0:∀M,ie L (.fn 7) [] M=some ⟨.bool true,none,[]⟩:=fun M=>by rw[K];exact dn trivial
 have f1:∀M:Mem,M.length=3->ie L (.fn 8) [s.av] M=some ⟨RX s 3 4,none,[.cells true 2 (pC s.P),.cells true 3 (tC s.T)]⟩:=fun M h=>by rw[K,bE (.inl (by decide))];exact dn h
 have f2:ie L (.fn 9) [RX s 3 4,.agg C,.str [110]] (mB s C w i nm q)=some ⟨.agg G,none,[X 0,X 1,X 2,X 3,X 4]⟩:=by rw[K,bE (.inl (by decide)),bE (.inl (by decide))];exact dn R.symm
 have f3:ie L (.fn 23) [.agg G,.agg [.int .u8 w,.int .i64 i,.str nm,.str q]] V=some ⟨.agg Q,none,y⟩:=by rw[K,bE (.inl (by decide)),bE (.inl (by decide)),bE (.inl (by decide))];exact dn rfl
 have hF:EcF (ie L) N (.slice 3 0 s.P.length none) (.slice 4 0 s.T.length none) G Q r g:=by
  refine⟨?_,?_,?_,?_,?_,?_,fun Z=>?_,fun Z=>?_,fun Z=>?_,fun h0 Z=>?_,fun h0 Z=>?_,fun h0 Z=>?_⟩
  .rw[K,cK (by simp)];exact dn m
  .rw[K,cK (by simp),bE (.inl (by decide))];exact dn m
  .by_cases h:Q =G
   .rw[<-h,K]
    rw[hr0 h];rw[cK (by simp),bE (.inl (by decide))];exact dn m
   .rw[K,cK (by simp),bE (.inl (by decide)),OK (fun hh=>h (by simp only[List.cons.injEq,AV.agg.injEq,true_and,and_true] at hh;exact hh.2.symm))];exact dn m
  .rw[K,cK (by simp),bE (.inl (by decide)),bE (.inl (by decide)),bE (.inl (by decide))];exact dn m
  .rw[K,cK (by simp),cK (by simp),bE (.inl (by decide))];exact dn m
  .by_cases h:Q =G
   .rw[K]
    rw[hg1 h,<-h];rw[cK (by simp),bE (.inl (by decide)),bE (.inl (by decide)),bE (.inl (by decide))];exact dn m
   .rw[K,cK (by simp),bE (.inl (by decide)),bE (.inl (by decide)),bE (.inl (by decide)),OK (fun hh=>h (by simp only[List.cons.injEq,AV.agg.injEq,true_and,and_true] at hh;exact hh))];exact dn m
  .rw[K,cK (by simp),cK (by simp),bE (.inl (by decide)),bE (.inl (by decide))];exact dn ⟨Z,rfl⟩
  .rw[K,cK (by simp),cK (by simp),bE (.inl (by decide)),bE (.inl (by decide)),bE (.inl (by decide))];exact dn ⟨Z,rfl⟩
  .rw[K,cK (by simp),cK (by simp),cK (by simp)];exact dn ⟨Z,rfl⟩
  .rw[K,cK (by simp),cK (by simp),cK (by simp),bE (.inl (by decide))];exact dn ⟨h0,Z,rfl⟩
  .rw[K,cK (by simp),cK (by simp),cK (by simp),bE (.inl (by decide)),bE (.inl (by decide))];exact dn ⟨h0,Z,rfl⟩
  .rw[K,cK (by simp),cK (by simp),cK (by simp),bE (.inl (by decide)),bE (.inl (by decide)),bE (.inl (by decide))];exact dn ⟨h0,Z,rfl⟩
 have hUn:ie L (.fn 28) [.agg Q] N=some ⟨v,none,aec⟩:=by rw[K,cK (by simp),cK (by simp),cK (by simp),cK (by simp)];exact dn rfl
 rw[<-u];have afe:V=mB s C w i nm q++[X 0,X 1,X 2,X 3,X 4,.cells true 0 G]:=by rw[F,R];rfl
 refine IE hO s C G (by rw[u];exact afv.afE hx) (by rw[u];exact x.closed) B.l32 (List.all_eq_true.2 B.cok) f0 f1 f2 hn ?_;rw[<-afe];refine Si (ea:=G) o.l32 o.cok B.l32 m2 m11 f3 ?_;rw[<-W];have up:∀{j:Nat}{t:afz},V[j]? =some t->N[j]? =some t:=fun h=>by rw[W,GE (gL h)];exact h
 have lN:12<=N.length:=by rw[W,Nm,l12];omega
 exact IH rfl rfl ⟨rfl,rfl⟩ ⟨rfl,rfl⟩ (fun k=>⟨by simp only[AV.aft,Cs];omega,by simp only[AV.aft,Cs];omega⟩) J.l32 (List.all_eq_true.2 J.cok) (fun k=>J.refs k) o (up m5) (up m11) (by rw[W,jz,Ns (Es _),Nat.sub_self];rfl) hF hUn hTx
end Go.Proofs
