/- See H38. -/
import Derived.Test.YthpgbelancmpjaaGreatDoorH14
set_option linter.all false
set_option maxRecDepth 100000
set_option maxHeartbeats 40000000
namespace Go.Proofs
open Go.Eng
open Tryz
def ei(mn:Bool)(v:Nat):List UInt8:=if v=0 then [48] else if mn then 45::aj v else aj v
theorem gQ(z:Int):ei (decide (z<0)) z.natAbs=bH z:=by
 unfold ei;by_cases Z:z=0
 .subst Z;rfl
 .rw[if_neg (by omega)]
  by_cases h:z<0
  .rw[decide_eq_true h,if_pos rfl]
   have:=kL (n:= -z) (by omega);rw[Int.neg_neg] at this;rw[this,gj (by omega),Int.natAbs_neg]
  .rw[decide_eq_false h,if_neg (by simp),gj (by omega)]
variable{asg body:Code}{ps:Array Tmp}
section
variable (v:Nat)(mn:Bool)(hv:0<v)(hl:(dig 1000000000 v).length<=1000000)(hb:eL f212=[(ps,asg,body)])
include v mn hv hl hb
theorem xR:
  ∃O:afu,afs prog O/\∀Z,(aa Z 1=.ptr 1 0/\aa Z 3=.ptr 2 0/\Z.flatMap (fun e=>e.2.refs 5)=[])->
   O (.fn 279) [.yield 4,.ptr 3 0] [.cells false 1 (iN .u64 (dig 1000000000 v)),.cells true 0 [.bool mn,.slice 0 0 (dig 1000000000 v).length none],.cells true aT [.afL,.kO],.cells true 0 [.slice 0 0 (dig 1000000000 v).length none],.loop ⟨.ready,none,Z,34,ps,asg,body⟩]=some ⟨.tuple [],some [.cells false 1 (iN .u64 (dig 1000000000 v)),.cells true 0 [.bool mn,.slice 0 0 (dig 1000000000 v).length none],.cells true aT [.ptr 2 0,.slice 5 0 (aj v).length none],.cells true 0 [.slice 0 0 (dig 1000000000 v).length none],.loop ⟨.ready,none,Z,34,ps,asg,body⟩],[.cells true 6001 (iB (aj v))]⟩:=by
 refine jF (ι:=Env) (fun Z=>aa Z 1=.ptr 1 0/\aa Z 3=.ptr 2 0/\Z.flatMap (fun e=>e.2.refs 5)=[]) (fun _=>.fn 279) (fun _=>[.yield 4,.ptr 3 0]) (fun Z=>[.cells false 1 (iN .u64 (dig 1000000000 v)),.cells true 0 [.bool mn,.slice 0 0 (dig 1000000000 v).length none],.cells true aT [.afL,.kO],.cells true 0 [.slice 0 0 (dig 1000000000 v).length none],.loop ⟨.ready,none,Z,34,ps,asg,body⟩]) (fun Z=>⟨.tuple [],some [.cells false 1 (iN .u64 (dig 1000000000 v)),.cells true 0 [.bool mn,.slice 0 0 (dig 1000000000 v).length none],.cells true aT [.ptr 2 0,.slice 5 0 (aj v).length none],.cells true 0 [.slice 0 0 (dig 1000000000 v).length none],.loop ⟨.ready,none,Z,34,ps,asg,body⟩],[.cells true 6001 (iB (aj v))]⟩) ?_ ?_
 .rintro Z ⟨h1,h3,he⟩
  refine⟨?_,fun q X=>by cases X;rfl⟩;exact Ac v mn hv hl hb Z h1 h3 he
 .intro i j _ _ _ _ h
  simp only[List.cons.injEq,afz.loop.injEq,agz.mk.injEq,and_true,true_and] at h;rw[h]
theorem vV:
  ∃O:afu,afs prog O/\∀Z,(aa Z 1=.ptr 1 0/\aa Z 3=.ptr 2 0/\Z.flatMap (fun e=>e.2.refs 7)=[])->
   O (.fn 279) [.yield 6,.ptr 5 0] [.cells false 1 (iN .u64 (dig 1000000000 v)),.cells true 0 [.bool mn,.slice 0 0 (dig 1000000000 v).length none],.cells true aT [.ptr 2 0,.slice 4 0 1 none],.cells true 1 (iB [45]),.cells true 6001 (iB [45]),.cells true 0 [.slice 0 0 (dig 1000000000 v).length none],.loop ⟨.ready,none,Z,34,ps,asg,body⟩]=some ⟨.tuple [],some [.cells false 1 (iN .u64 (dig 1000000000 v)),.cells true 0 [.bool mn,.slice 0 0 (dig 1000000000 v).length none],.cells true aT [.ptr 2 0,.slice 7 0 (45::aj v).length none],.cells true 1 (iB [45]),.y9,.cells true 0 [.slice 0 0 (dig 1000000000 v).length none],.loop ⟨.ready,none,Z,34,ps,asg,body⟩],[.cells true 6001 (iB (45::aj v))]⟩:=by
 refine jF (ι:=Env) (fun Z=>aa Z 1=.ptr 1 0/\aa Z 3=.ptr 2 0/\Z.flatMap (fun e=>e.2.refs 7)=[]) (fun _=>.fn 279) (fun _=>[.yield 6,.ptr 5 0]) (fun Z=>[.cells false 1 (iN .u64 (dig 1000000000 v)),.cells true 0 [.bool mn,.slice 0 0 (dig 1000000000 v).length none],.cells true aT [.ptr 2 0,.slice 4 0 1 none],.cells true 1 (iB [45]),.cells true 6001 (iB [45]),.cells true 0 [.slice 0 0 (dig 1000000000 v).length none],.loop ⟨.ready,none,Z,34,ps,asg,body⟩]) (fun Z=>⟨.tuple [],some [.cells false 1 (iN .u64 (dig 1000000000 v)),.cells true 0 [.bool mn,.slice 0 0 (dig 1000000000 v).length none],.cells true aT [.ptr 2 0,.slice 7 0 (45::aj v).length none],.cells true 1 (iB [45]),.y9,.cells true 0 [.slice 0 0 (dig 1000000000 v).length none],.loop ⟨.ready,none,Z,34,ps,asg,body⟩],[.cells true 6001 (iB (45::aj v))]⟩) ?_ ?_
 .rintro Z ⟨h1,h3,he⟩
  refine⟨?_,fun q X=>by cases X;rfl⟩;exact xS v mn hv hl hb Z h1 h3 he
 .intro i j _ _ _ _ h
  simp only[List.cons.injEq,afz.loop.injEq,agz.mk.injEq,and_true,true_and] at h;rw[h]
end
theorem ag6:bq prog 212=some f212:=by kernel_rfl
theorem Ea(v:Nat)(mn:Bool)(H:0<v)(I:(dig 1000000000 v).length<=1000000):
  ∃O:afu,afs prog O/\ad (aL prog) (fun _=>[]) (bq prog) ((ca.or gw).or O) 1 212 [.agg [.bool mn,.slice 0 0 (dig 1000000000 v).length none]] [.cells false 1 (iN .u64 (dig 1000000000 v))]=
   some ⟨.str (if mn then 45::aj v else aj v),some [.cells false 1 (iN .u64 (dig 1000000000 v))],[]⟩:=by
 obtain⟨ps,asg,body,S⟩:∃ps asg body,eL f212=[(ps,asg,body)]:=⟨_,_,_,rfl⟩
 have R:dig 1000000000 v≠[]:=by rw[ne_eq,fh (by omega)];omega
 have D:(aj v).length<=90000000:=by
  have N:=gN (cc (B:=1000000000) (by omega) v);rw[bN (by omega)] at N;have C:(1000000000:Nat) ^ (dig 1000000000 v).length=10 ^ (9*(dig 1000000000 v).length):=by rw[Nat.pow_mul]
  rw[C] at N;have h3:=List.length_pos_iff.2 R;have y:=ba (by omega) N;omega
 have Q:=jC v;cases mn with
 |false=>
  obtain⟨O,M,Z⟩:=xR v false H I S;refine⟨O,M,?_⟩;obtain⟨A,V⟩:=xE (dig 1000000000 v);obtain⟨t,X⟩:=xE (aj v);rw[<-V] at R;rw[<-V,<-X] at Z;rw[<-V];rw[<-X] at D Q;simp only[Bool.false_eq_true,if_false,<-X];have U:¬A.length=0:=fun e=>R (GT e)
  have K:t.length<=100000000:=by omega
  simp[eL,fX,f212] at S;obtain⟨rfl,rfl,rfl⟩:=S;simp[ad,ag6,f212,afu.or,ca,cE,cH,ct,gw,ai,bQ,an,U,vi,Z,zn,kI,K,Q]
 |true=>
  obtain⟨O,M,Z⟩:=vV v true H I S;refine⟨O,M,?_⟩;obtain⟨A,V⟩:=xE (dig 1000000000 v);obtain⟨t,X⟩:=xE (45::aj v);have G :t.length<=100000000:=by rw[X,List.length_cons];omega
  have F :t≠[]:=by rw[X];simp
  rw[<-V] at R;rw[<-V,<-X] at Z;rw[<-V];simp only[if_true,<-X];have U:¬A.length=0:=fun e=>R (GT e)
  simp[eL,fX,f212] at S;obtain⟨rfl,rfl,rfl⟩:=S;simp[ad,ag6,f212,afu.or,ca,cE,cH,ct,gw,ai,bQ,an,U,vi,Z,zn,kI,G,F]
theorem Bu(mn:Bool):ad (aL prog) (fun _=>[]) (bq prog) bC 1 212 [.agg [.bool mn,.slice 0 0 0 none]] [.cells false 1 []]=some ⟨.str [48],none,[]⟩:=by simp[ad,ag6,f212]
theorem DS(mn:Bool)(M:Mem):bz prog 212 [.agg [.bool mn,.kO]] M (.str [48]) M:=by refine az (ar _) ?_ M;simp[ad,ag6,f212]
variable{A:List Nat}
theorem HP{M:Mem}{x:AV}(mn:Bool)(H:lok 1000000000 A=true)(tA:bd A=A)(I:A.length<=1000000)(hx:afO .u64 M x A):
  bz prog 212 [.agg [.bool mn,x]] M (.str (ei mn (aq 1000000000 A))) M:=by
 obtain⟨b,o,Q,rfl,X,U⟩:=hx;have S:=gL X;have small:bz prog 212 [.agg [.bool mn,.slice 0 0 A.length none]] [.cells false 1 (iN .u64 A)] (.str (ei mn (aq 1000000000 A))) ([.cells false 1 (iN .u64 A)]++[]):=by
  by_cases V:aq 1000000000 A=0
  .have e:A=[]:=by have:=mV (by omega) H tA;rw[V,dX] at this;exact this.symm
   subst e;have:=(aB ak (aI _) (ar _) (aQ _) (Bu mn)).1;simpa [afw.mem,ei,aq] using this
  .have e:=mV (by omega) H tA
   obtain⟨O,R,h⟩:=Ea (aq 1000000000 A) mn (by omega) (by rw[e];exact I);rw[e] at h;have:=(aB ak (aI _) ((qV.or yU).or R) (aQ _) h).1;simpa [afw.mem,ei,V] using this
 have:=bz.frame (M:=M) [b] (m:=[.cells false 1 (iN .u64 A)]) rfl (by simpa using S) (by simp) (fun i s Z=>by
  cases i with
  |zero=>simp at Z;subst Z;exact .row X U
  |succ i=>simp at Z) rfl small
 simpa [AV.afR,AV.ren,back] using this
noncomputable def cI:afu:=fun c Z M=>match c,Z with
 |.fn 212,[.agg [.bool mn,.kO]]=>some ⟨.str (ei mn 0),none,[]⟩
 |.fn 212,[.agg [.bool mn,x]]=>match bl .u64 M x with
  |some A=>if lok 1000000000 A=true/\bd A=A/\A.length<=1000000 then some ⟨.str (ei mn (aq 1000000000 A)),none,[]⟩ else none
  |none=>none
 |.fn 210,[.str s]=>match im s with
  |some z=>if (aj z.natAbs).length<=1000000 then some ⟨.agg [.bool (decide (z<0)),.slice M.length 0 (dig 1000000000 z.natAbs).length none],none,[.cells true 1 (iN .u64 (dig 1000000000 z.natAbs))]⟩ else none
  |none=>none
 |c,Z=>ca c Z M
theorem IA:afs prog cI:=by
 refine cG fun c Z M r h=>?_
 unfold cI at h;split at h
 .cases h
  refine aA ?_;rw[List.append_nil];exact DS _ M
 .split at h
  .rename_i X
   split at h
   .rename_i V
    obtain⟨U,S,R⟩:=V;cases h;refine aA ?_;rw[List.append_nil];exact HP _ U S R (br X)
   .cases h
  .cases h
 .split at h
  .rename_i Q
   split at h
   .rename_i O
    cases h;rw[bK Q];exact aA (MM _ O M)
   .cases h
  .cases h
 .exact ee qV h
theorem dr(n:Nat):(dig 1000000000 n).length<=(aj n).length:=by
 obtain⟨X,Z,U⟩:=lW _ (aj n) (Es _) (dM _);rw[dP] at Z;have V:bd (iH (aj n))=dig 1000000000 n:=by rw[<-dW (by omega) X,Z]
 have:=dw (iH (aj n));rw[V] at this;omega
variable{a b k:Nat}
section
variable (ha:(aj a).length<=k)(hb:(aj b).length<=k)
include ha hb
theorem jB:(aj (a+b)).length<=k+1:=by have Z:=cf a;have X:=cf b;have h3:10 ^ (aj a).length<=10 ^ k:=L9 (by omega) ha;have V:10 ^ (aj b).length<=10 ^ k:=L9 (by omega) hb;refine ba (by omega) ?_;rw[Nat.pow_succ];omega
theorem dL:(aj (a*b)).length<=2*k:=by have Z:=cf a;have X:=cf b;have h3:10 ^ (aj a).length<=10 ^ k:=L9 (by omega) ha;have V:10 ^ (aj b).length<=10 ^ k:=L9 (by omega) hb;have:=mZ a;exact ba (by omega) (Rs (by omega) (by omega))
end
theorem bI(h:a<=b):(aj a).length<=(aj b).length:=by have:=cf b;exact ba (mZ b) (by omega)
theorem LL(n:Int):(aj n.natAbs).length<=(bH n).length:=by
 cases n with
 |ofNat u=>exact Es _
 |negSucc u=>simp[bH]
theorem jV{n:Int}(h:(bH n).length<=k):n.natAbs<10 ^ k:=by have Z:=cf n.natAbs;have X:=LL n;have h3:10 ^ (aj n.natAbs).length<=10 ^ k:=L9 (by omega) (by omega);omega
noncomputable def aU(f:FuncId)(args:List AV):Option AV:=
 match f,args with
 |209,[.str s,.int .i64 m]=>match im s with
  |some n=>if m<=18/\s.length<=1000000000 then some (if (s.length:Int)<=m then .tuple [.int .i64 n,.bool true] else .tuple [.int .i64 0,.bool false]) else none
  |none=>none
 |143,[.int .i64 n]=>if ef n then some (.str (bH n)) else none
 |205,[.str s]=>match im s with
  |some n=>if s.length<=1000000000 then some (.str (bH (-n))) else none
  |none=>none
 |139,[.str s,.str t]=>match im s,im t with
  |some m,some n=>some (.int .i64 (Mq m n))
  |_,_=>none
 |f,args=>aV f args
theorem za:afs prog (ai aU):=bT fun f V v h mem=>by
 unfold aU at h;split at h
 .split at h
  .rename_i n X
   split at h
   .rename_i Z
    cases h;rw[bK X] at Z |-;exact MQ n _ Z.1 Z.2 mem
   .cases h
  .cases h
 .split at h
  next Z=>cases h;exact Vu _ Z mem
  .cases h
 .split at h
  .rename_i n X
   split at h
   .rename_i Z
    cases h;rw[bK X] at Z |-;exact R5 n Z mem
   .cases h
  .cases h
 .split at h
  .rename_i m n U X
   cases h;rw[bK U,bK X];exact DT m n mem
  .cases h
 .have:=rA.fn _ _ mem ⟨v,none,[]⟩ (by unfold ai;simp only;rw[h])
  simpa [afw.mem] using this
noncomputable def cL:afu:=fun c Z M=>((ai aU).or cI) c Z M
theorem pI:afs prog cL:=za.or IA
section
variable (ow:Bool)
include ow
theorem hs0(l:Mem):bl .u64 (.cells ow 1 (iN .u64 A)::l) (.slice 0 0 A.length none)=some A:=aW rfl (by simp) (An (by simp))
theorem hs1(H:afz)(l:Mem):bl .u64 (H::.cells ow 1 (iN .u64 A)::l) (.slice 1 0 A.length none)=some A:=aW rfl (by simp) (An (by simp))
theorem hs2(H I:afz)(l:Mem):bl .u64 (H::I::.cells ow 1 (iN .u64 A)::l) (.slice 2 0 A.length none)=some A:=aW rfl (by simp) (An (by simp))
theorem hs3(H I J:afz)(l:Mem):bl .u64 (H::I::J::.cells ow 1 (iN .u64 A)::l) (.slice 3 0 A.length none)=some A:=aW rfl (by simp) (An (by simp))
theorem hs4(H I J W:afz)(l:Mem):bl .u64 (H::I::J::W::.cells ow 1 (iN .u64 A)::l) (.slice 4 0 A.length none)=some A:=aW rfl (by simp) (An (by simp))
theorem hs5(H I J W Y:afz)(l:Mem):bl .u64 (H::I::J::W::Y::.cells ow 1 (iN .u64 A)::l) (.slice 5 0 A.length none)=some A:=aW rfl (by simp) (An (by simp))
end
theorem Pj(a b:Int)(ha:(aj a.natAbs).length<=100000)(hb:(aj b.natAbs).length<=100000)(mem:Mem):bz prog 204 [.str (bH a),.str (bH b)] mem (.str (bH (a+b))) mem:=by
 have o:bq prog 204=some f204:=by kernel_rfl
 refine az pI ?_ mem;have la:=du a;have lb:=du b;have U:(bH a).length<=1000000000:=by omega
 have M:(bH b).length<=1000000000:=by omega
 by_cases H:(bH a).length<=18/\(bH b).length<=18
 .have N:((bH a).length:Int)<=18:=by omega
  have j:((bH b).length:Int)<=18:=by omega
  have s1:=jV H.1;have s2:=jV H.2;have w1:IntKind.i64.wrap (a+b)=a+b:=af;have hf:ef (a+b)=true:=by unfold ef;simp;omega
  simp[ad,o,f204,cL,afu.or,ai,aU,ax,U,M,N,j,w1,hf]
 .have da:=dr a.natAbs
  have db:=dr b.natAbs;have Q:(aj a.natAbs).length<=1000000:=by omega
  have O:(aj b.natAbs).length<=1000000:=by omega
  have sum:=jB ha hb;have ds:=dr (a.natAbs+b.natAbs);have Y:aq 1000000000 (dig 1000000000 a.natAbs)=a.natAbs:=bN (by omega) _;have W:aq 1000000000 (dig 1000000000 b.natAbs)=b.natAbs:=bN (by omega) _;have J:lok 1000000000 (dig 1000000000 a.natAbs)=true:=cc (by omega) _;have I:lok 1000000000 (dig 1000000000 b.natAbs)=true:=cc (by omega) _;have ta:bd (dig 1000000000 a.natAbs)=dig 1000000000 a.natAbs:=cB (by omega) _;have tb:bd (dig 1000000000 b.natAbs)=dig 1000000000 b.natAbs:=cB (by omega) _;obtain⟨A,K⟩:=xE (dig 1000000000 a.natAbs);obtain⟨B,G⟩:=xE (dig 1000000000 b.natAbs);rw[<-K] at da Y J ta;rw[<-G] at db W I tb;have g1:A.length<=100000000:=by omega
  have g2:B.length<=100000000:=by omega
  have g3:A.length<=1000000000:=by omega
  have g4:B.length<=1000000000:=by omega
  by_cases F:(decide (a<0))=(decide (b<0))
  .obtain⟨S,hS⟩:=xE (dig 1000000000 (a.natAbs+b.natAbs))
   have D:aq 1000000000 S=a.natAbs+b.natAbs:=by rw[hS];exact bN (by omega) _
   have C:lok 1000000000 S=true:=by rw[hS];exact cc (by omega) _
   have y:bd S=S:=by rw[hS];exact cB (by omega) _
   have u:S.length<=1000000:=by rw[hS];omega
   have X:ei (decide (a<0)) (a.natAbs+b.natAbs)=bH (a+b):=by
    rw[<-gQ (a+b)];have:(a+b).natAbs=a.natAbs+b.natAbs:=by by_cases Z:a<0<;>by_cases V:b<0<;>simp[Z,V] at F<;>omega
    rw[this];by_cases Z:a<0<;>by_cases V:b<0<;>simp[Z,V] at F
    .rw[decide_eq_true Z,decide_eq_true (by omega)]
    .rw[decide_eq_false Z,decide_eq_false (by omega)]
   have R :(decide (a<0)==decide (b<0))=true:=by rw[F];simp
   by_cases N:((bH a).length:Int)<=18
   .have j:¬((bH b).length:Int)<=18:=fun e=>H (by omega)
    simp[ad,o,f204,cL,afu.or,ai,aU,aV,an,ax,U,M,N,j,cI,Q,O,<-K,<-G,ca,bQ,cE,cH,ct,hs0,hs1,J,I,g1,g2,Y,W,<-hS,aD,ag,hs4,C,y,u,D,R,X,Nat.testBit]
   .simp[ad,o,f204,cL,afu.or,ai,aU,aV,an,ax,U,N,cI,Q,O,<-K,<-G,ca,bQ,cE,cH,ct,hs0,hs1,J,I,g1,g2,Y,W,<-hS,aD,ag,hs4,C,y,u,D,R,X,Nat.testBit]
  .have R :(decide (a<0)==decide (b<0))=false:=by cases Z:decide (a<0)<;>cases V:decide (b<0)<;>simp[Z,V] at F |-
   by_cases A':a.natAbs<b.natAbs
   .have hc:j9 a.natAbs b.natAbs= -1:=by unfold j9;rw[if_pos A']
    obtain⟨S,hS⟩:=xE (dig 1000000000 (b.natAbs-a.natAbs));have D:aq 1000000000 S=b.natAbs-a.natAbs:=by rw[hS];exact bN (by omega) _
    have C:lok 1000000000 S=true:=by rw[hS];exact cc (by omega) _
    have y:bd S=S:=by rw[hS];exact cB (by omega) _
    have u:S.length<=1000000:=by rw[hS];have Z:=dr (b.natAbs-a.natAbs);have V:=bI (show b.natAbs-a.natAbs<=b.natAbs by omega);omega
    have g6:A.length<=B.length:=by
     rcases Nat.lt_or_ge B.length A.length with h | h
     .have:=dV (B:=1000000000) (m:=b.natAbs) (n:=a.natAbs) (by omega) (by rw[<-K,<-G];exact h)
      omega
     .exact h
    have g7:a.natAbs<=b.natAbs:=by omega
    have X:ei (decide (b<0)) (b.natAbs-a.natAbs)=bH (a+b):=by
     rw[<-gQ (a+b)];have h0:(a+b).natAbs=b.natAbs-a.natAbs:=by by_cases Z:a<0<;>by_cases V:b<0<;>simp[Z,V] at F<;>omega
     rw[h0];by_cases Z:a<0<;>by_cases V:b<0<;>simp[Z,V] at F
     .rw[decide_eq_false V,decide_eq_false (by omega)]
     .rw[decide_eq_true V,decide_eq_true (by omega)]
    by_cases N:((bH a).length:Int)<=18
    .have j:¬((bH b).length:Int)<=18:=fun e=>H (by omega)
     simp[ad,o,f204,cL,afu.or,ai,aU,aV,an,ax,U,M,N,j,cI,Q,O,<-K,<-G,ca,bQ,cE,cH,ct,bP,hs0,hs1,J,I,ta,tb,g2,g3,Y,W,hc,g6,g7,<-hS,aD,ag,hs4,C,y,u,D,R,X,Nat.testBit]
    .simp[ad,o,f204,cL,afu.or,ai,aU,aV,an,ax,U,N,cI,Q,O,<-K,<-G,ca,bQ,cE,cH,ct,bP,hs0,hs1,J,I,ta,tb,g2,g3,Y,W,hc,g6,g7,<-hS,aD,ag,hs4,C,y,u,D,R,X,Nat.testBit]
   .have hc:¬j9 a.natAbs b.natAbs<0:=by unfold j9;rw[if_neg A'];split<;>omega
    obtain⟨S,hS⟩:=xE (dig 1000000000 (a.natAbs-b.natAbs));have D:aq 1000000000 S=a.natAbs-b.natAbs:=by rw[hS];exact bN (by omega) _
    have C:lok 1000000000 S=true:=by rw[hS];exact cc (by omega) _
    have y:bd S=S:=by rw[hS];exact cB (by omega) _
    have u:S.length<=1000000:=by rw[hS];have Z:=dr (a.natAbs-b.natAbs);have V:=bI (show a.natAbs-b.natAbs<=a.natAbs by omega);omega
    have g6:B.length<=A.length:=by
     rcases Nat.lt_or_ge A.length B.length with h | h
     .have:=dV (B:=1000000000) (m:=a.natAbs) (n:=b.natAbs) (by omega) (by rw[<-K,<-G];exact h)
      omega
     .exact h
    have g7:b.natAbs<=a.natAbs:=by omega
    have X:ei (decide (a<0)) (a.natAbs-b.natAbs)=bH (a+b):=by
     rw[<-gQ (a+b)];have h0:(a+b).natAbs=a.natAbs-b.natAbs:=by by_cases Z:a<0<;>by_cases V:b<0<;>simp[Z,V] at F<;>omega
     rw[h0];by_cases hz:a.natAbs-b.natAbs=0
     .unfold ei;rw[if_pos hz,if_pos hz]
     by_cases Z:a<0<;>by_cases V:b<0<;>simp[Z,V] at F
     .rw[decide_eq_true Z,decide_eq_true (by omega)]
     .rw[decide_eq_false Z,decide_eq_false (by omega)]
    by_cases N:((bH a).length:Int)<=18
    .have j:¬((bH b).length:Int)<=18:=fun e=>H (by omega)
     simp[ad,o,f204,cL,afu.or,ai,aU,aV,an,ax,U,M,N,j,cI,Q,O,<-K,<-G,ca,bQ,cE,cH,ct,bP,hs0,hs1,J,I,ta,tb,g1,g3,Y,W,hc,g6,g7,<-hS,aD,ag,hs4,C,y,u,D,R,X,Nat.testBit]
    .simp[ad,o,f204,cL,afu.or,ai,aU,aV,an,ax,U,N,cI,Q,O,<-K,<-G,ca,bQ,cE,cH,ct,bP,hs0,hs1,J,I,ta,tb,g1,g3,Y,W,hc,g6,g7,<-hS,aD,ag,hs4,C,y,u,D,R,X,Nat.testBit]
theorem Fi(a b:Int):ei (!(decide (a<0)==decide (b<0))) (a.natAbs*b.natAbs)=bH (a*b):=by
 rw[<-gQ (a*b),QQf];by_cases V:a.natAbs*b.natAbs=0
 .unfold ei;rw[if_pos V,if_pos V]
 .have S:a≠0:=by rintro rfl;simp at V
  have R:b≠0:=by rintro rfl;simp at V
  congr 1;by_cases Z:a<0<;>by_cases X:b<0
  .have h3:=Int.mul_pos_of_neg_of_neg Z X
   have U:¬a*b<0:=by omega
   simp[Z,X,U]
  .have h3:=Int.mul_neg_of_neg_of_pos Z (show 0<b by omega)
   simp[Z,X,h3]
  .have h3:=Int.mul_neg_of_pos_of_neg (show 0<a by omega) X
   simp[Z,X,h3]
  .have h3:=Int.mul_nonneg (show 0<=a by omega) (show 0<=b by omega)
   have U:¬a*b<0:=by omega
   simp[Z,X,U]
theorem PG(a b:Int)(H:(aj a.natAbs).length<=100000)(I:(aj b.natAbs).length<=100000)(mem:Mem):bz prog 133 [.str (bH a),.str (bH b)] mem (.str (bH (a*b))) mem:=by
 have N:bq prog 133=some f133:=by kernel_rfl
 refine az pI ?_ mem;have la:=du a;have lb:=du b;have Z:(bH a).length<=1000000000:=by omega
 have V:(bH b).length<=1000000000:=by omega
 by_cases M:(bH a).length<=9/\(bH b).length<=9
 .have O:((bH a).length:Int)<=9:=by omega
  have K:((bH b).length:Int)<=9:=by omega
  have J:=jV M.1;have s2:=jV M.2;have s3:(a*b).natAbs<10 ^ 9*10 ^ 9:=by rw[QQf];exact Nat.mul_lt_mul'' J s2
  have w1:IntKind.i64.wrap (a*b)=a*b:=af;have hf:ef (a*b)=true:=by unfold ef;simp;omega
  simp[ad,N,f133,cL,afu.or,ai,aU,ax,Z,V,O,K,w1,hf]
 .have da:=dr a.natAbs
  have db:=dr b.natAbs;have U:(aj a.natAbs).length<=1000000:=by omega
  have R:(aj b.natAbs).length<=1000000:=by omega
  have sum:=dL H I;have ds:=dr (a.natAbs*b.natAbs);have G:aq 1000000000 (dig 1000000000 a.natAbs)=a.natAbs:=bN (by omega) _;have F:aq 1000000000 (dig 1000000000 b.natAbs)=b.natAbs:=bN (by omega) _;have D:lok 1000000000 (dig 1000000000 a.natAbs)=true:=cc (by omega) _;have C:lok 1000000000 (dig 1000000000 b.natAbs)=true:=cc (by omega) _;obtain⟨A,y⟩:=xE (dig 1000000000 a.natAbs);obtain⟨B,u⟩:=xE (dig 1000000000 b.natAbs);rw[<-y] at da G D;rw[<-u] at db F C;have g1:A.length<=100000000:=by omega
  have o:B.length<=100000000:=by omega
  obtain⟨S,hS⟩:=xE (dig 1000000000 (a.natAbs*b.natAbs));have m:aq 1000000000 S=a.natAbs*b.natAbs:=by rw[hS];exact bN (by omega) _
  have j:lok 1000000000 S=true:=by rw[hS];exact cc (by omega) _
  have Y:bd S=S:=by rw[hS];exact cB (by omega) _
  have W:S.length<=1000000:=by rw[hS];omega
  obtain⟨mn,X⟩:=xE (!(decide (a<0)==decide (b<0)));have Q:ei mn (a.natAbs*b.natAbs)=bH (a*b):=by rw[X];exact Fi a b
  by_cases O:((bH a).length:Int)<=9
  .have K:¬((bH b).length:Int)<=9:=fun e=>M (by omega)
   simp[ad,N,f133,cL,afu.or,ai,aU,aV,an,ax,Z,V,O,K,cI,U,R,<-y,<-u,ca,bQ,cE,cH,ct,hs0,hs1,D,C,g1,o,G,F,<-hS,aD,ag,hs4,j,Y,W,m,<-X,Q,Nat.testBit]
  .simp[ad,N,f133,cL,afu.or,ai,aU,aV,an,ax,Z,O,cI,U,R,<-y,<-u,ca,bQ,cE,cH,ct,hs0,hs1,D,C,g1,o,G,F,<-hS,aD,ag,hs4,j,Y,W,m,<-X,Q,Nat.testBit]
theorem mU(n:Nat):ei false n=aj n:=by
 unfold ei;by_cases h:n=0
 .subst h;rfl
 .rw[if_neg h];rfl
theorem Fh{a:Int}(H:0<b)(h:0<=a\/a.natAbs%b=0):ei (decide (a<0)) (a.natAbs / b)=bH (a / b):=by
 rw[<-gQ (a / b)];by_cases U:a<0
 .have S:a.natAbs%b=0:=by rcases h with h | h<;>omega
  have Z:a= -((a.natAbs / b*b:Nat):Int):=by have:=Nat.div_add_mod a.natAbs b;rw[S,Nat.add_zero,SP] at this;omega
  obtain⟨q,X⟩:=xE (a.natAbs / b);rw[<-X] at Z;have h3:a / (b:Int)= -(q:Int):=by rw[Z,Int.natCast_mul,<-Int.neg_mul];exact Int.mul_ediv_cancel _ (by omega)
  rw[h3,<-X,Int.natAbs_neg,Int.natAbs_natCast];by_cases V:q=0
  .unfold ei;rw[if_pos V,if_pos V]
  .rw[decide_eq_true U,decide_eq_true (by omega)]
 .obtain⟨n,rfl⟩:∃n:Nat,a=n:=⟨a.toNat,by omega⟩
  rw[<-Int.natCast_ediv,Int.natAbs_natCast,Int.natAbs_natCast,decide_eq_false (by omega),decide_eq_false (Int.not_lt.2 (Int.natCast_nonneg _))]
theorem FP(a:Int)(b:Nat)(I:0<b)(H:0<=a\/a.natAbs%b=0)(ha:(aj a.natAbs).length<=100000)(hb:(aj b).length<=100000)(mem:Mem):
  bz prog 208 [.str (bH a),.str (aj b)] mem (.tuple [.str (bH (a / b)),.str (aj (a.natAbs%b)),.int .i64 0]) mem:=by
 have J:bq prog 208=some f208:=by kernel_rfl
 refine az pI ?_ mem;rw[<-Fh I H,<-mU (a.natAbs%b)];have X:im (aj b)=some (b:Int):=ax (b:Int);have V:(aj b==[48])=false:=by rw[beq_eq_false_iff_ne];intro e;have:=AY (e.trans (show [48]=aj 0 from rfl));omega
 have da:=dr a.natAbs;have db:=dr b;have Z:(aj a.natAbs).length<=1000000:=by omega
 have U:(aj b).length<=1000000:=by omega
 have G:aq 1000000000 (dig 1000000000 a.natAbs)=a.natAbs:=bN (by omega) _;have C:aq 1000000000 (dig 1000000000 b)=b:=bN (by omega) _;have y:lok 1000000000 (dig 1000000000 a.natAbs)=true:=cc (by omega) _;have u:lok 1000000000 (dig 1000000000 b)=true:=cc (by omega) _;have o:bd (dig 1000000000 a.natAbs)=dig 1000000000 a.natAbs:=cB (by omega) _;have m:bd (dig 1000000000 b)=dig 1000000000 b:=cB (by omega) _;obtain⟨A,F⟩:=xE (dig 1000000000 a.natAbs);obtain⟨B,j⟩:=xE (dig 1000000000 b);rw[<-F] at da G y o;rw[<-j] at db C u m;have g1:A.length<=1000000:=by omega
 have g2:B.length<=1000000:=by omega
 obtain⟨n,Y⟩:=xE a.natAbs;rw[<-Y] at G F H Z |-;have S:¬(b:Int)<0:=by omega
 by_cases N:n<b
 .have M:¬a<0:=by
   rcases H with h | h
   .omega
   .rw[QQa N] at h;omega
  rw[Nat.div_eq_of_lt N,QQa N];simp[ad,J,f208,cL,afu.or,ai,aU,aV,an,ax,X,V,<-Y,cI,Z,U,<-F,<-j,ca,bQ,cE,hs0,hs1,y,u,o,m,g1,G,C,I,N,M,S,aD,ag]
 .obtain⟨q,W⟩:=xE (n / b)
  obtain⟨r,D⟩:=xE (n%b);rw[<-D] at H;rw[<-W,<-D];obtain⟨Q,hQ⟩:=xE (dig 1000000000 q);obtain⟨R,K⟩:=xE (dig 1000000000 r);have vq:aq 1000000000 Q=q:=by rw[hQ];exact bN (by omega) _
  have oq:lok 1000000000 Q=true:=by rw[hQ];exact cc (by omega) _
  have tq:bd Q=Q:=by rw[hQ];exact cB (by omega) _
  have gq:Q.length<=1000000:=by rw[hQ];have h1:=dr q;have h2:=bI (show q<=n by rw[W];exact Nat.div_le_self _ _);omega
  have vr:aq 1000000000 R=r:=by rw[K];exact bN (by omega) _
  have or:lok 1000000000 R=true:=by rw[K];exact cc (by omega) _
  have tr:bd R=R:=by rw[K];exact cB (by omega) _
  have gr:R.length<=1000000:=by rw[K];have h1:=dr r;have h2:=bI (show r<=n by rw[D];exact Nat.mod_le _ _);omega
  have cond:∀x:Nat,¬(a<0/\0<R.length):=by
   intro _ h;rcases H with h1 | h1
   .omega
   .rw[K,h1,dX] at h;simp at h
  by_cases hz:2<=B.length/\r=0
  .obtain⟨O,hz2⟩:=hz
   by_cases M:a<0
   .simp[ad,J,f208,cL,afu.or,ai,aU,aV,an,ax,X,V,<-Y,cI,Z,U,<-F,<-j,ca,bQ,cE,hs0,hs1,y,u,o,m,g1,G,C,I,N,S,<-W,<-D,<-hQ,O,hz2,M,hs4,vq,oq,tq,gq,aD,ag]
   .simp[ad,J,f208,cL,afu.or,ai,aU,aV,an,ax,X,V,<-Y,cI,Z,U,<-F,<-j,ca,bQ,cE,hs0,hs1,y,u,o,m,g1,G,C,I,N,S,<-W,<-D,<-hQ,O,hz2,M,hs4,vq,oq,tq,gq,aD,ag]
  .by_cases M:a<0
   .have hrl:¬0<R.length:=fun e=>cond 0 ⟨M,e⟩
    have acm :R=[]:=GT (by omega);have hr0:r=0:=by rcases H with h | h<;>omega
    subst hr0;have O:¬2<=B.length:=fun e=>hz ⟨e,rfl⟩
    rw[acm] at K vr;have k1:lok 1000000000 []=true:=rfl;have k2:bd []=[]:=rfl;have h5e:∀a0 a1 a2 a3 a4 l,bl .u64 (a0::a1::a2::a3::a4::.cells true 1 []::l) (.slice 5 0 0 none)=some []:=fun a0 a1 a2 a3 a4 l=>hs5 (A:=[]) true a0 a1 a2 a3 a4 l
    simp[ad,J,f208,cL,afu.or,ai,aU,aV,an,ax,X,V,<-Y,cI,Z,U,<-F,<-j,ca,bQ,cE,hs0,hs1,y,u,o,m,g1,G,C,I,N,S,<-W,<-D,<-hQ,<-K,O,hs4,h5e,k1,k2,vr,vq,oq,tq,gq,M,aD,ag]
   .simp[ad,J,f208,cL,afu.or,ai,aU,aV,an,ax,X,V,<-Y,cI,Z,U,<-F,<-j,ca,bQ,cE,hs0,hs1,y,u,o,m,g1,G,C,I,N,S,<-W,<-D,<-hQ,<-K,hz,hs4,hs5,vq,oq,tq,gq,vr,or,tr,gr,M,aD,ag]
end Go.Proofs
namespace Go.Eng
open Classical in
theorem dY{β:Type}[Inhabited β]{p:Env->Bool->Prop}{q:Env->Bool->β->Prop}(h:∀e d,p e d->∃x,q e d x):∃F:Env->Bool->β,∀e d,p e d->q e d (F e d):=
 ⟨fun e d=>if Z:p e d then Classical.choose (h e d Z) else default,fun e d Z=>by simp only[dif_pos Z];exact Classical.choose_spec (h e d Z)⟩
theorem sW{α:Type}{f:XS->Option (Exit×XS)}{lv wr:List Nat}{I:Env}{J:Nat}(S:α->XS)(m:α->Nat)(Inv:α->Prop)(H:Exit) (d' :Bool)(Q:Env->Mem->Prop)(W:H≠ .normal)
  (h:∀a,Inv a->(∃V U,f (S a)=some (.normal,U)/\nH lv wr I J U =S V /\Inv V /\m V <m a)\/(∃X Z,f (S a)=some (H,⟨X,Z,d'⟩)/\Q X Z)):
  ∀k a,Inv a->m a<k->∃X Z,ga lv wr I J f k (S a)=some (H,⟨X,Z,d'⟩)/\Q X Z
 |0,a,_,hk=>by omega
 |k+1,a,ha,hk=>by
  unfold ga;rcases h a ha with⟨V,U,R,O,h3,N⟩ | ⟨X,Z,R,h3⟩
  .rw[R]
   simp only[O];exact sW S m Inv H d' Q W h k V h3 (by omega)
  .rw[R]
   refine⟨X,Z,?_,h3⟩;cases H<;>first | rfl | exact absurd rfl W
theorem vo{β:Type}[Inhabited β]{T:TypeId->Option TyI}{lv:Code->List Nat}{O:afu}{K N m0:Nat}{tp:Bool}{b:Code}{L:List Nat}(J:lv b=L){mem:Mem}{e:Exit}(I:Env->Prop)(H:Env->Env->Mem->β->Prop)(h:∀Z d,I Z->∃V X,ga L (ae b) Z mem.length (aO T lv O K N m0 tp b) K ⟨au L (ae b) Z Z,mem,d⟩=some (e,⟨V,X,d⟩)/\∃x,H Z V X x):
  ∃F:Env->Bool->Env×Mem×β,∀Z d,I Z->aO T lv O K N m0 tp (.loop b) ⟨Z,mem,d⟩=some (e,⟨(F Z d).1,(F Z d).2.1,d⟩)/\H Z (F Z d).1 (F Z d).2.1 (F Z d).2.2:=by
 refine dY (β:=Env×Mem×β) (p:=fun Z _=>I Z) (q:=fun Z d x=>aO T lv O K N m0 tp (.loop b) ⟨Z,mem,d⟩=some (e,⟨x.1,x.2.1,d⟩)/\H Z x.1 x.2.1 x.2.2) ?_;intro Z d U;obtain⟨V,X,S,x,R⟩:=h Z d U;exact⟨(V,X,x),by rw[bw,J];exact S,R⟩
end Go.Eng
namespace Go.Proofs
open Go.Eng
open Tryz
def gM(A B:List Nat)(a b:Nat):Nat->Mem
 |2 | 3=>[.cells true 1 (iN .u64 A),.cells true 1 (iN .u64 B),.cells true 1 (iN .u64 (dig 1000000000 b))]
 |6=>[.cells true 1 (iN .u64 A),.cells true 1 (iN .u64 B),.cells true 1 (iN .u64 (dig 1000000000 a)),.cells true 1 (iN .u64 (dig 1000000000 b))]
 |7=>[.cells true 1 (iN .u64 A),.cells true 1 (iN .u64 B),.cells true 1 (iN .u64 (dig 1000000000 a))]
 |_=>[.cells true 1 (iN .u64 A),.cells true 1 (iN .u64 B)]
def gX(a:Nat):Nat->Nat
 |0 | 2 | 4=>0
 |1 | 3 | 5=>1
 |_=>2
def gY(b:Nat):Nat->AV
 |0=>.slice 1 0 (dig 1000000000 b).length none
 |1=>.slice 0 0 (dig 1000000000 b).length none
 |2 | 3=>.slice 2 0 (dig 1000000000 b).length none
 |6=>.slice 3 0 (dig 1000000000 b).length none
 |_=>.kO
def gI(x y:Nat)(a b:Nat):Nat->Prop
 |0=>a=x/\b=y
 |1=>a=y/\b=x/\b<a
 |2=>a=x/\b<a
 |3=>a=y/\b<a
 |4=>a=x/\b=0
 |5=>a=y/\b=0
 |6=>b<a
 |7=>b=0
 |_=>False
theorem Z0:List.idxOf? 2 [2,4]=some 0:=rfl
theorem Z1:List.idxOf? 4 [2,4]=some 1:=rfl
theorem aaa:List.idxOf? 3 [3,5]=some 0:=rfl
theorem aab:List.idxOf? 5 [3,5]=some 1:=rfl
theorem bS{α:Type}{p q:α->Prop}{r:Prop}(hr:r)(h:∃s,p s/\q s):∃s,p s/\q s/\r:=let ⟨s,a,b⟩:=h;⟨s,a,b,hr⟩
def jN(c:Code):List Nat:=if (ae c).contains 9 then [9,10] else [5,7]
variable{K:Nat}
theorem Eh(x y:Nat)(hx:(dig 1000000000 x).length<=1000000)(hy:(dig 1000000000 y).length<=1000000){b0 b:Code}(hb:ah f140=[b0,b])(J:Env)(d:Bool)(s:Nat)(a c:Nat)(H:gI x y a c s)(I:(dig 1000000000 a).length<=1000000)(hc:(dig 1000000000 c).length<=1000000):
  (∃W u o e',aO (aL prog) jN cL K 56 0 true b ⟨au [9,10] (ae b) J ((9,.slice (gX a s) 0 (dig 1000000000 a).length none)::(10,gY c s)::J),gM (dig 1000000000 x) (dig 1000000000 y) a c s,d⟩=some (.normal,e')/\
    nH [9,10] (ae b) J 2 e' =⟨au [9,10] (ae b) J ((9,.slice (gX u W) 0 (dig 1000000000 u).length none)::(10,gY o W)::J),gM (dig 1000000000 x) (dig 1000000000 y) u o W,d⟩/\
    gI x y u o W /\u.gcd o =a.gcd c/\u <=max a c/\o <=max a c/\2*o +(if u <o then 1 else 0)<2*c+(if a<c then 1 else 0))\/
  (∃AC,aO (aL prog) jN cL K 56 0 true b ⟨au [9,10] (ae b) J ((9,.slice (gX a s) 0 (dig 1000000000 a).length none)::(10,gY c s)::J),gM (dig 1000000000 x) (dig 1000000000 y) a c s,d⟩=some (.exit 2,⟨AC,gM (dig 1000000000 x) (dig 1000000000 y) a c s,d⟩)/\aa AC 9=.slice (gX a s) 0 (dig 1000000000 a).length none/\c=0):=by
 simp[ah,aw,f140] at hb;obtain⟨rfl,rfl⟩:=hb;have Q:lok 1000000000 (dig 1000000000 a)=true:=cc (by omega) _;have O:lok 1000000000 (dig 1000000000 c)=true:=cc (by omega) _;have N:bd (dig 1000000000 a)=dig 1000000000 a:=cB (by omega) _;have M:bd (dig 1000000000 c)=dig 1000000000 c:=cB (by omega) _;have G:aq 1000000000 (dig 1000000000 a)=a:=bN (by omega) _;have F:aq 1000000000 (dig 1000000000 c)=c:=bN (by omega) _;by_cases hc0:c=0
 .right
  subst hc0;have Y:dig 1000000000 0=[]:=dX _
  match s,H with
  |0,H=>simp[gM,gX,gY,Y]
  |1,H=>simp[gM,gX,gY,Y]
  |2,H=>simp[gM,gX,gY,Y]
  |3,H=>simp[gM,gX,gY,Y]
  |4,H=>simp[gM,gX,gY]
  |5,H=>simp[gM,gX,gY]
  |6,H=>simp[gM,gX,gY,Y]
  |7,H=>simp[gM,gX,gY]
  |s+8,H=>exact absurd H (by simp[gI])
 .left
  have X:0<c:=by omega
  have R:0<(dig 1000000000 c).length:=by
   rcases P1 (dig 1000000000 c).length with h | h
   .have:=(fh (B:=1000000000) (n:=c) (by omega)).1 (GT h)
    omega
   .exact h
  have ab9 :dig 1000000000 c≠[]:=List.length_pos_iff.1 R;have D:c.gcd (a%c)=a.gcd c:=by rw[Nat.gcd_comm a c,Nat.gcd_rec c a,Nat.gcd_comm]
  have hg2:c.gcd a=a.gcd c:=Nat.gcd_comm _ _;have m:a%c<c:=Nat.mod_lt _ X;have aeM:a<=max a c:=Nat.le_max_left _ _;have V:c<=max a c:=Nat.le_max_right _ _;have U:2*(a%c)+(if c<a%c then 1 else 0)<2*c+(if a<c then 1 else 0):=by rw[if_neg (by omega)];split<;>omega
  by_cases Z:a<c
  .have hs:s=0:=by
    match s,H with
    |0,_=>rfl
    |1,H=>exact absurd H.2.2 (by omega)
    |2,H=>exact absurd H.2 (by omega)
    |3,H=>exact absurd H.2 (by omega)
    |4,H=>exact absurd H.2 (by omega)
    |5,H=>exact absurd H.2 (by omega)
    |6,H=>exact absurd (show c<a from H) (by omega)
    |7,H=>exact absurd (show c=0 from H) (by omega)
    |s+8,H=>exact absurd H (by simp[gI])
   subst hs;obtain⟨rfl,rfl⟩:=H;refine⟨1,c,a,?_⟩;refine bS (show gI a c c a 1/\_/\_/\_/\_ from⟨⟨rfl,rfl,Z⟩,hg2,V,aeM,by rw[if_neg (by omega),if_pos Z];omega⟩) ?_;simp[gM,gX,gY,cL,afu.or,ai,aU,aV,an,cI,ca,bQ,cE,hs0,hs1,Q,O,N,M,G,F,I,X,Z,R]
  .by_cases j:2<=(dig 1000000000 c).length/\a%c=0
   .obtain⟨C,S⟩:=j
    rw[S] at D m U
    match s,H with
    |0,H=>
     obtain⟨rfl,rfl⟩:=H;refine⟨5,c,0,?_⟩;refine bS (show gI a c c 0 5/\_/\_/\_/\_ from⟨⟨rfl,rfl⟩,D,V,by omega,U⟩) ?_;simp[gM,gX,gY,cL,afu.or,ai,aU,aV,an,cI,ca,bQ,cE,hs0,hs1,Q,O,N,M,G,F,I,X,Z,R,C,S]
    |1,H=>
     obtain⟨rfl,rfl,h⟩:=H;refine⟨4,c,0,?_⟩;refine bS (show gI c a c 0 4/\_/\_/\_/\_ from⟨⟨rfl,rfl⟩,D,V,by omega,U⟩) ?_;simp[gM,gX,gY,cL,afu.or,ai,aU,aV,an,cI,ca,bQ,cE,hs0,hs1,Q,O,N,M,G,F,I,X,Z,R,C,S]
    |2,H=>
     obtain⟨rfl,h⟩:=H;refine⟨7,c,0,?_⟩;refine bS (show gI _ _ c 0 7/\_/\_/\_/\_ from⟨rfl,D,V,by omega,U⟩) ?_;simp[gM,gX,gY,cL,afu.or,ai,aU,aV,an,cI,ca,bQ,cE,hs0,hs2,Q,O,N,M,G,F,I,X,Z,R,C,S]
    |3,H=>
     obtain⟨rfl,h⟩:=H;refine⟨7,c,0,?_⟩;refine bS (show gI _ _ c 0 7/\_/\_/\_/\_ from⟨rfl,D,V,by omega,U⟩) ?_;simp[gM,gX,gY,cL,afu.or,ai,aU,aV,an,cI,ca,bQ,cE,hs1,hs2,Q,O,N,M,G,F,I,X,Z,R,C,S]
    |6,H=>
     refine⟨7,c,0,?_⟩;refine bS (show gI _ _ c 0 7/\_/\_/\_/\_ from⟨rfl,D,V,by omega,U⟩) ?_;simp[gM,gX,gY,cL,afu.or,ai,aU,aV,an,cI,ca,bQ,cE,hs2,hs3,Q,O,N,M,G,F,I,X,Z,R,C,S]
    |4,H=>exact absurd H.2 (by omega)
    |5,H=>exact absurd H.2 (by omega)
    |7,H=>exact absurd (show c=0 from H) (by omega)
    |s+8,H=>exact absurd H (by simp[gI])
   .match s,H with
    |0,H=>
     obtain⟨rfl,rfl⟩:=H;refine⟨3,c,a%c,?_⟩;refine bS (show gI a c c (a%c) 3/\_/\_/\_/\_ from⟨⟨rfl,m⟩,D,V,by omega,U⟩) ?_;simp[gM,gX,gY,cL,afu.or,ai,aU,aV,an,cI,ca,bQ,cE,hs0,hs1,Q,O,N,M,G,F,I,X,Z,R,j]
    |1,H=>
     obtain⟨rfl,rfl,h⟩:=H;refine⟨2,c,a%c,?_⟩;refine bS (show gI c a c (a%c) 2/\_/\_/\_/\_ from⟨⟨rfl,m⟩,D,V,by omega,U⟩) ?_;simp[gM,gX,gY,cL,afu.or,ai,aU,aV,an,cI,ca,bQ,cE,hs0,hs1,Q,O,N,M,G,F,I,X,Z,R,j]
    |2,H=>
     obtain⟨rfl,h⟩:=H;refine⟨6,c,a%c,?_⟩;refine bS (show gI _ _ c (a%c) 6/\_/\_/\_/\_ from⟨m,D,V,by omega,U⟩) ?_;simp[gM,gX,gY,cL,afu.or,ai,aU,aV,an,cI,ca,bQ,cE,hs0,hs2,Q,O,N,M,G,F,I,X,Z0,Z1,Z,R,j]
    |3,H=>
     obtain⟨rfl,h⟩:=H;refine⟨6,c,a%c,?_⟩;refine bS (show gI _ _ c (a%c) 6/\_/\_/\_/\_ from⟨m,D,V,by omega,U⟩) ?_;simp[gM,gX,gY,cL,afu.or,ai,aU,aV,an,cI,ca,bQ,cE,hs1,hs2,Q,O,N,M,G,F,I,X,Z0,Z1,Z,R,j]
    |6,H=>
     refine⟨6,c,a%c,?_⟩;refine bS (show gI _ _ c (a%c) 6/\_/\_/\_/\_ from⟨m,D,V,by omega,U⟩) ?_;simp[gM,gX,gY,cL,afu.or,ai,aU,aV,an,cI,ca,bQ,cE,hs2,hs3,Q,O,N,M,G,F,I,X,aaa,aab,Z,R,j]
    |4,H=>exact absurd H.2 (by omega)
    |5,H=>exact absurd H.2 (by omega)
    |7,H=>exact absurd (show c=0 from H) (by omega)
    |s+8,H=>exact absurd H (by simp[gI])
theorem lY{B a b:Nat}(H:2<=B)(h:a<=b):(dig B a).length<=(dig B b).length:=by
 rcases Nat.lt_or_ge (dig B b).length (dig B a).length with h1 | h1
 .have:=dV H h1;omega
 .exact h1
theorem Gz(x y:Nat)(hx:(aj x).length<=1000000)(J:(aj y).length<=1000000)(W:2*y+1<K){I b:Code}(H:ah f140=[I,b]):
  ∃F:Env->Bool->Env×Mem×Nat,∀Z d,(aa Z 9=.slice 0 0 (dig 1000000000 x).length none/\aa Z 10=.slice 1 0 (dig 1000000000 y).length none)->
   aO (aL prog) jN cL K 56 0 true (.loop b) ⟨Z,[.cells true 1 (iN .u64 (dig 1000000000 x)),.cells true 1 (iN .u64 (dig 1000000000 y))],d⟩=some (.exit 2,⟨(F Z d).1,(F Z d).2.1,d⟩)/\
   (aa (F Z d).1 9=.slice (F Z d).2.2 0 (dig 1000000000 (x.gcd y)).length none/\bl .u64 (F Z d).2.1 (.slice (F Z d).2.2 0 (dig 1000000000 (x.gcd y)).length none)=some (dig 1000000000 (x.gcd y))):=by
 have U:jN b=[9,10]:=by simp[ah,aw,f140] at H;obtain⟨rfl,rfl⟩:=H;decide
 refine vo (β:=Nat) U (fun Z=>aa Z 9=.slice 0 0 (dig 1000000000 x).length none/\aa Z 10=.slice 1 0 (dig 1000000000 y).length none)
  (fun Z S X k=>aa S 9=.slice k 0 (dig 1000000000 (x.gcd y)).length none/\bl .u64 X (.slice k 0 (dig 1000000000 (x.gcd y)).length none)=some (dig 1000000000 (x.gcd y))) ?_
 rintro Z d ⟨h9,h10⟩;have M:au [9,10] (ae b) Z ((9,.slice (gX x 0) 0 (dig 1000000000 x).length none)::(10,gY y 0)::Z)=au [9,10] (ae b) Z Z:=by simp[au,h9,h10,gX,gY]
 rw[<-M];have R:(dig 1000000000 x).length<=1000000:=by have:=dr x;omega
 have Q:(dig 1000000000 y).length<=1000000:=by have:=dr y;omega
 have V:∀a,a<=max x y->(dig 1000000000 a).length<=1000000:=by
  intro a O;by_cases G:x<=y
  .have:=lY (B:=1000000000) (a:=a) (b:=y) (by omega) (by omega);omega
  .have:=lY (B:=1000000000) (a:=a) (b:=x) (by omega) (by omega);omega
 refine sW (α:=Nat×Nat×Nat) (fun s=>⟨au [9,10] (ae b) Z ((9,.slice (gX s.2.1 s.1) 0 (dig 1000000000 s.2.1).length none)::(10,gY s.2.2 s.1)::Z),gM (dig 1000000000 x) (dig 1000000000 y) s.2.1 s.2.2 s.1,d⟩)
  (fun s=>2*s.2.2+(if s.2.1<s.2.2 then 1 else 0)) (fun s=>gI x y s.2.1 s.2.2 s.1/\s.2.1.gcd s.2.2=x.gcd y/\s.2.1<=max x y/\s.2.2<=max x y) (.exit 2) d _ (by simp) ?_ K (0,x,y) ⟨⟨rfl,rfl⟩,rfl,Nat.le_max_left _ _,Nat.le_max_right _ _⟩ (by simp only;split<;>omega)
 rintro ⟨s,a,c⟩ ⟨hI,hg,O,hc⟩;simp only at hI hg O hc |-;rcases Eh (K:=K) x y R Q H Z d s a c hI (V a O) (V c hc) with⟨D,C,u,o,r1,r2,N,m,Y,r6,j⟩ | ⟨S,r1,r2,N⟩
 .left
  exact⟨(D,C,u),o,r1,r2,⟨N,by rw[m,hg],by simp only;omega,by simp only;omega⟩,j⟩
 .right
  refine⟨S,_,r1,gX a s,?_⟩;subst N;rw[Nat.gcd_zero_right] at hg;rw[<-hg];refine⟨r2,?_⟩
  match s,hI with
  |0,hI=>obtain⟨rfl,_⟩:=hI;exact hs0 true _
  |1,hI=>obtain⟨rfl,_⟩:=hI;exact hs1 true _ _
  |2,hI=>obtain⟨rfl,_⟩:=hI;exact hs0 true _
  |3,hI=>obtain⟨rfl,_⟩:=hI;exact hs1 true _ _
  |4,hI=>obtain⟨rfl,_⟩:=hI;exact hs0 true _
  |5,hI=>obtain⟨rfl,_⟩:=hI;exact hs1 true _ _
  |6,hI=>exact hs2 true _ _ _
  |7,hI=>exact hs2 true _ _ _
  |s+8,hI=>exact absurd hI (by simp[gI])
theorem Eg{O:afu}(n m:Int)(J:m.natAbs<K){H b:Code}(I:ah f140=[H,b]):
  ∃F:Env->Bool->Env,∀Z d,(aa Z 5=.int .i64 n/\aa Z 7=.int .i64 m)->
   aO (aL prog) jN O K 56 0 true (.loop H) ⟨Z,[],d⟩=some (.exit 0,⟨F Z d,[],d⟩)/\(∃g:Int,aa (F Z d) 5=.int .i64 g/\g.natAbs=n.natAbs.gcd m.natAbs):=by
 have X:jN H=[5,7]:=by simp[ah,aw,f140] at I;obtain⟨rfl,rfl⟩:=I;decide
 refine bG X (fun Z=>aa Z 5=.int .i64 n/\aa Z 7=.int .i64 m) (fun _ U =>∃g:Int,aa U 5=.int .i64 g/\g.natAbs=n.natAbs.gcd m.natAbs) ?_;rintro Z d ⟨h5,h7⟩;have S:au [5,7] (ae H) Z ((5,.int .i64 n)::(7,.int .i64 m)::Z)=au [5,7] (ae H) Z Z:=by simp[au,h5,h7]
 rw[<-S];refine bZ (α:=Int×Int) (fun s=>⟨au [5,7] (ae H) Z ((5,.int .i64 s.1)::(7,.int .i64 s.2)::Z),[],d⟩) (fun s=>s.2.natAbs) (fun s=>s.1.natAbs.gcd s.2.natAbs=n.natAbs.gcd m.natAbs) (.exit 0) _ d _ (by simp) ?_ K (n,m) rfl J;rintro ⟨x,y⟩ hg;simp only at hg |-;simp[ah,aw,f140] at I;obtain⟨rfl,rfl⟩:=I;by_cases V:y=0
 .right
  subst V;simp only[Int.natAbs_zero,Nat.gcd_zero_right] at hg;simp[hg]
 .left
  have R:(x.tmod y).natAbs<y.natAbs:=by rw[Int.natAbs_tmod];exact Nat.mod_lt _ (by omega)
  refine⟨(y,x.tmod y),?_⟩;refine bF (show y.natAbs.gcd (x.tmod y).natAbs=n.natAbs.gcd m.natAbs/\_ from⟨by rw[Int.natAbs_tmod,<-hg,Nat.gcd_comm x.natAbs,Nat.gcd_rec y.natAbs x.natAbs,Nat.gcd_comm],R⟩) ?_;simp[V]
theorem PA(a b:Int)(ha:(aj a.natAbs).length<=100000)(hb:(aj b.natAbs).length<=100000)(mem:Mem):
  bz prog 140 [.str (bH a),.str (bH b)] mem (.str (aj (a.natAbs.gcd b.natAbs))) mem:=by
 have y:bq prog 140=some f140:=by kernel_rfl
 refine dE pI (lv:=jN) (K:=2*b.natAbs+2) rfl rfl ?_ mem;obtain⟨b0,b1,Z⟩:∃b0 b1,ah f140=[b0,b1]:=⟨_,_,rfl⟩
 have la:=du a;have lb:=du b;have X:(bH a).length<=1000000000:=by omega
 have N:(bH b).length<=1000000000:=by omega
 by_cases u:(bH a).length<=18/\(bH b).length<=18
 .have C:((bH a).length:Int)<=18:=by omega
  have o:((bH b).length:Int)<=18:=by omega
  have s1:=jV u.1;have s2:=jV u.2;obtain⟨F,V⟩:=Eg (O:=cL) (K:=2*b.natAbs+2) a b (by omega) Z;obtain⟨G,M⟩:=dY (β:=Int) (p:=fun R _=>aa R 5=.int .i64 a/\aa R 7=.int .i64 b) (q:=fun R d g=>aa (F R d) 5=.int .i64 g/\g.natAbs=a.natAbs.gcd b.natAbs) (fun R d h=>(V R d h).2);have m:a.natAbs.gcd b.natAbs<10 ^ 18:=by
   by_cases j:a.natAbs=0
   .rw[j,Nat.gcd_zero_left];exact s2
   .exact Nat.lt_of_le_of_lt (Nat.gcd_le_left _ (by omega)) s1
  obtain⟨g,Q⟩:=xE (a.natAbs.gcd b.natAbs);rw[<-Q] at m M |-;have w1:∀z:Int,z.natAbs=g->IntKind.i64.wrap (-z)= -z:=fun z hz=>af
  have w2:∀z:Int,z.natAbs=g->(if z< -z then -z else z)=(g:Int):=fun z hz=>by split<;>omega
  have hf:ef (g:Int)=true:=by unfold ef;simp;omega
  have Y:bH (g:Int)=aj g:=rfl;simp[ah,aw,f140] at Z;obtain⟨rfl,rfl⟩:=Z;simp[ad,y,f140,cL,afu.or,ai,aU,ax,X,N,C,o,V,M,w1,w2,hf,Y]
 .have da:=dr a.natAbs
  have db:=dr b.natAbs;have U:(aj a.natAbs).length<=1000000:=by omega
  have S:(aj b.natAbs).length<=1000000:=by omega
  obtain⟨F,V⟩:=Gz (K:=2*b.natAbs+2) a.natAbs b.natAbs U S (by omega) Z;obtain⟨g,Q⟩:=xE (a.natAbs.gcd b.natAbs);have W:lok 1000000000 (dig 1000000000 g)=true:=cc (by omega) _;have J:bd (dig 1000000000 g)=dig 1000000000 g:=cB (by omega) _;have I:aq 1000000000 (dig 1000000000 g)=g:=bN (by omega) _;have H:(dig 1000000000 g).length<=1000000:=by
   have h1:=dr g;by_cases j:a.natAbs=0
   .rw[j,Nat.gcd_zero_left] at Q
    rw[Q] at h1 |-;omega
   .have h2:=bI (show g<=a.natAbs by rw[Q];exact Nat.gcd_le_left _ (by omega))
    omega
  rw[<-Q] at V |-;obtain⟨A,hA⟩:=xE (dig 1000000000 a.natAbs);obtain⟨B,hB⟩:=xE (dig 1000000000 b.natAbs);obtain⟨D,hD⟩:=xE (dig 1000000000 g);rw[<-hA,<-hB,<-hD] at V;rw[<-hD] at W J I H;simp[ah,aw,f140] at Z;obtain⟨rfl,rfl⟩:=Z;by_cases C:((bH a).length:Int)<=18
  .have o:¬((bH b).length:Int)<=18:=fun e=>u (by omega)
   simp[ad,y,f140,cL,afu.or,ai,aU,aV,an,ax,X,N,C,o,cI,U,S,<-hA,<-hB,V,aD,ag,W,J,I,H,mU]
  .simp[ad,y,f140,cL,afu.or,ai,aU,aV,an,ax,X,C,cI,U,S,<-hA,<-hB,V,aD,ag,W,J,I,H,mU]
end Go.Proofs
