/- See C54. -/
import Derived.Test.YtffdedmakncfmaaGreatDoorC14
set_option linter.all false
set_option maxRecDepth 100000
set_option maxHeartbeats 40000000
namespace Go.Proofs
open Go.Eng
open Tryz
def dS(mn:Bool)(v:Nat):List UInt8:=if v=0 then [48] else if mn then 45::ai v else ai v
theorem gW(z:Int):dS (decide (z<0)) z.natAbs=bB z:=by
 unfold dS;by_cases Z:z=0
 ·subst Z;rfl
 ·rw[if_neg (by omega)]
  by_cases h:z<0
  ·rw[decide_eq_true h,if_pos rfl]
   have:=kK (n:= -z) (by omega);rw[Int.neg_neg] at this;rw[this,gj (by omega),Int.natAbs_neg]
  ·rw[decide_eq_false h,if_neg (by simp),gj (by omega)]
variable{Z8 body:Code}{ps:Array Tmp}
section
variable (v:Nat)(mn:Bool)(hv:0<v)(hl:(dig 1000000000 v).length≤1000000)(hb:ej f142=[(ps,Z8,body)])
include v mn hv hl hb
theorem ym:
  ∃O:afF,qS prog O∧∀Z,(ad Z 1=.ptr 1 0∧ad Z 3=.ptr 2 0∧Z.flatMap (fun e=>e.2.refs 5)=[])→
   O (.fn 245) [.yield 4,.ptr 3 0] [.cells false 1 (iN .u64 (dig 1000000000 v)),.cells true 0 [.bool mn,.slice 0 0 (dig 1000000000 v).length none],.cells true aL [.af4,.qF],.cells true 0 [.slice 0 0 (dig 1000000000 v).length none],.loop ⟨.ready,none,Z,34,ps,Z8,body⟩]=some ⟨.tuple [],some [.cells false 1 (iN .u64 (dig 1000000000 v)),.cells true 0 [.bool mn,.slice 0 0 (dig 1000000000 v).length none],.cells true aL [.ptr 2 0,.slice 5 0 (ai v).length none],.cells true 0 [.slice 0 0 (dig 1000000000 v).length none],.loop ⟨.ready,none,Z,34,ps,Z8,body⟩],[.cells true 6001 (iB (ai v))]⟩:=by
 refine jJ (ι:=Env) (fun Z=>ad Z 1=.ptr 1 0∧ad Z 3=.ptr 2 0∧Z.flatMap (fun e=>e.2.refs 5)=[]) (fun _=>.fn 245) (fun _=>[.yield 4,.ptr 3 0]) (fun Z=>[.cells false 1 (iN .u64 (dig 1000000000 v)),.cells true 0 [.bool mn,.slice 0 0 (dig 1000000000 v).length none],.cells true aL [.af4,.qF],.cells true 0 [.slice 0 0 (dig 1000000000 v).length none],.loop ⟨.ready,none,Z,34,ps,Z8,body⟩]) (fun Z=>⟨.tuple [],some [.cells false 1 (iN .u64 (dig 1000000000 v)),.cells true 0 [.bool mn,.slice 0 0 (dig 1000000000 v).length none],.cells true aL [.ptr 2 0,.slice 5 0 (ai v).length none],.cells true 0 [.slice 0 0 (dig 1000000000 v).length none],.loop ⟨.ready,none,Z,34,ps,Z8,body⟩],[.cells true 6001 (iB (ai v))]⟩) ?_ ?_
 ·rintro Z ⟨h1,h3,he⟩
  refine⟨?_,fun q X=>by cases X;rfl⟩;exact Ax v mn hv hl hb Z h1 h3 he
 ·intro i j _ _ _ _ h
  simp only[List.cons.injEq,afU.loop.injEq,agY.mk.injEq,and_true,true_and] at h;rw[h]
theorem wS:
  ∃O:afF,qS prog O∧∀Z,(ad Z 1=.ptr 1 0∧ad Z 3=.ptr 2 0∧Z.flatMap (fun e=>e.2.refs 7)=[])→
   O (.fn 245) [.yield 6,.ptr 5 0] [.cells false 1 (iN .u64 (dig 1000000000 v)),.cells true 0 [.bool mn,.slice 0 0 (dig 1000000000 v).length none],.cells true aL [.ptr 2 0,.slice 4 0 1 none],.cells true 1 (iB [45]),.cells true 6001 (iB [45]),.cells true 0 [.slice 0 0 (dig 1000000000 v).length none],.loop ⟨.ready,none,Z,34,ps,Z8,body⟩]=some ⟨.tuple [],some [.cells false 1 (iN .u64 (dig 1000000000 v)),.cells true 0 [.bool mn,.slice 0 0 (dig 1000000000 v).length none],.cells true aL [.ptr 2 0,.slice 7 0 (45::ai v).length none],.cells true 1 (iB [45]),.qK,.cells true 0 [.slice 0 0 (dig 1000000000 v).length none],.loop ⟨.ready,none,Z,34,ps,Z8,body⟩],[.cells true 6001 (iB (45::ai v))]⟩:=by
 refine jJ (ι:=Env) (fun Z=>ad Z 1=.ptr 1 0∧ad Z 3=.ptr 2 0∧Z.flatMap (fun e=>e.2.refs 7)=[]) (fun _=>.fn 245) (fun _=>[.yield 6,.ptr 5 0]) (fun Z=>[.cells false 1 (iN .u64 (dig 1000000000 v)),.cells true 0 [.bool mn,.slice 0 0 (dig 1000000000 v).length none],.cells true aL [.ptr 2 0,.slice 4 0 1 none],.cells true 1 (iB [45]),.cells true 6001 (iB [45]),.cells true 0 [.slice 0 0 (dig 1000000000 v).length none],.loop ⟨.ready,none,Z,34,ps,Z8,body⟩]) (fun Z=>⟨.tuple [],some [.cells false 1 (iN .u64 (dig 1000000000 v)),.cells true 0 [.bool mn,.slice 0 0 (dig 1000000000 v).length none],.cells true aL [.ptr 2 0,.slice 7 0 (45::ai v).length none],.cells true 1 (iB [45]),.qK,.cells true 0 [.slice 0 0 (dig 1000000000 v).length none],.loop ⟨.ready,none,Z,34,ps,Z8,body⟩],[.cells true 6001 (iB (45::ai v))]⟩) ?_ ?_
 ·rintro Z ⟨h1,h3,he⟩
  refine⟨?_,fun q X=>by cases X;rfl⟩;exact yn v mn hv hl hb Z h1 h3 he
 ·intro i j _ _ _ _ h
  simp only[List.cons.injEq,afU.loop.injEq,agY.mk.injEq,and_true,true_and] at h;rw[h]
end
theorem aht:aS prog 142=some f142:=by kernel_rfl
theorem El(v:Nat)(mn:Bool)(y:0<v)(H:(dig 1000000000 v).length≤1000000):
  ∃O:afF,qS prog O∧aa (bh prog) (fun _=>[]) (aS prog) ((bR.or gn).or O) 1 142 [.agg [.bool mn,.slice 0 0 (dig 1000000000 v).length none]] [.cells false 1 (iN .u64 (dig 1000000000 v))]=
   some ⟨.str (if mn then 45::ai v else ai v),some [.cells false 1 (iN .u64 (dig 1000000000 v))],[]⟩:=by
 obtain⟨ps,Z8,body,S⟩:∃ps Z8 body,ej f142=[(ps,Z8,body)]:=⟨_,_,_,rfl⟩
 have R:dig 1000000000 v≠[]:=by rw[ne_eq,eU (by omega)];omega
 have F:(ai v).length≤90000000:=by
  have N:=gK (bT (B:=1000000000) (by omega) v);rw[bC (by omega)] at N;have D:(1000000000:Nat) ^ (dig 1000000000 v).length=10 ^ (9*(dig 1000000000 v).length):=by rw[Nat.pow_mul]
  rw[D] at N;have h3:=List.length_pos_iff.2 R;have C:=aI (by omega) N;omega
 have Q:=jG v;cases mn with
 |false=>
  obtain⟨O,M,Z⟩:=ym v false y H S;refine⟨O,M,?_⟩;obtain⟨A,V⟩:=xE (dig 1000000000 v);obtain⟨t,X⟩:=xE (ai v);rw[←V] at R;rw[←V,←X] at Z;rw[←V];rw[←X] at F Q;simp only[Bool.false_eq_true,if_false,←X];have U:¬A.length=0:=fun e=>R (List.eq_nil_of_length_eq_zero e)
  have L:t.length≤100000000:=by omega
  simp[ej,fW,f142] at S;obtain⟨rfl,rfl,rfl⟩:=S;simp[aa,aht,f142,afF.or,bR,cb,cg,bX,gn,ag,bI,aq,U,vT,Z,zH,kG,L,Q]
 |true=>
  obtain⟨O,M,Z⟩:=wS v true y H S;refine⟨O,M,?_⟩;obtain⟨A,V⟩:=xE (dig 1000000000 v);obtain⟨t,X⟩:=xE (45::ai v);have K :t.length≤100000000:=by rw[X,List.length_cons];omega
  have G :t≠[]:=by rw[X];simp
  rw[←V] at R;rw[←V,←X] at Z;rw[←V];simp only[if_true,←X];have U:¬A.length=0:=fun e=>R (List.eq_nil_of_length_eq_zero e)
  simp[ej,fW,f142] at S;obtain⟨rfl,rfl,rfl⟩:=S;simp[aa,aht,f142,afF.or,bR,cb,cg,bX,gn,ag,bI,aq,U,vT,Z,zH,kG,K,G]
theorem BT(mn:Bool):aa (bh prog) (fun _=>[]) (aS prog) cF 1 142 [.agg [.bool mn,.slice 0 0 0 none]] [.cells false 1 []]=some ⟨.str [48],none,[]⟩:=by simp[aa,aht,f142]
theorem D9(mn:Bool)(M:Mem):kO prog 142 [.agg [.bool mn,.qF]] M (.str [48]) M:=by refine ao (aw _) ?_ M;simp[aa,aht,f142]
variable{A:List Nat}
theorem Ia{M:Mem}{x:AV}(mn:Bool)(y:lok 1000000000 A=true)(tA:aU A=A)(H:A.length≤1000000)(I:af0 .u64 M x A):
  kO prog 142 [.agg [.bool mn,x]] M (.str (dS mn (au 1000000000 A))) M:=by
 obtain⟨b,o,Q,rfl,X,U⟩:=I;have S:=gL X;have small:kO prog 142 [.agg [.bool mn,.slice 0 0 A.length none]] [.cells false 1 (iN .u64 A)] (.str (dS mn (au 1000000000 A))) ([.cells false 1 (iN .u64 A)]++[]):=by
  by_cases V:au 1000000000 A=0
  ·have e:A=[]:=by have:=nd (by omega) y tA;rw[V,dK] at this;exact this.symm
   subst e;have:=(ar aj (aK _) (aw _) (aR _) (BT mn)).1;simpa [y9.mem,dS,au] using this
  ·have e:=nd (by omega) y tA
   obtain⟨O,R,h⟩:=El (au 1000000000 A) mn (by omega) (by rw[e];exact H);rw[e] at h;have:=(ar aj (aK _) ((rD.or zp).or R) (aR _) h).1;simpa [y9.mem,dS,V] using this
 have:=kO.frame (M:=M) [b] (m:=[.cells false 1 (iN .u64 A)]) rfl (by simpa using S) (by simp) (fun i s Z=>by
  cases i with
  |zero=>simp at Z;subst Z;exact .row X U
  |succ i=>simp at Z) rfl small
 simpa [AV.af9,AV.ren,fj] using this
noncomputable def cj:afF:=fun c Z M=>match c,Z with
 |.fn 142,[.agg [.bool mn,.qF]]=>some ⟨.str (dS mn 0),none,[]⟩
 |.fn 142,[.agg [.bool mn,x]]=>match aZ .u64 M x with
  |some A=>if lok 1000000000 A=true∧aU A=A∧A.length≤1000000 then some ⟨.str (dS mn (au 1000000000 A)),none,[]⟩ else none
  |none=>none
 |.fn 140,[.str s]=>match jP s with
  |some z=>if (ai z.natAbs).length≤1000000 then some ⟨.agg [.bool (decide (z<0)),.slice M.length 0 (dig 1000000000 z.natAbs).length none],none,[.cells true 1 (iN .u64 (dig 1000000000 z.natAbs))]⟩ else none
  |none=>none
 |c,Z=>bR c Z M
theorem Ja:qS prog cj:=by
 refine cf fun c Z M r h=>?_
 unfold cj at h;split at h
 ·cases h
  refine aC ?_;rw[List.append_nil];exact D9 _ M
 ·split at h
  ·rename_i X
   split at h
   ·rename_i V
    obtain⟨U,S,R⟩:=V;cases h;refine aC ?_;rw[List.append_nil];exact Ia _ U S R (ba X)
   ·cases h
  ·cases h
 ·split at h
  ·rename_i Q
   split at h
   ·rename_i O
    cases h;rw[bS Q];exact aC (Ny _ O M)
   ·cases h
  ·cases h
 ·exact dN rD h
theorem cQ(n:Nat):(dig 1000000000 n).length≤(ai n).length:=by
 obtain⟨X,Z,U⟩:=lV _ (ai n) (Nat.le_refl _) (du _);rw[dz] at Z;have V:aU (iH (ai n))=dig 1000000000 n:=by rw[←dJ (by omega) X,Z]
 have:=cS (iH (ai n));rw[V] at this;omega
variable{a b k:Nat}
section
variable (ha:(ai a).length≤k)(hb:(ai b).length≤k)
include ha hb
theorem jE:(ai (a+b)).length≤k+1:=by have Z:=bZ a;have X:=bZ b;have h3:10 ^ (ai a).length≤10 ^ k:=Nat.pow_le_pow_right (by omega) ha;have V:10 ^ (ai b).length≤10 ^ k:=Nat.pow_le_pow_right (by omega) hb;refine aI (by omega) ?_;rw[Nat.pow_succ];omega
theorem dq:(ai (a*b)).length≤2*k:=by have Z:=bZ a;have X:=bZ b;have h3:10 ^ (ai a).length≤10 ^ k:=Nat.pow_le_pow_right (by omega) ha;have V:10 ^ (ai b).length≤10 ^ k:=Nat.pow_le_pow_right (by omega) hb;have:=qz a;exact aI (by omega) (lx (by omega) (by omega))
end
theorem bx(h:a≤b):(ai a).length≤(ai b).length:=by have:=bZ b;exact aI (qz b) (by omega)
theorem Mu(n:Int):(ai n.natAbs).length≤(bB n).length:=by
 cases n with
 |ofNat u=>exact Nat.le_refl _
 |negSucc u=>simp[bB]
theorem j8{n:Int}(h:(bB n).length≤k):n.natAbs<10 ^ k:=by have Z:=bZ n.natAbs;have X:=Mu n;have h3:10 ^ (ai n.natAbs).length≤10 ^ k:=Nat.pow_le_pow_right (by omega) (by omega);omega
noncomputable def aM(f:FuncId)(args:List AV):Option AV:=
 match f,args with
 |139,[.str s,.int .i64 m]=>match jP s with
  |some n=>if m≤18∧s.length≤1000000000 then some (if (s.length:Int)≤m then .tuple [.int .i64 n,.bool true] else .tuple [.int .i64 0,.bool false]) else none
  |none=>none
 |114,[.int .i64 n]=>if dL n then some (.str (bB n)) else none
 |135,[.str s]=>match jP s with
  |some n=>if s.length≤1000000000 then some (.str (bB (-n))) else none
  |none=>none
 |108,[.str s,.str t]=>match jP s,jP t with
  |some m,some n=>some (.int .i64 (M6 m n))
  |_,_=>none
 |f,args=>aN f args
theorem zt:qS prog (ag aM):=bF fun f V v h mem=>by
 unfold aM at h;split at h
 ·split at h
  ·rename_i n X
   split at h
   ·rename_i Z
    cases h;rw[bS X] at Z ⊢;exact NC n _ Z.1 Z.2 mem
   ·cases h
  ·cases h
 ·split at h
  next Z=>cases h;exact Vx _ Z mem
  ·cases h
 ·split at h
  ·rename_i n X
   split at h
   ·rename_i Z
    cases h;rw[bS X] at Z ⊢;exact Tg n Z mem
   ·cases h
  ·cases h
 ·split at h
  ·rename_i m n U X
   cases h;rw[bS U,bS X];exact Ea m n mem
  ·cases h
 ·have:=rY.fn _ _ mem ⟨v,none,[]⟩ (by unfold ag;simp only;rw[h])
  simpa [y9.mem] using this
noncomputable def cm:afF:=fun c Z M=>((ag aM).or cj) c Z M
theorem pY:qS prog cm:=zt.or Ja
section
variable (ow:Bool)
include ow
theorem hs0(l:Mem):aZ .u64 (.cells ow 1 (iN .u64 A)::l) (.slice 0 0 A.length none)=some A:=aP rfl (by simp) (List.take_of_length_le (by simp))
theorem hs1(a0:afU)(l:Mem):aZ .u64 (a0::.cells ow 1 (iN .u64 A)::l) (.slice 1 0 A.length none)=some A:=aP rfl (by simp) (List.take_of_length_le (by simp))
theorem hs2(a0 a1:afU)(l:Mem):aZ .u64 (a0::a1::.cells ow 1 (iN .u64 A)::l) (.slice 2 0 A.length none)=some A:=aP rfl (by simp) (List.take_of_length_le (by simp))
theorem hs3(a0 a1 y:afU)(l:Mem):aZ .u64 (a0::a1::y::.cells ow 1 (iN .u64 A)::l) (.slice 3 0 A.length none)=some A:=aP rfl (by simp) (List.take_of_length_le (by simp))
theorem hs4(a0 a1 y H:afU)(l:Mem):aZ .u64 (a0::a1::y::H::.cells ow 1 (iN .u64 A)::l) (.slice 4 0 A.length none)=some A:=aP rfl (by simp) (List.take_of_length_le (by simp))
theorem hs5(a0 a1 y H I:afU)(l:Mem):aZ .u64 (a0::a1::y::H::I::.cells ow 1 (iN .u64 A)::l) (.slice 5 0 A.length none)=some A:=aP rfl (by simp) (List.take_of_length_le (by simp))
end
theorem QK(a b:Int)(ha:(ai a.natAbs).length≤100000)(hb:(ai b.natAbs).length≤100000)(mem:Mem):kO prog 134 [.str (bB a),.str (bB b)] mem (.str (bB (a+b))) mem:=by
 have o:aS prog 134=some f134:=by kernel_rfl
 refine ao pY ?_ mem;have la:=cR a;have lb:=cR b;have U:(bB a).length≤1000000000:=by omega
 have M:(bB b).length≤1000000000:=by omega
 by_cases H:(bB a).length≤18∧(bB b).length≤18
 ·have N:((bB a).length:Int)≤18:=by omega
  have j:((bB b).length:Int)≤18:=by omega
  have s1:=j8 H.1;have s2:=j8 H.2;have w1:IntKind.i64.wrap (a+b)=a+b:=af;have hf:dL (a+b)=true:=by unfold dL;simp;omega
  simp[aa,o,f134,cm,afF.or,ag,aM,aB,U,M,N,j,w1,hf]
 ·have da:=cQ a.natAbs
  have db:=cQ b.natAbs;have Q:(ai a.natAbs).length≤1000000:=by omega
  have O:(ai b.natAbs).length≤1000000:=by omega
  have sum:=jE ha hb;have ds:=cQ (a.natAbs+b.natAbs);have Y:au 1000000000 (dig 1000000000 a.natAbs)=a.natAbs:=bC (by omega) _;have W:au 1000000000 (dig 1000000000 b.natAbs)=b.natAbs:=bC (by omega) _;have J:lok 1000000000 (dig 1000000000 a.natAbs)=true:=bT (by omega) _;have I:lok 1000000000 (dig 1000000000 b.natAbs)=true:=bT (by omega) _;have y:aU (dig 1000000000 a.natAbs)=dig 1000000000 a.natAbs:=bY (by omega) _;have tb:aU (dig 1000000000 b.natAbs)=dig 1000000000 b.natAbs:=bY (by omega) _;obtain⟨A,L⟩:=xE (dig 1000000000 a.natAbs);obtain⟨B,K⟩:=xE (dig 1000000000 b.natAbs);rw[←L] at da Y J y;rw[←K] at db W I tb;have g1:A.length≤100000000:=by omega
  have g2:B.length≤100000000:=by omega
  have g3:A.length≤1000000000:=by omega
  have g4:B.length≤1000000000:=by omega
  by_cases G:(decide (a<0))=(decide (b<0))
  ·obtain⟨S,hS⟩:=xE (dig 1000000000 (a.natAbs+b.natAbs))
   have F:au 1000000000 S=a.natAbs+b.natAbs:=by rw[hS];exact bC (by omega) _
   have D:lok 1000000000 S=true:=by rw[hS];exact bT (by omega) _
   have C:aU S=S:=by rw[hS];exact bY (by omega) _
   have u:S.length≤1000000:=by rw[hS];omega
   have X:dS (decide (a<0)) (a.natAbs+b.natAbs)=bB (a+b):=by
    rw[←gW (a+b)];have:(a+b).natAbs=a.natAbs+b.natAbs:=by by_cases Z:a<0<;>by_cases V:b<0<;>simp[Z,V] at G<;>omega
    rw[this];by_cases Z:a<0<;>by_cases V:b<0<;>simp[Z,V] at G
    ·rw[decide_eq_true Z,decide_eq_true (by omega)]
    ·rw[decide_eq_false Z,decide_eq_false (by omega)]
   have R :(decide (a<0)==decide (b<0))=true:=by rw[G];simp
   by_cases N:((bB a).length:Int)≤18
   ·have j:¬((bB b).length:Int)≤18:=fun e=>H (by omega)
    simp[aa,o,f134,cm,afF.or,ag,aM,aN,aq,aB,U,M,N,j,cj,Q,O,←L,←K,bR,bI,cb,cg,bX,hs0,hs1,J,I,g1,g2,Y,W,←hS,bN,aF,hs4,D,C,u,F,R,X,Nat.testBit]
   ·simp[aa,o,f134,cm,afF.or,ag,aM,aN,aq,aB,U,N,cj,Q,O,←L,←K,bR,bI,cb,cg,bX,hs0,hs1,J,I,g1,g2,Y,W,←hS,bN,aF,hs4,D,C,u,F,R,X,Nat.testBit]
  ·have R :(decide (a<0)==decide (b<0))=false:=by cases Z:decide (a<0)<;>cases V:decide (b<0)<;>simp[Z,V] at G ⊢
   by_cases FS:a.natAbs<b.natAbs
   ·have hc:kq a.natAbs b.natAbs= -1:=by unfold kq;rw[if_pos FS]
    obtain⟨S,hS⟩:=xE (dig 1000000000 (b.natAbs-a.natAbs));have F:au 1000000000 S=b.natAbs-a.natAbs:=by rw[hS];exact bC (by omega) _
    have D:lok 1000000000 S=true:=by rw[hS];exact bT (by omega) _
    have C:aU S=S:=by rw[hS];exact bY (by omega) _
    have u:S.length≤1000000:=by rw[hS];have Z:=cQ (b.natAbs-a.natAbs);have V:=bx (show b.natAbs-a.natAbs≤b.natAbs by omega);omega
    have g6:A.length≤B.length:=by
     rcases Nat.lt_or_ge B.length A.length with h | h
     ·have:=dI (B:=1000000000) (m:=b.natAbs) (n:=a.natAbs) (by omega) (by rw[←L,←K];exact h)
      omega
     ·exact h
    have g7:a.natAbs≤b.natAbs:=by omega
    have X:dS (decide (b<0)) (b.natAbs-a.natAbs)=bB (a+b):=by
     rw[←gW (a+b)];have h0:(a+b).natAbs=b.natAbs-a.natAbs:=by by_cases Z:a<0<;>by_cases V:b<0<;>simp[Z,V] at G<;>omega
     rw[h0];by_cases Z:a<0<;>by_cases V:b<0<;>simp[Z,V] at G
     ·rw[decide_eq_false V,decide_eq_false (by omega)]
     ·rw[decide_eq_true V,decide_eq_true (by omega)]
    by_cases N:((bB a).length:Int)≤18
    ·have j:¬((bB b).length:Int)≤18:=fun e=>H (by omega)
     simp[aa,o,f134,cm,afF.or,ag,aM,aN,aq,aB,U,M,N,j,cj,Q,O,←L,←K,bR,bI,cb,cg,bX,bH,hs0,hs1,J,I,y,tb,g2,g3,Y,W,hc,g6,g7,←hS,bN,aF,hs4,D,C,u,F,R,X,Nat.testBit]
    ·simp[aa,o,f134,cm,afF.or,ag,aM,aN,aq,aB,U,N,cj,Q,O,←L,←K,bR,bI,cb,cg,bX,bH,hs0,hs1,J,I,y,tb,g2,g3,Y,W,hc,g6,g7,←hS,bN,aF,hs4,D,C,u,F,R,X,Nat.testBit]
   ·have hc:¬kq a.natAbs b.natAbs<0:=by unfold kq;rw[if_neg FS];split<;>omega
    obtain⟨S,hS⟩:=xE (dig 1000000000 (a.natAbs-b.natAbs));have F:au 1000000000 S=a.natAbs-b.natAbs:=by rw[hS];exact bC (by omega) _
    have D:lok 1000000000 S=true:=by rw[hS];exact bT (by omega) _
    have C:aU S=S:=by rw[hS];exact bY (by omega) _
    have u:S.length≤1000000:=by rw[hS];have Z:=cQ (a.natAbs-b.natAbs);have V:=bx (show a.natAbs-b.natAbs≤a.natAbs by omega);omega
    have g6:B.length≤A.length:=by
     rcases Nat.lt_or_ge A.length B.length with h | h
     ·have:=dI (B:=1000000000) (m:=a.natAbs) (n:=b.natAbs) (by omega) (by rw[←L,←K];exact h)
      omega
     ·exact h
    have g7:b.natAbs≤a.natAbs:=by omega
    have X:dS (decide (a<0)) (a.natAbs-b.natAbs)=bB (a+b):=by
     rw[←gW (a+b)];have h0:(a+b).natAbs=a.natAbs-b.natAbs:=by by_cases Z:a<0<;>by_cases V:b<0<;>simp[Z,V] at G<;>omega
     rw[h0];by_cases hz:a.natAbs-b.natAbs=0
     ·unfold dS;rw[if_pos hz,if_pos hz]
     by_cases Z:a<0<;>by_cases V:b<0<;>simp[Z,V] at G
     ·rw[decide_eq_true Z,decide_eq_true (by omega)]
     ·rw[decide_eq_false Z,decide_eq_false (by omega)]
    by_cases N:((bB a).length:Int)≤18
    ·have j:¬((bB b).length:Int)≤18:=fun e=>H (by omega)
     simp[aa,o,f134,cm,afF.or,ag,aM,aN,aq,aB,U,M,N,j,cj,Q,O,←L,←K,bR,bI,cb,cg,bX,bH,hs0,hs1,J,I,y,tb,g1,g3,Y,W,hc,g6,g7,←hS,bN,aF,hs4,D,C,u,F,R,X,Nat.testBit]
    ·simp[aa,o,f134,cm,afF.or,ag,aM,aN,aq,aB,U,N,cj,Q,O,←L,←K,bR,bI,cb,cg,bX,bH,hs0,hs1,J,I,y,tb,g1,g3,Y,W,hc,g6,g7,←hS,bN,aF,hs4,D,C,u,F,R,X,Nat.testBit]
theorem Fp(a b:Int):dS (!(decide (a<0)==decide (b<0))) (a.natAbs*b.natAbs)=bB (a*b):=by
 rw[←gW (a*b),Int.natAbs_mul];by_cases V:a.natAbs*b.natAbs=0
 ·unfold dS;rw[if_pos V,if_pos V]
 ·have S:a≠0:=by rintro rfl;simp at V
  have R:b≠0:=by rintro rfl;simp at V
  congr 1;by_cases Z:a<0<;>by_cases X:b<0
  ·have h3:=Int.mul_pos_of_neg_of_neg Z X
   have U:¬a*b<0:=by omega
   simp[Z,X,U]
  ·have h3:=Int.mul_neg_of_neg_of_pos Z (show 0<b by omega)
   simp[Z,X,h3]
  ·have h3:=Int.mul_neg_of_pos_of_neg (show 0<a by omega) X
   simp[Z,X,h3]
  ·have h3:=Int.mul_nonneg (show 0≤a by omega) (show 0≤b by omega)
   have U:¬a*b<0:=by omega
   simp[Z,X,U]
theorem Q5(a b:Int)(y:(ai a.natAbs).length≤100000)(H:(ai b.natAbs).length≤100000)(mem:Mem):kO prog 93 [.str (bB a),.str (bB b)] mem (.str (bB (a*b))) mem:=by
 have N:aS prog 93=some f93:=by kernel_rfl
 refine ao pY ?_ mem;have la:=cR a;have lb:=cR b;have Z:(bB a).length≤1000000000:=by omega
 have V:(bB b).length≤1000000000:=by omega
 by_cases M:(bB a).length≤9∧(bB b).length≤9
 ·have O:((bB a).length:Int)≤9:=by omega
  have L:((bB b).length:Int)≤9:=by omega
  have I:=j8 M.1;have s2:=j8 M.2;have s3:(a*b).natAbs<10 ^ 9*10 ^ 9:=by rw[Int.natAbs_mul];exact Nat.mul_lt_mul'' I s2
  have w1:IntKind.i64.wrap (a*b)=a*b:=af;have hf:dL (a*b)=true:=by unfold dL;simp;omega
  simp[aa,N,f93,cm,afF.or,ag,aM,aB,Z,V,O,L,w1,hf]
 ·have da:=cQ a.natAbs
  have db:=cQ b.natAbs;have U:(ai a.natAbs).length≤1000000:=by omega
  have R:(ai b.natAbs).length≤1000000:=by omega
  have sum:=dq y H;have ds:=cQ (a.natAbs*b.natAbs);have K:au 1000000000 (dig 1000000000 a.natAbs)=a.natAbs:=bC (by omega) _;have G:au 1000000000 (dig 1000000000 b.natAbs)=b.natAbs:=bC (by omega) _;have F:lok 1000000000 (dig 1000000000 a.natAbs)=true:=bT (by omega) _;have D:lok 1000000000 (dig 1000000000 b.natAbs)=true:=bT (by omega) _;obtain⟨A,C⟩:=xE (dig 1000000000 a.natAbs);obtain⟨B,u⟩:=xE (dig 1000000000 b.natAbs);rw[←C] at da K F;rw[←u] at db G D;have o:A.length≤100000000:=by omega
  have m:B.length≤100000000:=by omega
  obtain⟨S,hS⟩:=xE (dig 1000000000 (a.natAbs*b.natAbs));have j:au 1000000000 S=a.natAbs*b.natAbs:=by rw[hS];exact bC (by omega) _
  have Y:lok 1000000000 S=true:=by rw[hS];exact bT (by omega) _
  have W:aU S=S:=by rw[hS];exact bY (by omega) _
  have J:S.length≤1000000:=by rw[hS];omega
  obtain⟨mn,X⟩:=xE (!(decide (a<0)==decide (b<0)));have Q:dS mn (a.natAbs*b.natAbs)=bB (a*b):=by rw[X];exact Fp a b
  by_cases O:((bB a).length:Int)≤9
  ·have L:¬((bB b).length:Int)≤9:=fun e=>M (by omega)
   simp[aa,N,f93,cm,afF.or,ag,aM,aN,aq,aB,Z,V,O,L,cj,U,R,←C,←u,bR,bI,cb,cg,bX,hs0,hs1,F,D,o,m,K,G,←hS,bN,aF,hs4,Y,W,J,j,←X,Q,Nat.testBit]
  ·simp[aa,N,f93,cm,afF.or,ag,aM,aN,aq,aB,Z,O,cj,U,R,←C,←u,bR,bI,cb,cg,bX,hs0,hs1,F,D,o,m,K,G,←hS,bN,aF,hs4,Y,W,J,j,←X,Q,Nat.testBit]
theorem mY(n:Nat):dS false n=ai n:=by
 unfold dS;by_cases h:n=0
 ·subst h;rfl
 ·rw[if_neg h];rfl
theorem Fo{a:Int}(y:0<b)(h:0≤a∨a.natAbs%b=0):dS (decide (a<0)) (a.natAbs / b)=bB (a / b):=by
 rw[←gW (a / b)];by_cases U:a<0
 ·have S:a.natAbs%b=0:=by rcases h with h | h<;>omega
  have Z:a= -((a.natAbs / b*b:Nat):Int):=by have:=Nat.div_add_mod a.natAbs b;rw[S,Nat.add_zero,Nat.mul_comm] at this;omega
  obtain⟨q,X⟩:=xE (a.natAbs / b);rw[←X] at Z;have h3:a / (b:Int)= -(q:Int):=by rw[Z,Int.natCast_mul,←Int.neg_mul];exact Int.mul_ediv_cancel _ (by omega)
  rw[h3,←X,Int.natAbs_neg,Int.natAbs_natCast];by_cases V:q=0
  ·unfold dS;rw[if_pos V,if_pos V]
  ·rw[decide_eq_true U,decide_eq_true (by omega)]
 ·obtain⟨n,rfl⟩:∃n:Nat,a=n:=⟨a.toNat,by omega⟩
  rw[←Int.natCast_ediv,Int.natAbs_natCast,Int.natAbs_natCast,decide_eq_false (by omega),decide_eq_false (Int.not_lt.2 (Int.natCast_nonneg _))]
theorem F5(a:Int)(b:Nat)(H:0<b)(y:0≤a∨a.natAbs%b=0)(ha:(ai a.natAbs).length≤100000)(hb:(ai b).length≤100000)(mem:Mem):
  kO prog 138 [.str (bB a),.str (ai b)] mem (.tuple [.str (bB (a / b)),.str (ai (a.natAbs%b)),.int .i64 0]) mem:=by
 have J:aS prog 138=some f138:=by kernel_rfl
 refine ao pY ?_ mem;rw[←Fo H y,←mY (a.natAbs%b)];have X:jP (ai b)=some (b:Int):=aB (b:Int);have V:(ai b==[48])=false:=by rw[beq_eq_false_iff_ne];intro e;have:=Bs (e.trans (show [48]=ai 0 from rfl));omega
 have da:=cQ a.natAbs;have db:=cQ b;have Z:(ai a.natAbs).length≤1000000:=by omega
 have U:(ai b).length≤1000000:=by omega
 have K:au 1000000000 (dig 1000000000 a.natAbs)=a.natAbs:=bC (by omega) _;have D:au 1000000000 (dig 1000000000 b)=b:=bC (by omega) _;have C:lok 1000000000 (dig 1000000000 a.natAbs)=true:=bT (by omega) _;have u:lok 1000000000 (dig 1000000000 b)=true:=bT (by omega) _;have o:aU (dig 1000000000 a.natAbs)=dig 1000000000 a.natAbs:=bY (by omega) _;have m:aU (dig 1000000000 b)=dig 1000000000 b:=bY (by omega) _;obtain⟨A,G⟩:=xE (dig 1000000000 a.natAbs);obtain⟨B,j⟩:=xE (dig 1000000000 b);rw[←G] at da K C o;rw[←j] at db D u m;have I:A.length≤1000000:=by omega
 have g2:B.length≤1000000:=by omega
 obtain⟨n,Y⟩:=xE a.natAbs;rw[←Y] at K G y Z ⊢;have S:¬(b:Int)<0:=by omega
 by_cases N:n<b
 ·have M:¬a<0:=by
   rcases y with h | h
   ·omega
   ·rw[Nat.mod_eq_of_lt N] at h;omega
  rw[Nat.div_eq_of_lt N,Nat.mod_eq_of_lt N];simp[aa,J,f138,cm,afF.or,ag,aM,aN,aq,aB,X,V,←Y,cj,Z,U,←G,←j,bR,bI,cb,hs0,hs1,C,u,o,m,I,K,D,H,N,M,S,bN,aF]
 ·obtain⟨q,W⟩:=xE (n / b)
  obtain⟨r,F⟩:=xE (n%b);rw[←F] at y;rw[←W,←F];obtain⟨Q,hQ⟩:=xE (dig 1000000000 q);obtain⟨R,L⟩:=xE (dig 1000000000 r);have vq:au 1000000000 Q=q:=by rw[hQ];exact bC (by omega) _
  have oq:lok 1000000000 Q=true:=by rw[hQ];exact bT (by omega) _
  have tq:aU Q=Q:=by rw[hQ];exact bY (by omega) _
  have gq:Q.length≤1000000:=by rw[hQ];have h1:=cQ q;have h2:=bx (show q≤n by rw[W];exact Nat.div_le_self _ _);omega
  have vr:au 1000000000 R=r:=by rw[L];exact bC (by omega) _
  have or:lok 1000000000 R=true:=by rw[L];exact bT (by omega) _
  have tr:aU R=R:=by rw[L];exact bY (by omega) _
  have gr:R.length≤1000000:=by rw[L];have h1:=cQ r;have h2:=bx (show r≤n by rw[F];exact Nat.mod_le _ _);omega
  have cond:∀x:Nat,¬(a<0∧0<R.length):=by
   intro _ h;rcases y with h1 | h1
   ·omega
   ·rw[L,h1,dK] at h;simp at h
  by_cases hz:2≤B.length∧r=0
  ·obtain⟨O,hz2⟩:=hz
   by_cases M:a<0
   ·simp[aa,J,f138,cm,afF.or,ag,aM,aN,aq,aB,X,V,←Y,cj,Z,U,←G,←j,bR,bI,cb,hs0,hs1,C,u,o,m,I,K,D,H,N,S,←W,←F,←hQ,O,hz2,M,hs4,vq,oq,tq,gq,bN,aF]
   ·simp[aa,J,f138,cm,afF.or,ag,aM,aN,aq,aB,X,V,←Y,cj,Z,U,←G,←j,bR,bI,cb,hs0,hs1,C,u,o,m,I,K,D,H,N,S,←W,←F,←hQ,O,hz2,M,hs4,vq,oq,tq,gq,bN,aF]
  ·by_cases M:a<0
   ·have hrl:¬0<R.length:=fun e=>cond 0 ⟨M,e⟩
    have ab9 :R=[]:=List.eq_nil_of_length_eq_zero (by omega);have hr0:r=0:=by rcases y with h | h<;>omega
    subst hr0;have O:¬2≤B.length:=fun e=>hz ⟨e,rfl⟩
    rw[ab9] at L vr;have k1:lok 1000000000 []=true:=rfl;have k2:aU []=[]:=rfl;have h5e:∀a0 a1 a2 a3 a4 l,aZ .u64 (a0::a1::a2::a3::a4::.cells true 1 []::l) (.slice 5 0 0 none)=some []:=fun a0 a1 a2 a3 a4 l=>hs5 (A:=[]) true a0 a1 a2 a3 a4 l
    simp[aa,J,f138,cm,afF.or,ag,aM,aN,aq,aB,X,V,←Y,cj,Z,U,←G,←j,bR,bI,cb,hs0,hs1,C,u,o,m,I,K,D,H,N,S,←W,←F,←hQ,←L,O,hs4,h5e,k1,k2,vr,vq,oq,tq,gq,M,bN,aF]
   ·simp[aa,J,f138,cm,afF.or,ag,aM,aN,aq,aB,X,V,←Y,cj,Z,U,←G,←j,bR,bI,cb,hs0,hs1,C,u,o,m,I,K,D,H,N,S,←W,←F,←hQ,←L,hz,hs4,hs5,vq,oq,tq,gq,vr,or,tr,gr,M,bN,aF]
end Go.Proofs
