/- See B54. -/
import Derived.Test.YtffdedmakncfmaaGreatDoorB14
set_option linter.all false
set_option maxRecDepth 100000
set_option maxHeartbeats 40000000
namespace Go.Proofs
open Go.Eng
open Tryz
def dN(mn:Bool)(v:Nat):List UInt8:=if v=0 then [48] else if mn then 45::ai v else ai v
theorem gA(z:Int):dN (decide (z<0)) z.natAbs=bB z:=by
 unfold dN;by_cases Z:z=0
 ·subst Z;rfl
 ·rw[if_neg (by omega)]
  by_cases h:z<0
  ·rw[decide_eq_true h,if_pos rfl]
   have:=jY (n:= -z) (by omega);rw[Int.neg_neg] at this;rw[this,fL (by omega),Int.natAbs_neg]
  ·rw[decide_eq_false h,if_neg (by simp),fL (by omega)]
variable{X' body:Code}{ps:Array Tmp}
section
variable (v:Nat)(mn:Bool)(hv:0<v)(hl:(dig 1000000000 v).length≤1000000)(hb:ee f142=[(ps,X',body)])
include v mn hv hl hb
theorem xm:
  ∃O:ae3,qS prog O∧∀Z,(ab Z 1=.ptr 1 0∧ab Z 3=.ptr 2 0∧Z.flatMap (fun e=>e.2.refs 5)=[])→
   O (.fn 245) [.yield 4,.ptr 3 0] [.cells false 1 (iN .u64 (dig 1000000000 v)),.cells true 0 [.bool mn,.slice 0 0 (dig 1000000000 v).length none],.cells true aN [.afk,.qF],.cells true 0 [.slice 0 0 (dig 1000000000 v).length none],.loop ⟨.ready,none,Z,34,ps,X',body⟩]=some ⟨.tuple [],some [.cells false 1 (iN .u64 (dig 1000000000 v)),.cells true 0 [.bool mn,.slice 0 0 (dig 1000000000 v).length none],.cells true aN [.ptr 2 0,.slice 5 0 (ai v).length none],.cells true 0 [.slice 0 0 (dig 1000000000 v).length none],.loop ⟨.ready,none,Z,34,ps,X',body⟩],[.cells true 6001 (iB (ai v))]⟩:=by
 refine jf (ι:=Env) (fun Z=>ab Z 1=.ptr 1 0∧ab Z 3=.ptr 2 0∧Z.flatMap (fun e=>e.2.refs 5)=[]) (fun _=>.fn 245) (fun _=>[.yield 4,.ptr 3 0]) (fun Z=>[.cells false 1 (iN .u64 (dig 1000000000 v)),.cells true 0 [.bool mn,.slice 0 0 (dig 1000000000 v).length none],.cells true aN [.afk,.qF],.cells true 0 [.slice 0 0 (dig 1000000000 v).length none],.loop ⟨.ready,none,Z,34,ps,X',body⟩]) (fun Z=>⟨.tuple [],some [.cells false 1 (iN .u64 (dig 1000000000 v)),.cells true 0 [.bool mn,.slice 0 0 (dig 1000000000 v).length none],.cells true aN [.ptr 2 0,.slice 5 0 (ai v).length none],.cells true 0 [.slice 0 0 (dig 1000000000 v).length none],.loop ⟨.ready,none,Z,34,ps,X',body⟩],[.cells true 6001 (iB (ai v))]⟩) ?_ ?_
 ·rintro Z ⟨h1,h3,he⟩
  refine⟨?_,fun q X=>by cases X;rfl⟩;exact zG v mn hv hl hb Z h1 h3 he
 ·intro i j _ _ _ _ h
  simp only[List.cons.injEq,afb.loop.injEq,agd.mk.injEq,and_true,true_and] at h;rw[h]
theorem vu:
  ∃O:ae3,qS prog O∧∀Z,(ab Z 1=.ptr 1 0∧ab Z 3=.ptr 2 0∧Z.flatMap (fun e=>e.2.refs 7)=[])→
   O (.fn 245) [.yield 6,.ptr 5 0] [.cells false 1 (iN .u64 (dig 1000000000 v)),.cells true 0 [.bool mn,.slice 0 0 (dig 1000000000 v).length none],.cells true aN [.ptr 2 0,.slice 4 0 1 none],.cells true 1 (iB [45]),.cells true 6001 (iB [45]),.cells true 0 [.slice 0 0 (dig 1000000000 v).length none],.loop ⟨.ready,none,Z,34,ps,X',body⟩]=some ⟨.tuple [],some [.cells false 1 (iN .u64 (dig 1000000000 v)),.cells true 0 [.bool mn,.slice 0 0 (dig 1000000000 v).length none],.cells true aN [.ptr 2 0,.slice 7 0 (45::ai v).length none],.cells true 1 (iB [45]),.qK,.cells true 0 [.slice 0 0 (dig 1000000000 v).length none],.loop ⟨.ready,none,Z,34,ps,X',body⟩],[.cells true 6001 (iB (45::ai v))]⟩:=by
 refine jf (ι:=Env) (fun Z=>ab Z 1=.ptr 1 0∧ab Z 3=.ptr 2 0∧Z.flatMap (fun e=>e.2.refs 7)=[]) (fun _=>.fn 245) (fun _=>[.yield 6,.ptr 5 0]) (fun Z=>[.cells false 1 (iN .u64 (dig 1000000000 v)),.cells true 0 [.bool mn,.slice 0 0 (dig 1000000000 v).length none],.cells true aN [.ptr 2 0,.slice 4 0 1 none],.cells true 1 (iB [45]),.cells true 6001 (iB [45]),.cells true 0 [.slice 0 0 (dig 1000000000 v).length none],.loop ⟨.ready,none,Z,34,ps,X',body⟩]) (fun Z=>⟨.tuple [],some [.cells false 1 (iN .u64 (dig 1000000000 v)),.cells true 0 [.bool mn,.slice 0 0 (dig 1000000000 v).length none],.cells true aN [.ptr 2 0,.slice 7 0 (45::ai v).length none],.cells true 1 (iB [45]),.qK,.cells true 0 [.slice 0 0 (dig 1000000000 v).length none],.loop ⟨.ready,none,Z,34,ps,X',body⟩],[.cells true 6001 (iB (45::ai v))]⟩) ?_ ?_
 ·rintro Z ⟨h1,h3,he⟩
  refine⟨?_,fun q X=>by cases X;rfl⟩;exact xn v mn hv hl hb Z h1 h3 he
 ·intro i j _ _ _ _ h
  simp only[List.cons.injEq,afb.loop.injEq,agd.mk.injEq,and_true,true_and] at h;rw[h]
end
theorem agN:aT prog 142=some f142:=by kernel_rfl
theorem Dz(v:Nat)(mn:Bool)(y:0<v)(H:(dig 1000000000 v).length≤1000000):
  ∃O:ae3,qS prog O∧aa (ba prog) (fun _=>[]) (aT prog) ((bM.or fO).or O) 1 142 [.agg [.bool mn,.slice 0 0 (dig 1000000000 v).length none]] [.cells false 1 (iN .u64 (dig 1000000000 v))]=
   some ⟨.str (if mn then 45::ai v else ai v),some [.cells false 1 (iN .u64 (dig 1000000000 v))],[]⟩:=by
 obtain⟨ps,X',body,U⟩:∃ps X' body,ee f142=[(ps,X',body)]:=⟨_,_,_,rfl⟩
 have S:dig 1000000000 v≠[]:=by rw[ne_eq,eH (by omega)];omega
 have G:(ai v).length≤90000000:=by
  have Q:=gd (bO (B:=1000000000) (by omega) v);rw[bC (by omega)] at Q;have F:(1000000000:Nat) ^ (dig 1000000000 v).length=10 ^ (9*(dig 1000000000 v).length):=by rw[Nat.pow_mul]
  rw[F] at Q;have h3:=List.length_pos_iff.2 S;have C:=aG (by omega) Q;omega
 have R:=ja v;cases mn with
 |false=>
  obtain⟨O,N,Z⟩:=xm v false y H U;refine⟨O,N,?_⟩;obtain⟨A,V⟩:=xE (dig 1000000000 v);obtain⟨t,X⟩:=xE (ai v);rw[←V] at S;rw[←V,←X] at Z;rw[←V];rw[←X] at G R;simp only[Bool.false_eq_true,if_false,←X];have M:¬A.length=0:=fun e=>S (List.eq_nil_of_length_eq_zero e)
  have L:t.length≤100000000:=by omega
  simp[ee,fB,f142] at U;obtain⟨rfl,rfl,rfl⟩:=U;simp[aa,agN,f142,ae3.or,bM,cb,cf,bV,fO,af,bF,ak,M,uD,Z,yP,jU,L,R]
 |true=>
  obtain⟨O,N,Z⟩:=vu v true y H U;refine⟨O,N,?_⟩;obtain⟨A,V⟩:=xE (dig 1000000000 v);obtain⟨t,X⟩:=xE (45::ai v);have D :t.length≤100000000:=by rw[X,List.length_cons];omega
  have K :t≠[]:=by rw[X];simp
  rw[←V] at S;rw[←V,←X] at Z;rw[←V];simp only[if_true,←X];have M:¬A.length=0:=fun e=>S (List.eq_nil_of_length_eq_zero e)
  simp[ee,fB,f142] at U;obtain⟨rfl,rfl,rfl⟩:=U;simp[aa,agN,f142,ae3.or,bM,cb,cf,bV,fO,af,bF,ak,M,uD,Z,yP,jU,D,K]
theorem Ba(mn:Bool):aa (ba prog) (fun _=>[]) (aT prog) cN 1 142 [.agg [.bool mn,.slice 0 0 0 none]] [.cells false 1 []]=some ⟨.str [48],none,[]⟩:=by simp[aa,agN,f142]
theorem Dj(mn:Bool)(M:Mem):kO prog 142 [.agg [.bool mn,.qF]] M (.str [48]) M:=by refine ao (ax _) ?_ M;simp[aa,agN,f142]
variable{A:List Nat}
theorem Hk{M:Mem}{x:AV}(mn:Bool)(y:lok 1000000000 A=true)(tA:aU A=A)(H:A.length≤1000000)(I:afi .u64 M x A):
  kO prog 142 [.agg [.bool mn,x]] M (.str (dN mn (au 1000000000 A))) M:=by
 obtain⟨b,o,Q,rfl,X,U⟩:=I;have S:=gL X;have small:kO prog 142 [.agg [.bool mn,.slice 0 0 A.length none]] [.cells false 1 (iN .u64 A)] (.str (dN mn (au 1000000000 A))) ([.cells false 1 (iN .u64 A)]++[]):=by
  by_cases V:au 1000000000 A=0
  ·have e:A=[]:=by have:=mi (by omega) y tA;rw[V,dD] at this;exact this.symm
   subst e;have:=(ar aj (aI _) (ax _) (aP _) (Ba mn)).1;simpa [y9.mem,dN,au] using this
  ·have e:=mi (by omega) y tA
   obtain⟨O,R,h⟩:=Dz (au 1000000000 A) mn (by omega) (by rw[e];exact H);rw[e] at h;have:=(ar aj (aI _) ((qt.or yC).or R) (aP _) h).1;simpa [y9.mem,dN,V] using this
 have:=kO.frame (M:=M) [b] (m:=[.cells false 1 (iN .u64 A)]) rfl (by simpa using S) (by simp) (fun i s Z=>by
  cases i with
  |zero=>simp at Z;subst Z;exact .row X U
  |succ i=>simp at Z) rfl small
 simpa [AV.afp,AV.ren,eL] using this
noncomputable def cg:ae3:=fun c Z M=>match c,Z with
 |.fn 142,[.agg [.bool mn,.qF]]=>some ⟨.str (dN mn 0),none,[]⟩
 |.fn 142,[.agg [.bool mn,x]]=>match aW .u64 M x with
  |some A=>if lok 1000000000 A=true∧aU A=A∧A.length≤1000000 then some ⟨.str (dN mn (au 1000000000 A)),none,[]⟩ else none
  |none=>none
 |.fn 140,[.str s]=>match jj s with
  |some z=>if (ai z.natAbs).length≤1000000 then some ⟨.agg [.bool (decide (z<0)),.slice M.length 0 (dig 1000000000 z.natAbs).length none],none,[.cells true 1 (iN .u64 (dig 1000000000 z.natAbs))]⟩ else none
  |none=>none
 |c,Z=>bM c Z M
theorem H4:qS prog cg:=by
 refine bZ fun c Z M r h=>?_
 unfold cg at h;split at h
 ·cases h
  refine aw ?_;rw[List.append_nil];exact Dj _ M
 ·split at h
  ·rename_i X
   split at h
   ·rename_i V
    obtain⟨U,S,R⟩:=V;cases h;refine aw ?_;rw[List.append_nil];exact Hk _ U S R (aY X)
   ·cases h
  ·cases h
 ·split at h
  ·rename_i Q
   split at h
   ·rename_i O
    cases h;rw[bN Q];exact aw (Mt _ O M)
   ·cases h
  ·cases h
 ·exact dr qt h
theorem cP(n:Nat):(dig 1000000000 n).length≤(ai n).length:=by
 obtain⟨X,Z,U⟩:=kV _ (ai n) (Nat.le_refl _) (dn _);rw[du] at Z;have V:aU (ij (ai n))=dig 1000000000 n:=by rw[←dC (by omega) X,Z]
 have:=cR (ij (ai n));rw[V] at this;omega
variable{a b k:Nat}
section
variable (ha:(ai a).length≤k)(hb:(ai b).length≤k)
include ha hb
theorem iX:(ai (a+b)).length≤k+1:=by have Z:=bY a;have X:=bY b;have h3:10 ^ (ai a).length≤10 ^ k:=Nat.pow_le_pow_right (by omega) ha;have V:10 ^ (ai b).length≤10 ^ k:=Nat.pow_le_pow_right (by omega) hb;refine aG (by omega) ?_;rw[Nat.pow_succ];omega
theorem dj:(ai (a*b)).length≤2*k:=by have Z:=bY a;have X:=bY b;have h3:10 ^ (ai a).length≤10 ^ k:=Nat.pow_le_pow_right (by omega) ha;have V:10 ^ (ai b).length≤10 ^ k:=Nat.pow_le_pow_right (by omega) hb;have:=po a;exact aG (by omega) (kH (by omega) (by omega))
end
theorem bw(h:a≤b):(ai a).length≤(ai b).length:=by have:=bY b;exact aG (po b) (by omega)
theorem Lt(n:Int):(ai n.natAbs).length≤(bB n).length:=by
 cases n with
 |ofNat u=>exact Nat.le_refl _
 |negSucc u=>simp[bB]
theorem jA{n:Int}(h:(bB n).length≤k):n.natAbs<10 ^ k:=by have Z:=bY n.natAbs;have X:=Lt n;have h3:10 ^ (ai n.natAbs).length≤10 ^ k:=Nat.pow_le_pow_right (by omega) (by omega);omega
noncomputable def aO(f:FuncId)(args:List AV):Option AV:=
 match f,args with
 |139,[.str s,.int .i64 m]=>match jj s with
  |some n=>if m≤18∧s.length≤1000000000 then some (if (s.length:Int)≤m then .tuple [.int .i64 n,.bool true] else .tuple [.int .i64 0,.bool false]) else none
  |none=>none
 |114,[.int .i64 n]=>if dF n then some (.str (bB n)) else none
 |135,[.str s]=>match jj s with
  |some n=>if s.length≤1000000000 then some (.str (bB (-n))) else none
  |none=>none
 |108,[.str s,.str t]=>match jj s,jj t with
  |some m,some n=>some (.int .i64 (KK m n))
  |_,_=>none
 |f,args=>aQ f args
theorem yF:qS prog (af aO):=bH fun f V v h mem=>by
 unfold aO at h;split at h
 ·split at h
  ·rename_i n X
   split at h
   ·rename_i Z
    cases h;rw[bN X] at Z ⊢;exact Mz n _ Z.1 Z.2 mem
   ·cases h
  ·cases h
 ·split at h
  next Z=>cases h;exact T0 _ Z mem
  ·cases h
 ·split at h
  ·rename_i n X
   split at h
   ·rename_i Z
    cases h;rw[bN X] at Z ⊢;exact RB n Z mem
   ·cases h
  ·cases h
 ·split at h
  ·rename_i m n U X
   cases h;rw[bN U,bN X];exact Dk m n mem
  ·cases h
 ·have:=qQ.fn _ _ mem ⟨v,none,[]⟩ (by unfold af;simp only;rw[h])
  simpa [y9.mem] using this
noncomputable def cj:ae3:=fun c Z M=>((af aO).or cg) c Z M
theorem oM:qS prog cj:=yF.or H4
section
variable (ow:Bool)
include ow
theorem hs0(l:Mem):aW .u64 (.cells ow 1 (iN .u64 A)::l) (.slice 0 0 A.length none)=some A:=aR rfl (by simp) (List.take_of_length_le (by simp))
theorem hs1(y:afb)(l:Mem):aW .u64 (y::.cells ow 1 (iN .u64 A)::l) (.slice 1 0 A.length none)=some A:=aR rfl (by simp) (List.take_of_length_le (by simp))
theorem hs2(y H:afb)(l:Mem):aW .u64 (y::H::.cells ow 1 (iN .u64 A)::l) (.slice 2 0 A.length none)=some A:=aR rfl (by simp) (List.take_of_length_le (by simp))
theorem hs3(y H I:afb)(l:Mem):aW .u64 (y::H::I::.cells ow 1 (iN .u64 A)::l) (.slice 3 0 A.length none)=some A:=aR rfl (by simp) (List.take_of_length_le (by simp))
theorem hs4(y H I J:afb)(l:Mem):aW .u64 (y::H::I::J::.cells ow 1 (iN .u64 A)::l) (.slice 4 0 A.length none)=some A:=aR rfl (by simp) (List.take_of_length_le (by simp))
theorem hs5(y H I J W:afb)(l:Mem):aW .u64 (y::H::I::J::W::.cells ow 1 (iN .u64 A)::l) (.slice 5 0 A.length none)=some A:=aR rfl (by simp) (List.take_of_length_le (by simp))
end
theorem Po(a b:Int)(ha:(ai a.natAbs).length≤100000)(hb:(ai b.natAbs).length≤100000)(mem:Mem):kO prog 134 [.str (bB a),.str (bB b)] mem (.str (bB (a+b))) mem:=by
 have G:aT prog 134=some f134:=by kernel_rfl
 refine ao oM ?_ mem;have la:=cQ a;have lb:=cQ b;have F:(bB a).length≤1000000000:=by omega
 have Y6:(bB b).length≤1000000000:=by omega
 by_cases I:(bB a).length≤18∧(bB b).length≤18
 ·have V:((bB a).length:Int)≤18:=by omega
  have D:((bB b).length:Int)≤18:=by omega
  have s1:=jA I.1;have s2:=jA I.2;have w1:IntKind.i64.wrap (a+b)=a+b:=ae;have hf:dF (a+b)=true:=by unfold dF;simp;omega
  simp[aa,G,f134,cj,ae3.or,af,aO,aA,F,Y6,V,D,w1,hf]
 ·have da:=cP a.natAbs
  have db:=cP b.natAbs;have W:(ai a.natAbs).length≤1000000:=by omega
  have J:(ai b.natAbs).length≤1000000:=by omega
  have sum:=iX ha hb;have ds:=cP (a.natAbs+b.natAbs);have C:au 1000000000 (dig 1000000000 a.natAbs)=a.natAbs:=bC (by omega) _;have u:au 1000000000 (dig 1000000000 b.natAbs)=b.natAbs:=bC (by omega) _;have o:lok 1000000000 (dig 1000000000 a.natAbs)=true:=bO (by omega) _;have j:lok 1000000000 (dig 1000000000 b.natAbs)=true:=bO (by omega) _;have H:aU (dig 1000000000 a.natAbs)=dig 1000000000 a.natAbs:=bX (by omega) _;have y:aU (dig 1000000000 b.natAbs)=dig 1000000000 b.natAbs:=bX (by omega) _;obtain⟨A,U⟩:=xE (dig 1000000000 a.natAbs);obtain⟨B,R⟩:=xE (dig 1000000000 b.natAbs);rw[←U] at da C o H;rw[←R] at db u j y;have g1:A.length≤100000000:=by omega
  have g2:B.length≤100000000:=by omega
  have g3:A.length≤1000000000:=by omega
  have g4:B.length≤1000000000:=by omega
  by_cases Q:(decide (a<0))=(decide (b<0))
  ·obtain⟨S,hS⟩:=xE (dig 1000000000 (a.natAbs+b.natAbs))
   have O:au 1000000000 S=a.natAbs+b.natAbs:=by rw[hS];exact bC (by omega) _
   have N:lok 1000000000 S=true:=by rw[hS];exact bO (by omega) _
   have M:aU S=S:=by rw[hS];exact bX (by omega) _
   have L:S.length≤1000000:=by rw[hS];omega
   have K:dN (decide (a<0)) (a.natAbs+b.natAbs)=bB (a+b):=by
    rw[←gA (a+b)];have:(a+b).natAbs=a.natAbs+b.natAbs:=by by_cases Z:a<0<;>by_cases X:b<0<;>simp[Z,X] at Q<;>omega
    rw[this];by_cases Z:a<0<;>by_cases X:b<0<;>simp[Z,X] at Q
    ·rw[decide_eq_true Z,decide_eq_true (by omega)]
    ·rw[decide_eq_false Z,decide_eq_false (by omega)]
   have Y :(decide (a<0)==decide (b<0))=true:=by rw[Q];simp
   by_cases V:((bB a).length:Int)≤18
   ·have D:¬((bB b).length:Int)≤18:=fun e=>I (by omega)
    simp[aa,G,f134,cj,ae3.or,af,aO,aQ,ak,aA,F,Y6,V,D,cg,W,J,←U,←R,bM,bF,cb,cf,bV,hs0,hs1,o,j,g1,g2,C,u,←hS,bW,aH,hs4,N,M,L,O,Y,K,Nat.testBit]
   ·simp[aa,G,f134,cj,ae3.or,af,aO,aQ,ak,aA,F,V,cg,W,J,←U,←R,bM,bF,cb,cf,bV,hs0,hs1,o,j,g1,g2,C,u,←hS,bW,aH,hs4,N,M,L,O,Y,K,Nat.testBit]
  ·have Y :(decide (a<0)==decide (b<0))=false:=by cases Z:decide (a<0)<;>cases X:decide (b<0)<;>simp[Z,X] at Q ⊢
   by_cases B':a.natAbs<b.natAbs
   ·have hc:jH a.natAbs b.natAbs= -1:=by unfold jH;rw[if_pos B']
    obtain⟨S,hS⟩:=xE (dig 1000000000 (b.natAbs-a.natAbs));have O:au 1000000000 S=b.natAbs-a.natAbs:=by rw[hS];exact bC (by omega) _
    have N:lok 1000000000 S=true:=by rw[hS];exact bO (by omega) _
    have M:aU S=S:=by rw[hS];exact bX (by omega) _
    have L:S.length≤1000000:=by rw[hS];have Z:=cP (b.natAbs-a.natAbs);have X:=bw (show b.natAbs-a.natAbs≤b.natAbs by omega);omega
    have g6:A.length≤B.length:=by
     rcases Nat.lt_or_ge B.length A.length with h | h
     ·have:=dz (B:=1000000000) (m:=b.natAbs) (n:=a.natAbs) (by omega) (by rw[←U,←R];exact h)
      omega
     ·exact h
    have g7:a.natAbs≤b.natAbs:=by omega
    have K:dN (decide (b<0)) (b.natAbs-a.natAbs)=bB (a+b):=by
     rw[←gA (a+b)];have h0:(a+b).natAbs=b.natAbs-a.natAbs:=by by_cases Z:a<0<;>by_cases X:b<0<;>simp[Z,X] at Q<;>omega
     rw[h0];by_cases Z:a<0<;>by_cases X:b<0<;>simp[Z,X] at Q
     ·rw[decide_eq_false X,decide_eq_false (by omega)]
     ·rw[decide_eq_true X,decide_eq_true (by omega)]
    by_cases V:((bB a).length:Int)≤18
    ·have D:¬((bB b).length:Int)≤18:=fun e=>I (by omega)
     simp[aa,G,f134,cj,ae3.or,af,aO,aQ,ak,aA,F,Y6,V,D,cg,W,J,←U,←R,bM,bF,cb,cf,bV,bE,hs0,hs1,o,j,H,y,g2,g3,C,u,hc,g6,g7,←hS,bW,aH,hs4,N,M,L,O,Y,K,Nat.testBit]
    ·simp[aa,G,f134,cj,ae3.or,af,aO,aQ,ak,aA,F,V,cg,W,J,←U,←R,bM,bF,cb,cf,bV,bE,hs0,hs1,o,j,H,y,g2,g3,C,u,hc,g6,g7,←hS,bW,aH,hs4,N,M,L,O,Y,K,Nat.testBit]
   ·have hc:¬jH a.natAbs b.natAbs<0:=by unfold jH;rw[if_neg B'];split<;>omega
    obtain⟨S,hS⟩:=xE (dig 1000000000 (a.natAbs-b.natAbs));have O:au 1000000000 S=a.natAbs-b.natAbs:=by rw[hS];exact bC (by omega) _
    have N:lok 1000000000 S=true:=by rw[hS];exact bO (by omega) _
    have M:aU S=S:=by rw[hS];exact bX (by omega) _
    have L:S.length≤1000000:=by rw[hS];have Z:=cP (a.natAbs-b.natAbs);have X:=bw (show a.natAbs-b.natAbs≤a.natAbs by omega);omega
    have g6:B.length≤A.length:=by
     rcases Nat.lt_or_ge A.length B.length with h | h
     ·have:=dz (B:=1000000000) (m:=a.natAbs) (n:=b.natAbs) (by omega) (by rw[←U,←R];exact h)
      omega
     ·exact h
    have g7:b.natAbs≤a.natAbs:=by omega
    have K:dN (decide (a<0)) (a.natAbs-b.natAbs)=bB (a+b):=by
     rw[←gA (a+b)];have h0:(a+b).natAbs=a.natAbs-b.natAbs:=by by_cases Z:a<0<;>by_cases X:b<0<;>simp[Z,X] at Q<;>omega
     rw[h0];by_cases hz:a.natAbs-b.natAbs=0
     ·unfold dN;rw[if_pos hz,if_pos hz]
     by_cases Z:a<0<;>by_cases X:b<0<;>simp[Z,X] at Q
     ·rw[decide_eq_true Z,decide_eq_true (by omega)]
     ·rw[decide_eq_false Z,decide_eq_false (by omega)]
    by_cases V:((bB a).length:Int)≤18
    ·have D:¬((bB b).length:Int)≤18:=fun e=>I (by omega)
     simp[aa,G,f134,cj,ae3.or,af,aO,aQ,ak,aA,F,Y6,V,D,cg,W,J,←U,←R,bM,bF,cb,cf,bV,bE,hs0,hs1,o,j,H,y,g1,g3,C,u,hc,g6,g7,←hS,bW,aH,hs4,N,M,L,O,Y,K,Nat.testBit]
    ·simp[aa,G,f134,cj,ae3.or,af,aO,aQ,ak,aA,F,V,cg,W,J,←U,←R,bM,bF,cb,cf,bV,bE,hs0,hs1,o,j,H,y,g1,g3,C,u,hc,g6,g7,←hS,bW,aH,hs4,N,M,L,O,Y,K,Nat.testBit]
theorem EB(a b:Int):dN (!(decide (a<0)==decide (b<0))) (a.natAbs*b.natAbs)=bB (a*b):=by
 rw[←gA (a*b),Int.natAbs_mul];by_cases V:a.natAbs*b.natAbs=0
 ·unfold dN;rw[if_pos V,if_pos V]
 ·have S:a≠0:=by rintro rfl;simp at V
  have R:b≠0:=by rintro rfl;simp at V
  congr 1;by_cases Z:a<0<;>by_cases X:b<0
  ·have h3:=Int.mul_pos_of_neg_of_neg Z X
   have U:¬a*b<0:=by omega
   simp[Z,X,U]
  ·have h3:=Int.mul_neg_of_neg_of_pos Z (show 0<b by omega)
   simp[Z,X,h3]
  ·have h3:=Int.mul_neg_of_pos_of_neg (show 0<a by omega) X
   simp[Z,X,h3]
  ·have h3:=Int.mul_nonneg (show 0≤a by omega) (show 0≤b by omega)
   have U:¬a*b<0:=by omega
   simp[Z,X,U]
theorem PE(a b:Int)(y:(ai a.natAbs).length≤100000)(H:(ai b.natAbs).length≤100000)(mem:Mem):kO prog 93 [.str (bB a),.str (bB b)] mem (.str (bB (a*b))) mem:=by
 have V:aT prog 93=some f93:=by kernel_rfl
 refine ao oM ?_ mem;have la:=cQ a;have lb:=cQ b;have U:(bB a).length≤1000000000:=by omega
 have F:(bB b).length≤1000000000:=by omega
 by_cases R:(bB a).length≤9∧(bB b).length≤9
 ·have X:((bB a).length:Int)≤9:=by omega
  have Q:((bB b).length:Int)≤9:=by omega
  have I:=jA R.1;have s2:=jA R.2;have s3:(a*b).natAbs<10 ^ 9*10 ^ 9:=by rw[Int.natAbs_mul];exact Nat.mul_lt_mul'' I s2
  have w1:IntKind.i64.wrap (a*b)=a*b:=ae;have hf:dF (a*b)=true:=by unfold dF;simp;omega
  simp[aa,V,f93,cj,ae3.or,af,aO,aA,U,F,X,Q,w1,hf]
 ·have da:=cP a.natAbs
  have db:=cP b.natAbs;have D:(ai a.natAbs).length≤1000000:=by omega
  have C:(ai b.natAbs).length≤1000000:=by omega
  have sum:=dj y H;have ds:=cP (a.natAbs*b.natAbs);have O:au 1000000000 (dig 1000000000 a.natAbs)=a.natAbs:=bC (by omega) _;have N:au 1000000000 (dig 1000000000 b.natAbs)=b.natAbs:=bC (by omega) _;have M:lok 1000000000 (dig 1000000000 a.natAbs)=true:=bO (by omega) _;have L:lok 1000000000 (dig 1000000000 b.natAbs)=true:=bO (by omega) _;obtain⟨A,K⟩:=xE (dig 1000000000 a.natAbs);obtain⟨B,G⟩:=xE (dig 1000000000 b.natAbs);rw[←K] at da O M;rw[←G] at db N L;have u:A.length≤100000000:=by omega
  have o:B.length≤100000000:=by omega
  obtain⟨S,hS⟩:=xE (dig 1000000000 (a.natAbs*b.natAbs));have m:au 1000000000 S=a.natAbs*b.natAbs:=by rw[hS];exact bC (by omega) _
  have j:lok 1000000000 S=true:=by rw[hS];exact bO (by omega) _
  have Y:aU S=S:=by rw[hS];exact bX (by omega) _
  have W:S.length≤1000000:=by rw[hS];omega
  obtain⟨mn,Z⟩:=xE (!(decide (a<0)==decide (b<0)));have J:dN mn (a.natAbs*b.natAbs)=bB (a*b):=by rw[Z];exact EB a b
  by_cases X:((bB a).length:Int)≤9
  ·have Q:¬((bB b).length:Int)≤9:=fun e=>R (by omega)
   simp[aa,V,f93,cj,ae3.or,af,aO,aQ,ak,aA,U,F,X,Q,cg,D,C,←K,←G,bM,bF,cb,cf,bV,hs0,hs1,M,L,u,o,O,N,←hS,bW,aH,hs4,j,Y,W,m,←Z,J,Nat.testBit]
  ·simp[aa,V,f93,cj,ae3.or,af,aO,aQ,ak,aA,U,X,cg,D,C,←K,←G,bM,bF,cb,cf,bV,hs0,hs1,M,L,u,o,O,N,←hS,bW,aH,hs4,j,Y,W,m,←Z,J,Nat.testBit]
theorem mh(n:Nat):dN false n=ai n:=by
 unfold dN;by_cases h:n=0
 ·subst h;rfl
 ·rw[if_neg h];rfl
theorem EA{a:Int}(y:0<b)(h:0≤a∨a.natAbs%b=0):dN (decide (a<0)) (a.natAbs / b)=bB (a / b):=by
 rw[←gA (a / b)];by_cases U:a<0
 ·have S:a.natAbs%b=0:=by rcases h with h | h<;>omega
  have Z:a= -((a.natAbs / b*b:Nat):Int):=by have:=Nat.div_add_mod a.natAbs b;rw[S,Nat.add_zero,Nat.mul_comm] at this;omega
  obtain⟨q,X⟩:=xE (a.natAbs / b);rw[←X] at Z;have h3:a / (b:Int)= -(q:Int):=by rw[Z,Int.natCast_mul,←Int.neg_mul];exact Int.mul_ediv_cancel _ (by omega)
  rw[h3,←X,Int.natAbs_neg,Int.natAbs_natCast];by_cases V:q=0
  ·unfold dN;rw[if_pos V,if_pos V]
  ·rw[decide_eq_true U,decide_eq_true (by omega)]
 ·obtain⟨n,rfl⟩:∃n:Nat,a=n:=⟨a.toNat,by omega⟩
  rw[←Int.natCast_ediv,Int.natAbs_natCast,Int.natAbs_natCast,decide_eq_false (by omega),decide_eq_false (Int.not_lt.2 (Int.natCast_nonneg _))]
theorem Fe(a:Int)(b:Nat)(y:0<b)(H:0≤a∨a.natAbs%b=0)(ha:(ai a.natAbs).length≤100000)(hb:(ai b).length≤100000)(mem:Mem):
  kO prog 138 [.str (bB a),.str (ai b)] mem (.tuple [.str (bB (a / b)),.str (ai (a.natAbs%b)),.int .i64 0]) mem:=by
 have Y:aT prog 138=some f138:=by kernel_rfl
 refine ao oM ?_ mem;rw[←EA y H,←mh (a.natAbs%b)];have Z:jj (ai b)=some (b:Int):=aA (b:Int);have X:(ai b==[48])=false:=by rw[beq_eq_false_iff_ne];intro e;have:=AI (e.trans (show [48]=ai 0 from rfl));omega
 have da:=cP a.natAbs;have db:=cP b;have K:(ai a.natAbs).length≤1000000:=by omega
 have W:(ai b).length≤1000000:=by omega
 have N:au 1000000000 (dig 1000000000 a.natAbs)=a.natAbs:=bC (by omega) _;have G:au 1000000000 (dig 1000000000 b)=b:=bC (by omega) _;have F:lok 1000000000 (dig 1000000000 a.natAbs)=true:=bO (by omega) _;have D:lok 1000000000 (dig 1000000000 b)=true:=bO (by omega) _;have C:aU (dig 1000000000 a.natAbs)=dig 1000000000 a.natAbs:=bX (by omega) _;have u:aU (dig 1000000000 b)=dig 1000000000 b:=bX (by omega) _;obtain⟨A,M⟩:=xE (dig 1000000000 a.natAbs);obtain⟨B,o⟩:=xE (dig 1000000000 b);rw[←M] at da N F C;rw[←o] at db G D u;have J:A.length≤1000000:=by omega
 have g2:B.length≤1000000:=by omega
 obtain⟨n,m⟩:=xE a.natAbs;rw[←m] at N M H K ⊢;have I:¬(b:Int)<0:=by omega
 by_cases U:n<b
 ·have S:¬a<0:=by
   rcases H with h | h
   ·omega
   ·rw[Nat.mod_eq_of_lt U] at h;omega
  rw[Nat.div_eq_of_lt U,Nat.mod_eq_of_lt U];simp[aa,Y,f138,cj,ae3.or,af,aO,aQ,ak,aA,Z,X,←m,cg,K,W,←M,←o,bM,bF,cb,hs0,hs1,F,D,C,u,J,N,G,y,U,S,I,bW,aH]
 ·obtain⟨q,j⟩:=xE (n / b)
  obtain⟨r,L⟩:=xE (n%b);rw[←L] at H;rw[←j,←L];obtain⟨Q,hQ⟩:=xE (dig 1000000000 q);obtain⟨R,O⟩:=xE (dig 1000000000 r);have vq:au 1000000000 Q=q:=by rw[hQ];exact bC (by omega) _
  have oq:lok 1000000000 Q=true:=by rw[hQ];exact bO (by omega) _
  have tq:aU Q=Q:=by rw[hQ];exact bX (by omega) _
  have gq:Q.length≤1000000:=by rw[hQ];have h1:=cP q;have h2:=bw (show q≤n by rw[j];exact Nat.div_le_self _ _);omega
  have vr:au 1000000000 R=r:=by rw[O];exact bC (by omega) _
  have or:lok 1000000000 R=true:=by rw[O];exact bO (by omega) _
  have tr:aU R=R:=by rw[O];exact bX (by omega) _
  have gr:R.length≤1000000:=by rw[O];have h1:=cP r;have h2:=bw (show r≤n by rw[L];exact Nat.mod_le _ _);omega
  have cond:∀x:Nat,¬(a<0∧0<R.length):=by
   intro _ h;rcases H with h1 | h1
   ·omega
   ·rw[O,h1,dD] at h;simp at h
  by_cases hz:2≤B.length∧r=0
  ·obtain⟨V,hz2⟩:=hz
   by_cases S:a<0
   ·simp[aa,Y,f138,cj,ae3.or,af,aO,aQ,ak,aA,Z,X,←m,cg,K,W,←M,←o,bM,bF,cb,hs0,hs1,F,D,C,u,J,N,G,y,U,I,←j,←L,←hQ,V,hz2,S,hs4,vq,oq,tq,gq,bW,aH]
   ·simp[aa,Y,f138,cj,ae3.or,af,aO,aQ,ak,aA,Z,X,←m,cg,K,W,←M,←o,bM,bF,cb,hs0,hs1,F,D,C,u,J,N,G,y,U,I,←j,←L,←hQ,V,hz2,S,hs4,vq,oq,tq,gq,bW,aH]
  ·by_cases S:a<0
   ·have hrl:¬0<R.length:=fun e=>cond 0 ⟨S,e⟩
    have abn :R=[]:=List.eq_nil_of_length_eq_zero (by omega);have hr0:r=0:=by rcases H with h | h<;>omega
    subst hr0;have V:¬2≤B.length:=fun e=>hz ⟨e,rfl⟩
    rw[abn] at O vr;have k1:lok 1000000000 []=true:=rfl;have k2:aU []=[]:=rfl;have h5e:∀a0 a1 a2 a3 a4 l,aW .u64 (a0::a1::a2::a3::a4::.cells true 1 []::l) (.slice 5 0 0 none)=some []:=fun a0 a1 a2 a3 a4 l=>hs5 (A:=[]) true a0 a1 a2 a3 a4 l
    simp[aa,Y,f138,cj,ae3.or,af,aO,aQ,ak,aA,Z,X,←m,cg,K,W,←M,←o,bM,bF,cb,hs0,hs1,F,D,C,u,J,N,G,y,U,I,←j,←L,←hQ,←O,V,hs4,h5e,k1,k2,vr,vq,oq,tq,gq,S,bW,aH]
   ·simp[aa,Y,f138,cj,ae3.or,af,aO,aQ,ak,aA,Z,X,←m,cg,K,W,←M,←o,bM,bF,cb,hs0,hs1,F,D,C,u,J,N,G,y,U,I,←j,←L,←hQ,←O,hz,hs4,hs5,vq,oq,tq,gq,vr,or,tr,gr,S,bW,aH]
end Go.Proofs
