/- See F54. -/
import Derived.Test.YtgafjliihahjgaaGreatDoorF12
set_option linter.all false
set_option maxRecDepth 100000
set_option maxHeartbeats 40000000
namespace Go.Proofs
open Go.Eng
open Tryz
theorem yS{ds:List UInt8}(A:ds.all isD=true)(G:ds.length≤9)(j:Nat):lC (ds.take j)<10 ^ 9:=by
 have W:lC (ds.take j)<10 ^ (ds.take j).length:=by
  have Z:(ds.take j).all isD=true:=by rw[List.all_eq_true] at A ⊢;exact fun c hc=>A c (List.mem_of_mem_take hc)
  have:=uV _ 0 Z;unfold lC;omega
 have X:(ds.take j).length≤9:=by rw[List.length_take];omega
 have h3:10 ^ (ds.take j).length≤10 ^ 9:=Nat.pow_le_pow_right (by omega) X;omega
def jG(c:Code):List Nat:=if (ab c).contains 24 then [2,5] else [3,5]
variable{K:Nat}{O:aeT}{b b2:Code}
theorem zq(s ds rest:List UInt8)(A:Nat)(hs:s.length≤9)(hst:A≤s.length)(hd:s.drop A=ds++rest)(H:rest=[]∨∃r,rest=47::r)(PP:ds.all isD=true)(hK:10<K)(G:ai f128=[b,b2]):
  ∃F:Env→Bool→Env,∀Z d,(ad Z 0=.str s∧ad Z 2=.int .i64 0∧ad Z 5=.int .i64 (A:Int))→
   aM (aN prog) jG O K 57 0 true (.loop b) ⟨Z,[],d⟩=some (.exit 0,⟨F Z d,[],d⟩)∧(ad (F Z d) 2=.int .i64 ((lC ds:Nat):Int)∧ad (F Z d) 5=.int .i64 ((A+ds.length:Nat):Int)∧ad (F Z d) 0=ad Z 0∧ad (F Z d) 3=ad Z 3∧ad (F Z d) 6=ad Z 6):=by
 have z:jG b=[2,5]:=by simp[ai,aG,f128] at G;obtain⟨rfl,rfl⟩:=G;decide
 have H':A+ds.length+rest.length=s.length:=by have:=congrArg List.length hd;simp at this;omega
 refine cD z (fun Z=>ad Z 0=.str s∧ad Z 2=.int .i64 0∧ad Z 5=.int .i64 (A:Int)) (fun Z M =>ad M 2=.int .i64 ((lC ds:Nat):Int)∧ad M 5=.int .i64 ((A+ds.length:Nat):Int)∧ad M 0=ad Z 0∧ad M 3=ad Z 3∧ad M 6=ad Z 6) ?_;rintro Z d ⟨h0,h2,h5⟩;have J:lC (ds.take 0)=0:=by rw[List.take_zero];unfold lC;rw[gy]
 have hn:aD [2,5] (ab b) Z ((2,.int .i64 ((lC (ds.take 0):Nat):Int))::(5,.int .i64 ((A+0:Nat):Int))::Z)=aD [2,5] (ab b) Z Z:=by rw[J];simp[aD,h2,h5]
 rw[←hn];refine dh (α:=Nat) (fun j=>⟨aD [2,5] (ab b) Z ((2,.int .i64 ((lC (ds.take j):Nat):Int))::(5,.int .i64 ((A+j:Nat):Int))::Z),[],d⟩)
  (fun j=>ds.length-j) (fun j=>j≤ds.length) (.exit 0) _ d _ (by simp) ?_ K 0 (Nat.zero_le _) (by simp only[Nat.sub_zero];omega)
 intro j hj;clear hn J;simp[ai,aG,f128] at G;obtain⟨i,u⟩:=xE (A+j);have X:s[i]? =(ds++rest)[j]? :=by rw[←hd,List.getElem?_drop,u]
 by_cases m:j=ds.length
 ·right
  subst m;rw[List.take_length,←u];rw[List.getElem?_append_right (Nat.le_refl _),Nat.sub_self] at X;obtain⟨rfl,rfl⟩:=G;rcases H with h | ⟨r,h⟩
  ·subst h
   have W:i=s.length:=by simp at H';omega
   have h1:¬i<s.length:=by omega
   have Y:¬(i:Int)<(s.length:Int):=by omega
   simp[h0,Y]
  ·subst h
   have W:i<s.length:=by simp at H';omega
   have S:(i:Int)<(s.length:Int):=by omega
   have hc:s[i]? =some 47:=by simpa using X
   have R :s[i]=47:=(List.getElem?_eq_some_iff.1 hc).2;simp[h0,W,S,R]
 ·left
  have I:j<ds.length:=by omega
  obtain⟨c,hc⟩:∃c,ds[j]? =some c:=⟨ds[j],by simp[I]⟩
  rw[List.getElem?_append_left I,hc] at X;have W:i<s.length:=gL X;have S:(i:Int)<(s.length:Int):=by omega
  have acz :s[i]=c:=(List.getElem?_eq_some_iff.1 X).2;have V:=List.all_eq_true.1 PP c (List.mem_of_getElem? hc);have hcd:=yA V;have adS:48≤c.toNat∧c.toNat≤57:=by unfold isD at V;simp only[Bool.and_eq_true,decide_eq_true_eq] at V;exact V
  have adT:¬((c.toNat:Int)=47):=by omega
  have abw:ds.take (j+1)=ds.take j++[c]:=by rw[List.take_add_one,hc];rfl
  have D:lC (ds.take (j+1))=10*lC (ds.take j)+(c.toNat-48):=by rw[abw,wF]
  have hvb:=yS PP (by omega) j;obtain⟨v,C⟩:=xE (lC (ds.take j));obtain⟨v2,B⟩:=xE (lC (ds.take (j+1)));rw[←C] at hvb D;rw[←B] at D;obtain⟨k,hk⟩:=xE (α:=Nat) (c.toNat-48);have w0:IntKind.u8.wrap ((c.toNat:Int)-48)=(k:Int):=by rw[Hp (by omega) (by omega)];omega
  have w1:IntKind.i64.wrap (k:Int)=(k:Int):=aq;have w2:IntKind.i64.wrap (10*(v:Int))=10*(v:Int):=aq;have w3:IntKind.i64.wrap (10*(v:Int)+(k:Int))=(v2:Int):=by rw[aq];omega
  have w4:IntKind.i64.wrap ((i:Int)+1)=((A+(j+1):Nat):Int):=by rw[aq];omega
  rw[←u];refine⟨j+1,?_⟩;refine fG (show j+1≤ds.length∧_ from⟨I,by omega⟩) ?_;obtain⟨rfl,rfl⟩:=G;simp[h0,W,S,acz,adT,←C,←B,w0,w1,w2,w3,w4];try omega
theorem zr(s ds:List UInt8)(A:Nat)(hs:s.length≤9)(hst:A≤s.length)(H:s.drop A=ds)(PP:ds.all isD=true)(hK:10<K)(G:ai f128=[b,b2]):
  ∃F:Env→Bool→Env,∀Z d,(ad Z 0=.str s∧ad Z 3=.int .i64 0∧ad Z 5=.int .i64 (A:Int))→
   aM (aN prog) jG O K 57 0 true (.loop b2) ⟨Z,[],d⟩=some (.exit 2,⟨F Z d,[],d⟩)∧(ad (F Z d) 3=.int .i64 ((lC ds:Nat):Int)∧ad (F Z d) 2=ad Z 2∧ad (F Z d) 6=ad Z 6):=by
 have D:jG b2=[3,5]:=by simp[ai,aG,f128] at G;obtain⟨rfl,rfl⟩:=G;decide
 have H':A+ds.length=s.length:=by have:=congrArg List.length H;simp at this;omega
 refine cD D (fun Z=>ad Z 0=.str s∧ad Z 3=.int .i64 0∧ad Z 5=.int .i64 (A:Int)) (fun Z C =>ad C 3=.int .i64 ((lC ds:Nat):Int)∧ad C 2=ad Z 2∧ad C 6=ad Z 6) ?_;rintro Z d ⟨h0,h2,h5⟩;have V:lC (ds.take 0)=0:=by rw[List.take_zero];unfold lC;rw[gy]
 have hn:aD [3,5] (ab b2) Z ((3,.int .i64 ((lC (ds.take 0):Nat):Int))::(5,.int .i64 ((A+0:Nat):Int))::Z)=aD [3,5] (ab b2) Z Z:=by rw[V];simp[aD,h2,h5]
 rw[←hn];refine dh (α:=Nat) (fun j=>⟨aD [3,5] (ab b2) Z ((3,.int .i64 ((lC (ds.take j):Nat):Int))::(5,.int .i64 ((A+j:Nat):Int))::Z),[],d⟩)
  (fun j=>ds.length-j) (fun j=>j≤ds.length) (.exit 2) _ d _ (by simp) ?_ K 0 (Nat.zero_le _) (by simp only[Nat.sub_zero];omega)
 intro j hj;clear hn V;simp[ai,aG,f128] at G;obtain⟨i,B⟩:=xE (A+j);have W:s[i]? =ds[j]? :=by rw[←H,List.getElem?_drop,B]
 by_cases z:j=ds.length
 ·right
  subst z;rw[List.take_length,←B];obtain⟨rfl,rfl⟩:=G;have h1:¬i<s.length:=by omega
  have h1I:¬(i:Int)<(s.length:Int):=by omega
  simp[h0,h1]
 ·left
  have FS:j<ds.length:=by omega
  obtain⟨c,hc⟩:∃c,ds[j]? =some c:=⟨ds[j],by simp[FS]⟩
  rw[hc] at W;have u:i<s.length:=gL W;have m:(i:Int)<(s.length:Int):=by omega
  have Y :s[i]=c:=(List.getElem?_eq_some_iff.1 W).2;have X:=List.all_eq_true.1 PP c (List.mem_of_getElem? hc);have hcd:=yA X;have adS:48≤c.toNat∧c.toNat≤57:=by unfold isD at X;simp only[Bool.and_eq_true,decide_eq_true_eq] at X;exact X
  have R:ds.take (j+1)=ds.take j++[c]:=by rw[List.take_add_one,hc];rfl
  have S:lC (ds.take (j+1))=10*lC (ds.take j)+(c.toNat-48):=by rw[R,wF]
  have I:=yS PP (by omega) j;obtain⟨v,M⟩:=xE (lC (ds.take j));obtain⟨v2,J⟩:=xE (lC (ds.take (j+1)));rw[←M] at I S;rw[←J] at S;obtain⟨k,hk⟩:=xE (α:=Nat) (c.toNat-48);have w0:IntKind.u8.wrap ((c.toNat:Int)-48)=(k:Int):=by rw[Hp (by omega) (by omega)];omega
  have w1:IntKind.i64.wrap (k:Int)=(k:Int):=aq;have w2:IntKind.i64.wrap (10*(v:Int))=10*(v:Int):=aq;have w3:IntKind.i64.wrap (10*(v:Int)+(k:Int))=(v2:Int):=by rw[aq];omega
  have w4:IntKind.i64.wrap ((i:Int)+1)=((A+(j+1):Nat):Int):=by rw[aq];omega
  rw[←B];refine⟨j+1,?_⟩;refine fG (show j+1≤ds.length∧_ from⟨FS,by omega⟩) ?_;obtain⟨rfl,rfl⟩:=G;simp[h0,u,m,Y,←M,←J,w0,w1,w2,w3,w4];try omega
theorem Ic(q:Rat)(mem:Mem):kO prog 128 [.str (ak q)] mem (if (ak q).length≤9 then .tuple [.int .i64 q.num,.int .i64 q.den,.bool true] else .tuple [.int .i64 0,.int .i64 0,.bool false]) mem:=by
 have I:aK prog 128=some f128:=by kernel_rfl
 refine cV (al _) (lv:=jG) (K:=11) rfl (by split<;>rfl) ?_ mem;by_cases H:(ak q).length≤9
 ·rw[if_pos H]
  have S:¬(9<((ak q).length:Int)):=by omega
  obtain⟨b,b2,R⟩:∃b b2,ai f128=[b,b2]:=⟨_,_,rfl⟩
  obtain⟨W,V,J⟩:=xL q;obtain⟨s,hs⟩:=xE (ak q);rw[←hs] at H S V ⊢;obtain⟨N,hN⟩:=xE q.num.natAbs;rw[←hN] at V;have M:=gw N;have hvN:=gh N;have hpN:=wh N;have G:=rr N;have aab:W=[]∨∃r,W=47::r:=by rw[J];split<;>simp
  obtain⟨A,Z⟩:=xE (α:=Nat) (if q.num<0 then 1 else 0);have aat:(if q.num<0 then [(45:UInt8)] else []).length=A:=by rw[Z];split<;>rfl
  have ab4:s.drop A=aR N++W:=by rw[V,←aat,List.drop_left]
  have H':s.length=A+(aR N).length+W.length:=by rw[V,List.length_append,aat,List.length_append];omega
  obtain⟨F,D⟩:=zq (O:=bM) (K:=11) s (aR N) W A H (by omega) ab4 aab M (by omega) R;rw[hvN] at D;obtain⟨X,hat⟩:=xE (A+(aR N).length);rw[←hat] at D H';have aeK:N<10 ^ 9:=by have h1:=fh N;have h2:10 ^ (aR N).length≤10 ^ 9:=Nat.pow_le_pow_right (by omega) (by omega);omega
  have wn:IntKind.i64.wrap (-(N:Int))= -(N:Int):=aq;have wp:IntKind.i64.wrap (N:Int)=(N:Int):=aq;by_cases C:q.den=1
  ·rw[if_pos C] at J
   subst J;have z:¬X<s.length:=by simp at H';omega
   simp[ai,aG,f128] at R;obtain⟨rfl,rfl⟩:=R;by_cases B:q.num<0
   ·rw[if_pos B] at Z
    subst Z;have hc:s[0]? =some 45:=by rw[V,if_pos B];rfl
    have e: -(N:Int)=q.num:=by omega
    have u :IntKind.i64.wrap (-(N:Int))=q.num:=by rw[wn,e]
    simp only[Int.natCast_one] at D;simp[aa,I,f128,S,hc,D,z,u,C]
   ·rw[if_neg B] at Z
    subst Z;have hc:∃c,s[0]? =some c∧isD c=true:=by
     rw[V,if_neg B];cases hx:aR N with
     |nil=>exact absurd hx G
     |cons c r=>
      rw[hx] at M;simp only[List.all_cons,Bool.and_eq_true] at M;exact⟨c,by simp,M.1⟩
    obtain⟨c,hc,m⟩:=hc;have j:=gH m;have e:(N:Int)=q.num:=by omega
    have Y :IntKind.i64.wrap (N:Int)=q.num:=by rw[wp,e]
    simp only[Int.natCast_zero] at D;simp[aa,I,f128,S,hc,j,D,z,Y,C]
  ·rw[if_neg C] at J
   subst J;have z:X<s.length:=by simp at H';omega
   have ab5:(X:Int)<(s.length:Int):=by omega
   have ab9:s.drop (X+1)=aR q.den:=by
    have h1:s.drop X=47::aR q.den:=by rw[hat,←List.drop_drop,ab4,List.drop_left]
    rw[←List.drop_drop,h1];rfl
   obtain⟨F2,Z5⟩:=zr (O:=bM) (K:=11) s (aR q.den) (X+1) H (by omega) ab9 (gw _) (by omega) R;rw[gh] at Z5;have w1:IntKind.i64.wrap ((X:Int)+1)=((X+1:Nat):Int):=by rw[aq];omega
   obtain⟨at2,adU⟩:=xE (X+1);rw[←adU] at w1 Z5;simp[ai,aG,f128] at R;obtain⟨rfl,rfl⟩:=R;by_cases B:q.num<0
   ·rw[if_pos B] at Z
    subst Z;have hc:s[0]? =some 45:=by rw[V,if_pos B];rfl
    have e: -(N:Int)=q.num:=by omega
    have u :IntKind.i64.wrap (-(N:Int))=q.num:=by rw[wn,e]
    simp only[Int.natCast_one] at D;simp[aa,I,f128,S,hc,D,ab5,w1,Z5,u]
   ·rw[if_neg B] at Z
    subst Z;have hc:∃c,s[0]? =some c∧isD c=true:=by
     rw[V,if_neg B];cases hx:aR N with
     |nil=>exact absurd hx G
     |cons c r=>
      rw[hx] at M;simp only[List.all_cons,Bool.and_eq_true] at M;exact⟨c,by simp,M.1⟩
    obtain⟨c,hc,m⟩:=hc;have j:=gH m;have e:(N:Int)=q.num:=by omega
    have Y :IntKind.i64.wrap (N:Int)=q.num:=by rw[wp,e]
    simp only[Int.natCast_zero] at D;simp[aa,I,f128,S,hc,j,D,ab5,w1,Z5,Y]
 ·rw[if_neg H]
  have S:(9<((ak q).length:Int)):=by omega
  simp[aa,I,f128,S]
theorem vN{q:Rat}(h:(ak q).length≤9):q.num.natAbs<10 ^ 9∧q.den<10 ^ 9:=GC h
noncomputable def kP(f:FuncId)(args:List AV):Option AV:=
 match f,args with
 |128,[.str s]=>match dC s with
  |some q=>some (if (ak q).length≤9 then .tuple [.int .i64 q.num,.int .i64 q.den,.bool true] else .tuple [.int .i64 0,.int .i64 0,.bool false])
  |none=>none
 |129,[.int .i64 n,.int .i64 m]=>if 0<m∧n.natAbs≤4611686018427387904∧m≤4611686018427387904 then some (.str (ak (mkRat n m.toNat))) else none
 |99,[.str s,.str t]=>match pD s,An t with
  |some n,some d=>if d≠0∧(cC n).length≤18∧(aR d).length≤18 then some (.str (ak (mkRat n d))) else none
  |_,_=>none
 |58,[.int .i64 n]=>if dU n then some (.str (cC n)) else none
 |f,args=>aY f args
theorem QI(n:Int)(A:dU n=true)(mem:Mem):kO prog 58 [.int .i64 n] mem (.str (cC n)) mem:=by
 have Z:aK prog 58=some f58:=by kernel_rfl
 refine aA dZ ?_ mem;simp[aa,Z,f58,af,aY,A]
theorem oB:HS prog (af kP):=bH fun f Z v h mem=>by
 unfold kP at h;split at h
 ·split at h
  next q hq=>cases h;rw[aw hq];exact Ic q mem
  ·cases h
 ·rename_i n m
  split at h
  ·rename_i hc
   cases h;have:=Fm n m.toNat hc.2.1 (by omega) (by omega) mem;rw[Int.toNat_of_nonneg (by omega)] at this;exact this
  ·cases h
 ·split at h
  ·rename_i m n X W
   split at h
   next hc=>cases h;rw[fg X,jN W];exact Ie m n hc.1 hc.2.1 hc.2.2 mem
   ·cases h
  ·cases h
 ·split at h
  next hc=>cases h;exact QI _ hc mem
  ·cases h
 ·have:=dZ.fn _ _ mem ⟨v,none,[]⟩ (by unfold af;simp only;rw[h])
  simpa [aeQ.mem] using this
theorem AU(n:Int)(d:Nat)(G:d≠0)(H:n.natAbs<10 ^ 8)(A:d<10 ^ 8)(mem:Mem):kO prog 57 [.str (cC n),.str (aR d)] mem (.str (ak (mkRat n d))) mem:=by
 have Z:aK prog 57=some f57:=by kernel_rfl
 refine aA oB ?_ mem;have M:(aR n.natAbs).length≤8:=bD (by omega) H;have J:(aR d).length≤8:=bD (by omega) A;have F:(cC n).length≤9:=by have:=fH n;omega
 have X:((cC n).length:Int)≤9:=by omega
 have W:((aR d).length:Int)≤9:=by omega
 have V:(cC n).length≤18:=by omega
 have S:(aR d).length≤18:=by omega
 have D:(aR d).length≤9:=by omega
 simp[aa,Z,f57,af,kP,cY,gg,X,W,V,S,G]
noncomputable def Bz(f:FuncId)(args:List AV):Option AV:=
 match f,args with
 |57,[.str s,.str t]=>match pD s,An t with
  |some n,some d=>if d≠0∧n.natAbs<10 ^ 8∧d<10 ^ 8 then some (.str (ak (mkRat n d))) else none
  |_,_=>none
 |f,args=>kP f args
theorem Oj:HS prog (af Bz):=bH fun f Z v h mem=>by
 unfold Bz at h;split at h
 ·split at h
  ·rename_i m n X W
   split at h
   next hc=>cases h;rw[fg X,jN W];exact AU m n hc.1 hc.2.1 hc.2.2 mem
   ·cases h
  ·cases h
 ·have:=oB.fn _ _ mem ⟨v,none,[]⟩ (by unfold af;simp only;rw[h])
  simpa [aeQ.mem] using this
theorem Ij(n:Int)(d:Nat)(G:d≠0)(H:n.natAbs<10 ^ 8)(A:d<10 ^ 8)(mem:Mem):kO prog 34 [.int .i64 n,.int .i64 d] mem (.str (ak (mkRat n d))) mem:=by
 have W:aK prog 34=some f34:=by kernel_rfl
 refine aA Oj ?_ mem;have f1:dU n=true:=by unfold dU;simp;omega
 have f2:dU (d:Int)=true:=by unfold dU;simp;omega
 have V:cC (d:Int)=aR d:=rfl;have Z :n.natAbs<100000000:=H;have X :d<100000000:=A;simp[aa,W,f34,af,Bz,kP,f1,f2,V,cY,gg,G,Z,X]
theorem DT(a b:Rat)(A:(ak a).length≤9)(G:(ak b).length≤9)(mem:Mem):
  kO prog 81 [.str (ak a),.str (ak b)] mem (.str (ak (a+b))) mem:=by
 have F:aK prog 81=some f81:=by kernel_rfl
 refine aA oB ?_ mem;have V:a.den*b.den≠0:=Nat.mul_ne_zero a.den_nz b.den_nz;have Z:=Rat.add_def' a b;obtain⟨X,S⟩:=xE (a.num*(b.den:Int));obtain⟨Y,M⟩:=xE (b.num*(a.den:Int));obtain⟨D,W⟩:=xE (a.den*b.den);rw[←S,←M,←W] at Z;rw[←W] at V;rw[Z];obtain⟨C,J⟩:=vN A;obtain⟨B,b2⟩:=vN G;have I:X.natAbs<10 ^ 9*10 ^ 9:=by rw[S];exact fC C (by simpa using b2)
 have H:Y.natAbs<10 ^ 9*10 ^ 9:=by rw[M];exact fC B (by simpa using J)
 have d1:D<10 ^ 9*10 ^ 9:=by rw[W];exact Nat.mul_lt_mul'' J b2
 have w1:IntKind.i64.wrap (a.num*(b.den:Int))=X:=by rw[←S];exact aq
 have w2:IntKind.i64.wrap (b.num*(a.den:Int))=Y:=by rw[←M];exact aq
 have w3:IntKind.i64.wrap (X+Y)=X+Y:=aq;have w4:IntKind.i64.wrap ((a.den:Int)*(b.den:Int))=(D:Int):=by rw[←Int.natCast_mul,←W];exact aq
 have z:(X+Y).natAbs≤4611686018427387904:=by omega
 have u:(D:Int)≤4611686018427387904:=by omega
 have m :D≤4611686018427387904:=by omega
 have j:0<D:=by omega
 have R :(0:Int)<D:=by omega
 simp[aa,F,f81,af,kP,ao,A,G,w1,w2,w3,w4,z,u,j]
theorem QJ(a b:Rat)(A:(ak a).length≤9)(G:(ak b).length≤9)(mem:Mem):
  kO prog 214 [.str (ak a),.str (ak b)] mem (.str (ak (a*b))) mem:=by
 have M:aK prog 214=some f214:=by kernel_rfl
 refine aA oB ?_ mem;have V:a.den*b.den≠0:=Nat.mul_ne_zero a.den_nz b.den_nz;have Z:=Rat.mul_def' a b;obtain⟨X,S⟩:=xE (a.num*b.num);obtain⟨D,W⟩:=xE (a.den*b.den);rw[←S,←W] at Z;rw[←W] at V;rw[Z];obtain⟨J,F⟩:=vN A;obtain⟨C,b2⟩:=vN G;have Y:X.natAbs<10 ^ 9*10 ^ 9:=by rw[S];exact fC J C
 have d1:D<10 ^ 9*10 ^ 9:=by rw[W];exact Nat.mul_lt_mul'' F b2
 have w1:IntKind.i64.wrap (a.num*b.num)=X:=by rw[←S];exact aq
 have w4:IntKind.i64.wrap ((a.den:Int)*(b.den:Int))=(D:Int):=by rw[←Int.natCast_mul,←W];exact aq
 have B:X.natAbs≤4611686018427387904:=by omega
 have z:(D:Int)≤4611686018427387904:=by omega
 have u :D≤4611686018427387904:=by omega
 have m:0<D:=by omega
 have j :(0:Int)<D:=by omega
 simp[aa,M,f214,af,kP,ao,A,G,w1,w4,B,z,m]
end Go.Proofs
