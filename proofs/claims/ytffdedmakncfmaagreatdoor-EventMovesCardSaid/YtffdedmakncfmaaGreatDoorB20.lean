/- See B54. -/
import Derived.Test.YtffdedmakncfmaaGreatDoorB19
set_option linter.all false
set_option maxRecDepth 100000
set_option maxHeartbeats 40000000
namespace Go.Proofs
open Go.Eng
open Tryz
def iM(c:Code):List Nat:=if (ad c).contains 6 then [6] else [7]
def tzS(A B:List Nat)(i k:Nat):List Int:=(tzR A B i).take i++iE ((A.getD i 0:Nat):Int) (B.take k) ((tzR A B i).drop i)
variable{K:Nat}{O:ae3}{b b2:Code}
section
variable (A B:List Nat)(hA:lok 10000 A=true)(hB:lok 10000 B=true)(hl:A.length≤5000)(Yb:B.length≤5000)(hK:B.length<K)
include A B hA hB hl Yb hK
theorem xC(H:ah f129=[b,b2])(i:Nat)(hi:i<A.length):
  ∃F:Env→Bool→Env,∀Z d,(ab Z 0=.slice 0 0 A.length none∧ab Z 1=.slice 1 0 B.length none∧ab Z 5=.slice 2 0 (A.length+B.length) none∧ab Z 6=.int .i64 (i:Int)∧ab Z 7=.int .i64 0)→
   bh (ba prog) iM O K 45 2 true (.loop b2) ⟨Z,[.cells false 1 (iN .i64 A),.cells false 1 (iN .i64 B),.cells true 1 (iZ (tzR A B i))],d⟩=some (.exit 2,⟨F Z d,[.cells false 1 (iN .i64 A),.cells false 1 (iN .i64 B),.cells true 1 (iZ (tzR A B (i+1)))],d⟩)∧
   (∀t,t∈[0,1,5,6]→ab (F Z d) t=ab Z t):=by
 have Yg:iM b2=[7]:=by simp[ah,aE,f129] at H;obtain⟨rfl,rfl⟩:=H;decide
 refine bj Yg (fun Z=>ab Z 0=.slice 0 0 A.length none∧ab Z 1=.slice 1 0 B.length none∧ab Z 5=.slice 2 0 (A.length+B.length) none∧ab Z 6=.int .i64 (i:Int)∧ab Z 7=.int .i64 0)
  (fun Z AC =>∀t,t∈[0,1,5,6]→ab AC t=ab Z t) ?_
 rintro Z d ⟨h0,h1,h5,h6,h7⟩;have hn:ay [7] (ad b2) Z ((7,.int .i64 ((0:Nat):Int))::Z)=ay [7] (ad b2) Z Z:=by simp[ay,h7]
 have U:tzS A B i 0=tzR A B i:=by unfold tzS;rw[List.take_zero,mX,List.take_append_drop]
 have R:tzS A B i B.length=tzR A B (i+1):=by unfold tzS;rw[List.take_length];rfl
 rw[←hn,←U,←R];refine bx (α:=Nat) (fun k=>⟨ay [7] (ad b2) Z ((7,.int .i64 (k:Int))::Z),[.cells false 1 (iN .i64 A),.cells false 1 (iN .i64 B),.cells true 1 (iZ (tzS A B i k))],d⟩)
  (fun k=>B.length-k) (fun k=>k≤B.length) (.exit 2) _ d _ (by simp) ?_ K 0 (Nat.zero_le _) (by simp only[Nat.sub_zero];omega)
 intro k hk;clear hn U R;simp[ah,aE,f129] at H;by_cases G:k=B.length
 ·right
  subst G;obtain⟨rfl,rfl⟩:=H;simp[h1]
 ·left
  have D:k<B.length:=by omega
  obtain⟨x,hx,X9⟩:=cM hi;obtain⟨z,hz,C⟩:=cM D;have Ym:=ed hA hx;have hzb:=ed hB hz;obtain⟨t1,t2,t3⟩:=G5 (c:=100000000) (by decide) hA hB i (by omega);have hg:A.getD i 0=x:=by simp[List.getD,hx]
  have Zh:((tzR A B i).drop i).length=A.length+B.length-i:=by rw[List.length_drop,t1]
  obtain⟨y,hy⟩:∃y,((tzR A B i).drop i)[k]? =some y:=⟨((tzR A B i).drop i)[k]'(by omega),by simp⟩
  obtain⟨s1,s2⟩:=BS (x:Int) B _ k z y hz hy;have u:y.natAbs≤i*100000000:=t3 y (List.mem_of_mem_drop (List.mem_of_getElem? hy));have V:((tzR A B i).take i).length=i:=by rw[List.length_take];omega
  have o:(iE (x:Int) (B.take k) ((tzR A B i).drop i)).length=A.length+B.length-i:=by rw[oZ _ _ _ (by rw[List.length_take];omega),Zh]
  obtain⟨S,hS⟩:=xE (tzS A B i k);obtain⟨m,Q⟩:=xE (tzS A B i (k+1));have L:S=(tzR A B i).take i++iE (x:Int) (B.take k) ((tzR A B i).drop i):=by rw[hS];unfold tzS;rw[hg]
  have e2:m=(tzR A B i).take i++iE (x:Int) (B.take (k+1)) ((tzR A B i).drop i):=by rw[Q];unfold tzS;rw[hg]
  have Y:S.length=A.length+B.length:=by rw[L,List.length_append,V,o];omega
  have g1:S[i+k]? =some y:=by rw[L,List.getElem?_append_right (by omega),V,show i+k-i=k by omega];exact s1
  have g1' :S[i+k]'(by omega)=y:=(List.getElem?_eq_some_iff.1 g1).2;obtain⟨p,W⟩:=xE ((x:Int)*(z:Int));have hpb:p.natAbs≤10000*10000:=by rw[W,Int.natAbs_mul,Int.natAbs_natCast,Int.natAbs_natCast];exact Nat.mul_le_mul (by omega) (by omega)
  have g2:S.set (i+k) (y+p)=m:=by rw[L,e2,List.set_append_right _ _ (by omega),V,show i+k-i=k by omega,W,s2]
  have ae1:y.natAbs≤5000*100000000:=Nat.le_trans u (Nat.mul_le_mul_right _ (by omega));have w1:IntKind.i64.wrap ((x:Int)*(z:Int))=p:=by rw[←W];exact ae
  have w2:IntKind.i64.wrap (y+p)=y+p:=ae;obtain⟨X,N⟩:=xE (i+k);have w3:IntKind.i64.wrap ((i:Int)+(k:Int))=(X:Int):=by rw[ae];omega
  have w4:IntKind.i64.wrap ((k:Int)+1)=((k+1:Nat):Int):=by rw[ae];omega
  have UV:(iZ S).take X++.int .i64 (y+p)::(iZ S).drop (X+1)=iZ m:=by rw[OQ _ _ _ (by omega),N,g2]
  have J:X<S.length:=by omega
  have aeP:X+1≤S.length:=by omega
  have g3:S[X]? =some y:=by rw[N];exact g1
  have I :S[X]=y:=(List.getElem?_eq_some_iff.1 g3).2;rw[←Y] at h5;have ad1:(X:Int)<(S.length:Int):=by omega
  have acJ:X+1≤S.length:=by omega
  have hiA:(i:Int)<(A.length:Int):=by omega
  have hkB:(k:Int)<(B.length:Int):=by omega
  refine⟨k+1,?_⟩;refine bt (show k+1≤B.length∧_ from⟨D,by omega⟩) ?_;clear L e2 s1 s2 t3;obtain⟨M,A'⟩:∃M,aJ f129=[M]:=⟨_,rfl⟩
  obtain⟨IR,YF⟩:=cD A' (l:=[0,0,0,6,15,31,0,0,192,448,0,0,3072,7168,16320,32767,65535,131071]) (j:=17) (by kernel_rfl) (by decide);simp[aJ,bU,f129] at A';subst A';obtain⟨rfl,rfl⟩:=H;simp[-aK,aq IR,bm,aZ,bl,YF,←hS,←Q,h0,h1,h5,h6,hi,hiA,hkB,D,w3,ad1,J,I,X9,C,w1,w2,UV,w4,acJ]
theorem xD(H:A.length<K)(y:ah f129=[b,b2]):
  ∃F:Env→Bool→Env,∀Z d,(ab Z 0=.slice 0 0 A.length none∧ab Z 1=.slice 1 0 B.length none∧ab Z 5=.slice 2 0 (A.length+B.length) none∧ab Z 6=.int .i64 0)→
   bh (ba prog) iM O K 45 2 true (.loop b) ⟨Z,[.cells false 1 (iN .i64 A),.cells false 1 (iN .i64 B),.cells true 1 (iZ (List.replicate (A.length+B.length) 0))],d⟩=some (.exit 0,⟨F Z d,[.cells false 1 (iN .i64 A),.cells false 1 (iN .i64 B),.cells true 1 (iZ (tzR A B A.length))],d⟩)∧
   ab (F Z d) 5=.slice 2 0 (A.length+B.length) none:=by
 have R:iM b=[6]:=by simp[ah,aE,f129] at y;obtain⟨rfl,rfl⟩:=y;decide
 refine bj R (fun Z=>ab Z 0=.slice 0 0 A.length none∧ab Z 1=.slice 1 0 B.length none∧ab Z 5=.slice 2 0 (A.length+B.length) none∧ab Z 6=.int .i64 0)
  (fun _ Q =>ab Q 5=.slice 2 0 (A.length+B.length) none) ?_
 rintro Z d ⟨h0,h1,h5,h6⟩;have U:ay [6] (ad b) Z ((6,.int .i64 ((0:Nat):Int))::Z)=ay [6] (ad b) Z Z:=by simp[ay,h6]
 rw[←U];refine bx (α:=Nat) (fun i=>⟨ay [6] (ad b) Z ((6,.int .i64 (i:Int))::Z),[.cells false 1 (iN .i64 A),.cells false 1 (iN .i64 B),.cells true 1 (iZ (tzR A B i))],d⟩)
  (fun i=>A.length-i) (fun i=>i≤A.length) (.exit 0) _ d _ (by simp) ?_ K 0 (Nat.zero_le _) (by simp only[Nat.sub_zero];omega)
 intro i M;clear U;by_cases X:i=A.length
 ·right
  simp[ah,aE,f129] at y;subst X;obtain⟨rfl,rfl⟩:=y;simp[h0,h5]
 ·left
  have S:i<A.length:=by omega
  obtain⟨F,N⟩:=xC (O:=O) (K:=K) A B hA hB hl Yb hK y i S;have w4:IntKind.i64.wrap ((i:Int)+1)=((i+1:Nat):Int):=by rw[ae];omega
  have V:(i:Int)<(A.length:Int):=by omega
  simp[ah,aE,f129] at y;obtain⟨rfl,rfl⟩:=y;refine⟨i+1,?_⟩;refine bt (show i+1≤A.length∧_ from⟨S,by omega⟩) ?_;simp[h0,h1,h5,V,N,w4]
end
theorem BB(A B:List Nat)(J:A≠[]∨B≠[])(y:lok 10000 A=true)(H:lok 10000 B=true)(I:A.length≤5000)(W:B.length≤5000):
  aa (ba prog) iM (aT prog) cn (A.length+B.length+1) 129 [.slice 0 0 A.length none,.slice 1 0 B.length none] [.cells false 1 (iN .i64 A),.cells false 1 (iN .i64 B)]=
   some ⟨.slice 2 0 (dig 10000 (au 10000 A*au 10000 B)).length none,none,[.cells true 1 (iN .i64 (dig 10000 (au 10000 A*au 10000 B)))]⟩:=by
 have j:aT prog 129=some f129:=by kernel_rfl
 obtain⟨b,b2,V⟩:∃b b2,ah f129=[b,b2]:=⟨_,_,rfl⟩
 obtain⟨F,Z⟩:=xD (O:=cn) (K:=A.length+B.length+1) A B y H I W (by omega) (by omega) V;obtain⟨t1,t2,t3⟩:=G5 (c:=100000000) (by decide) y H A.length (Nat.le_refl _);rw[List.take_length,←Int.natCast_mul] at t2;obtain⟨n,U⟩:=xE (A.length+B.length);have X:zsm (tzR A B A.length)=true:=List.all_eq_true.2 fun d Y=>by have h1:=t3 d Y;have h2:A.length*100000000≤5000*100000000:=Nat.mul_le_mul_right _ I;simp;omega
 obtain⟨S,hS⟩:=xE (tzR A B A.length);rw[←hS,←U] at Z;rw[←hS] at t1 t2 X;rw[←U] at t1;have R:S.length≤10000000:=by omega
 have Q:S≠[]:=by
  intro e;rw[e] at t1;rcases J with h | h
  ·have:=List.length_pos_iff.2 h;simp at t1;omega
  ·have:=List.length_pos_iff.2 h;simp at t1;omega
 have Z7:0≤jq 10000 S:=by rw[t2];exact Int.natCast_nonneg _
 have N:(jq 10000 S).toNat=au 10000 A*au 10000 B:=by rw[t2,Int.toNat_natCast]
 have G:∀(C u:afb) l,zd (C::u::.cells true 1 (iZ S)::l) (.slice 2 0 n none)=some S:=fun C u l=>by rw[←t1];exact CY rfl (by simp) (List.take_of_length_le (by simp))
 obtain⟨c,o⟩:=xE (α:=Nat) n;have w1:IntKind.i64.wrap ((A.length:Int)+(B.length:Int))=(c:Int):=by rw[ae];omega
 have h8:8*(c:Int)≤281474976710656:=by omega
 have h9:(c:Int)≤281474976710656:=by omega
 obtain⟨D,m⟩:=xE (dig 10000 (au 10000 A*au 10000 B));rw[←m] at⊢;rw[←o] at Z G;obtain⟨K,M⟩:=xE (n+1);rw[←U,←M];rw[←o] at M;rw[←M] at Z;have L :=Z;clear Z t2 t3;simp[ah,aE,f129] at V;obtain⟨rfl,rfl⟩:=V;simp[aa,j,f129,w1,h8,h9,SK,L,G,cn,Q,Z7,N,X,R,←m]
theorem Fx{M:Mem}{x y:AV}{A B:List Nat}(H:afi .i64 M x A)(I:afi .i64 M y B)(J:A≠[]∨B≠[])(W:lok 10000 A=true)(Y:lok 10000 B=true)(hl:A.length≤5000)(Yb:B.length≤5000):
  kO prog 129 [x,y] M (.slice M.length 0 (dig 10000 (au 10000 A*au 10000 B)).length none) (M++[.cells true 1 (iN .i64 (dig 10000 (au 10000 A*au 10000 B)))]):=by
 have h:=(ar aj (aI _) mg (aP _) (BB A B J W Y hl Yb)).1;simp only[y9.mem,Option.getD_none,List.cons_append,List.nil_append] at h;obtain⟨b,c,rfl,rfl,h3⟩:=kO.af1 (new:=[.cells true 1 (iN .i64 (dig 10000 (au 10000 A*au 10000 B)))]) rfl h H I;simpa [AV.ren,AV.afp,eL] using h3
noncomputable def cu:ae3:=fun c Z M=>match c,Z with
 |.fn 183,[.qF,y,.int .i64 k,.int .i64 0]=>match aW .i64 M y with
  |some B=>if B≠[]∧lok 10000 B=true∧k.natAbs≤10000∧B.length≤1000000∧0≤k*(au 10000 B:Int) then some ⟨.slice M.length 0 (dig 10000 (k*(au 10000 B:Int)).toNat).length none,none,[.cells true 1 (iN .i64 (dig 10000 (k*(au 10000 B:Int)).toNat))]⟩ else none
  |none=>none
 |.fn 183,[x,y,.int .i64 k,.int .i64 0]=>match aW .i64 M x,aW .i64 M y with
  |some A,some B=>if (A≠[]∨B≠[])∧lok 10000 A=true∧lok 10000 B=true∧k.natAbs≤10000∧A.length≤1000000∧B.length≤1000000∧0≤(au 10000 A:Int)+k*(au 10000 B:Int) then some ⟨.slice M.length 0 (dig 10000 ((au 10000 A:Int)+k*(au 10000 B:Int)).toNat).length none,none,[.cells true 1 (iN .i64 (dig 10000 ((au 10000 A:Int)+k*(au 10000 B:Int)).toNat))]⟩ else none
  |_,_=>none
 |.fn 129,[x,y]=>match aW .i64 M x,aW .i64 M y with
  |some A,some B=>if (A≠[]∨B≠[])∧lok 10000 A=true∧lok 10000 B=true∧A.length≤5000∧B.length≤5000 then some ⟨.slice M.length 0 (dig 10000 (au 10000 A*au 10000 B)).length none,none,[.cells true 1 (iN .i64 (dig 10000 (au 10000 A*au 10000 B)))]⟩ else none
  |_,_=>none
 |c,Z=>cn c Z M
theorem yI:qS prog cu:=by
 refine bZ fun c L M r h=>?_
 unfold cu at h;split at h
 ·split at h
  ·rename_i Z
   split at h
   ·rename_i X
    obtain⟨V,U,S,R,Q⟩:=X;cases h;have:=vh _ (A:=[]) (.inr ⟨rfl,rfl⟩) (aY Z) (.inr V) rfl U S (Nat.zero_le _) R (by simpa [au] using Q);simp only[au,Int.natCast_zero,Int.zero_add] at this;exact aw this
   ·cases h
  ·cases h
 ·split at h
  ·rename_i N Z
   split at h
   ·rename_i X
    obtain⟨V,U,S,R,Q,G,F⟩:=X;cases h;exact aw (vh _ (.inl (aY N)) (aY Z) V U S R Q G F)
   ·cases h
  ·cases h
 ·split at h
  ·rename_i N Z
   split at h
   ·rename_i X
    obtain⟨V,U,S,R,Q⟩:=X;cases h;exact aw (Fx (aY N) (aY Z) V U S R Q)
   ·cases h
  ·cases h
 ·exact dr mg h
end Go.Proofs
namespace Go.Eng
def mM:Nat→List UInt8→List Nat
 |0,_=>[]
 |f+1,s=>if s=[] then [] else ej (s.drop (s.length-4))::mM f (s.take (s.length-4))
def eU(s:List UInt8):List Nat:=mM s.length s
theorem Ez:∀(f g:Nat) (s:List UInt8),s.length≤f→s.length≤g→mM f s=mM g s
 |0,0,s,_,_=>rfl
 |0,g+1,s,h,_=>by have:s=[]:=List.eq_nil_of_length_eq_zero (by omega);subst this;simp[mM]
 |f+1,0,s,_,h=>by have:s=[]:=List.eq_nil_of_length_eq_zero (by omega);subst this;simp[mM]
 |f+1,g+1,s,h1,h2=>by
  unfold mM;by_cases Z:s=[]
  ·simp[Z]
  ·have:0<s.length:=List.length_pos_iff.2 Z
   rw[if_neg Z,if_neg Z,Ez f g (s.take (s.length-4)) (by simp;omega) (by simp;omega)]
theorem NM:eU []=[]:=rfl
variable{s:List UInt8}
theorem uB(h:s≠[]):eU s=ej (s.drop (s.length-4))::eU (s.take (s.length-4)):=by
 have X:0<s.length:=List.length_pos_iff.2 h;unfold eU;obtain⟨f,Z⟩:∃f,s.length=f+1:=⟨s.length-1,by omega⟩
 have e:mM s.length s=mM (f+1) s:=by rw[Z]
 rw[e,mM,if_neg h];congr 1;exact Ez _ _ _ (by simp;omega) (by simp)
theorem Si(h:s.all isD=true):ej (s.drop (s.length-4))<10000:=by
 have X:=Dc (Au h (s.length-4));have Z:(s.drop (s.length-4)).length≤4:=by simp;omega
 have h3:10 ^ (s.drop (s.length-4)).length≤10 ^ 4:=Nat.pow_le_pow_right (by omega) Z;omega
theorem jW:∀(n:Nat) (s:List UInt8),s.length≤n→s.all isD=true→lok 10000 (eU s)=true∧au 10000 (eU s)=ej s∧(eU s).length≤s.length
 |0,s,hn,_=>by have:s=[]:=List.eq_nil_of_length_eq_zero (by omega);subst this;exact⟨rfl,by unfold ej;rw[dw];rfl,Nat.le_refl _⟩
 |n+1,s,hn,h=>by
  by_cases Z:s=[]
  ·subst Z;exact⟨rfl,by unfold ej;rw[dw];rfl,Nat.le_refl _⟩
  ·have S:0<s.length:=List.length_pos_iff.2 Z
   rw[uB Z];obtain⟨X,V,R⟩:=jW n (s.take (s.length-4)) (by simp;omega) (o8 h _);have U:ej s=ej (s.take (s.length-4))*10 ^ (s.drop (s.length-4)).length+ej (s.drop (s.length-4)):=by
    conv=>lhs;rw[←List.take_append_drop (s.length-4) s]
    exact uV _ _
   refine⟨?_,?_,?_⟩
   ·rw[cI,X];simp[Si h]
   ·rw[au,V,U]
    by_cases Q:s.length≤4
    ·have e:s.length-4=0:=by omega
     rw[e,List.take_zero];have:ej []=0:=by unfold ej;rw[dw]
     rw[this];omega
    ·have e:(s.drop (s.length-4)).length=4:=by simp;omega
     rw[e];omega
   ·rw[List.length_cons]
    have:(s.take (s.length-4)).length=s.length-4:=by simp
    omega
end Go.Eng
namespace Go.Proofs
open Go.Eng
open Tryz
def kQ(c:Code):List Nat:=if (ad c).contains 3 then [3,4] else [5,6]
theorem BD{O:ae3}{K m0:Nat}(mem:Mem)(s:List UInt8)(e y:Nat)(hd:s.all isD=true)(he:e≤s.length)(UV:y≤e)(h4:e≤y+4)(hl:s.length≤1000000)(hK:5<K){b H:Code}(I:ah f130=[b,H]):
  ∃F:Env→Bool→Env,∀Z d,(ab Z 0=.str s∧ab Z 4=.int .i64 (e:Int)∧ab Z 5=.int .i64 0∧ab Z 6=.int .i64 (y:Int))→
   bh (ba prog) kQ O K 35 m0 true (.loop H) ⟨Z,mem,d⟩=some (.exit 2,⟨F Z d,mem,d⟩)∧
   (ab (F Z d) 5=.int .i64 ((ej ((s.take e).drop y):Nat):Int)∧ab (F Z d) 0=ab Z 0∧ab (F Z d) 3=ab Z 3∧ab (F Z d) 4=ab Z 4):=by
 have Y:kQ H=[5,6]:=by simp[ah,aE,f130] at I;obtain⟨rfl,rfl⟩:=I;decide
 refine bj Y (fun Z=>ab Z 0=.str s∧ab Z 4=.int .i64 (e:Int)∧ab Z 5=.int .i64 0∧ab Z 6=.int .i64 (y:Int))
  (fun Z R =>ab R 5=.int .i64 ((ej ((s.take e).drop y):Nat):Int)∧ab R 0=ab Z 0∧ab R 3=ab Z 3∧ab R 4=ab Z 4) ?_
 rintro Z d ⟨h0,h4',h5,h6⟩;obtain⟨u,Q⟩:=xE ((s.take e).drop y);have W:u.length=e-y:=by rw[Q,List.length_drop,List.length_take];omega
 have X:u.all isD=true:=by rw[Q];exact Au (o8 hd _) _
 have G:ej (u.take 0)=0:=by rw[List.take_zero];unfold ej;rw[dw]
 have D:ay [5,6] (ad H) Z ((5,.int .i64 ((ej (u.take 0):Nat):Int))::(6,.int .i64 ((y+0:Nat):Int))::Z)=ay [5,6] (ad H) Z Z:=by rw[G];simp[ay,h5,h6]
 rw[←D,←Q];refine bx (α:=Nat) (fun j=>⟨ay [5,6] (ad H) Z ((5,.int .i64 ((ej (u.take j):Nat):Int))::(6,.int .i64 ((y+j:Nat):Int))::Z),mem,d⟩)
  (fun j=>u.length-j) (fun j=>j≤u.length) (.exit 2) _ d _ (by simp) ?_ K 0 (Nat.zero_le _) (by simp only[Nat.sub_zero];omega)
 intro j hj;clear D G;simp[ah,aE,f130] at I;by_cases J:j=u.length
 ·right
  subst J;have e1:((y+u.length:Nat):Int)=(e:Int):=by omega
  rw[List.take_length,e1];obtain⟨rfl,rfl⟩:=I;simp[h0,h4']
 ·left
  have C:j<u.length:=by omega
  obtain⟨c,V⟩:∃c,u[j]? =some c:=⟨u[j],by simp[C]⟩
  have ZS:=tw (List.all_eq_true.1 X c (List.mem_of_getElem? V));have N:=List.all_eq_true.1 X c (List.mem_of_getElem? V);have ack:48≤c.toNat:=by unfold isD at N;simp only[Bool.and_eq_true,decide_eq_true_eq] at N;exact N.1
  have YG:u.take (j+1)=u.take j++[c]:=by rw[List.take_add_one,V];rfl
  have B:ej (u.take (j+1))=10*ej (u.take j)+(c.toNat-48):=by rw[YG,nT]
  have M:ej (u.take j)<10000:=by
   have h1:=Dc (o8 X j);have h2:(u.take j).length≤4:=by rw[List.length_take];omega
   have h3:10 ^ (u.take j).length≤10 ^ 4:=Nat.pow_le_pow_right (by omega) h2;omega
  have U:s[y+j]? =some c:=by rw[Q,List.getElem?_drop,List.getElem?_take_of_lt (by omega)] at V;exact V
  obtain⟨v,S⟩:=xE (ej (u.take j));obtain⟨v2,o⟩:=xE (ej (u.take (j+1)));rw[←S] at M B;rw[←o] at B;obtain⟨i,m⟩:=xE (y+j);rw[←m] at U;have hie:i<e:=by omega
  have L:(i:Int)<(e:Int):=by omega
  have w1:IntKind.i64.wrap (10*(v:Int))=10*(v:Int):=ae;have w2:IntKind.i64.wrap (10*(v:Int)+(c.toNat:Int))=10*(v:Int)+(c.toNat:Int):=ae;have w3:IntKind.i64.wrap (10*(v:Int)+(c.toNat:Int)-48)=(v2:Int):=by rw[ae];omega
  have w4:IntKind.i64.wrap ((i:Int)+1)=((y+(j+1):Nat):Int):=by rw[ae];omega
  have w5:IntKind.i64.wrap (c.toNat:Int)=(c.toNat:Int):=ae (by omega) (by have:=c.toNat_lt;omega);rw[←m];refine⟨j+1,?_⟩;refine bt (show j+1≤u.length∧_ from⟨C,by omega⟩) ?_;obtain⟨rfl,rfl⟩:=I;simp[h0,h4',L,U,←S,←o,w1,w2,w3,w4,w5];try omega
def taM:List Nat→Mem
 | []=>[]
 |x::l=>[.cells true 1 (iN .i64 (x::l))]
def taO:List Nat→AV
 | []=>.qF
 |_::l=>.slice 0 0 (l.length+1) none
theorem DR{O:ae3}{K:Nat}(s:List UInt8)(hd:s.all isD=true)(I:s.length≤1000000)(hK:s.length+5<K){b J:Code}(H:ah f130=[b,J]):
  ∃F:Env→Bool→Env,∀Z d,(ab Z 0=.str s∧ab Z 3=.qF∧ab Z 4=.int .i64 (s.length:Int))→
   bh (ba prog) kQ O K 35 0 true (.loop b) ⟨Z,[],d⟩=some (.exit 0,⟨F Z d,taM (eU s),d⟩)∧ab (F Z d) 3=taO (eU s):=by
 have B:kQ b=[3,4]:=by simp[ah,aE,f130] at H;obtain⟨rfl,rfl⟩:=H;decide
 refine bj B (fun Z=>ab Z 0=.str s∧ab Z 3=.qF∧ab Z 4=.int .i64 (s.length:Int)) (fun _ u =>ab u 3=taO (eU s)) ?_;rintro Z d ⟨h0,h3,h4⟩;have G:ay [3,4] (ad b) Z ((3,taO [])::(4,.int .i64 (s.length:Int))::Z)=ay [3,4] (ad b) Z Z:=by simp[ay,h3,h4,taO]
 rw[←G];refine bx (α:=Int×List Nat) (fun a=>⟨ay [3,4] (ad b) Z ((3,taO a.2)::(4,.int .i64 a.1)::Z),taM a.2,d⟩)
  (fun a=>a.1.toNat) (fun a=> -4≤a.1∧a.1≤s.length∧a.2++eU (s.take a.1.toNat)=eU s) (.exit 0) _ d _ (by simp) ?_ K ((s.length:Int),[]) ⟨by simp only;omega,Int.le_refl _,by simp only[Int.toNat_natCast];rw[List.take_length];rfl⟩ (by show(s.length:Int).toNat<K;omega)
 rintro ⟨z,X⟩ ⟨hz4,he,H1⟩;simp only at hz4 he H1 ⊢;clear G;by_cases o:z≤0
 ·right
  rw[show z.toNat=0 by omega,List.take_zero,NM,List.append_nil] at H1;rw[H1];have m:¬0<z:=by omega
  simp[ah,aE,f130] at H;obtain⟨rfl,rfl⟩:=H;simp[m]
 ·left
  obtain⟨e,rfl⟩:∃e:Nat,z=e:=⟨z.toNat,by omega⟩
  rw[Int.toNat_natCast] at H1;have U:(s.take e).length=e:=by rw[List.length_take];omega
  have j:s.take e≠[]:=by intro h;rw[h] at U;simp at U;omega
  rw[uB j,U,List.take_take,Nat.min_eq_left (by omega)] at H1;obtain⟨Q,Y⟩:=xE (e-4);rw[←Y] at H1;obtain⟨F,S⟩:=BD (O:=O) (K:=K) (m0:=0) (taM X) s e Q hd (by omega) (by omega) (by omega) I (by omega) H;obtain⟨v,W⟩:=xE (ej ((s.take e).drop Q));rw[←W] at S H1;have N:X.length≤1000000:=by have D:=(jW _ s (Nat.le_refl _) hd).2.2;rw[←H1] at D;simp at D;omega
  obtain⟨V,M⟩:=xE ((e:Int)-4);have w1:IntKind.i64.wrap ((e:Int)-4)=V:=by rw[←M];exact ae
  have C:0<e:=by omega
  have R:(if 0<V then V else 0)=(Q:Int):=by split<;>omega
  have L:V.toNat=Q:=by omega
  simp[ah,aE,f130] at H;obtain⟨rfl,rfl⟩:=H;refine⟨(V,X++[v]),?_⟩;refine bL (show(-4≤V∧V≤(s.length:Int)∧(X++[v])++eU (s.take V.toNat)=eU s)∧V.toNat<(e:Int).toNat from⟨⟨by omega,by omega,by rw[List.append_assoc,L];exact H1⟩,by omega⟩) ?_;cases X with
  |nil=>
   simp only[taM] at S;simp[taM,taO,C,w1,R,h0,S,ca]
  |cons y l=>
   simp only[List.length_cons] at N;have ht:(iN .i64 l).take l.length=iN .i64 l:=List.take_of_length_le (by simp);have Yu:(l.length+1+1)*8≤140737488355328:=by omega
   have Zo:l.length+1+1≤140737488355328:=by omega
   simp only[taM,ca] at S;simp[taM,taO,C,w1,R,h0,S,ht,Yu,Zo,ca,dh]
section
variable (v:Nat)(hl:(ai v).length≤1000000)
include v hl
theorem Gf:aa (ba prog) kQ (aT prog) cu ((ai v).length+6) 130 [.str (ai v)] []=
  some ⟨.slice 0 0 (dig 10000 v).length none,none,[.cells true 1 (iN .i64 (eU (ai v)))]⟩:=by
 have L:aT prog 130=some f130:=by kernel_rfl
 obtain⟨b,Q,U⟩:∃b Q,ah f130=[b,Q]:=⟨_,_,rfl⟩
 obtain⟨F,X⟩:=DR (O:=cu) (K:=(ai v).length+6) (ai v) (dn v) hl (by omega) U;obtain⟨G,N,D⟩:=jW _ (ai v) (Nat.le_refl _) (dn _);rw[du] at N;have S:aU (eU (ai v))=dig 10000 v:=by rw[←dC (by omega) G,N]
 have V:eU (ai v)≠[]:=by rw[uB (ja _)];simp
 obtain⟨s,C⟩:=xE (ai v);rw[←C] at X S V D hl ⊢;obtain⟨K,B⟩:=xE (s.length+6);rw[←B] at X ⊢;have M:(eU s).length≤4000000000000:=by omega
 obtain⟨Z,R⟩:=xE (eU s);rw[←R] at X S V M ⊢;have u:taM Z=[.cells true 1 (iN .i64 Z)]:=by cases Z<;>first | exact absurd rfl V | rfl
 have o:taO Z=.slice 0 0 Z.length none:=by cases Z<;>first | exact absurd rfl V | rfl
 rw[u,o] at X;have m:∀l,aW .i64 (.cells true 1 (iN .i64 Z)::l) (.slice 0 0 Z.length none)=some Z:=fun l=>aR rfl (by simp) (List.take_of_length_le (by simp))
 simp[ah,aE,f130] at U;obtain⟨rfl,rfl⟩:=U;simp[aa,L,f130,X,cu,cn,cF,m,M,S]
theorem MJ(M:Mem):kO prog 130 [.str (ai v)] M (.slice M.length 0 (dig 10000 v).length none) (M++[.cells true 1 (iN .i64 (dig 10000 v))]):=by
 obtain⟨V,X,R⟩:=jW _ (ai v) (Nat.le_refl _) (dn _);rw[du] at X;have U:aU (eU (ai v))=dig 10000 v:=by rw[←dC (by omega) V,X]
 have h:=(ar aj (aI _) yI (aP _) (Gf v hl)).1;simp only[y9.mem,Option.getD_none,List.nil_append] at h;have S:=kO.af5 (m2:=[.cells true 1 (iN .i64 (dig 10000 v))]) h rfl (fun b s Z=>by
  match b with
  |0=>simp at Z;subst Z;exact⟨_,rfl,.row (by rw[←U];exact di _)⟩
  |b+1=>simp at Z)
 have h3:=kO.frame (M:=M) [] (m:=[]) (new:=[.cells true 1 (iN .i64 (dig 10000 v))]) rfl (by simp) rfl (by simp) rfl S;simpa [AV.ren,AV.afp,eL] using h3
end
theorem DG{K:Nat}(v:Nat)(hv:0<v)(hl:(dig 10000 v).length≤100000)(hK:(dig 10000 v).length<K){b:Code}(H:ah f191=[b]):
  ∃F:Env→Bool→Env,∀Z d,(ab Z 0=.slice 0 0 (dig 10000 v).length none∧ab Z 3=.str (ai (au 10000 ((dig 10000 v).drop ((dig 10000 v).length-1))))∧ab Z 4=.int .i64 ((((dig 10000 v).length-1:Nat):Int)-1))→
   bh (ba prog) (fun _=>[3,4]) (af ak) K 34 1 true (.loop b) ⟨Z,[.cells false 1 (iN .i64 (dig 10000 v))],d⟩=some (.exit 0,⟨F Z d,[.cells false 1 (iN .i64 (dig 10000 v))],d⟩)∧ab (F Z d) 3=.str (ai v):=by
 have M:lok 10000 (dig 10000 v)=true:=bO (by omega) _;have YA:au 10000 (dig 10000 v)=v:=bC (by omega) _;have V:∀j,j<(dig 10000 v).length→0<au 10000 ((dig 10000 v).drop j):=fun j L=>pj (by omega) L
 have D':0<(dig 10000 v).length:=by
  rcases Nat.eq_zero_or_pos (dig 10000 v).length with h | h
  ·have:=(eH (B:=10000) (n:=v) (by omega)).1 (List.eq_nil_of_length_eq_zero h)
   omega
  ·exact h
 obtain⟨A,G⟩:=xE (dig 10000 v);rw[←G] at hl hK M YA V D' ⊢;refine bj rfl (fun Z=>ab Z 0=.slice 0 0 A.length none∧ab Z 3=.str (ai (au 10000 (A.drop (A.length-1))))∧ab Z 4=.int .i64 (((A.length-1:Nat):Int)-1)) (fun _ AC =>ab AC 3=.str (ai v)) ?_;rintro Z d ⟨h0,h3,D⟩;have hn:ay [3,4] (ad b) Z ((3,.str (ai (au 10000 (A.drop (A.length-1)))))::(4,.int .i64 (((A.length-1:Nat):Int)-1))::Z)=ay [3,4] (ad b) Z Z:=by simp only[ay,List.map_cons,List.map_nil,h3,D];simp
 rw[←hn];refine bx (α:=Nat) (fun j=>⟨ay [3,4] (ad b) Z ((3,.str (ai (au 10000 (A.drop j))))::(4,.int .i64 ((j:Int)-1))::Z),[.cells false 1 (iN .i64 A)],d⟩)
  (fun j=>j) (fun j=>j<A.length) (.exit 0) _ d _ (by simp) ?_ K (A.length-1) (by omega) (by omega)
 intro j L;clear hn;simp[ah,aE,f191] at H;cases j with
 |zero=>
  right;subst H;simp[YA]
 |succ j=>
  left;obtain⟨x,hx,X9⟩:=cM (l:=A) (i:=j) (by omega);have Ym:=ed M hx;have e1:(((j+1:Nat):Int)-1)=(j:Int):=by omega
  have X:ai (au 10000 (A.drop j))=ai (au 10000 (A.drop (j+1)))++(ai (10000+x)).drop 1:=by rw[nw hx];have S:=AJ (w:=4) (by omega) Ym (V (j+1) L);have N:=Te (w:=4) (x:=x) (by omega) Ym;rw[show 10 ^ 4=10000 from rfl] at S N;rw[N,S]
  have Yw:(ai (au 10000 (A.drop (j+1)))).length≤400000:=by
   have S:=gd (iU M (j+1));have N:(10000:Nat) ^ (A.drop (j+1)).length=10 ^ (4*(A.drop (j+1)).length):=by rw[Nat.pow_mul]
   rw[N] at S;have h3:0<4*(A.drop (j+1)).length:=by simp;omega
   have D:=aG h3 S;simp at D;omega
  obtain⟨t,ht⟩:=xE (ai (au 10000 (A.drop (j+1))));obtain⟨t2,R⟩:=xE (ai (au 10000 (A.drop j)));rw[←ht] at X Yw;rw[←R] at X;obtain⟨y,hy⟩:=xE (α:=Nat) (10000+x);rw[←hy] at X;have w1:IntKind.i64.wrap (10000+(x:Int))=(y:Int):=by rw[ae];omega
  have w2:IntKind.i64.wrap ((j:Int)-1)=(j:Int)-1:=ae;have hf:dF (y:Int)=true:=by unfold dF;simp;omega
  have Q:bB (y:Int)=ai y:=rfl;have C:=aG (u:=y) (k:=5) (by omega) (by omega);have o:1≤(ai y).length:=po y;obtain⟨u,hu⟩:=xE (ai y);rw[←hu] at X Q C o;have m:(1:Int)≤(u.length:Int):=by omega
  have Zy:(u.drop 1).take (u.length-1)=u.drop 1:=List.take_of_length_le (by simp);have Y:t.length+(u.length-1)≤eR:=by unfold eR;omega
  have O:j<A.length:=by omega
  have W:(j:Int)<(A.length:Int):=by omega
  obtain⟨u1,U⟩:=xE (u.drop 1);rw[←U] at X Zy;have J:u1.length=u.length-1:=by rw[U];simp
  have I:t.length+u1.length≤eR:=by rw[J];exact Y
  rw[e1];refine⟨j,?_⟩;refine bt (show j<A.length∧_ from⟨O,Nat.lt_succ_self j⟩) ?_;subst H;simp[h0,W,O,X9,w1,af,ak,hf,Q,m,←U,Zy,←ht,←R,I,←X,w2]
end Go.Proofs
