/- See C54. -/
import Derived.Test.YtffdedmakncfmaaGreatDoorC19
set_option linter.all false
set_option maxRecDepth 100000
set_option maxHeartbeats 40000000
namespace Go.Proofs
open Go.Eng
open Tryz
def ju(c:Code):List Nat:=if (ae c).contains 6 then [6] else [7]
def tzS(A B:List Nat)(i k:Nat):List Int:=(tzR A B i).take i++jl ((A.getD i 0:Nat):Int) (B.take k) ((tzR A B i).drop i)
variable{K:Nat}{O:afF}{b b2:Code}
section
variable (A B:List Nat)(hA:lok 10000 A=true)(hB:lok 10000 B=true)(hl:A.length≤5000)(hl2:B.length≤5000)(hK:B.length<K)
include A B hA hB hl hl2 hK
theorem yB(H:ah f129=[b,b2])(i:Nat)(hi:i<A.length):
  ∃F:Env→Bool→Env,∀Z d,(ad Z 0=.slice 0 0 A.length none∧ad Z 1=.slice 1 0 B.length none∧ad Z 5=.slice 2 0 (A.length+B.length) none∧ad Z 6=.int .i64 (i:Int)∧ad Z 7=.int .i64 0)→
   aW (bh prog) ju O K 45 2 true (.loop b2) ⟨Z,[.cells false 1 (iN .i64 A),.cells false 1 (iN .i64 B),.cells true 1 (iZ (tzR A B i))],d⟩=some (.exit 2,⟨F Z d,[.cells false 1 (iN .i64 A),.cells false 1 (iN .i64 B),.cells true 1 (iZ (tzR A B (i+1)))],d⟩)∧
   (∀t,t∈[0,1,5,6]→ad (F Z d) t=ad Z t):=by
 have G:ju b2=[7]:=by simp[ah,aE,f129] at H;obtain⟨rfl,rfl⟩:=H;decide
 refine bj G (fun Z=>ad Z 0=.slice 0 0 A.length none∧ad Z 1=.slice 1 0 B.length none∧ad Z 5=.slice 2 0 (A.length+B.length) none∧ad Z 6=.int .i64 (i:Int)∧ad Z 7=.int .i64 0)
  (fun Z AC =>∀t,t∈[0,1,5,6]→ad AC t=ad Z t) ?_
 rintro Z d ⟨h0,h1,h5,h6,h7⟩;have hn:aA [7] (ae b2) Z ((7,.int .i64 ((0:Nat):Int))::Z)=aA [7] (ae b2) Z Z:=by simp[aA,h7]
 have U:tzS A B i 0=tzR A B i:=by unfold tzS;rw[List.take_zero,ov,List.take_append_drop]
 have R:tzS A B i B.length=tzR A B (i+1):=by unfold tzS;rw[List.take_length];rfl
 rw[←hn,←U,←R];refine bz (α:=Nat) (fun k=>⟨aA [7] (ae b2) Z ((7,.int .i64 (k:Int))::Z),[.cells false 1 (iN .i64 A),.cells false 1 (iN .i64 B),.cells true 1 (iZ (tzS A B i k))],d⟩)
  (fun k=>B.length-k) (fun k=>k≤B.length) (.exit 2) _ d _ (by simp) ?_ K 0 (Nat.zero_le _) (by simp only[Nat.sub_zero];omega)
 intro k hk;clear hn U R;simp[ah,aE,f129] at H;by_cases D:k=B.length
 ·right
  subst D;obtain⟨rfl,rfl⟩:=H;simp[h1]
 ·left
  have C:k<B.length:=by omega
  obtain⟨x,hx,Z7⟩:=cO hi;obtain⟨z,hz,u⟩:=cO C;have hxb:=eh hA hx;have hzb:=eh hB hz;obtain⟨t1,t2,t3⟩:=HU (c:=100000000) (by decide) hA hB i (by omega);have hg:A.getD i 0=x:=by simp[List.getD,hx]
  have o:((tzR A B i).drop i).length=A.length+B.length-i:=by rw[List.length_drop,t1]
  obtain⟨y,hy⟩:∃y,((tzR A B i).drop i)[k]? =some y:=⟨((tzR A B i).drop i)[k]'(by omega),by simp⟩
  obtain⟨s1,s2⟩:=CF (x:Int) B _ k z y hz hy;have m:y.natAbs≤i*100000000:=t3 y (List.mem_of_mem_drop (List.mem_of_getElem? hy));have V:((tzR A B i).take i).length=i:=by rw[List.length_take];omega
  have Y:(jl (x:Int) (B.take k) ((tzR A B i).drop i)).length=A.length+B.length-i:=by rw[qh _ _ _ (by rw[List.length_take];omega),o]
  obtain⟨S,hS⟩:=xE (tzS A B i k);obtain⟨W,Q⟩:=xE (tzS A B i (k+1));have L:S=(tzR A B i).take i++jl (x:Int) (B.take k) ((tzR A B i).drop i):=by rw[hS];unfold tzS;rw[hg]
  have e2:W=(tzR A B i).take i++jl (x:Int) (B.take (k+1)) ((tzR A B i).drop i):=by rw[Q];unfold tzS;rw[hg]
  have J:S.length=A.length+B.length:=by rw[L,List.length_append,V,Y];omega
  have g1:S[i+k]? =some y:=by rw[L,List.getElem?_append_right (by omega),V,show i+k-i=k by omega];exact s1
  have g1' :S[i+k]'(by omega)=y:=(List.getElem?_eq_some_iff.1 g1).2;obtain⟨p,I⟩:=xE ((x:Int)*(z:Int));have hpb:p.natAbs≤10000*10000:=by rw[I,Int.natAbs_mul,Int.natAbs_natCast,Int.natAbs_natCast];exact Nat.mul_le_mul (by omega) (by omega)
  have g2:S.set (i+k) (y+p)=W:=by rw[L,e2,List.set_append_right _ _ (by omega),V,show i+k-i=k by omega,I,s2]
  have afM:y.natAbs≤5000*100000000:=Nat.le_trans m (Nat.mul_le_mul_right _ (by omega));have w1:IntKind.i64.wrap ((x:Int)*(z:Int))=p:=by rw[←I];exact af
  have w2:IntKind.i64.wrap (y+p)=y+p:=af;obtain⟨X,N⟩:=xE (i+k);have w3:IntKind.i64.wrap ((i:Int)+(k:Int))=(X:Int):=by rw[af];omega
  have w4:IntKind.i64.wrap ((k:Int)+1)=((k+1:Nat):Int):=by rw[af];omega
  have Z6:(iZ S).take X++.int .i64 (y+p)::(iZ S).drop (X+1)=iZ W:=by rw[P8 _ _ _ (by omega),N,g2]
  have aeJ:X<S.length:=by omega
  have afx:X+1≤S.length:=by omega
  have g3:S[X]? =some y:=by rw[N];exact g1
  have g3' :S[X]=y:=(List.getElem?_eq_some_iff.1 g3).2;rw[←J] at h5;have aeK:(X:Int)<(S.length:Int):=by omega
  have adu:X+1≤S.length:=by omega
  have hiA:(i:Int)<(A.length:Int):=by omega
  have hkB:(k:Int)<(B.length:Int):=by omega
  refine⟨k+1,?_⟩;refine br (show k+1≤B.length∧_ from⟨C,by omega⟩) ?_;clear L e2 s1 s2 t3;obtain⟨M,D'⟩:∃M,aG f129=[M]:=⟨_,rfl⟩
  obtain⟨PP,hab⟩:=cC D' (l:=[0,0,0,6,15,31,0,0,192,448,0,0,3072,7168,16320,32767,65535,131071]) (j:=17) (by kernel_rfl) (by decide);simp[aG,bQ,f129] at D';subst D';obtain⟨rfl,rfl⟩:=H;simp[-aH,ak PP,be,aV,aX,hab,←hS,←Q,h0,h1,h5,h6,hi,hiA,hkB,C,w3,aeK,aeJ,g3',Z7,u,w1,w2,Z6,w4,adu]
theorem yC(H:A.length<K)(y:ah f129=[b,b2]):
  ∃F:Env→Bool→Env,∀Z d,(ad Z 0=.slice 0 0 A.length none∧ad Z 1=.slice 1 0 B.length none∧ad Z 5=.slice 2 0 (A.length+B.length) none∧ad Z 6=.int .i64 0)→
   aW (bh prog) ju O K 45 2 true (.loop b) ⟨Z,[.cells false 1 (iN .i64 A),.cells false 1 (iN .i64 B),.cells true 1 (iZ (List.replicate (A.length+B.length) 0))],d⟩=some (.exit 0,⟨F Z d,[.cells false 1 (iN .i64 A),.cells false 1 (iN .i64 B),.cells true 1 (iZ (tzR A B A.length))],d⟩)∧
   ad (F Z d) 5=.slice 2 0 (A.length+B.length) none:=by
 have X:ju b=[6]:=by simp[ah,aE,f129] at y;obtain⟨rfl,rfl⟩:=y;decide
 refine bj X (fun Z=>ad Z 0=.slice 0 0 A.length none∧ad Z 1=.slice 1 0 B.length none∧ad Z 5=.slice 2 0 (A.length+B.length) none∧ad Z 6=.int .i64 0)
  (fun _ Q =>ad Q 5=.slice 2 0 (A.length+B.length) none) ?_
 rintro Z d ⟨h0,h1,h5,h6⟩;have S:aA [6] (ae b) Z ((6,.int .i64 ((0:Nat):Int))::Z)=aA [6] (ae b) Z Z:=by simp[aA,h6]
 rw[←S];refine bz (α:=Nat) (fun i=>⟨aA [6] (ae b) Z ((6,.int .i64 (i:Int))::Z),[.cells false 1 (iN .i64 A),.cells false 1 (iN .i64 B),.cells true 1 (iZ (tzR A B i))],d⟩)
  (fun i=>A.length-i) (fun i=>i≤A.length) (.exit 0) _ d _ (by simp) ?_ K 0 (Nat.zero_le _) (by simp only[Nat.sub_zero];omega)
 intro i M;clear S;by_cases V:i=A.length
 ·right
  simp[ah,aE,f129] at y;subst V;obtain⟨rfl,rfl⟩:=y;simp[h0,h5]
 ·left
  have R:i<A.length:=by omega
  obtain⟨F,N⟩:=yB (O:=O) (K:=K) A B hA hB hl hl2 hK y i R;have w4:IntKind.i64.wrap ((i:Int)+1)=((i+1:Nat):Int):=by rw[af];omega
  have U:(i:Int)<(A.length:Int):=by omega
  simp[ah,aE,f129] at y;obtain⟨rfl,rfl⟩:=y;refine⟨i+1,?_⟩;refine br (show i+1≤A.length∧_ from⟨R,by omega⟩) ?_;simp[h0,h1,h5,U,N,w4]
end
theorem Co(A B:List Nat)(W:A≠[]∨B≠[])(H:lok 10000 A=true)(I:lok 10000 B=true)(J:A.length≤5000)(y:B.length≤5000):
  aa (bh prog) ju (aS prog) cq (A.length+B.length+1) 129 [.slice 0 0 A.length none,.slice 1 0 B.length none] [.cells false 1 (iN .i64 A),.cells false 1 (iN .i64 B)]=
   some ⟨.slice 2 0 (dig 10000 (au 10000 A*au 10000 B)).length none,none,[.cells true 1 (iN .i64 (dig 10000 (au 10000 A*au 10000 B)))]⟩:=by
 have Y:aS prog 129=some f129:=by kernel_rfl
 obtain⟨b,b2,V⟩:∃b b2,ah f129=[b,b2]:=⟨_,_,rfl⟩
 obtain⟨F,Z⟩:=yC (O:=cq) (K:=A.length+B.length+1) A B H I J y (by omega) (by omega) V;obtain⟨t1,t2,t3⟩:=HU (c:=100000000) (by decide) H I A.length (Nat.le_refl _);rw[List.take_length,←Int.natCast_mul] at t2;obtain⟨n,U⟩:=xE (A.length+B.length);have X:zsm (tzR A B A.length)=true:=List.all_eq_true.2 fun d hd=>by have h1:=t3 d hd;have h2:A.length*100000000≤5000*100000000:=Nat.mul_le_mul_right _ J;simp;omega
 obtain⟨S,hS⟩:=xE (tzR A B A.length);rw[←hS,←U] at Z;rw[←hS] at t1 t2 X;rw[←U] at t1;have R:S.length≤10000000:=by omega
 have Q:S≠[]:=by
  intro e;rw[e] at t1;rcases W with h | h
  ·have:=List.length_pos_iff.2 h;simp at t1;omega
  ·have:=List.length_pos_iff.2 h;simp at t1;omega
 have N:0≤jT 10000 S:=by rw[t2];exact Int.natCast_nonneg _
 have M:(jT 10000 S).toNat=au 10000 A*au 10000 B:=by rw[t2,Int.toNat_natCast]
 have C:∀(u o:afU) l,zY (u::o::.cells true 1 (iZ S)::l) (.slice 2 0 n none)=some S:=fun u o l=>by rw[←t1];exact DP rfl (by simp) (List.take_of_length_le (by simp))
 obtain⟨c,m⟩:=xE (α:=Nat) n;have w1:IntKind.i64.wrap ((A.length:Int)+(B.length:Int))=(c:Int):=by rw[af];omega
 have h8:8*(c:Int)≤281474976710656:=by omega
 have h9:(c:Int)≤281474976710656:=by omega
 obtain⟨D,j⟩:=xE (dig 10000 (au 10000 A*au 10000 B));rw[←j] at⊢;rw[←m] at Z C;obtain⟨K,L⟩:=xE (n+1);rw[←U,←L];rw[←m] at L;rw[←L] at Z;have G :=Z;clear Z t2 t3;simp[ah,aE,f129] at V;obtain⟨rfl,rfl⟩:=V;simp[aa,Y,f129,w1,h8,h9,Uo,G,C,cq,Q,N,M,X,R,←j]
theorem Gl{M:Mem}{x y:AV}{A B:List Nat}(I:af0 .i64 M x A)(J:af0 .i64 M y B)(W:A≠[]∨B≠[])(Y:lok 10000 A=true)(hB:lok 10000 B=true)(hl:A.length≤5000)(H:B.length≤5000):
  kO prog 129 [x,y] M (.slice M.length 0 (dig 10000 (au 10000 A*au 10000 B)).length none) (M++[.cells true 1 (iN .i64 (dig 10000 (au 10000 A*au 10000 B)))]):=by
 have h:=(ar aj (aK _) mU (aR _) (Co A B W Y hB hl H)).1;simp only[y9.mem,Option.getD_none,List.cons_append,List.nil_append] at h;obtain⟨b,c,rfl,rfl,h3⟩:=kO.agM (new:=[.cells true 1 (iN .i64 (dig 10000 (au 10000 A*au 10000 B)))]) rfl h I J;simpa [AV.ren,AV.af9,fj] using h3
noncomputable def cw:afF:=fun c Z M=>match c,Z with
 |.fn 183,[.qF,y,.int .i64 k,.int .i64 0]=>match aZ .i64 M y with
  |some B=>if B≠[]∧lok 10000 B=true∧k.natAbs≤10000∧B.length≤1000000∧0≤k*(au 10000 B:Int) then some ⟨.slice M.length 0 (dig 10000 (k*(au 10000 B:Int)).toNat).length none,none,[.cells true 1 (iN .i64 (dig 10000 (k*(au 10000 B:Int)).toNat))]⟩ else none
  |none=>none
 |.fn 183,[x,y,.int .i64 k,.int .i64 0]=>match aZ .i64 M x,aZ .i64 M y with
  |some A,some B=>if (A≠[]∨B≠[])∧lok 10000 A=true∧lok 10000 B=true∧k.natAbs≤10000∧A.length≤1000000∧B.length≤1000000∧0≤(au 10000 A:Int)+k*(au 10000 B:Int) then some ⟨.slice M.length 0 (dig 10000 ((au 10000 A:Int)+k*(au 10000 B:Int)).toNat).length none,none,[.cells true 1 (iN .i64 (dig 10000 ((au 10000 A:Int)+k*(au 10000 B:Int)).toNat))]⟩ else none
  |_,_=>none
 |.fn 129,[x,y]=>match aZ .i64 M x,aZ .i64 M y with
  |some A,some B=>if (A≠[]∨B≠[])∧lok 10000 A=true∧lok 10000 B=true∧A.length≤5000∧B.length≤5000 then some ⟨.slice M.length 0 (dig 10000 (au 10000 A*au 10000 B)).length none,none,[.cells true 1 (iN .i64 (dig 10000 (au 10000 A*au 10000 B)))]⟩ else none
  |_,_=>none
 |c,Z=>cq c Z M
theorem zy:qS prog cw:=by
 refine cf fun c L M r h=>?_
 unfold cw at h;split at h
 ·split at h
  ·rename_i Z
   split at h
   ·rename_i X
    obtain⟨V,U,S,R,Q⟩:=X;cases h;have:=wL _ (A:=[]) (.inr ⟨rfl,rfl⟩) (ba Z) (.inr V) rfl U S (Nat.zero_le _) R (by simpa [au] using Q);simp only[au,Int.natCast_zero,Int.zero_add] at this;exact aC this
   ·cases h
  ·cases h
 ·split at h
  ·rename_i N Z
   split at h
   ·rename_i X
    obtain⟨V,U,S,R,Q,G,F⟩:=X;cases h;exact aC (wL _ (.inl (ba N)) (ba Z) V U S R Q G F)
   ·cases h
  ·cases h
 ·split at h
  ·rename_i N Z
   split at h
   ·rename_i X
    obtain⟨V,U,S,R,Q⟩:=X;cases h;exact aC (Gl (ba N) (ba Z) V U S R Q)
   ·cases h
  ·cases h
 ·exact dN mU h
end Go.Proofs
namespace Go.Eng
def nX:Nat→List UInt8→List Nat
 |0,_=>[]
 |f+1,s=>if s=[] then [] else eF (s.drop (s.length-4))::nX f (s.take (s.length-4))
def ft(s:List UInt8):List Nat:=nX s.length s
theorem Fm:∀(f g:Nat) (s:List UInt8),s.length≤f→s.length≤g→nX f s=nX g s
 |0,0,s,_,_=>rfl
 |0,g+1,s,h,_=>by have:s=[]:=List.eq_nil_of_length_eq_zero (by omega);subst this;simp[nX]
 |f+1,0,s,_,h=>by have:s=[]:=List.eq_nil_of_length_eq_zero (by omega);subst this;simp[nX]
 |f+1,g+1,s,h1,h2=>by
  unfold nX;by_cases Z:s=[]
  ·simp[Z]
  ·have:0<s.length:=List.length_pos_iff.2 Z
   rw[if_neg Z,if_neg Z,Fm f g (s.take (s.length-4)) (by simp;omega) (by simp;omega)]
theorem OX:ft []=[]:=rfl
variable{s:List UInt8}
theorem vP(h:s≠[]):ft s=eF (s.drop (s.length-4))::ft (s.take (s.length-4)):=by
 have X:0<s.length:=List.length_pos_iff.2 h;unfold ft;obtain⟨f,Z⟩:∃f,s.length=f+1:=⟨s.length-1,by omega⟩
 have e:nX s.length s=nX (f+1) s:=by rw[Z]
 rw[e,nX,if_neg h];congr 1;exact Fm _ _ _ (by simp;omega) (by simp)
theorem TY(h:s.all isD=true):eF (s.drop (s.length-4))<10000:=by
 have X:=DU (Bf h (s.length-4));have Z:(s.drop (s.length-4)).length≤4:=by simp;omega
 have h3:10 ^ (s.drop (s.length-4)).length≤10 ^ 4:=Nat.pow_le_pow_right (by omega) Z;omega
theorem kI:∀(n:Nat) (s:List UInt8),s.length≤n→s.all isD=true→lok 10000 (ft s)=true∧au 10000 (ft s)=eF s∧(ft s).length≤s.length
 |0,s,hn,_=>by have:s=[]:=List.eq_nil_of_length_eq_zero (by omega);subst this;exact⟨rfl,by unfold eF;rw[dD];rfl,Nat.le_refl _⟩
 |n+1,s,hn,h=>by
  by_cases Z:s=[]
  ·subst Z;exact⟨rfl,by unfold eF;rw[dD];rfl,Nat.le_refl _⟩
  ·have S:0<s.length:=List.length_pos_iff.2 Z
   rw[vP Z];obtain⟨X,V,R⟩:=kI n (s.take (s.length-4)) (by simp;omega) (qi h _);have U:eF s=eF (s.take (s.length-4))*10 ^ (s.drop (s.length-4)).length+eF (s.drop (s.length-4)):=by
    conv=>lhs;rw[←List.take_append_drop (s.length-4) s]
    exact wE _ _
   refine⟨?_,?_,?_⟩
   ·rw[cL,X];simp[TY h]
   ·rw[au,V,U]
    by_cases Q:s.length≤4
    ·have e:s.length-4=0:=by omega
     rw[e,List.take_zero];have:eF []=0:=by unfold eF;rw[dD]
     rw[this];omega
    ·have e:(s.drop (s.length-4)).length=4:=by simp;omega
     rw[e];omega
   ·rw[List.length_cons]
    have:(s.take (s.length-4)).length=s.length-4:=by simp
    omega
end Go.Eng
namespace Go.Proofs
open Go.Eng
open Tryz
def lO(c:Code):List Nat:=if (ae c).contains 3 then [3,4] else [5,6]
theorem Cq{O:afF}{K m0:Nat}(mem:Mem)(s:List UInt8)(e y:Nat)(hd:s.all isD=true)(he:e≤s.length)(Z6:y≤e)(h4:e≤y+4)(hl:s.length≤1000000)(hK:5<K){b H:Code}(I:ah f130=[b,H]):
  ∃F:Env→Bool→Env,∀Z d,(ad Z 0=.str s∧ad Z 4=.int .i64 (e:Int)∧ad Z 5=.int .i64 0∧ad Z 6=.int .i64 (y:Int))→
   aW (bh prog) lO O K 35 m0 true (.loop H) ⟨Z,mem,d⟩=some (.exit 2,⟨F Z d,mem,d⟩)∧
   (ad (F Z d) 5=.int .i64 ((eF ((s.take e).drop y):Nat):Int)∧ad (F Z d) 0=ad Z 0∧ad (F Z d) 3=ad Z 3∧ad (F Z d) 4=ad Z 4):=by
 have G:lO H=[5,6]:=by simp[ah,aE,f130] at I;obtain⟨rfl,rfl⟩:=I;decide
 refine bj G (fun Z=>ad Z 0=.str s∧ad Z 4=.int .i64 (e:Int)∧ad Z 5=.int .i64 0∧ad Z 6=.int .i64 (y:Int))
  (fun Z M =>ad M 5=.int .i64 ((eF ((s.take e).drop y):Nat):Int)∧ad M 0=ad Z 0∧ad M 3=ad Z 3∧ad M 4=ad Z 4) ?_
 rintro Z d ⟨h0,h4',h5,h6⟩;obtain⟨u,L⟩:=xE ((s.take e).drop y);have hul:u.length=e-y:=by rw[L,List.length_drop,List.length_take];omega
 have X:u.all isD=true:=by rw[L];exact Bf (qi hd _) _
 have U:eF (u.take 0)=0:=by rw[List.take_zero];unfold eF;rw[dD]
 have m:aA [5,6] (ae H) Z ((5,.int .i64 ((eF (u.take 0):Nat):Int))::(6,.int .i64 ((y+0:Nat):Int))::Z)=aA [5,6] (ae H) Z Z:=by rw[U];simp[aA,h5,h6]
 rw[←m,←L];refine bz (α:=Nat) (fun j=>⟨aA [5,6] (ae H) Z ((5,.int .i64 ((eF (u.take j):Nat):Int))::(6,.int .i64 ((y+j:Nat):Int))::Z),mem,d⟩)
  (fun j=>u.length-j) (fun j=>j≤u.length) (.exit 2) _ d _ (by simp) ?_ K 0 (Nat.zero_le _) (by simp only[Nat.sub_zero];omega)
 intro j hj;clear m U;simp[ah,aE,f130] at I;by_cases D:j=u.length
 ·right
  subst D;have e1:((y+u.length:Nat):Int)=(e:Int):=by omega
  rw[List.take_length,e1];obtain⟨rfl,rfl⟩:=I;simp[h0,h4']
 ·left
  have Y:j<u.length:=by omega
  obtain⟨c,S⟩:∃c,u[j]? =some c:=⟨u[j],by simp[Y]⟩
  have hcd:=uC (List.all_eq_true.1 X c (List.mem_of_getElem? S));have V:=List.all_eq_true.1 X c (List.mem_of_getElem? S);have ac5:48≤c.toNat:=by unfold isD at V;simp only[Bool.and_eq_true,decide_eq_true_eq] at V;exact V.1
  have C:u.take (j+1)=u.take j++[c]:=by rw[List.take_add_one,S];rfl
  have W:eF (u.take (j+1))=10*eF (u.take j)+(c.toNat-48):=by rw[C,pd]
  have B:eF (u.take j)<10000:=by
   have h1:=DU (qi X j);have h2:(u.take j).length≤4:=by rw[List.length_take];omega
   have h3:10 ^ (u.take j).length≤10 ^ 4:=Nat.pow_le_pow_right (by omega) h2;omega
  have R:s[y+j]? =some c:=by rw[L,List.getElem?_drop,List.getElem?_take_of_lt (by omega)] at S;exact S
  obtain⟨v,Q⟩:=xE (eF (u.take j));obtain⟨v2,N⟩:=xE (eF (u.take (j+1)));rw[←Q] at B W;rw[←N] at W;obtain⟨i,J⟩:=xE (y+j);rw[←J] at R;have hie:i<e:=by omega
  have o:(i:Int)<(e:Int):=by omega
  have w1:IntKind.i64.wrap (10*(v:Int))=10*(v:Int):=af;have w2:IntKind.i64.wrap (10*(v:Int)+(c.toNat:Int))=10*(v:Int)+(c.toNat:Int):=af;have w3:IntKind.i64.wrap (10*(v:Int)+(c.toNat:Int)-48)=(v2:Int):=by rw[af];omega
  have w4:IntKind.i64.wrap ((i:Int)+1)=((y+(j+1):Nat):Int):=by rw[af];omega
  have w5:IntKind.i64.wrap (c.toNat:Int)=(c.toNat:Int):=af (by omega) (by have:=c.toNat_lt;omega);rw[←J];refine⟨j+1,?_⟩;refine br (show j+1≤u.length∧_ from⟨Y,by omega⟩) ?_;obtain⟨rfl,rfl⟩:=I;simp[h0,h4',o,R,←Q,←N,w1,w2,w3,w4,w5];try omega
def taM:List Nat→Mem
 | []=>[]
 |x::l=>[.cells true 1 (iN .i64 (x::l))]
def taO:List Nat→AV
 | []=>.qF
 |_::l=>.slice 0 0 (l.length+1) none
theorem EG{O:afF}{K:Nat}(s:List UInt8)(hd:s.all isD=true)(I:s.length≤1000000)(hK:s.length+5<K){b J:Code}(H:ah f130=[b,J]):
  ∃F:Env→Bool→Env,∀Z d,(ad Z 0=.str s∧ad Z 3=.qF∧ad Z 4=.int .i64 (s.length:Int))→
   aW (bh prog) lO O K 35 0 true (.loop b) ⟨Z,[],d⟩=some (.exit 0,⟨F Z d,taM (ft s),d⟩)∧ad (F Z d) 3=taO (ft s):=by
 have N:lO b=[3,4]:=by simp[ah,aE,f130] at H;obtain⟨rfl,rfl⟩:=H;decide
 refine bj N (fun Z=>ad Z 0=.str s∧ad Z 3=.qF∧ad Z 4=.int .i64 (s.length:Int)) (fun _ m =>ad m 3=taO (ft s)) ?_;rintro Z d ⟨h0,h3,h4⟩;have B:aA [3,4] (ae b) Z ((3,taO [])::(4,.int .i64 (s.length:Int))::Z)=aA [3,4] (ae b) Z Z:=by simp[aA,h3,h4,taO]
 rw[←B];refine bz (α:=Int×List Nat) (fun a=>⟨aA [3,4] (ae b) Z ((3,taO a.2)::(4,.int .i64 a.1)::Z),taM a.2,d⟩)
  (fun a=>a.1.toNat) (fun a=> -4≤a.1∧a.1≤s.length∧a.2++ft (s.take a.1.toNat)=ft s) (.exit 0) _ d _ (by simp) ?_ K ((s.length:Int),[]) ⟨by simp only;omega,Int.le_refl _,by simp only[Int.toNat_natCast];rw[List.take_length];rfl⟩ (by show(s.length:Int).toNat<K;omega)
 rintro ⟨z,X⟩ ⟨hz4,he,J'⟩;simp only at hz4 he J' ⊢;clear B;by_cases j:z≤0
 ·right
  rw[show z.toNat=0 by omega,List.take_zero,OX,List.append_nil] at J';rw[J'];have Y:¬0<z:=by omega
  simp[ah,aE,f130] at H;obtain⟨rfl,rfl⟩:=H;simp[Y]
 ·left
  obtain⟨e,rfl⟩:∃e:Nat,z=e:=⟨z.toNat,by omega⟩
  rw[Int.toNat_natCast] at J';have U:(s.take e).length=e:=by rw[List.length_take];omega
  have W:s.take e≠[]:=by intro h;rw[h] at U;simp at U;omega
  rw[vP W,U,List.take_take,Nat.min_eq_left (by omega)] at J';obtain⟨Q,Z6⟩:=xE (e-4);rw[←Z6] at J';obtain⟨F,S⟩:=Cq (O:=O) (K:=K) (m0:=0) (taM X) s e Q hd (by omega) (by omega) (by omega) I (by omega) H;obtain⟨v,hv⟩:=xE (eF ((s.take e).drop Q));rw[←hv] at S J';have M:X.length≤1000000:=by have u:=(kI _ s (Nat.le_refl _) hd).2.2;rw[←J'] at u;simp at u;omega
  obtain⟨V,L⟩:=xE ((e:Int)-4);have w1:IntKind.i64.wrap ((e:Int)-4)=V:=by rw[←L];exact af
  have o:0<e:=by omega
  have R:(if 0<V then V else 0)=(Q:Int):=by split<;>omega
  have G:V.toNat=Q:=by omega
  simp[ah,aE,f130] at H;obtain⟨rfl,rfl⟩:=H;refine⟨(V,X++[v]),?_⟩;refine bP (show(-4≤V∧V≤(s.length:Int)∧(X++[v])++ft (s.take V.toNat)=ft s)∧V.toNat<(e:Int).toNat from⟨⟨by omega,by omega,by rw[List.append_assoc,G];exact J'⟩,by omega⟩) ?_;cases X with
  |nil=>
   simp only[taM] at S;simp[taM,taO,o,w1,R,h0,S,ca]
  |cons y l=>
   simp only[List.length_cons] at M;have ht:(iN .i64 l).take l.length=iN .i64 l:=List.take_of_length_le (by simp);have D:(l.length+1+1)*8≤140737488355328:=by omega
   have C:l.length+1+1≤140737488355328:=by omega
   simp only[taM,ca] at S;simp[taM,taO,o,w1,R,h0,S,ht,D,C,ca,dn]
section
variable (v:Nat)(hl:(ai v).length≤1000000)
include v hl
theorem G5:aa (bh prog) lO (aS prog) cw ((ai v).length+6) 130 [.str (ai v)] []=
  some ⟨.slice 0 0 (dig 10000 v).length none,none,[.cells true 1 (iN .i64 (ft (ai v)))]⟩:=by
 have G:aS prog 130=some f130:=by kernel_rfl
 obtain⟨b,M,S⟩:∃b M,ah f130=[b,M]:=⟨_,_,rfl⟩
 obtain⟨F,X⟩:=EG (O:=cw) (K:=(ai v).length+6) (ai v) (du v) hl (by omega) S;obtain⟨D,L,C⟩:=kI _ (ai v) (Nat.le_refl _) (du _);rw[dz] at L;have R:aU (ft (ai v))=dig 10000 v:=by rw[←dJ (by omega) D,L]
 have U:ft (ai v)≠[]:=by rw[vP (jG _)];simp
 obtain⟨s,B⟩:=xE (ai v);rw[←B] at X R U C hl ⊢;obtain⟨K,u⟩:=xE (s.length+6);rw[←u] at X ⊢;have V:(ft s).length≤4000000000000:=by omega
 obtain⟨Z,Q⟩:=xE (ft s);rw[←Q] at X R U V ⊢;have o:taM Z=[.cells true 1 (iN .i64 Z)]:=by cases Z<;>first | exact absurd rfl U | rfl
 have m:taO Z=.slice 0 0 Z.length none:=by cases Z<;>first | exact absurd rfl U | rfl
 rw[o,m] at X;have N:∀l,aZ .i64 (.cells true 1 (iN .i64 Z)::l) (.slice 0 0 Z.length none)=some Z:=fun l=>aP rfl (by simp) (List.take_of_length_le (by simp))
 simp[ah,aE,f130] at S;obtain⟨rfl,rfl⟩:=S;simp[aa,G,f130,X,cw,cq,cI,N,V,R]
theorem NN(M:Mem):kO prog 130 [.str (ai v)] M (.slice M.length 0 (dig 10000 v).length none) (M++[.cells true 1 (iN .i64 (dig 10000 v))]):=by
 obtain⟨V,X,R⟩:=kI _ (ai v) (Nat.le_refl _) (du _);rw[dz] at X;have U:aU (ft (ai v))=dig 10000 v:=by rw[←dJ (by omega) V,X]
 have h:=(ar aj (aK _) zy (aR _) (G5 v hl)).1;simp only[y9.mem,Option.getD_none,List.nil_append] at h;have S:=kO.agQ (m2:=[.cells true 1 (iN .i64 (dig 10000 v))]) h rfl (fun b s Z=>by
  match b with
  |0=>simp at Z;subst Z;exact⟨_,rfl,.row (by rw[←U];exact dp _)⟩
  |b+1=>simp at Z)
 have h3:=kO.frame (M:=M) [] (m:=[]) (new:=[.cells true 1 (iN .i64 (dig 10000 v))]) rfl (by simp) rfl (by simp) rfl S;simpa [AV.ren,AV.af9,fj] using h3
end
theorem Ev{K:Nat}(v:Nat)(hv:0<v)(hl:(dig 10000 v).length≤100000)(hK:(dig 10000 v).length<K){b:Code}(H:ah f191=[b]):
  ∃F:Env→Bool→Env,∀Z d,(ad Z 0=.slice 0 0 (dig 10000 v).length none∧ad Z 3=.str (ai (au 10000 ((dig 10000 v).drop ((dig 10000 v).length-1))))∧ad Z 4=.int .i64 ((((dig 10000 v).length-1:Nat):Int)-1))→
   aW (bh prog) (fun _=>[3,4]) (ag aq) K 34 1 true (.loop b) ⟨Z,[.cells false 1 (iN .i64 (dig 10000 v))],d⟩=some (.exit 0,⟨F Z d,[.cells false 1 (iN .i64 (dig 10000 v))],d⟩)∧ad (F Z d) 3=.str (ai v):=by
 have D:lok 10000 (dig 10000 v)=true:=bT (by omega) _;have S:au 10000 (dig 10000 v)=v:=bC (by omega) _;have V:∀j,j<(dig 10000 v).length→0<au 10000 ((dig 10000 v).drop j):=fun j C=>qv (by omega) C
 have G':0<(dig 10000 v).length:=by
  rcases Nat.eq_zero_or_pos (dig 10000 v).length with h | h
  ·have:=(eU (B:=10000) (n:=v) (by omega)).1 (List.eq_nil_of_length_eq_zero h)
   omega
  ·exact h
 obtain⟨A,o⟩:=xE (dig 10000 v);rw[←o] at hl hK D S V G' ⊢;refine bj rfl (fun Z=>ad Z 0=.slice 0 0 A.length none∧ad Z 3=.str (ai (au 10000 (A.drop (A.length-1))))∧ad Z 4=.int .i64 (((A.length-1:Nat):Int)-1)) (fun _ AC =>ad AC 3=.str (ai v)) ?_;rintro Z d ⟨h0,h3,m⟩;have hn:aA [3,4] (ae b) Z ((3,.str (ai (au 10000 (A.drop (A.length-1)))))::(4,.int .i64 (((A.length-1:Nat):Int)-1))::Z)=aA [3,4] (ae b) Z Z:=by simp only[aA,List.map_cons,List.map_nil,h3,m];simp
 rw[←hn];refine bz (α:=Nat) (fun j=>⟨aA [3,4] (ae b) Z ((3,.str (ai (au 10000 (A.drop j))))::(4,.int .i64 ((j:Int)-1))::Z),[.cells false 1 (iN .i64 A)],d⟩)
  (fun j=>j) (fun j=>j<A.length) (.exit 0) _ d _ (by simp) ?_ K (A.length-1) (by omega) (by omega)
 intro j C;clear hn;simp[ah,aE,f191] at H;cases j with
 |zero=>
  right;subst H;simp[S]
 |succ j=>
  left;obtain⟨x,hx,Z7⟩:=cO (l:=A) (i:=j) (by omega);have R:=eh D hx;have e1:(((j+1:Nat):Int)-1)=(j:Int):=by omega
  have X:ai (au 10000 (A.drop j))=ai (au 10000 (A.drop (j+1)))++(ai (10000+x)).drop 1:=by rw[oV hx];have Q:=Bt (w:=4) (by omega) R (V (j+1) C);have G:=UF (w:=4) (x:=x) (by omega) R;rw[show 10 ^ 4=10000 from rfl] at Q G;rw[G,Q]
  have Y:(ai (au 10000 (A.drop (j+1)))).length≤400000:=by
   have Q:=gK (jB D (j+1));have G:(10000:Nat) ^ (A.drop (j+1)).length=10 ^ (4*(A.drop (j+1)).length):=by rw[Nat.pow_mul]
   rw[G] at Q;have h3:0<4*(A.drop (j+1)).length:=by simp;omega
   have m:=aI h3 Q;simp at m;omega
  obtain⟨t,ht⟩:=xE (ai (au 10000 (A.drop (j+1))));obtain⟨t2,O⟩:=xE (ai (au 10000 (A.drop j)));rw[←ht] at X Y;rw[←O] at X;obtain⟨y,hy⟩:=xE (α:=Nat) (10000+x);rw[←hy] at X;have w1:IntKind.i64.wrap (10000+(x:Int))=(y:Int):=by rw[af];omega
  have w2:IntKind.i64.wrap ((j:Int)-1)=(j:Int)-1:=af;have hf:dL (y:Int)=true:=by unfold dL;simp;omega
  have N:bB (y:Int)=ai y:=rfl;have W:=aI (u:=y) (k:=5) (by omega) (by omega);have J:1≤(ai y).length:=qz y;obtain⟨u,hu⟩:=xE (ai y);rw[←hu] at X N W J;have I:(1:Int)≤(u.length:Int):=by omega
  have M:(u.drop 1).take (u.length-1)=u.drop 1:=List.take_of_length_le (by simp);have hmx:t.length+(u.length-1)≤fm:=by unfold fm;omega
  have L:j<A.length:=by omega
  have hjI:(j:Int)<(A.length:Int):=by omega
  obtain⟨u1,U⟩:=xE (u.drop 1);rw[←U] at X M;have aeO:u1.length=u.length-1:=by rw[U];simp
  have aeP:t.length+u1.length≤fm:=by rw[aeO];exact hmx
  rw[e1];refine⟨j,?_⟩;refine br (show j<A.length∧_ from⟨L,Nat.lt_succ_self j⟩) ?_;subst H;simp[h0,hjI,L,Z7,w1,ag,aq,hf,N,I,←U,M,←ht,←O,aeP,←X,w2]
end Go.Proofs
