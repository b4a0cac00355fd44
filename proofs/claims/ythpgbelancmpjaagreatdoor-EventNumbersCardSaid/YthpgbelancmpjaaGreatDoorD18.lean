/- See D38. -/
import Derived.Test.YthpgbelancmpjaaGreatDoorD17
set_option linter.all false
set_option maxRecDepth 100000
set_option maxHeartbeats 40000000
namespace Go.Proofs
open Go.Eng
open Tryz
def jD(c:Code):List Nat:=if (ad c).contains 6 then [6] else [7]
def tzS(A B:List Nat)(i k:Nat):List Int:=(tzR A B i).take i++jv ((A.getD i 0:Nat):Int) (B.take k) ((tzR A B i).drop i)
variable{K:Nat}{O:y9}{b b2:Code}
section
variable (A B:List Nat)(hA:lok 10000 A=true)(hB:lok 10000 B=true)(hl:A.length<=5000)(Zc:B.length<=5000)(hK:B.length<K)
include A B hA hB hl Zc hK
theorem xD(H:ah f230=[b,b2])(i:Nat)(hi:i<A.length):
  ∃F:Env->Bool->Env,∀Z d,(ae Z 0=.slice 0 0 A.length none/\ae Z 1=.slice 1 0 B.length none/\ae Z 5=.slice 2 0 (A.length+B.length) none/\ae Z 6=.int .i64 (i:Int)/\ae Z 7=.int .i64 0)->
   aU (bd prog) jD O K 45 2 true (.loop b2) ⟨Z,[.cells false 1 (iN .i64 A),.cells false 1 (iN .i64 B),.cells true 1 (iZ (tzR A B i))],d⟩=some (.exit 2,⟨F Z d,[.cells false 1 (iN .i64 A),.cells false 1 (iN .i64 B),.cells true 1 (iZ (tzR A B (i+1)))],d⟩)/\
   (∀t,t∈[0,1,5,6]->ae (F Z d) t=ae Z t):=by
 have Zi:jD b2=[7]:=by simp[ah,aE,f230] at H;obtain⟨rfl,rfl⟩:=H;decide
 refine bl Zi (fun Z=>ae Z 0=.slice 0 0 A.length none/\ae Z 1=.slice 1 0 B.length none/\ae Z 5=.slice 2 0 (A.length+B.length) none/\ae Z 6=.int .i64 (i:Int)/\ae Z 7=.int .i64 0)
  (fun Z AC =>∀t,t∈[0,1,5,6]->ae AC t=ae Z t) ?_
 rintro Z d ⟨h0,h1,h5,h6,h7⟩;have hn:aw [7] (ad b2) Z ((7,.int .i64 ((0:Nat):Int))::Z)=aw [7] (ad b2) Z Z:=by simp[aw,h7]
 have U:tzS A B i 0=tzR A B i:=by unfold tzS;rw[List.take_zero,nM,List.take_append_drop]
 have R:tzS A B i B.length=tzR A B (i+1):=by unfold tzS;rw[P1];rfl
 rw[<-hn,<-U,<-R];refine bG (α:=Nat) (fun k=>⟨aw [7] (ad b2) Z ((7,.int .i64 (k:Int))::Z),[.cells false 1 (iN .i64 A),.cells false 1 (iN .i64 B),.cells true 1 (iZ (tzS A B i k))],d⟩)
  (fun k=>B.length-k) (fun k=>k<=B.length) (.exit 2) _ d _ (by simp) ?_ K 0 (Nat.zero_le _) (by simp only[QQi];omega)
 intro k hk;clear hn U R;simp[ah,aE,f230] at H;by_cases D:k=B.length
 .right
  subst D;obtain⟨rfl,rfl⟩:=H;simp[h1]
 .left
  have C:k<B.length:=by omega
  obtain⟨x,hx,Y9⟩:=dh hi;obtain⟨z,hz,u⟩:=dh C;have Zp:=ff hA hx;have hzb:=ff hB hz;obtain⟨t1,t2,t3⟩:=Hd (c:=100000000) (by decide) hA hB i (by omega);have hg:A.getD i 0=x:=by simp[List.getD,hx]
  have o:((tzR A B i).drop i).length=A.length+B.length-i:=by rw[QQj,t1]
  obtain⟨y,hy⟩:∃y,((tzR A B i).drop i)[k]? =some y:=⟨((tzR A B i).drop i)[k]'(by omega),by simp⟩
  obtain⟨s1,s2⟩:=BR (x:Int) B _ k z y hz hy;have m:y.natAbs<=i*100000000:=t3 y (List.mem_of_mem_drop (J1 hy));have V:((tzR A B i).take i).length=i:=by rw[S2];omega
  have Y:(jv (x:Int) (B.take k) ((tzR A B i).drop i)).length=A.length+B.length-i:=by rw[pz _ _ _ (by rw[S2];omega),o]
  obtain⟨S,hS⟩:=xE (tzS A B i k);obtain⟨W,N⟩:=xE (tzS A B i (k+1));have G:S=(tzR A B i).take i++jv (x:Int) (B.take k) ((tzR A B i).drop i):=by rw[hS];unfold tzS;rw[hg]
  have e2:W=(tzR A B i).take i++jv (x:Int) (B.take (k+1)) ((tzR A B i).drop i):=by rw[N];unfold tzS;rw[hg]
  have J:S.length=A.length+B.length:=by rw[G,SP,V,Y];omega
  have g1:S[i+k]? =some y:=by rw[G,V1 (by omega),V,show i+k-i=k by omega];exact s1
  have g1' :S[i+k]'(by omega)=y:=(Ns.1 g1).2;obtain⟨p,I⟩:=xE ((x:Int)*(z:Int));have hpb:p.natAbs<=10000*10000:=by rw[I,QQg,Int.natAbs_natCast,Int.natAbs_natCast];exact Nat.mul_le_mul (by omega) (by omega)
  have g2:S.set (i+k) (y+p)=W:=by rw[G,e2,List.set_append_right _ _ (by omega),V,show i+k-i=k by omega,I,s2]
  have afe:y.natAbs<=5000*100000000:=QQJ m (QQf _ (by omega));have w1:IntKind.i64.wrap ((x:Int)*(z:Int))=p:=by rw[<-I];exact af
  have w2:IntKind.i64.wrap (y+p)=y+p:=af;obtain⟨X,M⟩:=xE (i+k);have w3:IntKind.i64.wrap ((i:Int)+(k:Int))=(X:Int):=by rw[af];omega
  have w4:IntKind.i64.wrap ((k:Int)+1)=((k+1:Nat):Int):=by rw[af];omega
  have Za:(iZ S).take X++.int .i64 (y+p)::(iZ S).drop (X+1)=iZ W:=by rw[O8 _ _ _ (by omega),M,g2]
  have aej:X<S.length:=by omega
  have ae3:X+1<=S.length:=by omega
  have g3:S[X]? =some y:=by rw[M];exact g1
  have g3' :S[X]=y:=(Ns.1 g3).2;rw[<-J] at h5;have aek:(X:Int)<(S.length:Int):=by omega
  have ac3:X+1<=S.length:=by omega
  have hiA:(i:Int)<(A.length:Int):=by omega
  have hkB:(k:Int)<(B.length:Int):=by omega
  refine⟨k+1,?_⟩;refine bC (show k+1<=B.length/\_ from⟨C,by omega⟩) ?_;clear G e2 s1 s2 t3;obtain⟨L,D'⟩:∃L,aI f230=[L]:=⟨_,rfl⟩
  obtain⟨UV,ZD⟩:=dx D' (l:=[0,0,0,6,15,31,0,0,192,448,0,0,3072,7168,16320,32767,65535,131071]) (j:=17) (by kernel_rfl) (by decide);simp[aI,ca,f230] at D';subst D';obtain⟨rfl,rfl⟩:=H;simp[-aG,an UV,bD,bt,bB,ZD,<-hS,<-N,h0,h1,h5,h6,hi,hiA,hkB,C,w3,aek,aej,g3',Y9,u,w1,w2,Za,w4,ac3]
theorem xF(I:A.length<K)(H:ah f230=[b,b2]):
  ∃F:Env->Bool->Env,∀Z d,(ae Z 0=.slice 0 0 A.length none/\ae Z 1=.slice 1 0 B.length none/\ae Z 5=.slice 2 0 (A.length+B.length) none/\ae Z 6=.int .i64 0)->
   aU (bd prog) jD O K 45 2 true (.loop b) ⟨Z,[.cells false 1 (iN .i64 A),.cells false 1 (iN .i64 B),.cells true 1 (iZ (List.replicate (A.length+B.length) 0))],d⟩=some (.exit 0,⟨F Z d,[.cells false 1 (iN .i64 A),.cells false 1 (iN .i64 B),.cells true 1 (iZ (tzR A B A.length))],d⟩)/\
   ae (F Z d) 5=.slice 2 0 (A.length+B.length) none:=by
 have R:jD b=[6]:=by simp[ah,aE,f230] at H;obtain⟨rfl,rfl⟩:=H;decide
 refine bl R (fun Z=>ae Z 0=.slice 0 0 A.length none/\ae Z 1=.slice 1 0 B.length none/\ae Z 5=.slice 2 0 (A.length+B.length) none/\ae Z 6=.int .i64 0)
  (fun _ N =>ae N 5=.slice 2 0 (A.length+B.length) none) ?_
 rintro Z d ⟨h0,h1,h5,h6⟩;have U:aw [6] (ad b) Z ((6,.int .i64 ((0:Nat):Int))::Z)=aw [6] (ad b) Z Z:=by simp[aw,h6]
 rw[<-U];refine bG (α:=Nat) (fun i=>⟨aw [6] (ad b) Z ((6,.int .i64 (i:Int))::Z),[.cells false 1 (iN .i64 A),.cells false 1 (iN .i64 B),.cells true 1 (iZ (tzR A B i))],d⟩)
  (fun i=>A.length-i) (fun i=>i<=A.length) (.exit 0) _ d _ (by simp) ?_ K 0 (Nat.zero_le _) (by simp only[QQi];omega)
 intro i L;clear U;by_cases X:i=A.length
 .right
  simp[ah,aE,f230] at H;subst X;obtain⟨rfl,rfl⟩:=H;simp[h0,h5]
 .left
  have S:i<A.length:=by omega
  obtain⟨F,M⟩:=xD (O:=O) (K:=K) A B hA hB hl Zc hK H i S;have w4:IntKind.i64.wrap ((i:Int)+1)=((i+1:Nat):Int):=by rw[af];omega
  have V:(i:Int)<(A.length:Int):=by omega
  simp[ah,aE,f230] at H;obtain⟨rfl,rfl⟩:=H;refine⟨i+1,?_⟩;refine bC (show i+1<=A.length/\_ from⟨S,by omega⟩) ?_;simp[h0,h1,h5,V,M,w4]
end
theorem BE(A B:List Nat)(W:A≠[]\/B≠[])(H:lok 10000 A=true)(I:lok 10000 B=true)(J:A.length<=5000)(Zc:B.length<=5000):
  aa (bd prog) jD (aX prog) cJ (A.length+B.length+1) 230 [.slice 0 0 A.length none,.slice 1 0 B.length none] [.cells false 1 (iN .i64 A),.cells false 1 (iN .i64 B)]=
   some ⟨.slice 2 0 (dig 10000 (aq 10000 A*aq 10000 B)).length none,none,[.cells true 1 (iN .i64 (dig 10000 (aq 10000 A*aq 10000 B)))]⟩:=by
 have hG:aX prog 230=some f230:=by kernel_rfl
 obtain⟨b,b2,V⟩:∃b b2,ah f230=[b,b2]:=⟨_,_,rfl⟩
 obtain⟨F,Z⟩:=xF (O:=cJ) (K:=A.length+B.length+1) A B H I J Zc (by omega) (by omega) V;obtain⟨t1,t2,t3⟩:=Hd (c:=100000000) (by decide) H I A.length (L9 _);rw[P1,<-Int.natCast_mul] at t2;obtain⟨n,U⟩:=xE (A.length+B.length);have X:zsm (tzR A B A.length)=true:=List.all_eq_true.2 fun d hd=>by have h1:=t3 d hd;have h2:A.length*100000000<=5000*100000000:=QQf _ J;simp;omega
 obtain⟨S,hS⟩:=xE (tzR A B A.length);rw[<-hS,<-U] at Z;rw[<-hS] at t1 t2 X;rw[<-U] at t1;have R:S.length<=10000000:=by omega
 have N:S≠[]:=by
  intro e;rw[e] at t1;rcases W with h | h
  .have:=List.length_pos_iff.2 h;simp at t1;omega
  .have:=List.length_pos_iff.2 h;simp at t1;omega
 have M:0<=jX 10000 S:=by rw[t2];exact Int.natCast_nonneg _
 have L:(jX 10000 S).toNat=aq 10000 A*aq 10000 B:=by rw[t2,Int.toNat_natCast]
 have u:∀(o m:afl) l,zi (o::m::.cells true 1 (iZ S)::l) (.slice 2 0 n none)=some S:=fun o m l=>by rw[<-t1];exact CY rfl (by simp) (B5 (by simp))
 obtain⟨c,j⟩:=xE (α:=Nat) n;have w1:IntKind.i64.wrap ((A.length:Int)+(B.length:Int))=(c:Int):=by rw[af];omega
 have h8:8*(c:Int)<=281474976710656:=by omega
 have h9:(c:Int)<=281474976710656:=by omega
 obtain⟨D,Y⟩:=xE (dig 10000 (aq 10000 A*aq 10000 B));rw[<-Y] at|-;rw[<-j] at Z u;obtain⟨K,G⟩:=xE (n+1);rw[<-U,<-G];rw[<-j] at G;rw[<-G] at Z;have C :=Z;clear Z t2 t3;simp[ah,aE,f230] at V;obtain⟨rfl,rfl⟩:=V;simp[aa,hG,f230,w1,h8,h9,Tk,C,u,cJ,N,M,L,X,R,<-Y]
theorem Fx{M:Mem}{x y:AV}{A B:List Nat}(H:aft .i64 M x A)(I:aft .i64 M y B)(J:A≠[]\/B≠[])(W:lok 10000 A=true)(Y:lok 10000 B=true)(hl:A.length<=5000)(Zc:B.length<=5000):
  kO prog 230 [x,y] M (.slice M.length 0 (dig 10000 (aq 10000 A*aq 10000 B)).length none) (M++[.cells true 1 (iN .i64 (dig 10000 (aq 10000 A*aq 10000 B)))]):=by
 have h:=(ar aj (aJ _) mI (aM _) (BE A B J W Y hl Zc)).1;simp only[afh.mem,Option.getD_none,List.cons_append,List.nil_append] at h;obtain⟨b,c,rfl,rfl,h3⟩:=kO.agc (new:=[.cells true 1 (iN .i64 (dig 10000 (aq 10000 A*aq 10000 B)))]) rfl h H I;simpa [AV.ren,AV.afz,fa] using h3
noncomputable def cR:y9:=fun c Z M=>match c,Z with
 |.fn 227,[.qF,y,.int .i64 k,.int .i64 0]=>match bh .i64 M y with
  |some B=>if B≠[]/\lok 10000 B=true/\k.natAbs<=10000/\B.length<=1000000/\0<=k*(aq 10000 B:Int) then some ⟨.slice M.length 0 (dig 10000 (k*(aq 10000 B:Int)).toNat).length none,none,[.cells true 1 (iN .i64 (dig 10000 (k*(aq 10000 B:Int)).toNat))]⟩ else none
  |none=>none
 |.fn 227,[x,y,.int .i64 k,.int .i64 0]=>match bh .i64 M x,bh .i64 M y with
  |some A,some B=>if (A≠[]\/B≠[])/\lok 10000 A=true/\lok 10000 B=true/\k.natAbs<=10000/\A.length<=1000000/\B.length<=1000000/\0<=(aq 10000 A:Int)+k*(aq 10000 B:Int) then some ⟨.slice M.length 0 (dig 10000 ((aq 10000 A:Int)+k*(aq 10000 B:Int)).toNat).length none,none,[.cells true 1 (iN .i64 (dig 10000 ((aq 10000 A:Int)+k*(aq 10000 B:Int)).toNat))]⟩ else none
  |_,_=>none
 |.fn 230,[x,y]=>match bh .i64 M x,bh .i64 M y with
  |some A,some B=>if (A≠[]\/B≠[])/\lok 10000 A=true/\lok 10000 B=true/\A.length<=5000/\B.length<=5000 then some ⟨.slice M.length 0 (dig 10000 (aq 10000 A*aq 10000 B)).length none,none,[.cells true 1 (iN .i64 (dig 10000 (aq 10000 A*aq 10000 B)))]⟩ else none
  |_,_=>none
 |c,Z=>cJ c Z M
theorem yN:qS prog cR:=by
 refine cB fun c G M r h=>?_
 unfold cR at h;split at h
 .split at h
  .rename_i Z
   split at h
   .rename_i X
    obtain⟨V,U,S,R,N⟩:=X;cases h;have:=vE _ (A:=[]) (.inr ⟨rfl,rfl⟩) (bk Z) (.inr V) rfl U S (Nat.zero_le _) R (by simpa [aq] using N);simp only[aq,Int.natCast_zero,Int.zero_add] at this;exact aC this
   .cases h
  .cases h
 .split at h
  .rename_i L Z
   split at h
   .rename_i X
    obtain⟨V,U,S,R,N,F,D⟩:=X;cases h;exact aC (vE _ (.inl (bk L)) (bk Z) V U S R N F D)
   .cases h
  .cases h
 .split at h
  .rename_i L Z
   split at h
   .rename_i X
    obtain⟨V,U,S,R,N⟩:=X;cases h;exact aC (Fx (bk L) (bk Z) V U S R N)
   .cases h
  .cases h
 .exact dZ mI h
end Go.Proofs
namespace Go.Eng
def nt:Nat->List UInt8->List Nat
 |0,_=>[]
 |f+1,s=>if s=[] then [] else fl (s.drop (s.length-4))::nt f (s.take (s.length-4))
def fN(s:List UInt8):List Nat:=nt s.length s
theorem Et:∀(f g:Nat) (s:List UInt8),s.length<=f->s.length<=g->nt f s=nt g s
 |0,0,s,_,_=>rfl
 |0,g+1,s,h,_=>by have:s=[]:=Mp (by omega);subst this;simp[nt]
 |f+1,0,s,_,h=>by have:s=[]:=Mp (by omega);subst this;simp[nt]
 |f+1,g+1,s,h1,h2=>by
  unfold nt;by_cases Z:s=[]
  .simp[Z]
  .have:0<s.length:=List.length_pos_iff.2 Z
   rw[if_neg Z,if_neg Z,Et f g (s.take (s.length-4)) (by simp;omega) (by simp;omega)]
theorem N5:fN []=[]:=rfl
variable{s:List UInt8}
theorem uQ(h:s≠[]):fN s=fl (s.drop (s.length-4))::fN (s.take (s.length-4)):=by
 have X:0<s.length:=List.length_pos_iff.2 h;unfold fN;obtain⟨f,Z⟩:∃f,s.length=f+1:=⟨s.length-1,by omega⟩
 have e:nt s.length s=nt (f+1) s:=by rw[Z]
 rw[e,nt,if_neg h];congr 1;exact Et _ _ _ (by simp;omega) (by simp)
theorem SF(h:s.all isD=true):fl (s.drop (s.length-4))<10000:=by
 have X:=C9 (Av h (s.length-4));have Z:(s.drop (s.length-4)).length<=4:=by simp;omega
 have h3:10 ^ (s.drop (s.length-4)).length<=10 ^ 4:=P3 (by omega) Z;omega
theorem kL:∀(n:Nat) (s:List UInt8),s.length<=n->s.all isD=true->lok 10000 (fN s)=true/\aq 10000 (fN s)=fl s/\(fN s).length<=s.length
 |0,s,hn,_=>by have:s=[]:=Mp (by omega);subst this;exact⟨rfl,by unfold fl;rw[dM];rfl,L9 _⟩
 |n+1,s,hn,h=>by
  by_cases Z:s=[]
  .subst Z;exact⟨rfl,by unfold fl;rw[dM];rfl,L9 _⟩
  .have S:0<s.length:=List.length_pos_iff.2 Z
   rw[uQ Z];obtain⟨X,V,R⟩:=kL n (s.take (s.length-4)) (by simp;omega) (pB h _);have U:fl s=fl (s.take (s.length-4))*10 ^ (s.drop (s.length-4)).length+fl (s.drop (s.length-4)):=by
    conv=>lhs;rw[<-List.take_append_drop (s.length-4) s]
    exact vp _ _
   refine⟨?_,?_,?_⟩
   .rw[cY,X];simp[SF h]
   .rw[aq,V,U]
    by_cases O:s.length<=4
    .have e:s.length-4=0:=by omega
     rw[e,List.take_zero];have:fl []=0:=by unfold fl;rw[dM]
     rw[this];omega
    .have e:(s.drop (s.length-4)).length=4:=by simp;omega
     rw[e];omega
   .rw[List.length_cons]
    have:(s.take (s.length-4)).length=s.length-4:=by simp
    omega
end Go.Eng
namespace Go.Proofs
open Go.Eng
open Tryz
def lS(c:Code):List Nat:=if (ad c).contains 3 then [3,4] else [5,6]
theorem BG{O:y9}{K m0:Nat}(mem:Mem)(s:List UInt8)(e H:Nat)(hd:s.all isD=true)(he:e<=s.length)(Za:H<=e)(h4:e<=H+4)(hl:s.length<=1000000)(hK:5<K){b I:Code}(J:ah f225=[b,I]):
  ∃F:Env->Bool->Env,∀Z d,(ae Z 0=.str s/\ae Z 4=.int .i64 (e:Int)/\ae Z 5=.int .i64 0/\ae Z 6=.int .i64 (H:Int))->
   aU (bd prog) lS O K 35 m0 true (.loop I) ⟨Z,mem,d⟩=some (.exit 2,⟨F Z d,mem,d⟩)/\
   (ae (F Z d) 5=.int .i64 ((fl ((s.take e).drop H):Nat):Int)/\ae (F Z d) 0=ae Z 0/\ae (F Z d) 3=ae Z 3/\ae (F Z d) 4=ae Z 4):=by
 have Zi:lS I=[5,6]:=by simp[ah,aE,f225] at J;obtain⟨rfl,rfl⟩:=J;decide
 refine bl Zi (fun Z=>ae Z 0=.str s/\ae Z 4=.int .i64 (e:Int)/\ae Z 5=.int .i64 0/\ae Z 6=.int .i64 (H:Int))
  (fun Z L =>ae L 5=.int .i64 ((fl ((s.take e).drop H):Nat):Int)/\ae L 0=ae Z 0/\ae L 3=ae Z 3/\ae L 4=ae Z 4) ?_
 rintro Z d ⟨h0,h4',h5,h6⟩;obtain⟨u,G⟩:=xE ((s.take e).drop H);have hul:u.length=e-H:=by rw[G,QQj,S2];omega
 have X:u.all isD=true:=by rw[G];exact Av (pB hd _) _
 have U:fl (u.take 0)=0:=by rw[List.take_zero];unfold fl;rw[dM]
 have o:aw [5,6] (ad I) Z ((5,.int .i64 ((fl (u.take 0):Nat):Int))::(6,.int .i64 ((H+0:Nat):Int))::Z)=aw [5,6] (ad I) Z Z:=by rw[U];simp[aw,h5,h6]
 rw[<-o,<-G];refine bG (α:=Nat) (fun j=>⟨aw [5,6] (ad I) Z ((5,.int .i64 ((fl (u.take j):Nat):Int))::(6,.int .i64 ((H+j:Nat):Int))::Z),mem,d⟩)
  (fun j=>u.length-j) (fun j=>j<=u.length) (.exit 2) _ d _ (by simp) ?_ K 0 (Nat.zero_le _) (by simp only[QQi];omega)
 intro j hj;clear o U;simp[ah,aE,f225] at J;by_cases D:j=u.length
 .right
  subst D;have e1:((H+u.length:Nat):Int)=(e:Int):=by omega
  rw[P1,e1];obtain⟨rfl,rfl⟩:=J;simp[h0,h4']
 .left
  have m:j<u.length:=by omega
  obtain⟨c,S⟩:∃c,u[j]? =some c:=⟨u[j],by simp[m]⟩
  have hcd:=tS (List.all_eq_true.1 X c (J1 S));have V:=List.all_eq_true.1 X c (J1 S);have acJ:48<=c.toNat:=by unfold isD at V;simp only[C0,Es] at V;exact V.1
  have ZI:u.take (j+1)=u.take j++[c]:=by rw[List.take_add_one,S];rfl
  have Y:fl (u.take (j+1))=10*fl (u.take j)+(c.toNat-48):=by rw[ZI,oH]
  have C:fl (u.take j)<10000:=by
   have h1:=C9 (pB X j);have h2:(u.take j).length<=4:=by rw[S2];omega
   have h3:10 ^ (u.take j).length<=10 ^ 4:=P3 (by omega) h2;omega
  have R:s[H+j]? =some c:=by rw[G,QQa,QQQ (by omega)] at S;exact S
  obtain⟨v,N⟩:=xE (fl (u.take j));obtain⟨v2,M⟩:=xE (fl (u.take (j+1)));rw[<-N] at C Y;rw[<-M] at Y;obtain⟨i,W⟩:=xE (H+j);rw[<-W] at R;have hie:i<e:=by omega
  have B:(i:Int)<(e:Int):=by omega
  have w1:IntKind.i64.wrap (10*(v:Int))=10*(v:Int):=af;have w2:IntKind.i64.wrap (10*(v:Int)+(c.toNat:Int))=10*(v:Int)+(c.toNat:Int):=af;have w3:IntKind.i64.wrap (10*(v:Int)+(c.toNat:Int)-48)=(v2:Int):=by rw[af];omega
  have w4:IntKind.i64.wrap ((i:Int)+1)=((H+(j+1):Nat):Int):=by rw[af];omega
  have w5:IntKind.i64.wrap (c.toNat:Int)=(c.toNat:Int):=af (by omega) (by have:=c.toNat_lt;omega);rw[<-W];refine⟨j+1,?_⟩;refine bC (show j+1<=u.length/\_ from⟨m,by omega⟩) ?_;obtain⟨rfl,rfl⟩:=J;simp[h0,h4',B,R,<-N,<-M,w1,w2,w3,w4,w5];try omega
def taM:List Nat->Mem
 | []=>[]
 |x::l=>[.cells true 1 (iN .i64 (x::l))]
def taO:List Nat->AV
 | []=>.qF
 |_::l=>.slice 0 0 (l.length+1) none
theorem DM{O:y9}{K:Nat}(s:List UInt8)(hd:s.all isD=true)(I:s.length<=1000000)(hK:s.length+5<K){b J:Code}(H:ah f225=[b,J]):
  ∃F:Env->Bool->Env,∀Z d,(ae Z 0=.str s/\ae Z 3=.qF/\ae Z 4=.int .i64 (s.length:Int))->
   aU (bd prog) lS O K 35 0 true (.loop b) ⟨Z,[],d⟩=some (.exit 0,⟨F Z d,taM (fN s),d⟩)/\ae (F Z d) 3=taO (fN s):=by
 have u:lS b=[3,4]:=by simp[ah,aE,f225] at H;obtain⟨rfl,rfl⟩:=H;decide
 refine bl u (fun Z=>ae Z 0=.str s/\ae Z 3=.qF/\ae Z 4=.int .i64 (s.length:Int)) (fun _ o =>ae o 3=taO (fN s)) ?_;rintro Z d ⟨h0,h3,h4⟩;have D:aw [3,4] (ad b) Z ((3,taO [])::(4,.int .i64 (s.length:Int))::Z)=aw [3,4] (ad b) Z Z:=by simp[aw,h3,h4,taO]
 rw[<-D];refine bG (α:=Int×List Nat) (fun a=>⟨aw [3,4] (ad b) Z ((3,taO a.2)::(4,.int .i64 a.1)::Z),taM a.2,d⟩)
  (fun a=>a.1.toNat) (fun a=> -4<=a.1/\a.1<=s.length/\a.2++fN (s.take a.1.toNat)=fN s) (.exit 0) _ d _ (by simp) ?_ K ((s.length:Int),[]) ⟨by simp only;omega,Int.le_refl _,by simp only[Int.toNat_natCast];rw[P1];rfl⟩ (by show(s.length:Int).toNat<K;omega)
 rintro ⟨z,X⟩ ⟨hz4,he,J'⟩;simp only at hz4 he J' |-;clear D;by_cases m:z<=0
 .right
  rw[show z.toNat=0 by omega,List.take_zero,N5,List.append_nil] at J';rw[J'];have j:¬0<z:=by omega
  simp[ah,aE,f225] at H;obtain⟨rfl,rfl⟩:=H;simp[j]
 .left
  obtain⟨e,rfl⟩:∃e:Nat,z=e:=⟨z.toNat,by omega⟩
  rw[Int.toNat_natCast] at J';have U:(s.take e).length=e:=by rw[S2];omega
  have Y:s.take e≠[]:=by intro h;rw[h] at U;simp at U;omega
  rw[uQ Y,U,List.take_take,Nat.min_eq_left (by omega)] at J';obtain⟨N,W⟩:=xE (e-4);rw[<-W] at J';obtain⟨F,S⟩:=BG (O:=O) (K:=K) (m0:=0) (taM X) s e N hd (by omega) (by omega) (by omega) I (by omega) H;obtain⟨v,hv⟩:=xE (fl ((s.take e).drop N));rw[<-hv] at S J';have M:X.length<=1000000:=by have C:=(kL _ s (L9 _) hd).2.2;rw[<-J'] at C;simp at C;omega
  obtain⟨V,L⟩:=xE ((e:Int)-4);have w1:IntKind.i64.wrap ((e:Int)-4)=V:=by rw[<-L];exact af
  have B:0<e:=by omega
  have R:(if 0<V then V else 0)=(N:Int):=by split<;>omega
  have G:V.toNat=N:=by omega
  simp[ah,aE,f225] at H;obtain⟨rfl,rfl⟩:=H;refine⟨(V,X++[v]),?_⟩;refine bU (show(-4<=V/\V<=(s.length:Int)/\(X++[v])++fN (s.take V.toNat)=fN s)/\V.toNat<(e:Int).toNat from⟨⟨by omega,by omega,by rw[Y1,G];exact J'⟩,by omega⟩) ?_;cases X with
  |nil=>
   simp only[taM] at S;simp[taM,taO,B,w1,R,h0,S,cr]
  |cons y l=>
   simp only[List.length_cons] at M;have ht:(iN .i64 l).take l.length=iN .i64 l:=B5 (by simp);have Zg:(l.length+1+1)*8<=140737488355328:=by omega
   have Z6:l.length+1+1<=140737488355328:=by omega
   simp only[taM,cr] at S;simp[taM,taO,B,w1,R,h0,S,ht,Zg,Z6,cr,dC]
section
variable (v:Nat)(hl:(ai v).length<=1000000)
include v hl
theorem Gl:aa (bd prog) lS (aX prog) cR ((ai v).length+6) 225 [.str (ai v)] []=
  some ⟨.slice 0 0 (dig 10000 v).length none,none,[.cells true 1 (iN .i64 (fN (ai v)))]⟩:=by
 have D:aX prog 225=some f225:=by kernel_rfl
 obtain⟨b,M,U⟩:∃b M,ah f225=[b,M]:=⟨_,_,rfl⟩
 obtain⟨F,X⟩:=DM (O:=cR) (K:=(ai v).length+6) (ai v) (dH v) hl (by omega) U;obtain⟨C,L,B⟩:=kL _ (ai v) (L9 _) (dH _);rw[dK] at L;have S:aW (fN (ai v))=dig 10000 v:=by rw[<-dS (by omega) C,L]
 have V:fN (ai v)≠[]:=by rw[uQ (jQ _)];simp
 obtain⟨s,u⟩:=xE (ai v);rw[<-u] at X S V B hl |-;obtain⟨K,o⟩:=xE (s.length+6);rw[<-o] at X |-;have G:(fN s).length<=4000000000000:=by omega
 obtain⟨Z,R⟩:=xE (fN s);rw[<-R] at X S V G |-;have m:taM Z=[.cells true 1 (iN .i64 Z)]:=by cases Z<;>first | exact absurd rfl V | rfl
 have j:taO Z=.slice 0 0 Z.length none:=by cases Z<;>first | exact absurd rfl V | rfl
 rw[m,j] at X;have N:∀l,bh .i64 (.cells true 1 (iN .i64 Z)::l) (.slice 0 0 Z.length none)=some Z:=fun l=>aR rfl (by simp) (B5 (by simp))
 simp[ah,aE,f225] at U;obtain⟨rfl,rfl⟩:=U;simp[aa,D,f225,X,cR,cJ,cW,N,G,S]
theorem M1(M:Mem):kO prog 225 [.str (ai v)] M (.slice M.length 0 (dig 10000 v).length none) (M++[.cells true 1 (iN .i64 (dig 10000 v))]):=by
 obtain⟨V,X,R⟩:=kL _ (ai v) (L9 _) (dH _);rw[dK] at X;have U:aW (fN (ai v))=dig 10000 v:=by rw[<-dS (by omega) V,X]
 have h:=(ar aj (aJ _) yN (aM _) (Gl v hl)).1;simp only[afh.mem,Option.getD_none,List.nil_append] at h;have S:=kO.agi (m2:=[.cells true 1 (iN .i64 (dig 10000 v))]) h rfl (fun b s Z=>by
  match b with
  |0=>simp at Z;subst Z;exact⟨_,rfl,.row (by rw[<-U];exact dD _)⟩
  |b+1=>simp at Z)
 have h3:=kO.frame (M:=M) [] (m:=[]) (new:=[.cells true 1 (iN .i64 (dig 10000 v))]) rfl (by simp) rfl (by simp) rfl S;simpa [AV.ren,AV.afz,fa] using h3
end
theorem DB{K:Nat}(v:Nat)(hv:0<v)(hl:(dig 10000 v).length<=100000)(hK:(dig 10000 v).length<K){b:Code}(H:ah f268=[b]):
  ∃F:Env->Bool->Env,∀Z d,(ae Z 0=.slice 0 0 (dig 10000 v).length none/\ae Z 3=.str (ai (aq 10000 ((dig 10000 v).drop ((dig 10000 v).length-1))))/\ae Z 4=.int .i64 ((((dig 10000 v).length-1:Nat):Int)-1))->
   aU (bd prog) (fun _=>[3,4]) (ag ak) K 34 1 true (.loop b) ⟨Z,[.cells false 1 (iN .i64 (dig 10000 v))],d⟩=some (.exit 0,⟨F Z d,[.cells false 1 (iN .i64 (dig 10000 v))],d⟩)/\ae (F Z d) 3=.str (ai v):=by
 have G:lok 10000 (dig 10000 v)=true:=bX (by omega) _;have Zy:aq 10000 (dig 10000 v)=v:=bO (by omega) _;have V:∀j,j<(dig 10000 v).length->0<aq 10000 ((dig 10000 v).drop j):=fun j D=>pL (by omega) D
 have F':0<(dig 10000 v).length:=by
  rcases QQX (dig 10000 v).length with h | h
  .have:=(fC (B:=10000) (n:=v) (by omega)).1 (Mp h)
   omega
  .exact h
 obtain⟨A,C⟩:=xE (dig 10000 v);rw[<-C] at hl hK G Zy V F' |-;refine bl rfl (fun Z=>ae Z 0=.slice 0 0 A.length none/\ae Z 3=.str (ai (aq 10000 (A.drop (A.length-1))))/\ae Z 4=.int .i64 (((A.length-1:Nat):Int)-1)) (fun _ AC =>ae AC 3=.str (ai v)) ?_;rintro Z d ⟨h0,h3,o⟩;have hn:aw [3,4] (ad b) Z ((3,.str (ai (aq 10000 (A.drop (A.length-1)))))::(4,.int .i64 (((A.length-1:Nat):Int)-1))::Z)=aw [3,4] (ad b) Z Z:=by simp only[aw,List.map_cons,List.map_nil,h3,o];simp
 rw[<-hn];refine bG (α:=Nat) (fun j=>⟨aw [3,4] (ad b) Z ((3,.str (ai (aq 10000 (A.drop j))))::(4,.int .i64 ((j:Int)-1))::Z),[.cells false 1 (iN .i64 A)],d⟩)
  (fun j=>j) (fun j=>j<A.length) (.exit 0) _ d _ (by simp) ?_ K (A.length-1) (by omega) (by omega)
 intro j D;clear hn;simp[ah,aE,f268] at H;cases j with
 |zero=>
  right;subst H;simp[Zy]
 |succ j=>
  left;obtain⟨x,hx,Y9⟩:=dh (l:=A) (i:=j) (by omega);have Zp:=ff G hx;have e1:(((j+1:Nat):Int)-1)=(j:Int):=by omega
  have X:ai (aq 10000 (A.drop j))=ai (aq 10000 (A.drop (j+1)))++(ai (10000+x)).drop 1:=by rw[om hx];have S:=AJ (w:=4) (by omega) Zp (V (j+1) D);have L:=TC (w:=4) (x:=x) (by omega) Zp;rw[show 10 ^ 4=10000 from rfl] at S L;rw[L,S]
  have ZH:(ai (aq 10000 (A.drop (j+1)))).length<=400000:=by
   have S:=ia (jK G (j+1));have L:(10000:Nat) ^ (A.drop (j+1)).length=10 ^ (4*(A.drop (j+1)).length):=by rw[Nat.pow_mul]
   rw[L] at S;have h3:0<4*(A.drop (j+1)).length:=by simp;omega
   have o:=aN h3 S;simp at o;omega
  obtain⟨t,ht⟩:=xE (ai (aq 10000 (A.drop (j+1))));obtain⟨t2,R⟩:=xE (ai (aq 10000 (A.drop j)));rw[<-ht] at X ZH;rw[<-R] at X;obtain⟨y,hy⟩:=xE (α:=Nat) (10000+x);rw[<-hy] at X;have w1:IntKind.i64.wrap (10000+(x:Int))=(y:Int):=by rw[af];omega
  have w2:IntKind.i64.wrap ((j:Int)-1)=(j:Int)-1:=af;have hf:dV (y:Int)=true:=by unfold dV;simp;omega
  have O:bL (y:Int)=ai y:=rfl;have m:=aN (u:=y) (k:=5) (by omega) (by omega);have Y:1<=(ai y).length:=pN y;obtain⟨u,hu⟩:=xE (ai y);rw[<-hu] at X O m Y;have W:(1:Int)<=(u.length:Int):=by omega
  have N:(u.drop 1).take (u.length-1)=u.drop 1:=B5 (by simp);have J:t.length+(u.length-1)<=fM:=by unfold fM;omega
  have M:j<A.length:=by omega
  have I:(j:Int)<(A.length:Int):=by omega
  obtain⟨u1,U⟩:=xE (u.drop 1);rw[<-U] at X N;have aeo:u1.length=u.length-1:=by rw[U];simp
  have aep:t.length+u1.length<=fM:=by rw[aeo];exact J
  rw[e1];refine⟨j,?_⟩;refine bC (show j<A.length/\_ from⟨M,Nat.lt_succ_self j⟩) ?_;subst H;simp[h0,I,M,Y9,w1,ag,ak,hf,O,W,<-U,N,<-ht,<-R,aep,<-X,w2]
end Go.Proofs
