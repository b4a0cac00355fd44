/- See H38. -/
import Derived.Test.YthpgbelancmpjaaGreatDoorH17
set_option linter.all false
set_option maxRecDepth 100000
set_option maxHeartbeats 40000000
namespace Go.Proofs
open Go.Eng
open Tryz
def jo(c:Code):List Nat:=if (ae c).contains 6 then [6] else [7]
def tzS(A B:List Nat)(i k:Nat):List Int:=(tzR A B i).take i++jd ((A.getD i 0:Nat):Int) (B.take k) ((tzR A B i).drop i)
variable{K:Nat}{O:afu}{b b2:Code}
theorem yf(A B:List Nat)(hA:lok 10000 A=true)(hB:lok 10000 B=true)(hl:A.length<=5000)(Z':B.length<=5000)(hK:B.length<K)(H:ah f230=[b,b2])(i:Nat)(hi:i<A.length):
  ∃F:Env->Bool->Env,∀Z d,(aa Z 0=.slice 0 0 A.length none/\aa Z 1=.slice 1 0 B.length none/\aa Z 5=.slice 2 0 (A.length+B.length) none/\aa Z 6=.int .i64 (i:Int)/\aa Z 7=.int .i64 0)->
   aO (aL prog) jo O K 45 2 true (.loop b2) ⟨Z,[.cells false 1 (iN .i64 A),.cells false 1 (iN .i64 B),.cells true 1 (iZ (tzR A B i))],d⟩=some (.exit 2,⟨F Z d,[.cells false 1 (iN .i64 A),.cells false 1 (iN .i64 B),.cells true 1 (iZ (tzR A B (i+1)))],d⟩)/\
   (∀t,t∈[0,1,5,6]->aa (F Z d) t=aa Z t):=by
 have D:jo b2=[7]:=by simp[ah,aw,f230] at H;obtain⟨rfl,rfl⟩:=H;decide
 refine bG D (fun Z=>aa Z 0=.slice 0 0 A.length none/\aa Z 1=.slice 1 0 B.length none/\aa Z 5=.slice 2 0 (A.length+B.length) none/\aa Z 6=.int .i64 (i:Int)/\aa Z 7=.int .i64 0)
  (fun Z AC =>∀t,t∈[0,1,5,6]->aa AC t=aa Z t) ?_
 rintro Z d ⟨h0,h1,h5,h6,h7⟩;have hn:au [7] (ae b2) Z ((7,.int .i64 ((0:Nat):Int))::Z)=au [7] (ae b2) Z Z:=by simp[au,h7]
 have U:tzS A B i 0=tzR A B i:=by unfold tzS;rw[List.take_zero,nY,List.take_append_drop]
 have R:tzS A B i B.length=tzR A B (i+1):=by unfold tzS;rw[V1];rfl
 rw[<-hn,<-U,<-R];refine bZ (α:=Nat) (fun k=>⟨au [7] (ae b2) Z ((7,.int .i64 (k:Int))::Z),[.cells false 1 (iN .i64 A),.cells false 1 (iN .i64 B),.cells true 1 (iZ (tzS A B i k))],d⟩)
  (fun k=>B.length-k) (fun k=>k<=B.length) (.exit 2) _ d _ (by simp) ?_ K 0 (Nat.zero_le _) (by simp only[QQg];omega)
 intro k hk;clear hn U R;simp[ah,aw,f230] at H;by_cases C:k=B.length
 .right
  subst C;obtain⟨rfl,rfl⟩:=H;simp[h1]
 .left
  have u:k<B.length:=by omega
  obtain⟨x,hx,o⟩:=dp hi;obtain⟨z,hz,m⟩:=dp u;have hxb:=eK hA hx;have hzb:=eK hB hz;obtain⟨t1,t2,t3⟩:=HF (c:=100000000) (by decide) hA hB i (by omega);have hg:A.getD i 0=x:=by simp[List.getD,hx]
  have Y:((tzR A B i).drop i).length=A.length+B.length-i:=by rw[QQh,t1]
  obtain⟨y,hy⟩:∃y,((tzR A B i).drop i)[k]? =some y:=⟨((tzR A B i).drop i)[k]'(by omega),by simp⟩
  obtain⟨s1,s2⟩:=Cy (x:Int) B _ k z y hz hy;have W:y.natAbs<=i*100000000:=t3 y (List.mem_of_mem_drop (Lo hy));have V:((tzR A B i).take i).length=i:=by rw[M0];omega
  have J:(jd (x:Int) (B.take k) ((tzR A B i).drop i)).length=A.length+B.length-i:=by rw[pQ _ _ _ (by rw[M0];omega),Y]
  obtain⟨S,hS⟩:=xE (tzS A B i k);obtain⟨I,Q⟩:=xE (tzS A B i (k+1));have G:S=(tzR A B i).take i++jd (x:Int) (B.take k) ((tzR A B i).drop i):=by rw[hS];unfold tzS;rw[hg]
  have e2:I=(tzR A B i).take i++jd (x:Int) (B.take (k+1)) ((tzR A B i).drop i):=by rw[Q];unfold tzS;rw[hg]
  have hSl:S.length=A.length+B.length:=by rw[G,Nm,V,J];omega
  have g1:S[i+k]? =some y:=by rw[G,Ns (by omega),V,show i+k-i=k by omega];exact s1
  have g1' :S[i+k]'(by omega)=y:=(Hi.1 g1).2;obtain⟨p,hp⟩:=xE ((x:Int)*(z:Int));have hpb:p.natAbs<=10000*10000:=by rw[hp,QQf,Int.natAbs_natCast,Int.natAbs_natCast];exact Nat.mul_le_mul (by omega) (by omega)
  have g2:S.set (i+k) (y+p)=I:=by rw[G,e2,List.set_append_right _ _ (by omega),V,show i+k-i=k by omega,hp,s2]
  have afq:y.natAbs<=5000*100000000:=Y2 W (QQe _ (by omega));have w1:IntKind.i64.wrap ((x:Int)*(z:Int))=p:=by rw[<-hp];exact af
  have w2:IntKind.i64.wrap (y+p)=y+p:=af;obtain⟨X,N⟩:=xE (i+k);have w3:IntKind.i64.wrap ((i:Int)+(k:Int))=(X:Int):=by rw[af];omega
  have w4:IntKind.i64.wrap ((k:Int)+1)=((k+1:Nat):Int):=by rw[af];omega
  have hst:(iZ S).take X++.int .i64 (y+p)::(iZ S).drop (X+1)=iZ I:=by rw[OQ _ _ _ (by omega),N,g2]
  have aeQ:X<S.length:=by omega
  have afh:X+1<=S.length:=by omega
  have g3:S[X]? =some y:=by rw[N];exact g1
  have g3' :S[X]=y:=(Hi.1 g3).2;rw[<-hSl] at h5;have aeR:(X:Int)<(S.length:Int):=by omega
  have adE:X+1<=S.length:=by omega
  have hiA:(i:Int)<(A.length:Int):=by omega
  have hkB:(k:Int)<(B.length:Int):=by omega
  refine⟨k+1,?_⟩;refine bF (show k+1<=B.length/\_ from⟨u,by omega⟩) ?_;clear G e2 s1 s2 t3;obtain⟨M,B'⟩:∃M,bn f230=[M]:=⟨_,rfl⟩
  obtain⟨hbs,hab⟩:=gF B' (l:=[0,0,0,6,15,31,0,0,192,448,0,0,3072,7168,16320,32767,65535,131071]) (j:=17) (by kernel_rfl) (by decide);simp[bn,cU,f230] at B';subst B';obtain⟨rfl,rfl⟩:=H;simp[-aN,aY hbs,cX,cO,cV,hab,<-hS,<-Q,h0,h1,h5,h6,hi,hiA,hkB,u,w3,aeR,aeQ,g3',o,m,w1,w2,hst,w4,adE]
theorem yg(A B:List Nat)(I:lok 10000 A=true)(J:lok 10000 B=true)(W:A.length<=5000)(Y:B.length<=5000)(hK:B.length<K)(hK2:A.length<K)(H:ah f230=[b,b2]):
  ∃F:Env->Bool->Env,∀Z d,(aa Z 0=.slice 0 0 A.length none/\aa Z 1=.slice 1 0 B.length none/\aa Z 5=.slice 2 0 (A.length+B.length) none/\aa Z 6=.int .i64 0)->
   aO (aL prog) jo O K 45 2 true (.loop b) ⟨Z,[.cells false 1 (iN .i64 A),.cells false 1 (iN .i64 B),.cells true 1 (iZ (List.replicate (A.length+B.length) 0))],d⟩=some (.exit 0,⟨F Z d,[.cells false 1 (iN .i64 A),.cells false 1 (iN .i64 B),.cells true 1 (iZ (tzR A B A.length))],d⟩)/\
   aa (F Z d) 5=.slice 2 0 (A.length+B.length) none:=by
 have X:jo b=[6]:=by simp[ah,aw,f230] at H;obtain⟨rfl,rfl⟩:=H;decide
 refine bG X (fun Z=>aa Z 0=.slice 0 0 A.length none/\aa Z 1=.slice 1 0 B.length none/\aa Z 5=.slice 2 0 (A.length+B.length) none/\aa Z 6=.int .i64 0)
  (fun _ Q =>aa Q 5=.slice 2 0 (A.length+B.length) none) ?_
 rintro Z d ⟨h0,h1,h5,h6⟩;have S:au [6] (ae b) Z ((6,.int .i64 ((0:Nat):Int))::Z)=au [6] (ae b) Z Z:=by simp[au,h6]
 rw[<-S];refine bZ (α:=Nat) (fun i=>⟨au [6] (ae b) Z ((6,.int .i64 (i:Int))::Z),[.cells false 1 (iN .i64 A),.cells false 1 (iN .i64 B),.cells true 1 (iZ (tzR A B i))],d⟩)
  (fun i=>A.length-i) (fun i=>i<=A.length) (.exit 0) _ d _ (by simp) ?_ K 0 (Nat.zero_le _) (by simp only[QQg];omega)
 intro i M;clear S;by_cases V:i=A.length
 .right
  simp[ah,aw,f230] at H;subst V;obtain⟨rfl,rfl⟩:=H;simp[h0,h5]
 .left
  have R:i<A.length:=by omega
  obtain⟨F,N⟩:=yf (O:=O) (K:=K) A B I J W Y hK H i R;have w4:IntKind.i64.wrap ((i:Int)+1)=((i+1:Nat):Int):=by rw[af];omega
  have U:(i:Int)<(A.length:Int):=by omega
  simp[ah,aw,f230] at H;obtain⟨rfl,rfl⟩:=H;refine⟨i+1,?_⟩;refine bF (show i+1<=A.length/\_ from⟨R,by omega⟩) ?_;simp[h0,h1,h5,U,N,w4]
theorem Ce(A B:List Nat)(W:A≠[]\/B≠[])(H:lok 10000 A=true)(I:lok 10000 B=true)(J:A.length<=5000)(Y:B.length<=5000):
  ad (aL prog) jo (bq prog) cN (A.length+B.length+1) 230 [.slice 0 0 A.length none,.slice 1 0 B.length none] [.cells false 1 (iN .i64 A),.cells false 1 (iN .i64 B)]=
   some ⟨.slice 2 0 (dig 10000 (aq 10000 A*aq 10000 B)).length none,none,[.cells true 1 (iN .i64 (dig 10000 (aq 10000 A*aq 10000 B)))]⟩:=by
 have hG:bq prog 230=some f230:=by kernel_rfl
 obtain⟨b,b2,V⟩:∃b b2,ah f230=[b,b2]:=⟨_,_,rfl⟩
 obtain⟨F,Z⟩:=yg (O:=cN) (K:=A.length+B.length+1) A B H I J Y (by omega) (by omega) V;obtain⟨t1,t2,t3⟩:=HF (c:=100000000) (by decide) H I A.length (Es _);rw[V1,<-Int.natCast_mul] at t2;obtain⟨n,U⟩:=xE (A.length+B.length);have X:zsm (tzR A B A.length)=true:=List.all_eq_true.2 fun d hd=>by have h1:=t3 d hd;have h2:A.length*100000000<=5000*100000000:=QQe _ J;simp;omega
 obtain⟨S,hS⟩:=xE (tzR A B A.length);rw[<-hS,<-U] at Z;rw[<-hS] at t1 t2 X;rw[<-U] at t1;have R:S.length<=10000000:=by omega
 have Q:S≠[]:=by
  intro e;rw[e] at t1;rcases W with h | h
  .have:=List.length_pos_iff.2 h;simp at t1;omega
  .have:=List.length_pos_iff.2 h;simp at t1;omega
 have N:0<=jL 10000 S:=by rw[t2];exact Int.natCast_nonneg _
 have M:(jL 10000 S).toNat=aq 10000 A*aq 10000 B:=by rw[t2,Int.toNat_natCast]
 have y:∀(u o:afz) l,zG (u::o::.cells true 1 (iZ S)::l) (.slice 2 0 n none)=some S:=fun u o l=>by rw[<-t1];exact DI rfl (by simp) (An (by simp))
 obtain⟨c,m⟩:=xE (α:=Nat) n;have w1:IntKind.i64.wrap ((A.length:Int)+(B.length:Int))=(c:Int):=by rw[af];omega
 have h8:8*(c:Int)<=281474976710656:=by omega
 have h9:(c:Int)<=281474976710656:=by omega
 obtain⟨D,j⟩:=xE (dig 10000 (aq 10000 A*aq 10000 B));rw[<-j] at|-;rw[<-m] at Z y;obtain⟨K,G⟩:=xE (n+1);rw[<-U,<-G];rw[<-m] at G;rw[<-G] at Z;have C :=Z;clear Z t2 t3;simp[ah,aw,f230] at V;obtain⟨rfl,rfl⟩:=V;simp[ad,hG,f230,w1,h8,h9,Up,C,y,cN,Q,N,M,X,R,<-j]
theorem F7{M:Mem}{x y:AV}{A B:List Nat}(hx:afO .i64 M x A)(H:afO .i64 M y B)(I:A≠[]\/B≠[])(J:lok 10000 A=true)(W:lok 10000 B=true)(Y:A.length<=5000)(Z':B.length<=5000):
  bz prog 230 [x,y] M (.slice M.length 0 (dig 10000 (aq 10000 A*aq 10000 B)).length none) (M++[.cells true 1 (iN .i64 (dig 10000 (aq 10000 A*aq 10000 B)))]):=by
 have h:=(aB ak (aI _) mO (aQ _) (Ce A B I J W Y Z')).1;simp only[afw.mem,Option.getD_none,List.cons_append,List.nil_append] at h;obtain⟨b,c,rfl,rfl,h3⟩:=bz.agq (new:=[.cells true 1 (iN .i64 (dig 10000 (aq 10000 A*aq 10000 B)))]) rfl h hx H;simpa [AV.ren,AV.afR,back] using h3
noncomputable def cS:afu:=fun c Z M=>match c,Z with
 |.fn 227,[.kO,y,.int .i64 k,.int .i64 0]=>match bl .i64 M y with
  |some B=>if B≠[]/\lok 10000 B=true/\k.natAbs<=10000/\B.length<=1000000/\0<=k*(aq 10000 B:Int) then some ⟨.slice M.length 0 (dig 10000 (k*(aq 10000 B:Int)).toNat).length none,none,[.cells true 1 (iN .i64 (dig 10000 (k*(aq 10000 B:Int)).toNat))]⟩ else none
  |none=>none
 |.fn 227,[x,y,.int .i64 k,.int .i64 0]=>match bl .i64 M x,bl .i64 M y with
  |some A,some B=>if (A≠[]\/B≠[])/\lok 10000 A=true/\lok 10000 B=true/\k.natAbs<=10000/\A.length<=1000000/\B.length<=1000000/\0<=(aq 10000 A:Int)+k*(aq 10000 B:Int) then some ⟨.slice M.length 0 (dig 10000 ((aq 10000 A:Int)+k*(aq 10000 B:Int)).toNat).length none,none,[.cells true 1 (iN .i64 (dig 10000 ((aq 10000 A:Int)+k*(aq 10000 B:Int)).toNat))]⟩ else none
  |_,_=>none
 |.fn 230,[x,y]=>match bl .i64 M x,bl .i64 M y with
  |some A,some B=>if (A≠[]\/B≠[])/\lok 10000 A=true/\lok 10000 B=true/\A.length<=5000/\B.length<=5000 then some ⟨.slice M.length 0 (dig 10000 (aq 10000 A*aq 10000 B)).length none,none,[.cells true 1 (iN .i64 (dig 10000 (aq 10000 A*aq 10000 B)))]⟩ else none
  |_,_=>none
 |c,Z=>cN c Z M
theorem zf:afs prog cS:=by
 refine cG fun c G M r h=>?_
 unfold cS at h;split at h
 .split at h
  .rename_i Z
   split at h
   .rename_i X
    obtain⟨V,U,S,R,Q⟩:=X;cases h;have:=vQ _ (A:=[]) (.inr ⟨rfl,rfl⟩) (br Z) (.inr V) rfl U S (Nat.zero_le _) R (by simpa [aq] using Q);simp only[aq,Int.natCast_zero,Int.zero_add] at this;exact aA this
   .cases h
  .cases h
 .split at h
  .rename_i N Z
   split at h
   .rename_i X
    obtain⟨V,U,S,R,Q,F,D⟩:=X;cases h;exact aA (vQ _ (.inl (br N)) (br Z) V U S R Q F D)
   .cases h
  .cases h
 .split at h
  .rename_i N Z
   split at h
   .rename_i X
    obtain⟨V,U,S,R,Q⟩:=X;cases h;exact aA (F7 (br N) (br Z) V U S R Q)
   .cases h
  .cases h
 .exact ee mO h
end Go.Proofs
namespace Go.Eng
def nA:Nat->List UInt8->List Nat
 |0,_=>[]
 |f+1,s=>if s=[] then [] else eP (s.drop (s.length-4))::nA f (s.take (s.length-4))
def fu(s:List UInt8):List Nat:=nA s.length s
theorem Fg:∀(f g:Nat) (s:List UInt8),s.length<=f->s.length<=g->nA f s=nA g s
 |0,0,s,_,_=>rfl
 |0,g+1,s,h,_=>by have:s=[]:=GT (by omega);subst this;simp[nA]
 |f+1,0,s,_,h=>by have:s=[]:=GT (by omega);subst this;simp[nA]
 |f+1,g+1,s,h1,h2=>by
  unfold nA;by_cases Z:s=[]
  .simp[Z]
  .have:0<s.length:=List.length_pos_iff.2 Z
   rw[if_neg Z,if_neg Z,Fg f g (s.take (s.length-4)) (by simp;omega) (by simp;omega)]
theorem NI:fu []=[]:=rfl
variable{s:List UInt8}
theorem ve(h:s≠[]):fu s=eP (s.drop (s.length-4))::fu (s.take (s.length-4)):=by
 have X:0<s.length:=List.length_pos_iff.2 h;unfold fu;obtain⟨f,Z⟩:∃f,s.length=f+1:=⟨s.length-1,by omega⟩
 have e:nA s.length s=nA (f+1) s:=by rw[Z]
 rw[e,nA,if_neg h];congr 1;exact Fg _ _ _ (by simp;omega) (by simp)
theorem T0(h:s.all isD=true):eP (s.drop (s.length-4))<10000:=by
 have X:=DM (AK h (s.length-4));have Z:(s.drop (s.length-4)).length<=4:=by simp;omega
 have h3:10 ^ (s.drop (s.length-4)).length<=10 ^ 4:=L9 (by omega) Z;omega
theorem kK:∀(n:Nat) (s:List UInt8),s.length<=n->s.all isD=true->lok 10000 (fu s)=true/\aq 10000 (fu s)=eP s/\(fu s).length<=s.length
 |0,s,hn,_=>by have:s=[]:=GT (by omega);subst this;exact⟨rfl,by unfold eP;rw[dR];rfl,Es _⟩
 |n+1,s,hn,h=>by
  by_cases Z:s=[]
  .subst Z;exact⟨rfl,by unfold eP;rw[dR];rfl,Es _⟩
  .have S:0<s.length:=List.length_pos_iff.2 Z
   rw[ve Z];obtain⟨X,V,R⟩:=kK n (s.take (s.length-4)) (by simp;omega) (pR h _);have U:eP s=eP (s.take (s.length-4))*10 ^ (s.drop (s.length-4)).length+eP (s.drop (s.length-4)):=by
    conv=>lhs;rw[<-List.take_append_drop (s.length-4) s]
    exact vI _ _
   refine⟨?_,?_,?_⟩
   .rw[di,X];simp[T0 h]
   .rw[aq,V,U]
    by_cases Q:s.length<=4
    .have e:s.length-4=0:=by omega
     rw[e,List.take_zero];have:eP []=0:=by unfold eP;rw[dR]
     rw[this];omega
    .have e:(s.drop (s.length-4)).length=4:=by simp;omega
     rw[e];omega
   .rw[List.length_cons]
    have:(s.take (s.length-4)).length=s.length-4:=by simp
    omega
end Go.Eng
namespace Go.Proofs
open Go.Eng
open Tryz
def lQ(c:Code):List Nat:=if (ae c).contains 3 then [3,4] else [5,6]
theorem Cj{O:afu}{K m0:Nat}(mem:Mem)(s:List UInt8)(e H:Nat)(hd:s.all isD=true)(he:e<=s.length)(hst:H<=e)(h4:e<=H+4)(hl:s.length<=1000000)(hK:5<K){b I:Code}(J:ah f225=[b,I]):
  ∃F:Env->Bool->Env,∀Z d,(aa Z 0=.str s/\aa Z 4=.int .i64 (e:Int)/\aa Z 5=.int .i64 0/\aa Z 6=.int .i64 (H:Int))->
   aO (aL prog) lQ O K 35 m0 true (.loop I) ⟨Z,mem,d⟩=some (.exit 2,⟨F Z d,mem,d⟩)/\
   (aa (F Z d) 5=.int .i64 ((eP ((s.take e).drop H):Nat):Int)/\aa (F Z d) 0=aa Z 0/\aa (F Z d) 3=aa Z 3/\aa (F Z d) 4=aa Z 4):=by
 have D:lQ I=[5,6]:=by simp[ah,aw,f225] at J;obtain⟨rfl,rfl⟩:=J;decide
 refine bG D (fun Z=>aa Z 0=.str s/\aa Z 4=.int .i64 (e:Int)/\aa Z 5=.int .i64 0/\aa Z 6=.int .i64 (H:Int))
  (fun Z M =>aa M 5=.int .i64 ((eP ((s.take e).drop H):Nat):Int)/\aa M 0=aa Z 0/\aa M 3=aa Z 3/\aa M 4=aa Z 4) ?_
 rintro Z d ⟨h0,h4',h5,h6⟩;obtain⟨u,G⟩:=xE ((s.take e).drop H);have hul:u.length=e-H:=by rw[G,QQh,M0];omega
 have X:u.all isD=true:=by rw[G];exact AK (pR hd _) _
 have U:eP (u.take 0)=0:=by rw[List.take_zero];unfold eP;rw[dR]
 have m:au [5,6] (ae I) Z ((5,.int .i64 ((eP (u.take 0):Nat):Int))::(6,.int .i64 ((H+0:Nat):Int))::Z)=au [5,6] (ae I) Z Z:=by rw[U];simp[au,h5,h6]
 rw[<-m,<-G];refine bZ (α:=Nat) (fun j=>⟨au [5,6] (ae I) Z ((5,.int .i64 ((eP (u.take j):Nat):Int))::(6,.int .i64 ((H+j:Nat):Int))::Z),mem,d⟩)
  (fun j=>u.length-j) (fun j=>j<=u.length) (.exit 2) _ d _ (by simp) ?_ K 0 (Nat.zero_le _) (by simp only[QQg];omega)
 intro j hj;clear m U;simp[ah,aw,f225] at J;by_cases C:j=u.length
 .right
  subst C;have e1:((H+u.length:Nat):Int)=(e:Int):=by omega
  rw[V1,e1];obtain⟨rfl,rfl⟩:=J;simp[h0,h4']
 .left
  have Y:j<u.length:=by omega
  obtain⟨c,S⟩:∃c,u[j]? =some c:=⟨u[j],by simp[Y]⟩
  have hcd:=tW (List.all_eq_true.1 X c (Lo S));have V:=List.all_eq_true.1 X c (Lo S);have adh:48<=c.toNat:=by unfold isD at V;simp only[Ar,Cs] at V;exact V.1
  have B:u.take (j+1)=u.take j++[c]:=by rw[List.take_add_one,S];rfl
  have W:eP (u.take (j+1))=10*eP (u.take j)+(c.toNat-48):=by rw[B,oP]
  have y:eP (u.take j)<10000:=by
   have h1:=DM (pR X j);have h2:(u.take j).length<=4:=by rw[M0];omega
   have h3:10 ^ (u.take j).length<=10 ^ 4:=L9 (by omega) h2;omega
  have R:s[H+j]? =some c:=by rw[G,QQJ,V2 (by omega)] at S;exact S
  obtain⟨v,Q⟩:=xE (eP (u.take j));obtain⟨v2,N⟩:=xE (eP (u.take (j+1)));rw[<-Q] at y W;rw[<-N] at W;obtain⟨i,hi⟩:=xE (H+j);rw[<-hi] at R;have hie:i<e:=by omega
  have o:(i:Int)<(e:Int):=by omega
  have w1:IntKind.i64.wrap (10*(v:Int))=10*(v:Int):=af;have w2:IntKind.i64.wrap (10*(v:Int)+(c.toNat:Int))=10*(v:Int)+(c.toNat:Int):=af;have w3:IntKind.i64.wrap (10*(v:Int)+(c.toNat:Int)-48)=(v2:Int):=by rw[af];omega
  have w4:IntKind.i64.wrap ((i:Int)+1)=((H+(j+1):Nat):Int):=by rw[af];omega
  have w5:IntKind.i64.wrap (c.toNat:Int)=(c.toNat:Int):=af (by omega) (by have:=c.toNat_lt;omega);rw[<-hi];refine⟨j+1,?_⟩;refine bF (show j+1<=u.length/\_ from⟨Y,by omega⟩) ?_;obtain⟨rfl,rfl⟩:=J;simp[h0,h4',o,R,<-Q,<-N,w1,w2,w3,w4,w5];try omega
def taM:List Nat->Mem
 | []=>[]
 |x::l=>[.cells true 1 (iN .i64 (x::l))]
def taO:List Nat->AV
 | []=>.kO
 |_::l=>.slice 0 0 (l.length+1) none
theorem Ex{O:afu}{K:Nat}(s:List UInt8)(hd:s.all isD=true)(I:s.length<=1000000)(hK:s.length+5<K){b J:Code}(H:ah f225=[b,J]):
  ∃F:Env->Bool->Env,∀Z d,(aa Z 0=.str s/\aa Z 3=.kO/\aa Z 4=.int .i64 (s.length:Int))->
   aO (aL prog) lQ O K 35 0 true (.loop b) ⟨Z,[],d⟩=some (.exit 0,⟨F Z d,taM (fu s),d⟩)/\aa (F Z d) 3=taO (fu s):=by
 have N:lQ b=[3,4]:=by simp[ah,aw,f225] at H;obtain⟨rfl,rfl⟩:=H;decide
 refine bG N (fun Z=>aa Z 0=.str s/\aa Z 3=.kO/\aa Z 4=.int .i64 (s.length:Int)) (fun _ Y =>aa Y 3=taO (fu s)) ?_;rintro Z d ⟨h0,h3,h4⟩;have o:au [3,4] (ae b) Z ((3,taO [])::(4,.int .i64 (s.length:Int))::Z)=au [3,4] (ae b) Z Z:=by simp[au,h3,h4,taO]
 rw[<-o];refine bZ (α:=Int×List Nat) (fun a=>⟨au [3,4] (ae b) Z ((3,taO a.2)::(4,.int .i64 a.1)::Z),taM a.2,d⟩)
  (fun a=>a.1.toNat) (fun a=> -4<=a.1/\a.1<=s.length/\a.2++fu (s.take a.1.toNat)=fu s) (.exit 0) _ d _ (by simp) ?_ K ((s.length:Int),[]) ⟨by simp only;omega,Int.le_refl _,by simp only[Int.toNat_natCast];rw[V1];rfl⟩ (by show(s.length:Int).toNat<K;omega)
 rintro ⟨z,X⟩ ⟨hz4,he,H1⟩;simp only at hz4 he H1 |-;clear o;by_cases W:z<=0
 .right
  rw[show z.toNat=0 by omega,List.take_zero,NI,List.append_nil] at H1;rw[H1];have hz:¬0<z:=by omega
  simp[ah,aw,f225] at H;obtain⟨rfl,rfl⟩:=H;simp[hz]
 .left
  obtain⟨e,rfl⟩:∃e:Nat,z=e:=⟨z.toNat,by omega⟩
  rw[Int.toNat_natCast] at H1;have U:(s.take e).length=e:=by rw[M0];omega
  have G':s.take e≠[]:=by intro h;rw[h] at U;simp at U;omega
  rw[ve G',U,List.take_take,Nat.min_eq_left (by omega)] at H1;obtain⟨Q,M⟩:=xE (e-4);rw[<-M] at H1;obtain⟨F,S⟩:=Cj (O:=O) (K:=K) (m0:=0) (taM X) s e Q hd (by omega) (by omega) (by omega) I (by omega) H;obtain⟨v,hv⟩:=xE (eP ((s.take e).drop Q));rw[<-hv] at S H1;have G:X.length<=1000000:=by have m:=(kK _ s (Es _) hd).2.2;rw[<-H1] at m;simp at m;omega
  obtain⟨V,D⟩:=xE ((e:Int)-4);have w1:IntKind.i64.wrap ((e:Int)-4)=V:=by rw[<-D];exact af
  have j:0<e:=by omega
  have R:(if 0<V then V else 0)=(Q:Int):=by split<;>omega
  have C:V.toNat=Q:=by omega
  simp[ah,aw,f225] at H;obtain⟨rfl,rfl⟩:=H;refine⟨(V,X++[v]),?_⟩;refine bS (show(-4<=V/\V<=(s.length:Int)/\(X++[v])++fu (s.take V.toNat)=fu s)/\V.toNat<(e:Int).toNat from⟨⟨by omega,by omega,by rw[S2,C];exact H1⟩,by omega⟩) ?_;cases X with
  |nil=>
   simp only[taM] at S;simp[taM,taO,j,w1,R,h0,S,cD]
  |cons y l=>
   simp only[List.length_cons] at G;have ht:(iN .i64 l).take l.length=iN .i64 l:=An (by simp);have B:(l.length+1+1)*8<=140737488355328:=by omega
   have u:l.length+1+1<=140737488355328:=by omega
   simp only[taM,cD] at S;simp[taM,taO,j,w1,R,h0,S,ht,B,u,cD,dJ]
section
variable (v:Nat)(hl:(aj v).length<=1000000)
include v hl
theorem GN:ad (aL prog) lQ (bq prog) cS ((aj v).length+6) 225 [.str (aj v)] []=
  some ⟨.slice 0 0 (dig 10000 v).length none,none,[.cells true 1 (iN .i64 (fu (aj v)))]⟩:=by
 have D:bq prog 225=some f225:=by kernel_rfl
 obtain⟨b,N,U⟩:∃b N,ah f225=[b,N]:=⟨_,_,rfl⟩
 obtain⟨F,X⟩:=Ex (O:=cS) (K:=(aj v).length+6) (aj v) (dM v) hl (by omega) U;obtain⟨C,M,B⟩:=kK _ (aj v) (Es _) (dM _);rw[dP] at M;have S:bd (fu (aj v))=dig 10000 v:=by rw[<-dW (by omega) C,M]
 have V:fu (aj v)≠[]:=by rw[ve (jC _)];simp
 obtain⟨s,y⟩:=xE (aj v);rw[<-y] at X S V B hl |-;obtain⟨K,u⟩:=xE (s.length+6);rw[<-u] at X |-;have G:(fu s).length<=4000000000000:=by omega
 obtain⟨Z,R⟩:=xE (fu s);rw[<-R] at X S V G |-;have o:taM Z=[.cells true 1 (iN .i64 Z)]:=by cases Z<;>first | exact absurd rfl V | rfl
 have m:taO Z=.slice 0 0 Z.length none:=by cases Z<;>first | exact absurd rfl V | rfl
 rw[o,m] at X;have Q:∀l,bl .i64 (.cells true 1 (iN .i64 Z)::l) (.slice 0 0 Z.length none)=some Z:=fun l=>aW rfl (by simp) (An (by simp))
 simp[ah,aw,f225] at U;obtain⟨rfl,rfl⟩:=U;simp[ad,D,f225,X,cS,cN,dh,Q,G,S]
theorem MX(M:Mem):bz prog 225 [.str (aj v)] M (.slice M.length 0 (dig 10000 v).length none) (M++[.cells true 1 (iN .i64 (dig 10000 v))]):=by
 obtain⟨V,X,R⟩:=kK _ (aj v) (Es _) (dM _);rw[dP] at X;have U:bd (fu (aj v))=dig 10000 v:=by rw[<-dW (by omega) V,X]
 have h:=(aB ak (aI _) zf (aQ _) (GN v hl)).1;simp only[afw.mem,Option.getD_none,List.nil_append] at h;have S:=bz.agu (m2:=[.cells true 1 (iN .i64 (dig 10000 v))]) h rfl (fun b s Z=>by
  match b with
  |0=>simp at Z;subst Z;exact⟨_,rfl,.row (by rw[<-U];exact dK _)⟩
  |b+1=>simp at Z)
 have h3:=bz.frame (M:=M) [] (m:=[]) (new:=[.cells true 1 (iN .i64 (dig 10000 v))]) rfl (by simp) rfl (by simp) rfl S;simpa [AV.ren,AV.afR,back] using h3
end
theorem Ei{K:Nat}(v:Nat)(hv:0<v)(hl:(dig 10000 v).length<=100000)(hK:(dig 10000 v).length<K){b:Code}(H:ah f268=[b]):
  ∃F:Env->Bool->Env,∀Z d,(aa Z 0=.slice 0 0 (dig 10000 v).length none/\aa Z 3=.str (aj (aq 10000 ((dig 10000 v).drop ((dig 10000 v).length-1))))/\aa Z 4=.int .i64 ((((dig 10000 v).length-1:Nat):Int)-1))->
   aO (aL prog) (fun _=>[3,4]) (ai an) K 34 1 true (.loop b) ⟨Z,[.cells false 1 (iN .i64 (dig 10000 v))],d⟩=some (.exit 0,⟨F Z d,[.cells false 1 (iN .i64 (dig 10000 v))],d⟩)/\aa (F Z d) 3=.str (aj v):=by
 have C:lok 10000 (dig 10000 v)=true:=cc (by omega) _;have S:aq 10000 (dig 10000 v)=v:=bN (by omega) _;have V:∀j,j<(dig 10000 v).length->0<aq 10000 ((dig 10000 v).drop j):=fun j o=>pZ (by omega) o
 have C':0<(dig 10000 v).length:=by
  rcases P1 (dig 10000 v).length with h | h
  .have:=(fh (B:=10000) (n:=v) (by omega)).1 (GT h)
   omega
  .exact h
 obtain⟨A,m⟩:=xE (dig 10000 v);rw[<-m] at hl hK C S V C' |-;refine bG rfl (fun Z=>aa Z 0=.slice 0 0 A.length none/\aa Z 3=.str (aj (aq 10000 (A.drop (A.length-1))))/\aa Z 4=.int .i64 (((A.length-1:Nat):Int)-1)) (fun _ AC =>aa AC 3=.str (aj v)) ?_;rintro Z d ⟨h0,h3,Y⟩;have hn:au [3,4] (ae b) Z ((3,.str (aj (aq 10000 (A.drop (A.length-1)))))::(4,.int .i64 (((A.length-1:Nat):Int)-1))::Z)=au [3,4] (ae b) Z Z:=by simp only[au,List.map_cons,List.map_nil,h3,Y];simp
 rw[<-hn];refine bZ (α:=Nat) (fun j=>⟨au [3,4] (ae b) Z ((3,.str (aj (aq 10000 (A.drop j))))::(4,.int .i64 ((j:Int)-1))::Z),[.cells false 1 (iN .i64 A)],d⟩)
  (fun j=>j) (fun j=>j<A.length) (.exit 0) _ d _ (by simp) ?_ K (A.length-1) (by omega) (by omega)
 intro j o;clear hn;simp[ah,aw,f268] at H;cases j with
 |zero=>
  right;subst H;simp[S]
 |succ j=>
  left;obtain⟨x,hx,W⟩:=dp (l:=A) (i:=j) (by omega);have R:=eK C hx;have e1:(((j+1:Nat):Int)-1)=(j:Int):=by omega
  have X:aj (aq 10000 (A.drop j))=aj (aq 10000 (A.drop (j+1)))++(aj (10000+x)).drop 1:=by rw[oI hx];have Q:=AZ (w:=4) (by omega) R (V (j+1) o);have D:=UI (w:=4) (x:=x) (by omega) R;rw[show 10 ^ 4=10000 from rfl] at Q D;rw[D,Q]
  have J:(aj (aq 10000 (A.drop (j+1)))).length<=400000:=by
   have Q:=gN (jw C (j+1));have D:(10000:Nat) ^ (A.drop (j+1)).length=10 ^ (4*(A.drop (j+1)).length):=by rw[Nat.pow_mul]
   rw[D] at Q;have h3:0<4*(A.drop (j+1)).length:=by simp;omega
   have Y:=ba h3 Q;simp at Y;omega
  obtain⟨t,ht⟩:=xE (aj (aq 10000 (A.drop (j+1))));obtain⟨t2,O⟩:=xE (aj (aq 10000 (A.drop j)));rw[<-ht] at X J;rw[<-O] at X;obtain⟨y,hy⟩:=xE (α:=Nat) (10000+x);rw[<-hy] at X;have w1:IntKind.i64.wrap (10000+(x:Int))=(y:Int):=by rw[af];omega
  have w2:IntKind.i64.wrap ((j:Int)-1)=(j:Int)-1:=af;have hf:ef (y:Int)=true:=by unfold ef;simp;omega
  have N:bH (y:Int)=aj y:=rfl;have I:=ba (u:=y) (k:=5) (by omega) (by omega);have hy1:1<=(aj y).length:=mZ y;obtain⟨u,hu⟩:=xE (aj y);rw[<-hu] at X N I hy1;have aeU:(1:Int)<=(u.length:Int):=by omega
  have M:(u.drop 1).take (u.length-1)=u.drop 1:=An (by simp);have hmx:t.length+(u.length-1)<=ft:=by unfold ft;omega
  have G:j<A.length:=by omega
  have hjI:(j:Int)<(A.length:Int):=by omega
  obtain⟨u1,U⟩:=xE (u.drop 1);rw[<-U] at X M;have aeV:u1.length=u.length-1:=by rw[U];simp
  have aeW:t.length+u1.length<=ft:=by rw[aeV];exact hmx
  rw[e1];refine⟨j,?_⟩;refine bF (show j<A.length/\_ from⟨G,Nat.lt_succ_self j⟩) ?_;subst H;simp[h0,hjI,G,W,w1,ai,an,hf,N,aeU,<-U,M,<-ht,<-O,aeW,<-X,w2]
theorem Dj{v:Nat}(H:0<v)(mn:Bool):ei mn v=if mn then 45::aj v else aj v:=by unfold ei;rw[if_neg (by omega)]
theorem ahp:bq prog 268=some f268:=by kernel_rfl
theorem GA(v:Nat)(I:0<v)(H:(dig 10000 v).length<=100000):ad (aL prog) (fun _=>[3,4]) (bq prog) (ai an) ((dig 10000 v).length+1) 268 [.slice 0 0 (dig 10000 v).length none] [.cells false 1 (iN .i64 (dig 10000 v))]=
  some ⟨.str (aj v),none,[]⟩:=by
 obtain⟨b,V⟩:∃b,ah f268=[b]:=⟨_,rfl⟩
 obtain⟨F,X⟩:=Ei (K:=(dig 10000 v).length+1) v I H (by omega) V;have M:lok 10000 (dig 10000 v)=true:=cc (by omega) _;have G:0<(dig 10000 v).length:=by
  rcases P1 (dig 10000 v).length with h | h
  .have:=(fh (B:=10000) (n:=v) (by omega)).1 (GT h)
   omega
  .exact h
 obtain⟨A,Z⟩:=xE (dig 10000 v);rw[<-Z] at H M G X |-;obtain⟨n,U⟩:∃n,A.length=n+1:=⟨A.length-1,by omega⟩
 obtain⟨x,S,D⟩:=dp (l:=A) (i:=n) (by omega);have C:=eK M S;have R:aj (aq 10000 (A.drop (A.length-1)))=aj x:=by rw[U,show n+1-1=n by omega,oI S,M6 (by omega)];simp[aq]
 have w1:IntKind.i64.wrap (n:Int)=(n:Int):=af;have w2:IntKind.i64.wrap ((n:Int)+1-1)=(n:Int):=by rw[af];omega
 have w3:IntKind.i64.wrap ((n:Int)+1-2)=(n:Int)-1:=by rw[af];omega
 have y:ef (x:Int)=true:=by unfold ef;simp;omega
 have Q:bH (x:Int)=aj x:=rfl;rw[R,U,show n+1-1=n by omega] at X;rw[U];have u:n<A.length:=by omega
 have O:(n:Int)<(n:Int)+1:=by omega
 obtain⟨K,o⟩:=xE (n+1+1);rw[<-o] at X |-;have N:¬((n:Int)+1=0):=by omega
 clear Z;simp[ah,aw,f268] at V;subst V;simp[ad,ahp,f268,N,w1,w3,O,S,ai,an,y,Q,X]
theorem Ej:ad (aL prog) (fun _=>[]) (bq prog) bC 1 268 [.slice 0 0 0 none] [.cells false 1 []]=some ⟨.str [48],none,[]⟩:=by simp[ad,ahp,f268]
theorem FT(M:Mem):bz prog 268 [.kO] M (.str [48]) M:=by refine az (ar _) ?_ M;simp[ad,ahp,f268]
variable{A:List Nat}{M:Mem}{x:AV}
theorem Mz(H:lok 10000 A=true)(tA:bd A=A)(I:A.length<=100000)(hx:afO .i64 M x A):bz prog 268 [x] M (.str (aj (aq 10000 A))) M:=by
 have e:=mV (by omega) H tA;have small:bz prog 268 [.slice 0 0 A.length none] [.cells false 1 (iN .i64 A)] (.str (aj (aq 10000 A))) ([.cells false 1 (iN .i64 A)]++[]):=by
  by_cases Z:aq 10000 A=0
  .have X:A=[]:=by rw[Z,dX] at e;exact e.symm
   subst X;have:=(aB ak (aI _) (ar _) (aQ _) Ej).1;simpa [afw.mem,aq,iI] using this
  .have h:=GA (aq 10000 A) (by omega) (by rw[e];exact I)
   rw[e] at h;have:=(aB ak (aI _) ep (aQ _) h).1;simpa [afw.mem] using this
 rw[List.append_nil] at small;obtain⟨b,rfl,h⟩:=bz.ag2 (new:=[]) (rest:=[]) rfl rfl small hx;simpa [AV.ren,back] using h
noncomputable def bR:afu:=fun c Z M=>match c,Z with
 |.fn 225,[.str s]=>match xF s with
  |some v=>if (aj v).length<=1000000 then some ⟨.slice M.length 0 (dig 10000 v).length none,none,[.cells true 1 (iN .i64 (dig 10000 v))]⟩ else none
  |none=>none
 |.fn 268,[.kO]=>some ⟨.str [48],none,[]⟩
 |.fn 268,[x]=>match bl .i64 M x with
  |some A=>if lok 10000 A=true/\bd A=A/\A.length<=100000 then some ⟨.str (aj (aq 10000 A)),none,[]⟩ else none
  |none=>none
 |c,Z=>cS c Z M
theorem kF:afs prog bR:=by
 refine cG fun c X M r h=>?_
 unfold bR at h;split at h
 .split at h
  .rename_i v V
   split at h
   .rename_i U
    cases h;rw[gB V];exact aA (MX v U M)
   .cases h
  .cases h
 .cases h
  refine aA ?_;rw[List.append_nil];exact FT M
 .split at h
  .rename_i S
   split at h
   .rename_i Z
    cases h;refine aA ?_;rw[List.append_nil];exact Mz Z.1 Z.2.1 Z.2.2 (br S)
   .cases h
  .cases h
 .exact ee zf h
theorem FX(mn:Bool)(M:Mem):bz prog 226 [.bool mn,.kO] M (.str [48]) M:=by
 have Z:bq prog 226=some f226:=by kernel_rfl
 refine az kF ?_ M;cases mn<;>simp[ad,Z,f226,bR,cS,cN,dh]
theorem MJ(mn:Bool)(H:lok 10000 A=true)(tA:bd A=A)(I:A.length<=100000)(hx:afO .i64 M x A):bz prog 226 [.bool mn,x] M (.str (ei mn (aq 10000 A))) M:=by
 have V:bq prog 226=some f226:=by kernel_rfl
 obtain⟨b,o,j,rfl,Q,N⟩:=hx;have K:=gL Q;have Z:∀l,bl .i64 (.cells false 1 (iN .i64 A)::l) (.slice 0 0 A.length none)=some A:=fun l=>aW rfl (by simp) (An (by simp))
 have X:A.length<=4000000000000:=by omega
 have small:ad (aL prog) (fun _=>[]) (bq prog) bR 1 226 [.bool mn,.slice 0 0 A.length none] [.cells false 1 (iN .i64 A)]=some ⟨.str (ei mn (aq 10000 A)),none,[]⟩:=by
  by_cases U:aq 10000 A=0
  .have G:A=[]:=by have e:=mV (by omega) H tA;rw[U,dX] at e;exact e.symm
   subst G;have F:aj 0=[48]:=iI;have D:lok 10000 []=true:=rfl;have C:bd []=[]:=rfl;have B:aq 10000 []=0:=rfl;have S :∀l,bl .i64 (.cells false 1 []::l) (.slice 0 0 0 none)=some []:=Z
   cases mn<;>simp[ad,V,f226,bR,cS,cN,dh,S,D,C,B,F,ei]
  .have y:0<A.length:=by
    rcases P1 A.length with h | h
    .rw[GT h] at U;exact absurd rfl U
    .exact h
   rw[Dj (by omega)];have R:1+(aj (aq 10000 A)).length<=ft:=by
    have O:=gN H;have u:(10000:Nat) ^ A.length=10 ^ (4*A.length):=by rw[Nat.pow_mul]
    rw[u] at O;have Y:=ba (by omega) O;unfold ft;omega
   cases mn with
   |false=>simp[ad,V,f226,bR,cS,cN,dh,Z,H,tA,I,X]
   |true=>simp[ad,V,f226,bR,cS,cN,dh,Z,H,tA,I,X,y,R]
 have h:=(aB ak (aI _) kF (aQ _) small).1;have:=bz.frame (M:=M) (args:=[.bool mn,.slice 0 0 A.length none]) [b] (m:=[.cells false 1 (iN .i64 A)]) (new:=[]) rfl (by simpa using K) (by simp) (fun i s Z=>by
  cases i with
  |zero=>simp at Z;subst Z;exact .row Q N
  |succ i=>simp at Z) rfl (by simpa [afw.mem] using h)
 simpa [AV.afR,AV.ren,back] using this
def jb(c:Code):List Nat:=if (ae c).contains 8 then [7,8] else [9,10]
variable{k:IntKind}
theorem Oj{s:afz}{b n:Nat}(h:bl k M (.slice b 0 n none)=some A):bl k (M++[s]) (.slice b 0 n none)=some A:=by obtain⟨V,o,U,e,X,Z⟩:=br h;cases e;refine aW (gU X _) ?_ Z;have:=congrArg List.length Z;simp at this;omega
theorem Oi:bl k (M++[.cells true 1 (iN k A)]) (.slice M.length 0 A.length none)=some A:=
 aW (ow:=true) (by simp) (by simp) (An (by simp))
variable{c c2:Code}
theorem qv{K:Nat}(mem:Mem)(B:List Nat)(R p:Nat)(b:Nat)(T':0<b)(Y:B=dig 10000 b)(hR:R<10000*b)(hl:(dig 10000 R).length<=100000)(Z':B.length<=100000)(I:bl .i64 mem (.slice p 0 (dig 10000 R).length none)=some (dig 10000 R))(J:bl .i64 mem (.slice 1 0 B.length none)=some B)(W:(mem.all fun s=>(s.refs mem.length).isEmpty)=true)(hK:10000<K)(H:ah f232=[c,c2]):
  ∃F:Env->Bool->Env,∀Z d,(aa Z 1=.slice 1 0 B.length none/\aa Z 7=.slice p 0 (dig 10000 R).length none/\aa Z 9=.int .i64 0/\aa Z 10=.int .i64 9999)->
   aO (aL prog) jb bR K 58 2 true (.loop c2) ⟨Z,mem,d⟩=some (.exit 2,⟨F Z d,mem,d⟩)/\
   (aa (F Z d) 9=.int .i64 ((R / b:Nat):Int)/\∀t,t∈[0,1,6,7,8]->aa (F Z d) t=aa Z t):=by
 have j:jb c2=[9,10]:=by simp[ah,aw,f232] at H;obtain⟨rfl,rfl⟩:=H;decide
 have ht:R / b<=9999:=by have:=(Nat.div_lt_iff_lt_mul T').2 (show R<10000*b from hR);omega
 have Q :∀m,R<m*b↔R / b<m:=fun m=>by rw[Nat.div_lt_iff_lt_mul T']
 generalize R / b=t at ht Q |-;refine bG j (fun Z=>aa Z 1=.slice 1 0 B.length none/\aa Z 7=.slice p 0 (dig 10000 R).length none/\aa Z 9=.int .i64 0/\aa Z 10=.int .i64 9999)
  (fun Z AC =>aa AC 9=.int .i64 (t:Int)/\∀t,t∈[0,1,6,7,8]->aa AC t=aa Z t) ?_
 rintro Z d ⟨h1,h7,h9,h10⟩;have hn:au [9,10] (ae c2) Z ((9,.int .i64 ((0:Nat):Int))::(10,.int .i64 ((9999:Nat):Int))::Z)=au [9,10] (ae c2) Z Z:=by simp[au,h9,h10]
 rw[<-hn];refine bZ (α:=Nat×Nat) (fun a=>⟨au [9,10] (ae c2) Z ((9,.int .i64 (a.1:Int))::(10,.int .i64 (a.2:Int))::Z),mem,d⟩)
  (fun a=>a.2-a.1) (fun a=>a.1<=t/\t<=a.2/\a.2<=9999) (.exit 2) _ d _ (by simp) ?_ K (0,9999) ⟨Nat.zero_le _,ht,Es _⟩ (by show 9999-0<K;omega)
 rintro ⟨V,U⟩ ⟨i1,i2,i3⟩;simp only at i1 i2 i3 |-;clear hn;by_cases hlh:V<U
 .left
  obtain⟨m,hm⟩:=xE ((V+U+1) / 2);have S:(V:Int)<(U:Int):=by omega
  have w1:IntKind.i64.wrap ((V:Int)+(U:Int))=(V:Int)+(U:Int):=af;have w2:IntKind.i64.wrap ((V:Int)+(U:Int)+1)=((V+U+1:Nat):Int):=by rw[af];omega
  have w3:IntKind.i64.wrap ((((V+U+1:Nat):Int)).tdiv 2)=(m:Int):=by rw[HE,<-hm];exact af
  obtain⟨s1,hs1⟩:=xE (V+U+1);rw[<-hs1] at w2 w3 hm;have O :IntKind.i64.wrap ((s1:Int) / 2)=(m:Int):=by rw[af];omega
  have oB:lok 10000 B=true:=by rw[Y];exact cc (by omega) _
  have vB:aq 10000 B=b:=by rw[Y];exact bN (by omega) _
  have tB:bd B=B:=by rw[Y];exact cB (by omega) _
  have nB:B≠[]:=by rw[Y,ne_eq,fh (by omega)];omega
  have oR:lok 10000 (dig 10000 R)=true:=cc (by omega) _;have vR:aq 10000 (dig 10000 R)=R:=bN (by omega) _;have tR:bd (dig 10000 R)=dig 10000 R:=cB (by omega) _;obtain⟨D,N⟩:=xE (dig 10000 (m*b));have oD:lok 10000 D=true:=by rw[N];exact cc (by omega) _
  have vD:aq 10000 D=m*b:=by rw[N];exact bN (by omega) _
  have tD:bd D=D:=by rw[N];exact cB (by omega) _
  have G:((m:Int)*(b:Int)).toNat=m*b:=by rw[<-Int.natCast_mul,Int.toNat_natCast]
  have C:0<=(m:Int)*(b:Int):=by rw[<-Int.natCast_mul];exact Int.natCast_nonneg _
  have mB:m<=10000:=by omega
  have lB:B.length<=1000000:=by omega
  have lR:(dig 10000 R).length<=1000000000:=by omega
  obtain⟨X,hX⟩:=xE (dig 10000 R);rw[<-hX] at I oR vR tR lR h7;have p1:∀s,bl .i64 (mem++[s]) (.slice p 0 X.length none)=some X:=fun s=>Oj I
  have p2:bl .i64 (mem++[.cells true 1 (iN .i64 D)]) (.slice mem.length 0 D.length none)=some D:=Oi;have y:=Q m;have u:¬mem.length+1<=mem.length:=by omega
  simp[ah,aw,f232] at H;obtain⟨rfl,rfl⟩:=H;by_cases o:R<m*b
  .have w4:IntKind.i64.wrap ((m:Int)-1)=((m-1:Nat):Int):=by rw[af];omega
   refine⟨(V,m-1),?_⟩;refine bS (show(V<=t/\t<=m-1/\m-1<=9999)/\m-1-V<U-V from⟨⟨i1,by have:=y.1 o;omega,by omega⟩,by omega⟩) ?_;simp[h1,h7,S,w1,w2,O,bR,cS,cN,dh,J,nB,oB,vB,mB,lB,C,G,<-N,p1,p2,oR,oD,lR,tR,tD,vR,vD,o,w4,-List.all_eq_true,-afz.refs,W,u]
  .skip
   refine⟨(m,U),?_⟩;refine bS (show(m<=t/\t<=U/\U<=9999)/\U-m<U-V from⟨⟨by have:¬t<m:=fun e=>o (y.2 e);omega,i2,i3⟩,by omega⟩) ?_;simp[h1,h7,S,w1,w2,O,bR,cS,cN,dh,J,nB,oB,vB,mB,lB,C,G,<-N,p1,p2,oR,oD,lR,tR,tD,vR,vD,o,-List.all_eq_true,-afz.refs,W,u]
 .right
  have e:V=t:=by omega
  have S:¬(V:Int)<(U:Int):=by omega
  simp[ah,aw,f232] at H;obtain⟨rfl,rfl⟩:=H;subst e;simp[hlh]
def paM(A B:List Nat)(b j:Nat):Mem:=
 if j=A.length then [.cells false 1 (iN .i64 A),.cells false 1 (iN .i64 B),.cells true 1 (iN .i64 (List.replicate A.length 0))]
 else [.cells false 1 (iN .i64 A),.cells false 1 (iN .i64 B),.cells true 1 (iN .i64 (List.replicate j 0++(fZ 10000 b (A.drop j)).1)),.cells true 1 (iN .i64 (dig 10000 (fZ 10000 b (A.drop j)).2))]
def paR(A:List Nat)(b j:Nat):AV:=if j=A.length then .kO else .slice 3 0 (dig 10000 (fZ 10000 b (A.drop j)).2).length none
theorem qw{K:Nat}(A B:List Nat)(b:Nat)(T':0<b)(I:B=dig 10000 b)(hA:lok 10000 A=true)(hl:A.length<=50000)(Z':B.length<=50000)(hK:100000<K)(H:ah f232=[c,c2]):
  ∃F:Env->Bool->Env,∀V d,(aa V 0=.slice 0 0 A.length none/\aa V 1=.slice 1 0 B.length none/\aa V 6=.slice 2 0 A.length none/\aa V 7=.kO/\aa V 8=.int .i64 ((A.length:Int)-1))->
   aO (aL prog) jb bR K 58 2 true (.loop c) ⟨V,paM A B b A.length,d⟩=some (.exit 0,⟨F V d,paM A B b 0,d⟩)/\
   (aa (F V d) 7=paR A b 0/\aa (F V d) 6=.slice 2 0 A.length none):=by
 have hlv:jb c=[7,8]:=by simp[ah,aw,f232] at H;obtain⟨rfl,rfl⟩:=H;decide
 refine bG hlv (fun V=>aa V 0=.slice 0 0 A.length none/\aa V 1=.slice 1 0 B.length none/\aa V 6=.slice 2 0 A.length none/\aa V 7=.kO/\aa V 8=.int .i64 ((A.length:Int)-1))
  (fun _ AC =>aa AC 7=paR A b 0/\aa AC 6=.slice 2 0 A.length none) ?_
 rintro V d ⟨h0,h1,h6,h7,h8⟩;have hn:au [7,8] (ae c) V ((7,paR A b A.length)::(8,.int .i64 ((A.length:Int)-1))::V)=au [7,8] (ae c) V V:=by simp[au,h7,h8,paR]
 have acH:(paM A B b A.length).length=3:=by unfold paM;rw[if_pos rfl];rfl
 rw[<-hn,acH];refine bZ (α:=Nat) (fun j=>⟨au [7,8] (ae c) V ((7,paR A b j)::(8,.int .i64 ((j:Int)-1))::V),paM A B b j,d⟩)
  (fun j=>j) (fun j=>j<=A.length) (.exit 0) _ d _ (by simp) ?_ K A.length (Es _) (by show A.length<K;omega)
 intro j hj;clear hn acH;cases j with
 |zero=>
  right;simp[ah,aw,f232] at H;obtain⟨rfl,rfl⟩:=H;simp[h6]
 |succ j=>
  left;have C:j<A.length:=by omega
  obtain⟨x,hx,W⟩:=dp C;have hxb:=eK hA hx;have eA:A.drop j=x::A.drop (j+1):=by rw[LU C,W]
  obtain⟨i1,i2,i3,i4⟩:=jf T' (A.drop (j+1)) (jw hA (j+1));obtain⟨r,hr⟩:=xE ((fZ 10000 b (A.drop (j+1))).2);obtain⟨Q,hQ⟩:=xE ((fZ 10000 b (A.drop (j+1))).1);rw[<-hr] at i1;rw[<-hQ] at i4;obtain⟨R,hR⟩:=xE (r*10000+x);have J:fZ 10000 b (A.drop j)=(R / b::Q,R%b):=by rw[eA,hR,hr,hQ];rfl
  have hRb:R<10000*b:=by have:(r+1)*10000<=b*10000:=QQe _ i1;omega
  have y:bd (x::dig 10000 r)=dig 10000 R:=by rw[Hd (by omega) hxb,hR];congr 1;omega
  have hlR:(dig 10000 R).length<=100000:=by
   have h2:(dig 10000 b).length<=50000:=by rw[<-I];exact Z'
   have h3:=sR (B:=10000) (by omega) b;have h4:R<10000 ^ ((dig 10000 b).length+1):=by rw[Nat.pow_succ];omega
   have h5:=fm (B:=10000) (by omega) h4;omega
  have hlr:(dig 10000 r).length<=100000:=by have:=lY (B:=10000) (a:=r) (b:=b) (by omega) (by omega);rw[<-I] at this;omega
  have hqb:R / b<=9999:=by have:=(Nat.div_lt_iff_lt_mul T').2 (show R<10000*b from hRb);omega
  have hmd:=Nat.div_add_mod R b;obtain⟨q,hq⟩:=xE (R / b);obtain⟨r2,hr2⟩:=xE (R%b);rw[<-hq,<-hr2] at J hmd;rw[<-hq] at hqb;have hQl:Q.length=A.length-(j+1):=by rw[i4,QQh]
  have e1:(((j+1:Nat):Int)-1)=(j:Int):=by omega
  have w1:IntKind.i64.wrap ((j:Int)-1)=(j:Int)-1:=af;have w2:IntKind.i64.wrap (-(q:Int))= -(q:Int):=af;have hjI:(j:Int)<(A.length:Int):=by omega
  have hj1:j+1<=A.length:=by omega
  have hM2:paM A B b j=[.cells false 1 (iN .i64 A),.cells false 1 (iN .i64 B),.cells true 1 (iN .i64 (List.replicate j 0++q::Q)),.cells true 1 (iN .i64 (dig 10000 r2))]:=by unfold paM;rw[if_neg (by omega),J]
  have hR2:paR A b j=.slice 3 0 (dig 10000 r2).length none:=by unfold paR;rw[if_neg (by omega),J]
  have oB:lok 10000 B=true:=by rw[I];exact cc (by omega) _
  have vB:aq 10000 B=b:=by rw[I];exact bN (by omega) _
  have nB:B≠[]:=by rw[I,ne_eq,fh (by omega)];omega
  have oR:lok 10000 (dig 10000 R)=true:=cc (by omega) _;have vR:aq 10000 (dig 10000 R)=R:=bN (by omega) _;obtain⟨X,D⟩:=xE (dig 10000 R);obtain⟨Y,hY⟩:=xE (dig 10000 r);obtain⟨Z,hZ⟩:=xE (dig 10000 r2);have aas:X.length<=Y.length+1/\(x::Y).take X.length=X:=by rw[D,hY,<-y];exact⟨by have:=dw (x::dig 10000 r);simpa using this,lF _⟩
  have ad7:(AV.int .i64 (x:Int)::iN .i64 Y).take X.length=iN .i64 X:=by have:=iA .i64 (x::Y) X.length;rw[aas.2] at this;exact this
  have acI:(0:Int)<=(R:Int)+ -(q:Int)*(b:Int):=by
   rw[Int.neg_mul];have:((b*q:Nat):Int)=(q:Int)*(b:Int):=by rw[Int.natCast_mul,Int.mul_comm]
   rw[<-this];omega
  have aaE:((R:Int)+ -(q:Int)*(b:Int)).toNat=r2:=by
   rw[Int.neg_mul];have:((b*q:Nat):Int)=(q:Int)*(b:Int):=by rw[Int.natCast_mul,Int.mul_comm]
   rw[<-this];omega
  have q1:q<=10000:=by omega
  have lX:X.length<=1000000:=by rw[D];omega
  have lB:B.length<=1000000:=by omega
  rw[<-D] at hlR oR vR;rw[<-hY,<-D] at y;refine⟨j,?_⟩;refine bF (show j<=A.length/\_ from⟨by omega,Nat.lt_succ_self j⟩) ?_;rw[hM2,hR2,<-hZ,e1];have hl3:B.length<=100000:=by omega
  have abi:((List.replicate (j+1) 0++Q).take j++q::(List.replicate (j+1) 0++Q).drop (j+1))=List.replicate j 0++q::Q:=by rw[QXY (by simp),List.take_replicate,Nat.min_eq_left (by omega),List.drop_append,M6 (by simp)];simp
  obtain⟨L1,u⟩:=xE (List.replicate (j+1) 0++Q);obtain⟨L2,hL2⟩:=xE (List.replicate j 0++q::Q);have ad8:L1.length=A.length:=by rw[u];simp[hQl];omega
  have hjL:j+1<=L1.length:=by omega
  rw[<-u,<-hL2] at abi;have hup:(iN .i64 L1).take j++.int .i64 (q:Int)::(iN .i64 L1).drop (j+1)=iN .i64 L2:=by rw[Ul _ _ _ _ (by omega),abi]
  rw[<-hL2];have o:∀(U:afz) l,bl .i64 (U::.cells false 1 (iN .i64 B)::l) (.slice 1 0 B.length none)=some B:=fun U l=>aW rfl (by simp) (An (by simp))
  have hYl:Y.length<=100000:=by rw[hY];exact hlr
  have hcl:Y.length+1<=4000000000000:=by omega
  have htY:(iN .i64 Y).take Y.length=iN .i64 Y:=An (by simp);by_cases S:j+1=A.length
  .have hr0:r=0:=by rw[hr,S,List.drop_length];rfl
   have hQ0:Q=[]:=by rw[hQ,S,List.drop_length];rfl
   have hY0:Y=[]:=by rw[hY,hr0,dX]
   have hM1:paM A B b (j+1)=[.cells false 1 (iN .i64 A),.cells false 1 (iN .i64 B),.cells true 1 (iN .i64 L1)]:=by unfold paM;rw[if_pos S,u,hQ0,List.append_nil,S]
   have hR1:paR A b (j+1)=.kO:=by unfold paR;rw[if_pos S]
   rw[hM1,hR1];subst hY0;have p4:∀(U O N G:afz) l,bl .i64 (U::O::N::G::.cells true 1 [.int .i64 (x:Int)]::l) (.slice 4 0 X.length none)=some X:=fun U O N G l=>aW rfl (by simpa using aas.1) ad7
   have p4c:∀(U O N G:afz) l,bl .i64 (U::O::N::G::.cells true 1 [.int .i64 (x:Int)]::l) (.slice 4 0 1 none)=some [x]:=fun U O N G l=>aW (A:=[x]) rfl (by simp) rfl
   obtain⟨F,hF⟩:=qv (K:=K) [.cells false 1 (iN .i64 A),.cells false 1 (iN .i64 B),.cells true 1 (iN .i64 L1),.y9,.cells true 1 [.int .i64 (x:Int)]] B R 4 b T' I hRb (by rw[<-D];exact hlR) hl3 (by rw[<-D];exact p4 _ _ _ _ _) (o _ _) (by simp) (by omega) H;rw[<-D,<-hq] at hF;simp[ah,aw,f232] at H;obtain⟨rfl,rfl⟩:=H;simp[h0,h1,h6,hjI,C,W,bR,cS,cN,dh,p4c,y,hF,ad8,hj1,hup,p4,o,nB,oR,oB,vR,vB,q1,lX,lB,w2,acI,aaE,<-hZ,w1]
  .have hM1:paM A B b (j+1)=[.cells false 1 (iN .i64 A),.cells false 1 (iN .i64 B),.cells true 1 (iN .i64 L1),.cells true 1 (iN .i64 Y)]:=by unfold paM;rw[if_neg S,<-hr,<-hQ,<-hY,<-u]
   have hR1:paR A b (j+1)=.slice 3 0 Y.length none:=by unfold paR;rw[if_neg S,<-hr,<-hY]
   rw[hM1,hR1];have p5:∀(U O N G m:afz) l,bl .i64 (U::O::N::G::m::.cells true 1 (.int .i64 (x:Int)::iN .i64 Y)::l) (.slice 5 0 X.length none)=some X:=fun U O N G m l=>aW rfl (by simpa using aas.1) ad7
   have p5c:∀(U O N G m:afz) l,bl .i64 (U::O::N::G::m::.cells true 1 (.int .i64 (x:Int)::iN .i64 Y)::l) (.slice 5 0 (Y.length+1) none)=some (x::Y):=fun U O N G m l=>aW (A:=x::Y) rfl (by simp) (by rw[cD];exact An (by simp))
   have p5d:∀(U O N G m:afz) l,bl .i64 (U::O::N::G::m::.cells true 1 (.int .i64 (x:Int)::iN .i64 Y)::l) (.slice 5 0 (1+Y.length) none)=some (x::Y):=fun U O N G m l=>by rw[QXX];exact p5c U O N G m l
   obtain⟨F,hF⟩:=qv (K:=K) [.cells false 1 (iN .i64 A),.cells false 1 (iN .i64 B),.cells true 1 (iN .i64 L1),.cells true 1 (iN .i64 Y),.y9,.cells true 1 (.int .i64 (x:Int)::iN .i64 Y)] B R 5 b T' I hRb (by rw[<-D];exact hlR) hl3 (by rw[<-D];exact p5 _ _ _ _ _ _) (o _ _) (by simp[AV.afN]) (by omega) H;rw[<-D,<-hq] at hF;have hm1:(1+Y.length)*8<=140737488355328:=by omega
   have hm2:1+Y.length<=140737488355328:=by omega
   simp[ah,aw,f232] at H;obtain⟨rfl,rfl⟩:=H;simp[h0,h1,h6,hjI,C,W,bR,cS,cN,dh,htY,hm1,hm2,p5d,hcl,y,hF,ad8,hj1,hup,p5,o,nB,oR,oB,vR,vB,q1,lX,lB,w2,acI,aaE,<-hZ,w1]
theorem Ll{b:Nat}(H:0<b)(I:lok 10000 A=true):aq 10000 (fZ 10000 b A).1=aq 10000 A / b/\(fZ 10000 b A).2=aq 10000 A%b:=by obtain⟨Z,X,V,U⟩:=jf H A I;have h:=Nat.div_mod_unique H (a:=aq 10000 A) (c:=(fZ 10000 b A).2) (d:=aq 10000 (fZ 10000 b A).1);have:=h.2 ⟨by rw[SP,QXX];exact X,Z⟩;exact⟨this.1.symm,this.2.symm⟩
theorem aac:List.idxOf? 2 [2,3]=some 0:=rfl
theorem aad:List.idxOf? 3 [2,3]=some 1:=rfl
theorem Ep(A B:List Nat)(b:Nat)(H:0<b)(J:B=dig 10000 b)(I:lok 10000 A=true)(W:A.length<=50000)(Y:B.length<=50000)(G':A≠[]):
  ad (aL prog) jb (bq prog) bR 100001 232 [.slice 0 0 A.length none,.slice 1 0 B.length none] [.cells false 1 (iN .i64 A),.cells false 1 (iN .i64 B)]=
   some ⟨.tuple [.slice 2 0 (dig 10000 (aq 10000 A / b)).length none,.slice 3 0 (dig 10000 (aq 10000 A%b)).length none],none,[.cells true 1 (iN .i64 (fZ 10000 b A).1),.cells true 1 (iN .i64 (dig 10000 (aq 10000 A%b)))]⟩:=by
 have o:bq prog 232=some f232:=by kernel_rfl
 obtain⟨c,c2,X⟩:∃c c2,ah f232=[c,c2]:=⟨_,_,rfl⟩
 obtain⟨F,V⟩:=qw (K:=100001) A B b H J I W Y (by omega) X;obtain⟨i1,i2,m,G⟩:=jf H A I;obtain⟨j,D⟩:=Ll H I;have hp:0<A.length:=List.length_pos_iff.2 G';have U:paM A B b 0=[.cells false 1 (iN .i64 A),.cells false 1 (iN .i64 B),.cells true 1 (iN .i64 (fZ 10000 b A).1),.cells true 1 (iN .i64 (dig 10000 (aq 10000 A%b)))]:=by unfold paM;rw[if_neg (by omega),List.drop_zero,D];rfl
 have S:paM A B b A.length=[.cells false 1 (iN .i64 A),.cells false 1 (iN .i64 B),.cells true 1 (iN .i64 (List.replicate A.length 0))]:=by unfold paM;rw[if_pos rfl]
 have O:paR A b 0=.slice 3 0 (dig 10000 (aq 10000 A%b)).length none:=by unfold paR;rw[if_neg (by omega),List.drop_zero,D]
 rw[U,S,O] at V;have Z:bd (fZ 10000 b A).1=dig 10000 (aq 10000 A / b):=by rw[<-j,dW (by omega) m]
 obtain⟨Q,hQ⟩:=xE ((fZ 10000 b A).1);obtain⟨R,C⟩:=xE (dig 10000 (aq 10000 A%b));rw[<-hQ,<-C] at V;rw[<-hQ] at Z G;rw[<-hQ,<-C];have N:Q.length<=4000000000000:=by omega
 have hs:∀(y u:afz) l,bl .i64 (y::u::.cells true 1 (iN .i64 Q)::l) (.slice 2 0 A.length none)=some Q:=fun y u l=>by rw[<-G];exact aW rfl (by simp) (An (by simp))
 obtain⟨n,hn⟩:=xE A.length;have w1:IntKind.i64.wrap ((A.length:Int)-1)=(A.length:Int)-1:=af;have h8:8*(A.length:Int)<=281474976710656:=by omega
 have h9:(A.length:Int)<=281474976710656:=by omega
 simp[ah,aw,f232] at X;obtain⟨rfl,rfl⟩:=X;simp[ad,o,f232,w1,h8,h9,rW,V,bR,cS,cN,dh,hs,N,Z,aac,aad]
theorem BW(B:List Nat)(b:Nat)(H:0<b)(I:B=dig 10000 b)(J:B.length<=50000):
  ad (aL prog) jb (bq prog) bR 100001 232 [.slice 0 0 0 none,.slice 1 0 B.length none] [.cells false 1 [],.cells false 1 (iN .i64 B)]=
   some ⟨.tuple [.slice 2 0 0 none,.kO],none,[.cells true 1 []]⟩:=by
 have Q:bq prog 232=some f232:=by kernel_rfl
 obtain⟨c,c2,Z⟩:∃c c2,ah f232=[c,c2]:=⟨_,_,rfl⟩
 obtain⟨F,X⟩:=qw (K:=100001) [] B b H I rfl (by simp) J (by omega) Z;have V:∀j,j=0->paM [] B b j=[.cells false 1 [],.cells false 1 (iN .i64 B),.cells true 1 []]:=fun j O=>by subst O;rfl
 have U:paR [] b 0=.kO:=rfl;rw[List.length_nil,V 0 rfl,U] at X;have w1:IntKind.i64.wrap (-1)= -1:=rfl;have N:∀(S R:afz) l,bl .i64 (S::R::.cells true 1 []::l) (.slice 2 0 0 none)=some []:=fun S R l=>aW (A:=[]) rfl (by simp) rfl
 have G:bd []=[]:=rfl;simp[ah,aw,f232] at Z;obtain⟨rfl,rfl⟩:=Z;simp at X;simp[ad,Q,f232,w1,X,bR,cS,cN,dh,N,G]
variable{B:List Nat}{y:AV}
theorem H7(hx:afO .i64 M x A)(J:afO .i64 M y B)(H:0<aq 10000 B)(I:lok 10000 A=true)(W:lok 10000 B=true)(Y:bd B=B)(hl:A.length<=50000)(Z':B.length<=50000)(G':A≠[]):
  bz prog 232 [x,y] M (.tuple [.slice M.length 0 (dig 10000 (aq 10000 A / aq 10000 B)).length none,.slice (M.length+1) 0 (dig 10000 (aq 10000 A%aq 10000 B)).length none])
   (M++[.cells true 1 (iN .i64 (dig 10000 (aq 10000 A / aq 10000 B))),.cells true 1 (iN .i64 (dig 10000 (aq 10000 A%aq 10000 B)))]):=by
 have V:=(mV (by omega) W Y).symm;have h:=(aB ak (aI _) kF (aQ _) (Ep A B (aq 10000 B) H V I hl Z' G')).1;simp only[afw.mem,Option.getD_none,List.cons_append,List.nil_append] at h;obtain⟨R,Q,U,O⟩:=jf H A I;have X:bd (fZ 10000 (aq 10000 B) A).1=dig 10000 (aq 10000 A / aq 10000 B):=by rw[<-(Ll H I).1,dW (by omega) U]
 have S:=bz.agu (m2:=[.cells false 1 (iN .i64 A),.cells false 1 (iN .i64 B),.cells true 1 (iN .i64 (dig 10000 (aq 10000 A / aq 10000 B))),.cells true 1 (iN .i64 (dig 10000 (aq 10000 A%aq 10000 B)))]) h rfl (fun b s Z=>by
  match b with
  |0=>simp at Z;subst Z;exact⟨_,rfl,.inl rfl⟩
  |1=>simp at Z;subst Z;exact⟨_,rfl,.inl rfl⟩
  |2=>simp at Z;subst Z;exact⟨_,rfl,.row (by rw[<-X];exact dK _)⟩
  |3=>simp at Z;subst Z;exact⟨_,rfl,.inl rfl⟩
  |b+4=>simp at Z)
 obtain⟨b,c,rfl,rfl,h3⟩:=bz.agq (new:=[.cells true 1 (iN .i64 (dig 10000 (aq 10000 A / aq 10000 B))),.cells true 1 (iN .i64 (dig 10000 (aq 10000 A%aq 10000 B)))]) rfl S hx J;simpa [AV.ren,AV.afR,back] using h3
theorem F4(hx:afO .i64 M x [])(H:afO .i64 M y B)(I:0<aq 10000 B)(J:lok 10000 B=true)(W:bd B=B)(Y:B.length<=50000):
  bz prog 232 [x,y] M (.tuple [.slice M.length 0 0 none,.kO]) (M++[.cells true 1 []]):=by
 have Z:=(mV (by omega) J W).symm;have h:=(aB ak (aI _) kF (aQ _) (BW B (aq 10000 B) I Z Y)).1;simp only[afw.mem,Option.getD_none,List.cons_append,List.nil_append] at h;obtain⟨b,c,rfl,rfl,h3⟩:=bz.agq (k:=.i64) (A:=[]) (new:=[.cells true 1 []]) rfl h hx H;simpa [AV.ren,AV.afR,back] using h3
noncomputable def dD:afu:=fun c Z M=>match c,Z with
 |.fn 232,[x,y]=>match bl .i64 M x,bl .i64 M y with
  |some A,some B=>if lok 10000 A=true/\lok 10000 B=true/\bd B=B/\A.length<=50000/\B.length<=50000/\0<aq 10000 B then
    (if A=[] then some ⟨.tuple [.slice M.length 0 0 none,.kO],none,[.cells true 1 []]⟩
    else some ⟨.tuple [.slice M.length 0 (dig 10000 (aq 10000 A / aq 10000 B)).length none,.slice (M.length+1) 0 (dig 10000 (aq 10000 A%aq 10000 B)).length none],none,[.cells true 1 (iN .i64 (dig 10000 (aq 10000 A / aq 10000 B))),.cells true 1 (iN .i64 (dig 10000 (aq 10000 A%aq 10000 B)))]⟩) else none
  |_,_=>none
 |.fn 226,[.bool _,.kO]=>some ⟨.str [48],none,[]⟩
 |.fn 226,[.bool mn,x]=>match bl .i64 M x with
  |some A=>if lok 10000 A=true/\bd A=A/\A.length<=100000 then some ⟨.str (ei mn (aq 10000 A)),none,[]⟩ else none
  |none=>none
 |c,Z=>bR c Z M
theorem KE:afs prog dD:=by
 refine cG fun c U M r h=>?_
 unfold dD at h;split at h
 .split at h
  .rename_i X S
   split at h
   .rename_i Z
    obtain⟨N,c2,R,K,Q,O⟩:=Z;split at h
    .rename_i V
     subst V;cases h;exact aA (F4 (br X) (br S) O c2 R Q)
    .rename_i V
     cases h;exact aA (H7 (br X) (br S) O N c2 R K Q V)
   .cases h
  .cases h
 .cases h
  refine aA ?_;rw[List.append_nil];exact FX _ M
 .split at h
  .rename_i X
   split at h
   .rename_i Z
    cases h;refine aA ?_;rw[List.append_nil];exact MJ _ Z.1 Z.2.1 Z.2.2 (br X)
   .cases h
  .cases h
 .exact ee kF h
end Go.Proofs
