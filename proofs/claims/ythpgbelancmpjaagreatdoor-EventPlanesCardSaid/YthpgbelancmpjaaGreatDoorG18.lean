/- See G38. -/
import Derived.Test.YthpgbelancmpjaaGreatDoorG17
set_option linter.all false
set_option maxRecDepth 100000
set_option maxHeartbeats 40000000
namespace Go.Proofs
open Go.Eng
open Tryz
def jA(c:Code):List Nat:=if (aa c).contains 6 then [6] else [7]
def tzS(A B:List Nat)(i k:Nat):List Int:=(tzR A B i).take i++jt ((A.getD i 0:Nat):Int) (B.take k) ((tzR A B i).drop i)
variable{K:Nat}{O:y9}{b b2:Code}
theorem xP(A B:List Nat)(hA:lok 10000 A=true)(hB:lok 10000 B=true)(hl:A.length<=5000)(ZB:B.length<=5000)(hK:B.length<K)(H:ag f230=[b,b2])(i:Nat)(hi:i<A.length):
  ∃F:Env->Bool->Env,∀Z d,(ad Z 0=.slice 0 0 A.length none/\ad Z 1=.slice 1 0 B.length none/\ad Z 5=.slice 2 0 (A.length+B.length) none/\ad Z 6=.int .i64 (i:Int)/\ad Z 7=.int .i64 0)->
   aL (aX prog) jA O K 45 2 true (.loop b2) ⟨Z,[.cells false 1 (iN .i64 A),.cells false 1 (iN .i64 B),.cells true 1 (iZ (tzR A B i))],d⟩=some (.exit 2,⟨F Z d,[.cells false 1 (iN .i64 A),.cells false 1 (iN .i64 B),.cells true 1 (iZ (tzR A B (i+1)))],d⟩)/\
   (∀t,t∈[0,1,5,6]->ad (F Z d) t=ad Z t):=by
 have Zz:jA b2=[7]:=by simp[ag,aE,f230] at H;obtain⟨rfl,rfl⟩:=H;decide
 refine bj Zz (fun Z=>ad Z 0=.slice 0 0 A.length none/\ad Z 1=.slice 1 0 B.length none/\ad Z 5=.slice 2 0 (A.length+B.length) none/\ad Z 6=.int .i64 (i:Int)/\ad Z 7=.int .i64 0)
  (fun Z D' =>∀t,t∈[0,1,5,6]->ad D' t=ad Z t) ?_
 rintro Z d ⟨h0,h1,h5,h6,h7⟩;have hn:an [7] (aa b2) Z ((7,.int .i64 ((0:Nat):Int))::Z)=an [7] (aa b2) Z Z:=by simp[an,h7]
 have U:tzS A B i 0=tzR A B i:=by unfold tzS;rw[List.take_zero,nI,List.take_append_drop]
 have R:tzS A B i B.length=tzR A B (i+1):=by unfold tzS;rw[P1];rfl
 rw[<-hn,<-U,<-R];refine bI (α:=Nat) (fun k=>⟨an [7] (aa b2) Z ((7,.int .i64 (k:Int))::Z),[.cells false 1 (iN .i64 A),.cells false 1 (iN .i64 B),.cells true 1 (iZ (tzS A B i k))],d⟩)
  (fun k=>B.length-k) (fun k=>k<=B.length) (.exit 2) _ d _ (by simp) ?_ K 0 (Nat.zero_le _) (by simp only[QXQ];omega)
 intro k hk;clear hn U R;simp[ag,aE,f230] at H;by_cases C:k=B.length
 .right
  subst C;obtain⟨rfl,rfl⟩:=H;simp[h1]
 .left
  have u:k<B.length:=by omega
  obtain⟨x,hx,Zw⟩:=de hi;obtain⟨z,hz,o⟩:=de u;have ZL:=fa hA hx;have hzb:=fa hB hz;obtain⟨t1,t2,t3⟩:=Hr (c:=100000000) (by decide) hA hB i (by omega);have hg:A.getD i 0=x:=by simp[List.getD,hx]
  have m:((tzR A B i).drop i).length=A.length+B.length-i:=by rw[QXX,t1]
  obtain⟨y,hy⟩:∃y,((tzR A B i).drop i)[k]? =some y:=⟨((tzR A B i).drop i)[k]'(by omega),by simp⟩
  obtain⟨s1,s2⟩:=B6 (x:Int) B _ k z y hz hy;have Y:y.natAbs<=i*100000000:=t3 y (List.mem_of_mem_drop (J1 hy));have V:((tzR A B i).take i).length=i:=by rw[SP];omega
  have J:(jt (x:Int) (B.take k) ((tzR A B i).drop i)).length=A.length+B.length-i:=by rw[pw _ _ _ (by rw[SP];omega),m]
  obtain⟨S,hS⟩:=xE (tzS A B i k);obtain⟨I,N⟩:=xE (tzS A B i (k+1));have G:S=(tzR A B i).take i++jt (x:Int) (B.take k) ((tzR A B i).drop i):=by rw[hS];unfold tzS;rw[hg]
  have e2:I=(tzR A B i).take i++jt (x:Int) (B.take (k+1)) ((tzR A B i).drop i):=by rw[N];unfold tzS;rw[hg]
  have hSl:S.length=A.length+B.length:=by rw[G,Qs,V,J];omega
  have g1:S[i+k]? =some y:=by rw[G,V1 (by omega),V,show i+k-i=k by omega];exact s1
  have g1' :S[i+k]'(by omega)=y:=(O2.1 g1).2;obtain⟨p,hp⟩:=xE ((x:Int)*(z:Int));have hpb:p.natAbs<=10000*10000:=by rw[hp,QQl,Int.natAbs_natCast,Int.natAbs_natCast];exact Nat.mul_le_mul (by omega) (by omega)
  have g2:S.set (i+k) (y+p)=I:=by rw[G,e2,List.set_append_right _ _ (by omega),V,show i+k-i=k by omega,hp,s2]
  have afj:y.natAbs<=5000*100000000:=QQd Y (QQk _ (by omega));have w1:IntKind.i64.wrap ((x:Int)*(z:Int))=p:=by rw[<-hp];exact af
  have w2:IntKind.i64.wrap (y+p)=y+p:=af;obtain⟨X,M⟩:=xE (i+k);have w3:IntKind.i64.wrap ((i:Int)+(k:Int))=(X:Int):=by rw[af];omega
  have w4:IntKind.i64.wrap ((k:Int)+1)=((k+1:Nat):Int):=by rw[af];omega
  have Zy:(iZ S).take X++.int .i64 (y+p)::(iZ S).drop (X+1)=iZ I:=by rw[Pk _ _ _ (by omega),M,g2]
  have aem:X<S.length:=by omega
  have ae8:X+1<=S.length:=by omega
  have g3:S[X]? =some y:=by rw[M];exact g1
  have g3' :S[X]=y:=(O2.1 g3).2;rw[<-hSl] at h5;have aen:(X:Int)<(S.length:Int):=by omega
  have ac9:X+1<=S.length:=by omega
  have hiA:(i:Int)<(A.length:Int):=by omega
  have hkB:(k:Int)<(B.length:Int):=by omega
  refine⟨k+1,?_⟩;refine bt (show k+1<=B.length/\_ from⟨u,by omega⟩) ?_;clear G e2 s1 s2 t3;obtain⟨L,F'⟩:∃L,aJ f230=[L]:=⟨_,rfl⟩
  obtain⟨X',Z2⟩:=eU F' (l:=[0,0,0,6,15,31,0,0,192,448,0,0,3072,7168,16320,32767,65535,131071]) (j:=17) (by kernel_rfl) (by decide);simp[aJ,cB,f230] at F';subst F';obtain⟨rfl,rfl⟩:=H;simp[-aR,aC X',bV,bK,bQ,Z2,<-hS,<-N,h0,h1,h5,h6,hi,hiA,hkB,u,w3,aen,aem,g3',Zw,o,w1,w2,Zy,w4,ac9]
theorem xQ(A B:List Nat)(I:lok 10000 A=true)(J:lok 10000 B=true)(Y:A.length<=5000)(ZB:B.length<=5000)(hK:B.length<K)(hK2:A.length<K)(H:ag f230=[b,b2]):
  ∃F:Env->Bool->Env,∀Z d,(ad Z 0=.slice 0 0 A.length none/\ad Z 1=.slice 1 0 B.length none/\ad Z 5=.slice 2 0 (A.length+B.length) none/\ad Z 6=.int .i64 0)->
   aL (aX prog) jA O K 45 2 true (.loop b) ⟨Z,[.cells false 1 (iN .i64 A),.cells false 1 (iN .i64 B),.cells true 1 (iZ (List.replicate (A.length+B.length) 0))],d⟩=some (.exit 0,⟨F Z d,[.cells false 1 (iN .i64 A),.cells false 1 (iN .i64 B),.cells true 1 (iZ (tzR A B A.length))],d⟩)/\
   ad (F Z d) 5=.slice 2 0 (A.length+B.length) none:=by
 have R:jA b=[6]:=by simp[ag,aE,f230] at H;obtain⟨rfl,rfl⟩:=H;decide
 refine bj R (fun Z=>ad Z 0=.slice 0 0 A.length none/\ad Z 1=.slice 1 0 B.length none/\ad Z 5=.slice 2 0 (A.length+B.length) none/\ad Z 6=.int .i64 0)
  (fun _ N =>ad N 5=.slice 2 0 (A.length+B.length) none) ?_
 rintro Z d ⟨h0,h1,h5,h6⟩;have U:an [6] (aa b) Z ((6,.int .i64 ((0:Nat):Int))::Z)=an [6] (aa b) Z Z:=by simp[an,h6]
 rw[<-U];refine bI (α:=Nat) (fun i=>⟨an [6] (aa b) Z ((6,.int .i64 (i:Int))::Z),[.cells false 1 (iN .i64 A),.cells false 1 (iN .i64 B),.cells true 1 (iZ (tzR A B i))],d⟩)
  (fun i=>A.length-i) (fun i=>i<=A.length) (.exit 0) _ d _ (by simp) ?_ K 0 (Nat.zero_le _) (by simp only[QXQ];omega)
 intro i L;clear U;by_cases X:i=A.length
 .right
  simp[ag,aE,f230] at H;subst X;obtain⟨rfl,rfl⟩:=H;simp[h0,h5]
 .left
  have S:i<A.length:=by omega
  obtain⟨F,M⟩:=xP (O:=O) (K:=K) A B I J Y ZB hK H i S;have w4:IntKind.i64.wrap ((i:Int)+1)=((i+1:Nat):Int):=by rw[af];omega
  have V:(i:Int)<(A.length:Int):=by omega
  simp[ag,aE,f230] at H;obtain⟨rfl,rfl⟩:=H;refine⟨i+1,?_⟩;refine bt (show i+1<=A.length/\_ from⟨S,by omega⟩) ?_;simp[h0,h1,h5,V,M,w4]
theorem BP(A B:List Nat)(J':A≠[]\/B≠[])(H:lok 10000 A=true)(I:lok 10000 B=true)(J:A.length<=5000)(ZB:B.length<=5000):
  ae (aX prog) jA (aZ prog) cL (A.length+B.length+1) 230 [.slice 0 0 A.length none,.slice 1 0 B.length none] [.cells false 1 (iN .i64 A),.cells false 1 (iN .i64 B)]=
   some ⟨.slice 2 0 (dig 10000 (ao 10000 A*ao 10000 B)).length none,none,[.cells true 1 (iN .i64 (dig 10000 (ao 10000 A*ao 10000 B)))]⟩:=by
 have hG:aZ prog 230=some f230:=by kernel_rfl
 obtain⟨b,b2,V⟩:∃b b2,ag f230=[b,b2]:=⟨_,_,rfl⟩
 obtain⟨F,Z⟩:=xQ (O:=cL) (K:=A.length+B.length+1) A B H I J ZB (by omega) (by omega) V;obtain⟨t1,t2,t3⟩:=Hr (c:=100000000) (by decide) H I A.length (L9 _);rw[P1,<-Int.natCast_mul] at t2;obtain⟨n,U⟩:=xE (A.length+B.length);have X:zsm (tzR A B A.length)=true:=List.all_eq_true.2 fun d hd=>by have h1:=t3 d hd;have h2:A.length*100000000<=5000*100000000:=QQk _ J;simp;omega
 obtain⟨S,hS⟩:=xE (tzR A B A.length);rw[<-hS,<-U] at Z;rw[<-hS] at t1 t2 X;rw[<-U] at t1;have R:S.length<=10000000:=by omega
 have N:S≠[]:=by
  intro e;rw[e] at t1;rcases J' with h | h
  .have:=List.length_pos_iff.2 h;simp at t1;omega
  .have:=List.length_pos_iff.2 h;simp at t1;omega
 have M:0<=jX 10000 S:=by rw[t2];exact Int.natCast_nonneg _
 have L:(jX 10000 S).toNat=ao 10000 A*ao 10000 B:=by rw[t2,Int.toNat_natCast]
 have u:∀(o m:afq) l,zD (o::m::.cells true 1 (iZ S)::l) (.slice 2 0 n none)=some S:=fun o m l=>by rw[<-t1];exact Dg rfl (by simp) (B5 (by simp))
 obtain⟨c,j⟩:=xE (α:=Nat) n;have w1:IntKind.i64.wrap ((A.length:Int)+(B.length:Int))=(c:Int):=by rw[af];omega
 have h8:8*(c:Int)<=281474976710656:=by omega
 have h9:(c:Int)<=281474976710656:=by omega
 obtain⟨D,Y⟩:=xE (dig 10000 (ao 10000 A*ao 10000 B));rw[<-Y] at|-;rw[<-j] at Z u;obtain⟨K,G⟩:=xE (n+1);rw[<-U,<-G];rw[<-j] at G;rw[<-G] at Z;have C :=Z;clear Z t2 t3;simp[ag,aE,f230] at V;obtain⟨rfl,rfl⟩:=V;simp[ae,hG,f230,w1,h8,h9,Ty,C,u,cL,N,M,L,X,R,<-Y]
theorem FJ{M:Mem}{x y:AV}{A B:List Nat}(H:afw .i64 M x A)(I:afw .i64 M y B)(J:A≠[]\/B≠[])(Y:lok 10000 A=true)(hB:lok 10000 B=true)(hl:A.length<=5000)(ZB:B.length<=5000):
  kO prog 230 [x,y] M (.slice M.length 0 (dig 10000 (ao 10000 A*ao 10000 B)).length none) (M++[.cells true 1 (iN .i64 (dig 10000 (ao 10000 A*ao 10000 B)))]):=by
 have h:=(aB aj (aI _) mH (aQ _) (BP A B J Y hB hl ZB)).1;simp only[afl.mem,Option.getD_none,List.cons_append,List.nil_append] at h;obtain⟨b,c,rfl,rfl,h3⟩:=kO.agi (new:=[.cells true 1 (iN .i64 (dig 10000 (ao 10000 A*ao 10000 B)))]) rfl h H I;simpa [AV.ren,AV.afI,fA] using h3
noncomputable def cR:y9:=fun c Z M=>match c,Z with
 |.fn 227,[.qF,y,.int .i64 k,.int .i64 0]=>match bd .i64 M y with
  |some B=>if B≠[]/\lok 10000 B=true/\k.natAbs<=10000/\B.length<=1000000/\0<=k*(ao 10000 B:Int) then some ⟨.slice M.length 0 (dig 10000 (k*(ao 10000 B:Int)).toNat).length none,none,[.cells true 1 (iN .i64 (dig 10000 (k*(ao 10000 B:Int)).toNat))]⟩ else none
  |none=>none
 |.fn 227,[x,y,.int .i64 k,.int .i64 0]=>match bd .i64 M x,bd .i64 M y with
  |some A,some B=>if (A≠[]\/B≠[])/\lok 10000 A=true/\lok 10000 B=true/\k.natAbs<=10000/\A.length<=1000000/\B.length<=1000000/\0<=(ao 10000 A:Int)+k*(ao 10000 B:Int) then some ⟨.slice M.length 0 (dig 10000 ((ao 10000 A:Int)+k*(ao 10000 B:Int)).toNat).length none,none,[.cells true 1 (iN .i64 (dig 10000 ((ao 10000 A:Int)+k*(ao 10000 B:Int)).toNat))]⟩ else none
  |_,_=>none
 |.fn 230,[x,y]=>match bd .i64 M x,bd .i64 M y with
  |some A,some B=>if (A≠[]\/B≠[])/\lok 10000 A=true/\lok 10000 B=true/\A.length<=5000/\B.length<=5000 then some ⟨.slice M.length 0 (dig 10000 (ao 10000 A*ao 10000 B)).length none,none,[.cells true 1 (iN .i64 (dig 10000 (ao 10000 A*ao 10000 B)))]⟩ else none
  |_,_=>none
 |c,Z=>cL c Z M
theorem ze:qS prog cR:=by
 refine cw fun c G M r h=>?_
 unfold cR at h;split at h
 .split at h
  .rename_i Z
   split at h
   .rename_i X
    obtain⟨V,U,S,R,N⟩:=X;cases h;have:=vO _ (A:=[]) (.inr ⟨rfl,rfl⟩) (bh Z) (.inr V) rfl U S (Nat.zero_le _) R (by simpa [ao] using N);simp only[ao,Int.natCast_zero,Int.zero_add] at this;exact au this
   .cases h
  .cases h
 .split at h
  .rename_i L Z
   split at h
   .rename_i X
    obtain⟨V,U,S,R,N,F,C⟩:=X;cases h;exact au (vO _ (.inl (bh L)) (bh Z) V U S R N F C)
   .cases h
  .cases h
 .split at h
  .rename_i L Z
   split at h
   .rename_i X
    obtain⟨V,U,S,R,N⟩:=X;cases h;exact au (FJ (bh L) (bh Z) V U S R N)
   .cases h
  .cases h
 .exact ee mH h
end Go.Proofs
namespace Go.Eng
def nn:Nat->List UInt8->List Nat
 |0,_=>[]
 |f+1,s=>if s=[] then [] else fg (s.drop (s.length-4))::nn f (s.take (s.length-4))
def fN(s:List UInt8):List Nat:=nn s.length s
theorem EG:∀(f g:Nat) (s:List UInt8),s.length<=f->s.length<=g->nn f s=nn g s
 |0,0,s,_,_=>rfl
 |0,g+1,s,h,_=>by have:s=[]:=Mp (by omega);subst this;simp[nn]
 |f+1,0,s,_,h=>by have:s=[]:=Mp (by omega);subst this;simp[nn]
 |f+1,g+1,s,h1,h2=>by
  unfold nn;by_cases Z:s=[]
  .simp[Z]
  .have:0<s.length:=List.length_pos_iff.2 Z
   rw[if_neg Z,if_neg Z,EG f g (s.take (s.length-4)) (by simp;omega) (by simp;omega)]
theorem Oc:fN []=[]:=rfl
variable{s:List UInt8}
theorem uY(h:s≠[]):fN s=fg (s.drop (s.length-4))::fN (s.take (s.length-4)):=by
 have X:0<s.length:=List.length_pos_iff.2 h;unfold fN;obtain⟨f,Z⟩:∃f,s.length=f+1:=⟨s.length-1,by omega⟩
 have e:nn s.length s=nn (f+1) s:=by rw[Z]
 rw[e,nn,if_neg h];congr 1;exact EG _ _ _ (by simp;omega) (by simp)
theorem SU(h:s.all isD=true):fg (s.drop (s.length-4))<10000:=by
 have X:=Dl (AI h (s.length-4));have Z:(s.drop (s.length-4)).length<=4:=by simp;omega
 have h3:10 ^ (s.drop (s.length-4)).length<=10 ^ 4:=P3 (by omega) Z;omega
theorem kM:∀(n:Nat) (s:List UInt8),s.length<=n->s.all isD=true->lok 10000 (fN s)=true/\ao 10000 (fN s)=fg s/\(fN s).length<=s.length
 |0,s,hn,_=>by have:s=[]:=Mp (by omega);subst this;exact⟨rfl,by unfold fg;rw[dP];rfl,L9 _⟩
 |n+1,s,hn,h=>by
  by_cases Z:s=[]
  .subst Z;exact⟨rfl,by unfold fg;rw[dP];rfl,L9 _⟩
  .have S:0<s.length:=List.length_pos_iff.2 Z
   rw[uY Z];obtain⟨X,V,R⟩:=kM n (s.take (s.length-4)) (by simp;omega) (pz h _);have U:fg s=fg (s.take (s.length-4))*10 ^ (s.drop (s.length-4)).length+fg (s.drop (s.length-4)):=by
    conv=>lhs;rw[<-List.take_append_drop (s.length-4) s]
    exact vE _ _
   refine⟨?_,?_,?_⟩
   .rw[cX,X];simp[SU h]
   .rw[ao,V,U]
    by_cases O:s.length<=4
    .have e:s.length-4=0:=by omega
     rw[e,List.take_zero];have:fg []=0:=by unfold fg;rw[dP]
     rw[this];omega
    .have e:(s.drop (s.length-4)).length=4:=by simp;omega
     rw[e];omega
   .rw[List.length_cons]
    have:(s.take (s.length-4)).length=s.length-4:=by simp
    omega
end Go.Eng
namespace Go.Proofs
open Go.Eng
open Tryz
def lN(c:Code):List Nat:=if (aa c).contains 3 then [3,4] else [5,6]
theorem BR{O:y9}{K m0:Nat}(mem:Mem)(s:List UInt8)(e H:Nat)(hd:s.all isD=true)(he:e<=s.length)(Zy:H<=e)(h4:e<=H+4)(hl:s.length<=1000000)(hK:5<K){b I:Code}(J:ag f225=[b,I]):
  ∃F:Env->Bool->Env,∀Z d,(ad Z 0=.str s/\ad Z 4=.int .i64 (e:Int)/\ad Z 5=.int .i64 0/\ad Z 6=.int .i64 (H:Int))->
   aL (aX prog) lN O K 35 m0 true (.loop I) ⟨Z,mem,d⟩=some (.exit 2,⟨F Z d,mem,d⟩)/\
   (ad (F Z d) 5=.int .i64 ((fg ((s.take e).drop H):Nat):Int)/\ad (F Z d) 0=ad Z 0/\ad (F Z d) 3=ad Z 3/\ad (F Z d) 4=ad Z 4):=by
 have Zz:lN I=[5,6]:=by simp[ag,aE,f225] at J;obtain⟨rfl,rfl⟩:=J;decide
 refine bj Zz (fun Z=>ad Z 0=.str s/\ad Z 4=.int .i64 (e:Int)/\ad Z 5=.int .i64 0/\ad Z 6=.int .i64 (H:Int))
  (fun Z L =>ad L 5=.int .i64 ((fg ((s.take e).drop H):Nat):Int)/\ad L 0=ad Z 0/\ad L 3=ad Z 3/\ad L 4=ad Z 4) ?_
 rintro Z d ⟨h0,h4',h5,h6⟩;obtain⟨u,G⟩:=xE ((s.take e).drop H);have hul:u.length=e-H:=by rw[G,QXX,SP];omega
 have X:u.all isD=true:=by rw[G];exact AI (pz hd _) _
 have U:fg (u.take 0)=0:=by rw[List.take_zero];unfold fg;rw[dP]
 have m:an [5,6] (aa I) Z ((5,.int .i64 ((fg (u.take 0):Nat):Int))::(6,.int .i64 ((H+0:Nat):Int))::Z)=an [5,6] (aa I) Z Z:=by rw[U];simp[an,h5,h6]
 rw[<-m,<-G];refine bI (α:=Nat) (fun j=>⟨an [5,6] (aa I) Z ((5,.int .i64 ((fg (u.take j):Nat):Int))::(6,.int .i64 ((H+j:Nat):Int))::Z),mem,d⟩)
  (fun j=>u.length-j) (fun j=>j<=u.length) (.exit 2) _ d _ (by simp) ?_ K 0 (Nat.zero_le _) (by simp only[QXQ];omega)
 intro j hj;clear m U;simp[ag,aE,f225] at J;by_cases C:j=u.length
 .right
  subst C;have e1:((H+u.length:Nat):Int)=(e:Int):=by omega
  rw[P1,e1];obtain⟨rfl,rfl⟩:=J;simp[h0,h4']
 .left
  have Y:j<u.length:=by omega
  obtain⟨c,S⟩:∃c,u[j]? =some c:=⟨u[j],by simp[Y]⟩
  have hcd:=tT (List.all_eq_true.1 X c (J1 S));have V:=List.all_eq_true.1 X c (J1 S);have acO:48<=c.toNat:=by unfold isD at V;simp only[Es,GE] at V;exact V.1
  have Z7:u.take (j+1)=u.take j++[c]:=by rw[List.take_add_one,S];rfl
  have hv:fg (u.take (j+1))=10*fg (u.take j)+(c.toNat-48):=by rw[Z7,oC]
  have B:fg (u.take j)<10000:=by
   have h1:=Dl (pz X j);have h2:(u.take j).length<=4:=by rw[SP];omega
   have h3:10 ^ (u.take j).length<=10 ^ 4:=P3 (by omega) h2;omega
  have R:s[H+j]? =some c:=by rw[G,QQf,QQa (by omega)] at S;exact S
  obtain⟨v,N⟩:=xE (fg (u.take j));obtain⟨v2,M⟩:=xE (fg (u.take (j+1)));rw[<-N] at B hv;rw[<-M] at hv;obtain⟨i,hi⟩:=xE (H+j);rw[<-hi] at R;have hie:i<e:=by omega
  have o:(i:Int)<(e:Int):=by omega
  have w1:IntKind.i64.wrap (10*(v:Int))=10*(v:Int):=af;have w2:IntKind.i64.wrap (10*(v:Int)+(c.toNat:Int))=10*(v:Int)+(c.toNat:Int):=af;have w3:IntKind.i64.wrap (10*(v:Int)+(c.toNat:Int)-48)=(v2:Int):=by rw[af];omega
  have w4:IntKind.i64.wrap ((i:Int)+1)=((H+(j+1):Nat):Int):=by rw[af];omega
  have w5:IntKind.i64.wrap (c.toNat:Int)=(c.toNat:Int):=af (by omega) (by have:=c.toNat_lt;omega);rw[<-hi];refine⟨j+1,?_⟩;refine bt (show j+1<=u.length/\_ from⟨Y,by omega⟩) ?_;obtain⟨rfl,rfl⟩:=J;simp[h0,h4',o,R,<-N,<-M,w1,w2,w3,w4,w5];try omega
def taM:List Nat->Mem
 | []=>[]
 |x::l=>[.cells true 1 (iN .i64 (x::l))]
def taO:List Nat->AV
 | []=>.qF
 |_::l=>.slice 0 0 (l.length+1) none
theorem D8{O:y9}{K:Nat}(s:List UInt8)(hd:s.all isD=true)(I:s.length<=1000000)(hK:s.length+5<K){b J:Code}(H:ag f225=[b,J]):
  ∃F:Env->Bool->Env,∀Z d,(ad Z 0=.str s/\ad Z 3=.qF/\ad Z 4=.int .i64 (s.length:Int))->
   aL (aX prog) lN O K 35 0 true (.loop b) ⟨Z,[],d⟩=some (.exit 0,⟨F Z d,taM (fN s),d⟩)/\ad (F Z d) 3=taO (fN s):=by
 have m:lN b=[3,4]:=by simp[ag,aE,f225] at H;obtain⟨rfl,rfl⟩:=H;decide
 refine bj m (fun Z=>ad Z 0=.str s/\ad Z 3=.qF/\ad Z 4=.int .i64 (s.length:Int)) (fun _ j =>ad j 3=taO (fN s)) ?_;rintro Z d ⟨h0,h3,h4⟩;have B:an [3,4] (aa b) Z ((3,taO [])::(4,.int .i64 (s.length:Int))::Z)=an [3,4] (aa b) Z Z:=by simp[an,h3,h4,taO]
 rw[<-B];refine bI (α:=Int×List Nat) (fun a=>⟨an [3,4] (aa b) Z ((3,taO a.2)::(4,.int .i64 a.1)::Z),taM a.2,d⟩)
  (fun a=>a.1.toNat) (fun a=> -4<=a.1/\a.1<=s.length/\a.2++fN (s.take a.1.toNat)=fN s) (.exit 0) _ d _ (by simp) ?_ K ((s.length:Int),[]) ⟨by simp only;omega,Int.le_refl _,by simp only[Int.toNat_natCast];rw[P1];rfl⟩ (by show(s.length:Int).toNat<K;omega)
 rintro ⟨z,X⟩ ⟨hz4,he,PP⟩;simp only at hz4 he PP |-;clear B;by_cases Y:z<=0
 .right
  rw[show z.toNat=0 by omega,List.take_zero,Oc,List.append_nil] at PP;rw[PP];have hz:¬0<z:=by omega
  simp[ag,aE,f225] at H;obtain⟨rfl,rfl⟩:=H;simp[hz]
 .left
  obtain⟨e,rfl⟩:∃e:Nat,z=e:=⟨z.toNat,by omega⟩
  rw[Int.toNat_natCast] at PP;have U:(s.take e).length=e:=by rw[SP];omega
  have J':s.take e≠[]:=by intro h;rw[h] at U;simp at U;omega
  rw[uY J',U,List.take_take,Nat.min_eq_left (by omega)] at PP;obtain⟨N,Zy⟩:=xE (e-4);rw[<-Zy] at PP;obtain⟨F,S⟩:=BR (O:=O) (K:=K) (m0:=0) (taM X) s e N hd (by omega) (by omega) (by omega) I (by omega) H;obtain⟨v,hv⟩:=xE (fg ((s.take e).drop N));rw[<-hv] at S PP;have M:X.length<=1000000:=by have u:=(kM _ s (L9 _) hd).2.2;rw[<-PP] at u;simp at u;omega
  obtain⟨V,L⟩:=xE ((e:Int)-4);have w1:IntKind.i64.wrap ((e:Int)-4)=V:=by rw[<-L];exact af
  have o:0<e:=by omega
  have R:(if 0<V then V else 0)=(N:Int):=by split<;>omega
  have G:V.toNat=N:=by omega
  simp[ag,aE,f225] at H;obtain⟨rfl,rfl⟩:=H;refine⟨(V,X++[v]),?_⟩;refine bU (show(-4<=V/\V<=(s.length:Int)/\(X++[v])++fN (s.take V.toNat)=fN s)/\V.toNat<(e:Int).toNat from⟨⟨by omega,by omega,by rw[QQQ,G];exact PP⟩,by omega⟩) ?_;cases X with
  |nil=>
   simp only[taM] at S;simp[taM,taO,o,w1,R,h0,S,cr]
  |cons y l=>
   simp only[List.length_cons] at M;have ht:(iN .i64 l).take l.length=iN .i64 l:=B5 (by simp);have ZA:(l.length+1+1)*8<=140737488355328:=by omega
   have C:l.length+1+1<=140737488355328:=by omega
   simp only[taM,cr] at S;simp[taM,taO,o,w1,R,h0,S,ht,ZA,C,cr,dE]
section
variable (v:Nat)(hl:(ai v).length<=1000000)
include v hl
theorem GB:ae (aX prog) lN (aZ prog) cR ((ai v).length+6) 225 [.str (ai v)] []=
  some ⟨.slice 0 0 (dig 10000 v).length none,none,[.cells true 1 (iN .i64 (fN (ai v)))]⟩:=by
 have C:aZ prog 225=some f225:=by kernel_rfl
 obtain⟨b,M,U⟩:∃b M,ag f225=[b,M]:=⟨_,_,rfl⟩
 obtain⟨F,X⟩:=D8 (O:=cR) (K:=(ai v).length+6) (ai v) (dI v) hl (by omega) U;obtain⟨B,L,u⟩:=kM _ (ai v) (L9 _) (dI _);rw[dM] at L;have S:aW (fN (ai v))=dig 10000 v:=by rw[<-dV (by omega) B,L]
 have V:fN (ai v)≠[]:=by rw[uY (jN _)];simp
 obtain⟨s,o⟩:=xE (ai v);rw[<-o] at X S V u hl |-;obtain⟨K,m⟩:=xE (s.length+6);rw[<-m] at X |-;have G:(fN s).length<=4000000000000:=by omega
 obtain⟨Z,R⟩:=xE (fN s);rw[<-R] at X S V G |-;have j:taM Z=[.cells true 1 (iN .i64 Z)]:=by cases Z<;>first | exact absurd rfl V | rfl
 have Y:taO Z=.slice 0 0 Z.length none:=by cases Z<;>first | exact absurd rfl V | rfl
 rw[j,Y] at X;have N:∀l,bd .i64 (.cells true 1 (iN .i64 Z)::l) (.slice 0 0 Z.length none)=some Z:=fun l=>aU rfl (by simp) (B5 (by simp))
 simp[ag,aE,f225] at U;obtain⟨rfl,rfl⟩:=U;simp[ae,C,f225,X,cR,cL,cW,N,G,S]
theorem M8(M:Mem):kO prog 225 [.str (ai v)] M (.slice M.length 0 (dig 10000 v).length none) (M++[.cells true 1 (iN .i64 (dig 10000 v))]):=by
 obtain⟨V,X,R⟩:=kM _ (ai v) (L9 _) (dI _);rw[dM] at X;have U:aW (fN (ai v))=dig 10000 v:=by rw[<-dV (by omega) V,X]
 have h:=(aB aj (aI _) ze (aQ _) (GB v hl)).1;simp only[afl.mem,Option.getD_none,List.nil_append] at h;have S:=kO.agn (m2:=[.cells true 1 (iN .i64 (dig 10000 v))]) h rfl (fun b s Z=>by
  match b with
  |0=>simp at Z;subst Z;exact⟨_,rfl,.row (by rw[<-U];exact dG _)⟩
  |b+1=>simp at Z)
 have h3:=kO.frame (M:=M) [] (m:=[]) (new:=[.cells true 1 (iN .i64 (dig 10000 v))]) rfl (by simp) rfl (by simp) rfl S;simpa [AV.ren,AV.afI,fA] using h3
end
theorem DO{K:Nat}(v:Nat)(hv:0<v)(hl:(dig 10000 v).length<=100000)(hK:(dig 10000 v).length<K){b:Code}(H:ag f268=[b]):
  ∃F:Env->Bool->Env,∀Z d,(ad Z 0=.slice 0 0 (dig 10000 v).length none/\ad Z 3=.str (ai (ao 10000 ((dig 10000 v).drop ((dig 10000 v).length-1))))/\ad Z 4=.int .i64 ((((dig 10000 v).length-1:Nat):Int)-1))->
   aL (aX prog) (fun _=>[3,4]) (ah ak) K 34 1 true (.loop b) ⟨Z,[.cells false 1 (iN .i64 (dig 10000 v))],d⟩=some (.exit 0,⟨F Z d,[.cells false 1 (iN .i64 (dig 10000 v))],d⟩)/\ad (F Z d) 3=.str (ai v):=by
 have G:lok 10000 (dig 10000 v)=true:=ca (by omega) _;have ZW:ao 10000 (dig 10000 v)=v:=bL (by omega) _;have V:∀j,j<(dig 10000 v).length->0<ao 10000 ((dig 10000 v).drop j):=fun j C=>pM (by omega) C
 have G':0<(dig 10000 v).length:=by
  rcases QQK (dig 10000 v).length with h | h
  .have:=(fC (B:=10000) (n:=v) (by omega)).1 (Mp h)
   omega
  .exact h
 obtain⟨A,o⟩:=xE (dig 10000 v);rw[<-o] at hl hK G ZW V G' |-;refine bj rfl (fun Z=>ad Z 0=.slice 0 0 A.length none/\ad Z 3=.str (ai (ao 10000 (A.drop (A.length-1))))/\ad Z 4=.int .i64 (((A.length-1:Nat):Int)-1)) (fun _ D' =>ad D' 3=.str (ai v)) ?_;rintro Z d ⟨h0,h3,m⟩;have hn:an [3,4] (aa b) Z ((3,.str (ai (ao 10000 (A.drop (A.length-1)))))::(4,.int .i64 (((A.length-1:Nat):Int)-1))::Z)=an [3,4] (aa b) Z Z:=by simp only[an,List.map_cons,List.map_nil,h3,m];simp
 rw[<-hn];refine bI (α:=Nat) (fun j=>⟨an [3,4] (aa b) Z ((3,.str (ai (ao 10000 (A.drop j))))::(4,.int .i64 ((j:Int)-1))::Z),[.cells false 1 (iN .i64 A)],d⟩)
  (fun j=>j) (fun j=>j<A.length) (.exit 0) _ d _ (by simp) ?_ K (A.length-1) (by omega) (by omega)
 intro j C;clear hn;simp[ag,aE,f268] at H;cases j with
 |zero=>
  right;subst H;simp[ZW]
 |succ j=>
  left;obtain⟨x,hx,Zw⟩:=de (l:=A) (i:=j) (by omega);have ZL:=fa G hx;have e1:(((j+1:Nat):Int)-1)=(j:Int):=by omega
  have X:ai (ao 10000 (A.drop j))=ai (ao 10000 (A.drop (j+1)))++(ai (10000+x)).drop 1:=by rw[n9 hx];have S:=AX (w:=4) (by omega) ZL (V (j+1) C);have L:=TO (w:=4) (x:=x) (by omega) ZL;rw[show 10 ^ 4=10000 from rfl] at S L;rw[L,S]
  have Z6:(ai (ao 10000 (A.drop (j+1)))).length<=400000:=by
   have S:=gW (jI G (j+1));have L:(10000:Nat) ^ (A.drop (j+1)).length=10 ^ (4*(A.drop (j+1)).length):=by rw[Nat.pow_mul]
   rw[L] at S;have h3:0<4*(A.drop (j+1)).length:=by simp;omega
   have m:=aN h3 S;simp at m;omega
  obtain⟨t,ht⟩:=xE (ai (ao 10000 (A.drop (j+1))));obtain⟨t2,R⟩:=xE (ai (ao 10000 (A.drop j)));rw[<-ht] at X Z6;rw[<-R] at X;obtain⟨y,hy⟩:=xE (α:=Nat) (10000+x);rw[<-hy] at X;have w1:IntKind.i64.wrap (10000+(x:Int))=(y:Int):=by rw[af];omega
  have w2:IntKind.i64.wrap ((j:Int)-1)=(j:Int)-1:=af;have hf:dY (y:Int)=true:=by unfold dY;simp;omega
  have O:bF (y:Int)=ai y:=rfl;have Y:=aN (u:=y) (k:=5) (by omega) (by omega);have J:1<=(ai y).length:=pP y;obtain⟨u,hu⟩:=xE (ai y);rw[<-hu] at X O Y J;have I:(1:Int)<=(u.length:Int):=by omega
  have N:(u.drop 1).take (u.length-1)=u.drop 1:=B5 (by simp);have hmx:t.length+(u.length-1)<=fM:=by unfold fM;omega
  have M:j<A.length:=by omega
  have hjI:(j:Int)<(A.length:Int):=by omega
  obtain⟨u1,U⟩:=xE (u.drop 1);rw[<-U] at X N;have aer:u1.length=u.length-1:=by rw[U];simp
  have aes:t.length+u1.length<=fM:=by rw[aer];exact hmx
  rw[e1];refine⟨j,?_⟩;refine bt (show j<A.length/\_ from⟨M,Nat.lt_succ_self j⟩) ?_;subst H;simp[h0,hjI,M,Zw,w1,ah,ak,hf,O,I,<-U,N,<-ht,<-R,aes,<-X,w2]
theorem CN{v:Nat}(H:0<v)(mn:Bool):ek mn v=if mn then 45::ai v else ai v:=by unfold ek;rw[if_neg (by omega)]
theorem ahf:aZ prog 268=some f268:=by kernel_rfl
theorem Gi(v:Nat)(I:0<v)(H:(dig 10000 v).length<=100000):ae (aX prog) (fun _=>[3,4]) (aZ prog) (ah ak) ((dig 10000 v).length+1) 268 [.slice 0 0 (dig 10000 v).length none] [.cells false 1 (iN .i64 (dig 10000 v))]=
  some ⟨.str (ai v),none,[]⟩:=by
 obtain⟨b,V⟩:∃b,ag f268=[b]:=⟨_,rfl⟩
 obtain⟨F,X⟩:=DO (K:=(dig 10000 v).length+1) v I H (by omega) V;have L:lok 10000 (dig 10000 v)=true:=ca (by omega) _;have G:0<(dig 10000 v).length:=by
  rcases QQK (dig 10000 v).length with h | h
  .have:=(fC (B:=10000) (n:=v) (by omega)).1 (Mp h)
   omega
  .exact h
 obtain⟨A,Z⟩:=xE (dig 10000 v);rw[<-Z] at H L G X |-;obtain⟨n,U⟩:∃n,A.length=n+1:=⟨A.length-1,by omega⟩
 obtain⟨x,S,m⟩:=de (l:=A) (i:=n) (by omega);have j:=fa L S;have R:ai (ao 10000 (A.drop (A.length-1)))=ai x:=by rw[U,show n+1-1=n by omega,n9 S,ZN (by omega)];simp[ao]
 have w1:IntKind.i64.wrap (n:Int)=(n:Int):=af;have w2:IntKind.i64.wrap ((n:Int)+1-1)=(n:Int):=by rw[af];omega
 have w3:IntKind.i64.wrap ((n:Int)+1-2)=(n:Int)-1:=by rw[af];omega
 have C:dY (x:Int)=true:=by unfold dY;simp;omega
 have O:bF (x:Int)=ai x:=rfl;rw[R,U,show n+1-1=n by omega] at X;rw[U];have u:n<A.length:=by omega
 have N:(n:Int)<(n:Int)+1:=by omega
 obtain⟨K,o⟩:=xE (n+1+1);rw[<-o] at X |-;have M:¬((n:Int)+1=0):=by omega
 clear Z;simp[ag,aE,f268] at V;subst V;simp[ae,ahf,f268,M,w1,w3,N,S,ah,ak,C,O,X]
theorem DP:ae (aX prog) (fun _=>[]) (aZ prog) cO 1 268 [.slice 0 0 0 none] [.cells false 1 []]=some ⟨.str [48],none,[]⟩:=by simp[ae,ahf,f268]
theorem Fq(M:Mem):kO prog 268 [.qF] M (.str [48]) M:=by refine aA (az _) ?_ M;simp[ae,ahf,f268]
variable{A:List Nat}{M:Mem}{x:AV}
theorem MJ(H:lok 10000 A=true)(tA:aW A=A)(I:A.length<=100000)(J:afw .i64 M x A):kO prog 268 [x] M (.str (ai (ao 10000 A))) M:=by
 have e:=mJ (by omega) H tA;have small:kO prog 268 [.slice 0 0 A.length none] [.cells false 1 (iN .i64 A)] (.str (ai (ao 10000 A))) ([.cells false 1 (iN .i64 A)]++[]):=by
  by_cases Z:ao 10000 A=0
  .have X:A=[]:=by rw[Z,dW] at e;exact e.symm
   subst X;have:=(aB aj (aI _) (az _) (aQ _) DP).1;simpa [afl.mem,ao,iV] using this
  .have h:=Gi (ao 10000 A) (by omega) (by rw[e];exact I)
   rw[e] at h;have:=(aB aj (aI _) er (aQ _) h).1;simpa [afl.mem] using this
 rw[List.append_nil] at small;obtain⟨b,rfl,h⟩:=kO.agU (new:=[]) (rest:=[]) rfl rfl small J;simpa [AV.ren,fA] using h
noncomputable def bT:y9:=fun c Z M=>match c,Z with
 |.fn 225,[.str s]=>match xq s with
  |some v=>if (ai v).length<=1000000 then some ⟨.slice M.length 0 (dig 10000 v).length none,none,[.cells true 1 (iN .i64 (dig 10000 v))]⟩ else none
  |none=>none
 |.fn 268,[.qF]=>some ⟨.str [48],none,[]⟩
 |.fn 268,[x]=>match bd .i64 M x with
  |some A=>if lok 10000 A=true/\aW A=A/\A.length<=100000 then some ⟨.str (ai (ao 10000 A)),none,[]⟩ else none
  |none=>none
 |c,Z=>cR c Z M
theorem kG:qS prog bT:=by
 refine cw fun c X M r h=>?_
 unfold bT at h;split at h
 .split at h
  .rename_i v V
   split at h
   .rename_i U
    cases h;rw[gK V];exact au (M8 v U M)
   .cases h
  .cases h
 .cases h
  refine au ?_;rw[List.append_nil];exact Fq M
 .split at h
  .rename_i S
   split at h
   .rename_i Z
    cases h;refine au ?_;rw[List.append_nil];exact MJ Z.1 Z.2.1 Z.2.2 (bh S)
   .cases h
  .cases h
 .exact ee ze h
theorem Fx(mn:Bool)(M:Mem):kO prog 226 [.bool mn,.qF] M (.str [48]) M:=by
 have Z:aZ prog 226=some f226:=by kernel_rfl
 refine aA kG ?_ M;cases mn<;>simp[ae,Z,f226,bT,cR,cL,cW]
theorem MT(mn:Bool)(H:lok 10000 A=true)(tA:aW A=A)(I:A.length<=100000)(J:afw .i64 M x A):kO prog 226 [.bool mn,x] M (.str (ek mn (ao 10000 A))) M:=by
 have V:aZ prog 226=some f226:=by kernel_rfl
 obtain⟨b,o,cs,rfl,R,N⟩:=J;have L:=gL R;have Z:∀l,bd .i64 (.cells false 1 (iN .i64 A)::l) (.slice 0 0 A.length none)=some A:=fun l=>aU rfl (by simp) (B5 (by simp))
 have X:A.length<=4000000000000:=by omega
 have small:ae (aX prog) (fun _=>[]) (aZ prog) bT 1 226 [.bool mn,.slice 0 0 A.length none] [.cells false 1 (iN .i64 A)]=some ⟨.str (ek mn (ao 10000 A)),none,[]⟩:=by
  by_cases U:ao 10000 A=0
  .have K:A=[]:=by have e:=mJ (by omega) H tA;rw[U,dW] at e;exact e.symm
   subst K;have G:ai 0=[48]:=iV;have F:lok 10000 []=true:=rfl;have C:aW []=[]:=rfl;have B:ao 10000 []=0:=rfl;have S :∀l,bd .i64 (.cells false 1 []::l) (.slice 0 0 0 none)=some []:=Z
   cases mn<;>simp[ae,V,f226,bT,cR,cL,cW,S,F,C,B,G,ek]
  .have u:0<A.length:=by
    rcases QQK A.length with h | h
    .rw[Mp h] at U;exact absurd rfl U
    .exact h
   rw[CN (by omega)];have j:1+(ai (ao 10000 A)).length<=fM:=by
    have O:=gW H;have Y:(10000:Nat) ^ A.length=10 ^ (4*A.length):=by rw[Nat.pow_mul]
    rw[Y] at O;have h4:=aN (by omega) O;unfold fM;omega
   cases mn with
   |false=>simp[ae,V,f226,bT,cR,cL,cW,Z,H,tA,I,X]
   |true=>simp[ae,V,f226,bT,cR,cL,cW,Z,H,tA,I,X,u,j]
 have h:=(aB aj (aI _) kG (aQ _) small).1;have:=kO.frame (M:=M) (args:=[.bool mn,.slice 0 0 A.length none]) [b] (m:=[.cells false 1 (iN .i64 A)]) (new:=[]) rfl (by simpa using L) (by simp) (fun i s Z=>by
  cases i with
  |zero=>simp at Z;subst Z;exact .row R N
  |succ i=>simp at Z) rfl (by simpa [afl.mem] using h)
 simpa [AV.afI,AV.ren,fA] using this
def jq(c:Code):List Nat:=if (aa c).contains 8 then [7,8] else [9,10]
variable{k:IntKind}
theorem OQ{s:afq}{b n:Nat}(h:bd k M (.slice b 0 n none)=some A):bd k (M++[s]) (.slice b 0 n none)=some A:=by obtain⟨V,o,U,e,X,Z⟩:=bh h;cases e;refine aU (gU X _) ?_ Z;have:=congrArg List.length Z;simp at this;omega
theorem OP:bd k (M++[.cells true 1 (iN k A)]) (.slice M.length 0 A.length none)=some A:=
 aU (ow:=true) (by simp) (by simp) (B5 (by simp))
variable{c c2:Code}
theorem qh{K:Nat}(mem:Mem)(B:List Nat)(R p:Nat)(b:Nat)(UV:0<b)(hB:B=dig 10000 b)(hR:R<10000*b)(hl:(dig 10000 R).length<=100000)(ZB:B.length<=100000)(I:bd .i64 mem (.slice p 0 (dig 10000 R).length none)=some (dig 10000 R))(J:bd .i64 mem (.slice 1 0 B.length none)=some B)(Y:(mem.all fun s=>(s.refs mem.length).isEmpty)=true)(hK:10000<K)(H:ag f232=[c,c2]):
  ∃F:Env->Bool->Env,∀Z d,(ad Z 1=.slice 1 0 B.length none/\ad Z 7=.slice p 0 (dig 10000 R).length none/\ad Z 9=.int .i64 0/\ad Z 10=.int .i64 9999)->
   aL (aX prog) jq bT K 58 2 true (.loop c2) ⟨Z,mem,d⟩=some (.exit 2,⟨F Z d,mem,d⟩)/\
   (ad (F Z d) 9=.int .i64 ((R / b:Nat):Int)/\∀t,t∈[0,1,6,7,8]->ad (F Z d) t=ad Z t):=by
 have Zz:jq c2=[9,10]:=by simp[ag,aE,f232] at H;obtain⟨rfl,rfl⟩:=H;decide
 have ht:R / b<=9999:=by have:=(Nat.div_lt_iff_lt_mul UV).2 (show R<10000*b from hR);omega
 have O :∀m,R<m*b↔R / b<m:=fun m=>by rw[Nat.div_lt_iff_lt_mul UV]
 generalize R / b=t at ht O |-;refine bj Zz (fun Z=>ad Z 1=.slice 1 0 B.length none/\ad Z 7=.slice p 0 (dig 10000 R).length none/\ad Z 9=.int .i64 0/\ad Z 10=.int .i64 9999)
  (fun Z D' =>ad D' 9=.int .i64 (t:Int)/\∀t,t∈[0,1,6,7,8]->ad D' t=ad Z t) ?_
 rintro Z d ⟨h1,h7,h9,h10⟩;have hn:an [9,10] (aa c2) Z ((9,.int .i64 ((0:Nat):Int))::(10,.int .i64 ((9999:Nat):Int))::Z)=an [9,10] (aa c2) Z Z:=by simp[an,h9,h10]
 rw[<-hn];refine bI (α:=Nat×Nat) (fun a=>⟨an [9,10] (aa c2) Z ((9,.int .i64 (a.1:Int))::(10,.int .i64 (a.2:Int))::Z),mem,d⟩)
  (fun a=>a.2-a.1) (fun a=>a.1<=t/\t<=a.2/\a.2<=9999) (.exit 2) _ d _ (by simp) ?_ K (0,9999) ⟨Nat.zero_le _,ht,L9 _⟩ (by show 9999-0<K;omega)
 rintro ⟨V,U⟩ ⟨i1,i2,i3⟩;simp only at i1 i2 i3 |-;clear hn;by_cases j:V<U
 .left
  obtain⟨m,hm⟩:=xE ((V+U+1) / 2);have S:(V:Int)<(U:Int):=by omega
  have w1:IntKind.i64.wrap ((V:Int)+(U:Int))=(V:Int)+(U:Int):=af;have w2:IntKind.i64.wrap ((V:Int)+(U:Int)+1)=((V+U+1:Nat):Int):=by rw[af];omega
  have w3:IntKind.i64.wrap ((((V+U+1:Nat):Int)).tdiv 2)=(m:Int):=by rw[Hq,<-hm];exact af
  obtain⟨s1,hs1⟩:=xE (V+U+1);rw[<-hs1] at w2 w3 hm;have N :IntKind.i64.wrap ((s1:Int) / 2)=(m:Int):=by rw[af];omega
  have oB:lok 10000 B=true:=by rw[hB];exact ca (by omega) _
  have vB:ao 10000 B=b:=by rw[hB];exact bL (by omega) _
  have tB:aW B=B:=by rw[hB];exact cm (by omega) _
  have nB:B≠[]:=by rw[hB,ne_eq,fC (by omega)];omega
  have oR:lok 10000 (dig 10000 R)=true:=ca (by omega) _;have vR:ao 10000 (dig 10000 R)=R:=bL (by omega) _;have tR:aW (dig 10000 R)=dig 10000 R:=cm (by omega) _;obtain⟨D,L⟩:=xE (dig 10000 (m*b));have oD:lok 10000 D=true:=by rw[L];exact ca (by omega) _
  have vD:ao 10000 D=m*b:=by rw[L];exact bL (by omega) _
  have tD:aW D=D:=by rw[L];exact cm (by omega) _
  have G:((m:Int)*(b:Int)).toNat=m*b:=by rw[<-Int.natCast_mul,Int.toNat_natCast]
  have Z0:0<=(m:Int)*(b:Int):=by rw[<-Int.natCast_mul];exact Int.natCast_nonneg _
  have mB:m<=10000:=by omega
  have lB:B.length<=1000000:=by omega
  have lR:(dig 10000 R).length<=1000000000:=by omega
  obtain⟨X,hX⟩:=xE (dig 10000 R);rw[<-hX] at I oR vR tR lR h7;have p1:∀s,bd .i64 (mem++[s]) (.slice p 0 X.length none)=some X:=fun s=>OQ I
  have p2:bd .i64 (mem++[.cells true 1 (iN .i64 D)]) (.slice mem.length 0 D.length none)=some D:=OP;have C:=O m;have u:¬mem.length+1<=mem.length:=by omega
  simp[ag,aE,f232] at H;obtain⟨rfl,rfl⟩:=H;by_cases o:R<m*b
  .have w4:IntKind.i64.wrap ((m:Int)-1)=((m-1:Nat):Int):=by rw[af];omega
   refine⟨(V,m-1),?_⟩;refine bU (show(V<=t/\t<=m-1/\m-1<=9999)/\m-1-V<U-V from⟨⟨i1,by have:=C.1 o;omega,by omega⟩,by omega⟩) ?_;simp[h1,h7,S,w1,w2,N,bT,cR,cL,cW,J,nB,oB,vB,mB,lB,Z0,G,<-L,p1,p2,oR,oD,lR,tR,tD,vR,vD,o,w4,-List.all_eq_true,-afq.refs,Y,u]
  .skip
   refine⟨(m,U),?_⟩;refine bU (show(m<=t/\t<=U/\U<=9999)/\U-m<U-V from⟨⟨by have:¬t<m:=fun e=>o (C.2 e);omega,i2,i3⟩,by omega⟩) ?_;simp[h1,h7,S,w1,w2,N,bT,cR,cL,cW,J,nB,oB,vB,mB,lB,Z0,G,<-L,p1,p2,oR,oD,lR,tR,tD,vR,vD,o,-List.all_eq_true,-afq.refs,Y,u]
 .right
  have e:V=t:=by omega
  have S:¬(V:Int)<(U:Int):=by omega
  simp[ag,aE,f232] at H;obtain⟨rfl,rfl⟩:=H;subst e;simp[j]
def paM(A B:List Nat)(b j:Nat):Mem:=
 if j=A.length then [.cells false 1 (iN .i64 A),.cells false 1 (iN .i64 B),.cells true 1 (iN .i64 (List.replicate A.length 0))]
 else [.cells false 1 (iN .i64 A),.cells false 1 (iN .i64 B),.cells true 1 (iN .i64 (List.replicate j 0++(gx 10000 b (A.drop j)).1)),.cells true 1 (iN .i64 (dig 10000 (gx 10000 b (A.drop j)).2))]
def paR(A:List Nat)(b j:Nat):AV:=if j=A.length then .qF else .slice 3 0 (dig 10000 (gx 10000 b (A.drop j)).2).length none
theorem qi{K:Nat}(A B:List Nat)(b:Nat)(UV:0<b)(I:B=dig 10000 b)(hA:lok 10000 A=true)(hl:A.length<=50000)(ZB:B.length<=50000)(hK:100000<K)(H:ag f232=[c,c2]):
  ∃F:Env->Bool->Env,∀V d,(ad V 0=.slice 0 0 A.length none/\ad V 1=.slice 1 0 B.length none/\ad V 6=.slice 2 0 A.length none/\ad V 7=.qF/\ad V 8=.int .i64 ((A.length:Int)-1))->
   aL (aX prog) jq bT K 58 2 true (.loop c) ⟨V,paM A B b A.length,d⟩=some (.exit 0,⟨F V d,paM A B b 0,d⟩)/\
   (ad (F V d) 7=paR A b 0/\ad (F V d) 6=.slice 2 0 A.length none):=by
 have Zz:jq c=[7,8]:=by simp[ag,aE,f232] at H;obtain⟨rfl,rfl⟩:=H;decide
 refine bj Zz (fun V=>ad V 0=.slice 0 0 A.length none/\ad V 1=.slice 1 0 B.length none/\ad V 6=.slice 2 0 A.length none/\ad V 7=.qF/\ad V 8=.int .i64 ((A.length:Int)-1))
  (fun _ D' =>ad D' 7=paR A b 0/\ad D' 6=.slice 2 0 A.length none) ?_
 rintro V d ⟨h0,h1,h6,h7,h8⟩;have hn:an [7,8] (aa c) V ((7,paR A b A.length)::(8,.int .i64 ((A.length:Int)-1))::V)=an [7,8] (aa c) V V:=by simp[an,h7,h8,paR]
 have acb:(paM A B b A.length).length=3:=by unfold paM;rw[if_pos rfl];rfl
 rw[<-hn,acb];refine bI (α:=Nat) (fun j=>⟨an [7,8] (aa c) V ((7,paR A b j)::(8,.int .i64 ((j:Int)-1))::V),paM A B b j,d⟩)
  (fun j=>j) (fun j=>j<=A.length) (.exit 0) _ d _ (by simp) ?_ K A.length (L9 _) (by show A.length<K;omega)
 intro j hj;clear hn acb;cases j with
 |zero=>
  right;simp[ag,aE,f232] at H;obtain⟨rfl,rfl⟩:=H;simp[h6]
 |succ j=>
  left;have C:j<A.length:=by omega
  obtain⟨x,hx,Zw⟩:=de C;have ZL:=fa hA hx;have eA:A.drop j=x::A.drop (j+1):=by rw[N0 C,Zw]
  obtain⟨i1,i2,i3,i4⟩:=ju UV (A.drop (j+1)) (jI hA (j+1));obtain⟨r,hr⟩:=xE ((gx 10000 b (A.drop (j+1))).2);obtain⟨Q,hQ⟩:=xE ((gx 10000 b (A.drop (j+1))).1);rw[<-hr] at i1;rw[<-hQ] at i4;obtain⟨R,hR⟩:=xE (r*10000+x);have hdl:gx 10000 b (A.drop j)=(R / b::Q,R%b):=by rw[eA,hR,hr,hQ];rfl
  have hRb:R<10000*b:=by have:(r+1)*10000<=b*10000:=QQk _ i1;omega
  have u:aW (x::dig 10000 r)=dig 10000 R:=by rw[GY (by omega) ZL,hR];congr 1;omega
  have hlR:(dig 10000 R).length<=100000:=by
   have h2:(dig 10000 b).length<=50000:=by rw[<-I];exact ZB
   have h3:=sU (B:=10000) (by omega) b;have h4:R<10000 ^ ((dig 10000 b).length+1):=by rw[Nat.pow_succ];omega
   have h5:=fH (B:=10000) (by omega) h4;omega
  have hlr:(dig 10000 r).length<=100000:=by have:=lS (B:=10000) (a:=r) (b:=b) (by omega) (by omega);rw[<-I] at this;omega
  have hqb:R / b<=9999:=by have:=(Nat.div_lt_iff_lt_mul UV).2 (show R<10000*b from hRb);omega
  have hmd:=Nat.div_add_mod R b;obtain⟨q,hq⟩:=xE (R / b);obtain⟨r2,ZX⟩:=xE (R%b);rw[<-hq,<-ZX] at hdl hmd;rw[<-hq] at hqb;have hQl:Q.length=A.length-(j+1):=by rw[i4,QXX]
  have e1:(((j+1:Nat):Int)-1)=(j:Int):=by omega
  have w1:IntKind.i64.wrap ((j:Int)-1)=(j:Int)-1:=af;have w2:IntKind.i64.wrap (-(q:Int))= -(q:Int):=af;have hjI:(j:Int)<(A.length:Int):=by omega
  have hj1:j+1<=A.length:=by omega
  have hM2:paM A B b j=[.cells false 1 (iN .i64 A),.cells false 1 (iN .i64 B),.cells true 1 (iN .i64 (List.replicate j 0++q::Q)),.cells true 1 (iN .i64 (dig 10000 r2))]:=by unfold paM;rw[if_neg (by omega),hdl]
  have hR2:paR A b j=.slice 3 0 (dig 10000 r2).length none:=by unfold paR;rw[if_neg (by omega),hdl]
  have oB:lok 10000 B=true:=by rw[I];exact ca (by omega) _
  have vB:ao 10000 B=b:=by rw[I];exact bL (by omega) _
  have nB:B≠[]:=by rw[I,ne_eq,fC (by omega)];omega
  have oR:lok 10000 (dig 10000 R)=true:=ca (by omega) _;have vR:ao 10000 (dig 10000 R)=R:=bL (by omega) _;obtain⟨X,G⟩:=xE (dig 10000 R);obtain⟨Y,hY⟩:=xE (dig 10000 r);obtain⟨Z,hZ⟩:=xE (dig 10000 r2);have ZU:X.length<=Y.length+1/\(x::Y).take X.length=X:=by rw[G,hY,<-u];exact⟨by have:=dm (x::dig 10000 r);simpa using this,lE _⟩
  have adE:(AV.int .i64 (x:Int)::iN .i64 Y).take X.length=iN .i64 X:=by have:=iJ .i64 (x::Y) X.length;rw[ZU.2] at this;exact this
  have acd:(0:Int)<=(R:Int)+ -(q:Int)*(b:Int):=by
   rw[Int.neg_mul];have:((b*q:Nat):Int)=(q:Int)*(b:Int):=by rw[Int.natCast_mul,Int.mul_comm]
   rw[<-this];omega
  have aag:((R:Int)+ -(q:Int)*(b:Int)).toNat=r2:=by
   rw[Int.neg_mul];have:((b*q:Nat):Int)=(q:Int)*(b:Int):=by rw[Int.natCast_mul,Int.mul_comm]
   rw[<-this];omega
  have q1:q<=10000:=by omega
  have lX:X.length<=1000000:=by rw[G];omega
  have lB:B.length<=1000000:=by omega
  rw[<-G] at hlR oR vR;rw[<-hY,<-G] at u;refine⟨j,?_⟩;refine bt (show j<=A.length/\_ from⟨by omega,Nat.lt_succ_self j⟩) ?_;rw[hM2,hR2,<-hZ,e1];have hl3:B.length<=100000:=by omega
  have aaQ:((List.replicate (j+1) 0++Q).take j++q::(List.replicate (j+1) 0++Q).drop (j+1))=List.replicate j 0++q::Q:=by rw[QXd (by simp),List.take_replicate,Nat.min_eq_left (by omega),List.drop_append,ZN (by simp)];simp
  obtain⟨L1,o⟩:=xE (List.replicate (j+1) 0++Q);obtain⟨L2,hL2⟩:=xE (List.replicate j 0++q::Q);have adF:L1.length=A.length:=by rw[o];simp[hQl];omega
  have hjL:j+1<=L1.length:=by omega
  rw[<-o,<-hL2] at aaQ;have hup:(iN .i64 L1).take j++.int .i64 (q:Int)::(iN .i64 L1).drop (j+1)=iN .i64 L2:=by rw[Tu _ _ _ _ (by omega),aaQ]
  rw[<-hL2];have m:∀(U:afq) l,bd .i64 (U::.cells false 1 (iN .i64 B)::l) (.slice 1 0 B.length none)=some B:=fun U l=>aU rfl (by simp) (B5 (by simp))
  have hYl:Y.length<=100000:=by rw[hY];exact hlr
  have hcl:Y.length+1<=4000000000000:=by omega
  have htY:(iN .i64 Y).take Y.length=iN .i64 Y:=B5 (by simp);by_cases S:j+1=A.length
  .have hr0:r=0:=by rw[hr,S,List.drop_length];rfl
   have hQ0:Q=[]:=by rw[hQ,S,List.drop_length];rfl
   have hY0:Y=[]:=by rw[hY,hr0,dW]
   have hM1:paM A B b (j+1)=[.cells false 1 (iN .i64 A),.cells false 1 (iN .i64 B),.cells true 1 (iN .i64 L1)]:=by unfold paM;rw[if_pos S,o,hQ0,List.append_nil,S]
   have hR1:paR A b (j+1)=.qF:=by unfold paR;rw[if_pos S]
   rw[hM1,hR1];subst hY0;have p4:∀(U O N L:afq) l,bd .i64 (U::O::N::L::.cells true 1 [.int .i64 (x:Int)]::l) (.slice 4 0 X.length none)=some X:=fun U O N L l=>aU rfl (by simpa using ZU.1) adE
   have p4c:∀(U O N L:afq) l,bd .i64 (U::O::N::L::.cells true 1 [.int .i64 (x:Int)]::l) (.slice 4 0 1 none)=some [x]:=fun U O N L l=>aU (A:=[x]) rfl (by simp) rfl
   obtain⟨F,hF⟩:=qh (K:=K) [.cells false 1 (iN .i64 A),.cells false 1 (iN .i64 B),.cells true 1 (iN .i64 L1),.qK,.cells true 1 [.int .i64 (x:Int)]] B R 4 b UV I hRb (by rw[<-G];exact hlR) hl3 (by rw[<-G];exact p4 _ _ _ _ _) (m _ _) (by simp) (by omega) H;rw[<-G,<-hq] at hF;simp[ag,aE,f232] at H;obtain⟨rfl,rfl⟩:=H;simp[h0,h1,h6,hjI,C,Zw,bT,cR,cL,cW,p4c,u,hF,adF,hj1,hup,p4,m,nB,oR,oB,vR,vB,q1,lX,lB,w2,acd,aag,<-hZ,w1]
  .have hM1:paM A B b (j+1)=[.cells false 1 (iN .i64 A),.cells false 1 (iN .i64 B),.cells true 1 (iN .i64 L1),.cells true 1 (iN .i64 Y)]:=by unfold paM;rw[if_neg S,<-hr,<-hQ,<-hY,<-o]
   have hR1:paR A b (j+1)=.slice 3 0 Y.length none:=by unfold paR;rw[if_neg S,<-hr,<-hY]
   rw[hM1,hR1];have p5:∀(U O N L J:afq) l,bd .i64 (U::O::N::L::J::.cells true 1 (.int .i64 (x:Int)::iN .i64 Y)::l) (.slice 5 0 X.length none)=some X:=fun U O N L J l=>aU rfl (by simpa using ZU.1) adE
   have p5c:∀(U O N L J:afq) l,bd .i64 (U::O::N::L::J::.cells true 1 (.int .i64 (x:Int)::iN .i64 Y)::l) (.slice 5 0 (Y.length+1) none)=some (x::Y):=fun U O N L J l=>aU (A:=x::Y) rfl (by simp) (by rw[cr];exact B5 (by simp))
   have p5d:∀(U O N L J:afq) l,bd .i64 (U::O::N::L::J::.cells true 1 (.int .i64 (x:Int)::iN .i64 Y)::l) (.slice 5 0 (1+Y.length) none)=some (x::Y):=fun U O N L J l=>by rw[QXc];exact p5c U O N L J l
   obtain⟨F,hF⟩:=qh (K:=K) [.cells false 1 (iN .i64 A),.cells false 1 (iN .i64 B),.cells true 1 (iN .i64 L1),.cells true 1 (iN .i64 Y),.qK,.cells true 1 (.int .i64 (x:Int)::iN .i64 Y)] B R 5 b UV I hRb (by rw[<-G];exact hlR) hl3 (by rw[<-G];exact p5 _ _ _ _ _ _) (m _ _) (by simp[AV.afE]) (by omega) H;rw[<-G,<-hq] at hF;have ZA:(1+Y.length)*8<=140737488355328:=by omega
   have hm2:1+Y.length<=140737488355328:=by omega
   simp[ag,aE,f232] at H;obtain⟨rfl,rfl⟩:=H;simp[h0,h1,h6,hjI,C,Zw,bT,cR,cL,cW,htY,ZA,hm2,p5d,hcl,u,hF,adF,hj1,hup,p5,m,nB,oR,oB,vR,vB,q1,lX,lB,w2,acd,aag,<-hZ,w1]
theorem LF{b:Nat}(H:0<b)(I:lok 10000 A=true):ao 10000 (gx 10000 b A).1=ao 10000 A / b/\(gx 10000 b A).2=ao 10000 A%b:=by obtain⟨Z,X,V,U⟩:=ju H A I;have h:=Nat.div_mod_unique H (a:=ao 10000 A) (c:=(gx 10000 b A).2) (d:=ao 10000 (gx 10000 b A).1);have:=h.2 ⟨by rw[QQZ,QXc];exact X,Z⟩;exact⟨this.1.symm,this.2.symm⟩
theorem Zn:List.idxOf? 2 [2,3]=some 0:=rfl
theorem Zo:List.idxOf? 3 [2,3]=some 1:=rfl
theorem DU(A B:List Nat)(b:Nat)(H:0<b)(J:B=dig 10000 b)(I:lok 10000 A=true)(Y:A.length<=50000)(ZB:B.length<=50000)(J':A≠[]):
  ae (aX prog) jq (aZ prog) bT 100001 232 [.slice 0 0 A.length none,.slice 1 0 B.length none] [.cells false 1 (iN .i64 A),.cells false 1 (iN .i64 B)]=
   some ⟨.tuple [.slice 2 0 (dig 10000 (ao 10000 A / b)).length none,.slice 3 0 (dig 10000 (ao 10000 A%b)).length none],none,[.cells true 1 (iN .i64 (gx 10000 b A).1),.cells true 1 (iN .i64 (dig 10000 (ao 10000 A%b)))]⟩:=by
 have m:aZ prog 232=some f232:=by kernel_rfl
 obtain⟨c,c2,X⟩:∃c c2,ag f232=[c,c2]:=⟨_,_,rfl⟩
 obtain⟨F,V⟩:=qi (K:=100001) A B b H J I Y ZB (by omega) X;obtain⟨i1,i2,j,L⟩:=ju H A I;obtain⟨v1,G⟩:=LF H I;have hp:0<A.length:=List.length_pos_iff.2 J';have U:paM A B b 0=[.cells false 1 (iN .i64 A),.cells false 1 (iN .i64 B),.cells true 1 (iN .i64 (gx 10000 b A).1),.cells true 1 (iN .i64 (dig 10000 (ao 10000 A%b)))]:=by unfold paM;rw[if_neg (by omega),List.drop_zero,G];rfl
 have S:paM A B b A.length=[.cells false 1 (iN .i64 A),.cells false 1 (iN .i64 B),.cells true 1 (iN .i64 (List.replicate A.length 0))]:=by unfold paM;rw[if_pos rfl]
 have O:paR A b 0=.slice 3 0 (dig 10000 (ao 10000 A%b)).length none:=by unfold paR;rw[if_neg (by omega),List.drop_zero,G]
 rw[U,S,O] at V;have Z:aW (gx 10000 b A).1=dig 10000 (ao 10000 A / b):=by rw[<-v1,dV (by omega) j]
 obtain⟨Q,hQ⟩:=xE ((gx 10000 b A).1);obtain⟨R,C⟩:=xE (dig 10000 (ao 10000 A%b));rw[<-hQ,<-C] at V;rw[<-hQ] at Z L;rw[<-hQ,<-C];have N:Q.length<=4000000000000:=by omega
 have hs:∀(u o:afq) l,bd .i64 (u::o::.cells true 1 (iN .i64 Q)::l) (.slice 2 0 A.length none)=some Q:=fun u o l=>by rw[<-L];exact aU rfl (by simp) (B5 (by simp))
 obtain⟨n,hn⟩:=xE A.length;have w1:IntKind.i64.wrap ((A.length:Int)-1)=(A.length:Int)-1:=af;have h8:8*(A.length:Int)<=281474976710656:=by omega
 have h9:(A.length:Int)<=281474976710656:=by omega
 simp[ag,aE,f232] at X;obtain⟨rfl,rfl⟩:=X;simp[ae,m,f232,w1,h8,h9,rU,V,bT,cR,cL,cW,hs,N,Z,Zn,Zo]
theorem BD(B:List Nat)(b:Nat)(H:0<b)(I:B=dig 10000 b)(J:B.length<=50000):
  ae (aX prog) jq (aZ prog) bT 100001 232 [.slice 0 0 0 none,.slice 1 0 B.length none] [.cells false 1 [],.cells false 1 (iN .i64 B)]=
   some ⟨.tuple [.slice 2 0 0 none,.qF],none,[.cells true 1 []]⟩:=by
 have O:aZ prog 232=some f232:=by kernel_rfl
 obtain⟨c,c2,Z⟩:∃c c2,ag f232=[c,c2]:=⟨_,_,rfl⟩
 obtain⟨F,X⟩:=qi (K:=100001) [] B b H I rfl (by simp) J (by omega) Z;have V:∀j,j=0->paM [] B b j=[.cells false 1 [],.cells false 1 (iN .i64 B),.cells true 1 []]:=fun j N=>by subst N;rfl
 have U:paR [] b 0=.qF:=rfl;rw[List.length_nil,V 0 rfl,U] at X;have w1:IntKind.i64.wrap (-1)= -1:=rfl;have L:∀(S R:afq) l,bd .i64 (S::R::.cells true 1 []::l) (.slice 2 0 0 none)=some []:=fun S R l=>aU (A:=[]) rfl (by simp) rfl
 have G:aW []=[]:=rfl;simp[ag,aE,f232] at Z;obtain⟨rfl,rfl⟩:=Z;simp at X;simp[ae,O,f232,w1,X,bT,cR,cL,cW,L,G]
variable{B:List Nat}{y:AV}
theorem HX(J:afw .i64 M x A)(Y:afw .i64 M y B)(H:0<ao 10000 B)(I:lok 10000 A=true)(hB:lok 10000 B=true)(tB:aW B=B)(hl:A.length<=50000)(ZB:B.length<=50000)(J':A≠[]):
  kO prog 232 [x,y] M (.tuple [.slice M.length 0 (dig 10000 (ao 10000 A / ao 10000 B)).length none,.slice (M.length+1) 0 (dig 10000 (ao 10000 A%ao 10000 B)).length none])
   (M++[.cells true 1 (iN .i64 (dig 10000 (ao 10000 A / ao 10000 B))),.cells true 1 (iN .i64 (dig 10000 (ao 10000 A%ao 10000 B)))]):=by
 have V:=(mJ (by omega) hB tB).symm;have h:=(aB aj (aI _) kG (aQ _) (DU A B (ao 10000 B) H V I hl ZB J')).1;simp only[afl.mem,Option.getD_none,List.cons_append,List.nil_append] at h;obtain⟨R,O,U,N⟩:=ju H A I;have X:aW (gx 10000 (ao 10000 B) A).1=dig 10000 (ao 10000 A / ao 10000 B):=by rw[<-(LF H I).1,dV (by omega) U]
 have S:=kO.agn (m2:=[.cells false 1 (iN .i64 A),.cells false 1 (iN .i64 B),.cells true 1 (iN .i64 (dig 10000 (ao 10000 A / ao 10000 B))),.cells true 1 (iN .i64 (dig 10000 (ao 10000 A%ao 10000 B)))]) h rfl (fun b s Z=>by
  match b with
  |0=>simp at Z;subst Z;exact⟨_,rfl,.inl rfl⟩
  |1=>simp at Z;subst Z;exact⟨_,rfl,.inl rfl⟩
  |2=>simp at Z;subst Z;exact⟨_,rfl,.row (by rw[<-X];exact dG _)⟩
  |3=>simp at Z;subst Z;exact⟨_,rfl,.inl rfl⟩
  |b+4=>simp at Z)
 obtain⟨b,c,rfl,rfl,h3⟩:=kO.agi (new:=[.cells true 1 (iN .i64 (dig 10000 (ao 10000 A / ao 10000 B))),.cells true 1 (iN .i64 (dig 10000 (ao 10000 A%ao 10000 B)))]) rfl S J Y;simpa [AV.ren,AV.afI,fA] using h3
theorem FB(H:afw .i64 M x [])(I:afw .i64 M y B)(J:0<ao 10000 B)(Y:lok 10000 B=true)(tB:aW B=B)(ZB:B.length<=50000):
  kO prog 232 [x,y] M (.tuple [.slice M.length 0 0 none,.qF]) (M++[.cells true 1 []]):=by
 have Z:=(mJ (by omega) Y tB).symm;have h:=(aB aj (aI _) kG (aQ _) (BD B (ao 10000 B) J Z ZB)).1;simp only[afl.mem,Option.getD_none,List.cons_append,List.nil_append] at h;obtain⟨b,c,rfl,rfl,h3⟩:=kO.agi (k:=.i64) (A:=[]) (new:=[.cells true 1 []]) rfl h H I;simpa [AV.ren,AV.afI,fA] using h3
noncomputable def du:y9:=fun c Z M=>match c,Z with
 |.fn 232,[x,y]=>match bd .i64 M x,bd .i64 M y with
  |some A,some B=>if lok 10000 A=true/\lok 10000 B=true/\aW B=B/\A.length<=50000/\B.length<=50000/\0<ao 10000 B then
    (if A=[] then some ⟨.tuple [.slice M.length 0 0 none,.qF],none,[.cells true 1 []]⟩
    else some ⟨.tuple [.slice M.length 0 (dig 10000 (ao 10000 A / ao 10000 B)).length none,.slice (M.length+1) 0 (dig 10000 (ao 10000 A%ao 10000 B)).length none],none,[.cells true 1 (iN .i64 (dig 10000 (ao 10000 A / ao 10000 B))),.cells true 1 (iN .i64 (dig 10000 (ao 10000 A%ao 10000 B)))]⟩) else none
  |_,_=>none
 |.fn 226,[.bool _,.qF]=>some ⟨.str [48],none,[]⟩
 |.fn 226,[.bool mn,x]=>match bd .i64 M x with
  |some A=>if lok 10000 A=true/\aW A=A/\A.length<=100000 then some ⟨.str (ek mn (ao 10000 A)),none,[]⟩ else none
  |none=>none
 |c,Z=>bT c Z M
theorem KM:qS prog du:=by
 refine cw fun c U M r h=>?_
 unfold du at h;split at h
 .split at h
  .rename_i X S
   split at h
   .rename_i Z
    obtain⟨L,c2,R,K,O,N⟩:=Z;split at h
    .rename_i V
     subst V;cases h;exact au (FB (bh X) (bh S) N c2 R O)
    .rename_i V
     cases h;exact au (HX (bh X) (bh S) N L c2 R K O V)
   .cases h
  .cases h
 .cases h
  refine au ?_;rw[List.append_nil];exact Fx _ M
 .split at h
  .rename_i X
   split at h
   .rename_i Z
    cases h;refine au ?_;rw[List.append_nil];exact MT _ Z.1 Z.2.1 Z.2.2 (bh X)
   .cases h
  .cases h
 .exact ee kG h
end Go.Proofs
