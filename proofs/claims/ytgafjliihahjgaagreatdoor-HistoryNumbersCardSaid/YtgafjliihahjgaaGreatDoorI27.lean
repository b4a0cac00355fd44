/- See I36. -/
import Derived.Test.YtgafjliihahjgaaGreatDoorI26
set_option linter.all false
set_option maxRecDepth 100000
set_option maxHeartbeats 40000000
namespace Go.Proofs
open Go.Eng
open Tryz
theorem Jn(q n:Nat)(N:Mem):CO (aU prog) 38 N (evV q n)=some (.int .i64 n):=by
 unfold evV;split
 next h=>subst h;simp
 .simp
theorem sI(q n:Nat):(evV q n).af2=true:=by unfold evV;split<;>rfl
variable{N:Mem}{U:List (List UInt8)}{v:AV}
theorem LD(h:sts N v=some U)(N' :Mem):CO (aU prog) 57 N' v=some (.int .i64 U.length):=by rcases yc h with⟨Z,o,X,rfl,h,W⟩ | ⟨rfl,rfl⟩<;>simp
theorem B6{b:Nat}{L:List (List UInt8)}(H:N[b]? =some (.cells true 1 (stC L)))(I:sts N v=some U)(Q:L.length+U.length<=1000000):
  kz (aU prog) N 57 57 (.slice b 0 L.length none) v=some (.slice N.length 0 (L.length+U.length) none,N.set b .HS++[.cells true 1 (stC (L++U))]):=by
 have V:(stC U).all AV.af2=true:=by rw[List.all_eq_true];intro x W;simp only[stC,QQj] at W;obtain⟨y,_,rfl⟩:=W;rfl
 have S:kh (aU prog) N 1 57 v=some (U.length,stC U):=by
  rcases yc I with⟨K,o,O,rfl,h,Z⟩ | ⟨rfl,rfl⟩
  .have X:U.length<=O.length:=by have:=congrArg List.length Z;rw[P3,ga] at this;omega
   rw[ga] at Z;simp[kh,h,X,Z]
  .rfl
 have M:(L.length+U.length)*16<=140737488355328:=by omega
 have X:L.length+U.length<=140737488355328:=by omega
 have e:(stC L).take L.length++stC U=stC (L++U):=by rw[Xy,S9]
 simp[-kh,-List.all_eq_true,-AV.af2,kz,S,V,H,ga,M,X,e,Ih,Bf]
def w9(c:Code):List Nat:=if (ab c).contains 32 then [32,32,32,4] else [46,46,46]
variable{K m0:Nat}{O:af3}{b b1:Code}
theorem Hj(Q:5<K)(N:Mem)(w v:AV)(U:List (List UInt8))(H:sts N v=some U)(R:U.length<=3)(I:∀u∈U,O (.fn 18) [w,.str u] N=some ⟨.bool false,none,[]⟩)(y:ag f35=[b1,b]):
  ∃F:Env->Bool->Env,∀Z d,(ad Z 4=w/\ad Z 44=v/\ad Z 45=.int .i64 U.length/\ad Z 46=.int .i64 0)->
   aT (aU prog) w9 O K 59 m0 true (.loop b) ⟨Z,N,d⟩=some (.exit 3,⟨F Z d,N,d⟩)/\
    (ad (F Z d) 1=ad Z 1/\ad (F Z d) 4=w/\ad (F Z d) 6=ad Z 6/\ad (F Z d) 30=ad Z 30/\ad (F Z d) 31=ad Z 31/\ad (F Z d) 32=ad Z 32):=by
 simp[ag,aH,f35] at y;obtain⟨_,y⟩:=y;refine bG (L:=[46,46,46]) (by subst y;rfl) (fun Z=>ad Z 4=w/\ad Z 44=v/\ad Z 45=.int .i64 U.length/\ad Z 46=.int .i64 0) (fun Z W =>ad W 1=ad Z 1/\ad W 4=w/\ad W 6=ad Z 6/\ad W 30=ad Z 30/\ad W 31=ad Z 31/\ad W 32=ad Z 32) ?_;rintro Z d ⟨h4,h44,h45,h46⟩;have G:au [46,46,46] (ab b) Z ((46,.int .i64 ((0:Nat):Int))::Z)=au [46,46,46] (ab b) Z Z:=by simp[au,h46]
 rw[<-G];refine bW (α:=Nat) (fun n=>⟨au [46,46,46] (ab b) Z ((46,.int .i64 (n:Int))::Z),N,d⟩) (fun n=>U.length-n) (fun n=>n<=U.length) _ _ d _ (by simp) ?_ K 0 (by omega) (by omega);rintro n A;clear G;subst y;by_cases V:n<U.length
 .left
  obtain⟨x,D⟩:∃x,U[n]? =some x:=⟨U[n],GT V⟩
  have S:=I x (Lo D);have w1:IntKind.i64.wrap ((n:Int)+1)=((n+1:Nat):Int):=by rw[ai];omega
  rcases yc H with⟨m,o,C,rfl,z,B⟩ | ⟨rfl,rfl⟩
  .rw[ga] at B
   have X:C[n]? =some (.str x):=by have:=uQ D;rw[<-B,QQQ (by omega)] at this;exact this
   have M:=gL X;have J :∀h,C[n]'h=.str x:=fun h=>by rw[GT h] at X;exact QQb X
   refine⟨n+1,?_⟩;refine bM (show n+1<=U.length/\U.length-(n+1)<U.length-n from⟨by omega,by omega⟩) ?_;simp[h4,h44,h45,V,z,J,M,S,w1]
  .simp at V
 .right
  simp[h4,h45,V]
theorem EN(Q:5<K)(N:Mem)(w v:AV)(L U:List (List UInt8))(H:sts N v=some U)(R:U.length<=3)(I:∀u∈U,O (.fn 18) [w,.str u] N=some ⟨.bool (decide (u∈L)),none,[]⟩)(hd:∃u∈U,u∈L)(y:ag f35=[b1,b]):
  ∃F:Env->Bool->Env,∀Z d,(ad Z 4=w/\ad Z 44=v/\ad Z 45=.int .i64 U.length/\ad Z 46=.int .i64 0)->
   aT (aU prog) w9 O K 59 m0 true (.loop b) ⟨Z,N,d⟩=some (.ret,⟨F Z d,N,d⟩)/\ad (F Z d) 2=.int .i64 9:=by
 simp[ag,aH,f35] at y;obtain⟨_,y⟩:=y;refine bG (L:=[46,46,46]) (by subst y;rfl) (fun Z=>ad Z 4=w/\ad Z 44=v/\ad Z 45=.int .i64 U.length/\ad Z 46=.int .i64 0) (fun Z z =>ad z 2=.int .i64 9) ?_;rintro Z d ⟨h4,h44,h45,h46⟩;have D:au [46,46,46] (ab b) Z ((46,.int .i64 ((0:Nat):Int))::Z)=au [46,46,46] (ab b) Z Z:=by simp[au,h46]
 rw[<-D];refine bW (α:=Nat) (fun n=>⟨au [46,46,46] (ab b) Z ((46,.int .i64 (n:Int))::Z),N,d⟩) (fun n=>U.length-n) (fun n=>∃u∈U.drop n,u∈L) _ _ d _ (by simp) ?_ K 0 (by simpa using hd) (by omega);rintro n ⟨u,hu,huL⟩;clear D;subst y;have S:n<U.length:=by have:=List.length_pos_of_mem hu;rw[QXZ] at this;omega
 obtain⟨x,G⟩:∃x,U[n]? =some x:=⟨U[n],GT S⟩
 have X:=I x (Lo G);have w1:IntKind.i64.wrap ((n:Int)+1)=((n+1:Nat):Int):=by rw[ai];omega
 rcases yc H with⟨m,o,C,rfl,B,A⟩ | ⟨rfl,rfl⟩
 .rw[ga] at A
  have W:C[n]? =some (.str x):=by have:=uQ G;rw[<-A,QQQ (by omega)] at this;exact this
  have M:=gL W;have J :∀h,C[n]'h=.str x:=fun h=>by rw[GT h] at W;exact QQb W
  by_cases V:x∈L
  .right
   rw[decide_eq_true V] at X;simp[h4,h44,h45,S,B,J,M,X]
  .left
   rw[decide_eq_false V] at X;refine⟨n+1,?_⟩;refine bM (show(∃u∈U.drop (n+1),u∈L)/\U.length-(n+1)<U.length-n from⟨⟨u,?_,huL⟩,by omega⟩) ?_
   .rw[N2 S,List.mem_cons] at hu
    rcases hu with rfl | hu
    .rw[GT S] at G
     cases G;exact absurd huL V
    .exact hu
   simp[h4,h44,h45,S,B,J,M,X,w1]
 .simp at S
theorem Yq{l:List (List (List UInt8))}(h:∀U∈l,U.length<=3):l.flatten.length<=3*l.length:=by
 induction l with
 |nil=>simp
 |cons x l ih=>
  have a:=h x (by simp);have b:=ih fun U Z=>h U (by simp[Z])
  rw[List.flatten_cons,Nm,List.length_cons];omega
def Db:List (List UInt8)->List (List (List UInt8))->Bool
 |_,[]=>false
 |L,U::r=>U.any (fun u=>decide (u∈L))||Db (L++U) r
theorem FR:∀{us:List (List (List UInt8))} {L:List (List UInt8)},(L++us.flatten).Nodup->Db L us=false
 | [],_,_=>rfl
 |U::r,L,h=>by rw[List.flatten_cons,<-SP] at h;rw[Db,FR h,Bool.or_false,List.any_eq_false];intro u hu Z;have X:=(List.nodup_append.1 h).1;exact(List.nodup_append.1 X).2.2 u (of_decide_eq_true Z) u hu rfl
variable{us:List (List (List UInt8))}
section
variable{s:af8}{p t q:Nat}{evs:List (List AV)}{M:Mem}(H:agS s p t q evs us M)
include s p t q evs M H
theorem K8(B:Bool)(hB:Db [bC] us=B)(hK:5<K){bi:Code}(hb:ag f35=[b,bi]):
  ∃F:Env->Bool->Env×Mem×Nat,∀Z d,(ad Z 1=.ptr M.length 0/\ad Z 4=.slice (M.length+1) 0 1 none/\ad Z 30=evV q evs.length/\ad Z 31=.int .i64 evs.length/\ad Z 32=.int .i64 0)->
   aT (aU prog) w9 (tI (fV s p t evs us M)) K 59 M.length true (.loop b) ⟨Z,M++[.cells true 0 (bS s p t q evs.length),.cells true 1 [.str bC]],d⟩=some (bif B then .ret else .exit 1,⟨(F Z d).1,(F Z d).2.1,d⟩)/\(B=true->ad (F Z d).1 2=.int .i64 9):=by
 refine kH (L:=[32,32,32,4]) (by simp[ag,aH,f35] at hb;rw[<-hb.1];rfl) (fun Z=>ad Z 1=.ptr M.length 0/\ad Z 4=.slice (M.length+1) 0 1 none/\ad Z 30=evV q evs.length/\ad Z 31=.int .i64 evs.length/\ad Z 32=.int .i64 0) (fun _ AC _ _=>B=true->ad AC 2=.int .i64 9) ?_;rintro Z d ⟨h1,h4,h30,h31,h32⟩;have Y' :=hb;simp[ag,aH,f35] at Y';obtain⟨I,hb2⟩:=Y';have hn:au [32,32,32,4] (ab b) Z ((4,.slice (M.length+(0+1)) 0 (bC::(us.take 0).flatten).length none)::(32,.int .i64 ((0:Nat):Int))::Z)=au [32,32,32,4] (ab b) Z Z:=by simp[au,h4,h32]
 rw[<-hn];have:=H.small;refine kG (α:=Mem×Nat×Nat) (fun a=>⟨au [32,32,32,4] (ab b) Z ((4,.slice (M.length+(a.2.2+1)) 0 (bC::(us.take a.2.1).flatten).length none)::(32,.int .i64 (a.2.1:Int))::Z),M++(af6.cells true 0 (bS s p t q evs.length)::a.1),d⟩) (fun a=>evs.length-a.2.1)
  (fun a=>a.2.1<=evs.length/\a.1[a.2.2]? =some (.cells true 1 (stC (bC::(us.take a.2.1).flatten)))/\Db (bC::(us.take a.2.1).flatten) (us.drop a.2.1)=B) (bif B then .ret else .exit 1) d (fun AC _=>∃_:Nat,B=true->ad AC 2=.int .i64 9) (by cases B<;>simp) ?_ K ([.cells true 1 [.str bC]],0,0) ⟨by simp,by simp[stC],by simpa using hB⟩ (by simp only;omega)
 rintro ⟨X,i,j⟩ ⟨hi,hX,hdu⟩;simp only at hi hX hdu;clear hn;by_cases y:i<evs.length
 .obtain⟨W,z⟩:∃W,evs[i]? =some W:=⟨_,GT y⟩
  obtain⟨U,m⟩:∃U,us[i]? =some U:=⟨_,GT (by rw[H.len];exact y)⟩
  have aaL:=Lo z;have IR:evs≠[]:=by rintro rfl;simp at y
  obtain⟨o,hq⟩:=H.hq IR;have lq:=gL hq;have hq' :∀X,(M++X)[q]? =some (.cells o 32 evs.flatten):=fun X=>gU hq _
  obtain⟨hr1,hr2⟩:=H.row z;obtain⟨R,hR⟩:=xE evs.flatten;rw[<-hR] at hr1 hr2;simp only[<-hR] at hq';have l32:=H.l32 _ aaL;have hck:=H.cok _ aaL;have hC:=Hk (s:=s) (p:=p) (t:=t) (us:=us) (M:=M) aaL (af6.cells true 0 (bS s p t q evs.length)::(X++[.cells true 0 W]));obtain⟨v,G,hO,hs⟩:=xe H z m (af6.cells true 0 (bS s p t q evs.length)::(X++[.cells true 0 W]));obtain⟨v2,J,hO2,hs2⟩:=xe H z m (af6.cells true 0 (bS s p t q evs.length)::(X++(.cells true 0 W::G)));have hX1:j<X.length:=gL hX;have Y:(M++(af6.cells true 0 (bS s p t q evs.length)::(X++(af6.cells true 0 W::(G++J)))))[M.length+(j+1)]? =some (.cells true 1 (stC (bC::(us.take i).flatten))):=by rw[iG,List.getElem?_cons_succ,Hi hX1];exact hX
  have D :sts (M++(af6.cells true 0 (bS s p t q evs.length)::(X++(af6.cells true 0 W::G)))) v=some U:=by have:=hs [];simpa using this
  have ady :sts (M++(af6.cells true 0 (bS s p t q evs.length)::(X++(af6.cells true 0 W::(G++J))))) v2=some U:=by have:=hs2 [];simpa using this
  have hsm:(bC::(us.take i).flatten).length+U.length<=1000000:=by
   have a:=Yq (l:=us.take i) fun U m=>H.aiK U (List.mem_of_mem_take m)
   have b:=H.aiK U (Lo m);rw[P3] at a;rw[List.length_cons];omega
  have Q:=B6 Y ady hsm;have hfl:(us.take (i+1)).flatten=(us.take i).flatten++U:=by rw[List.take_add_one,m];simp
  have hdr:us.drop i=U::us.drop (i+1):=by
   have X' :i<us.length:=by rw[H.len];exact y
   rw[N2 X'];rw[GT X'] at m;rw[QQb m]
  rw[hdr] at hdu;have hst:sts (M++(af6.cells true 0 (bS s p t q evs.length)::(X++(af6.cells true 0 W::G)))) (.slice (M.length+(j+1)) 0 (bC::(us.take i).flatten).length none)=some (bC::(us.take i).flatten):=
   PF (o:=true) (by rw[iG,List.getElem?_cons_succ,Hi hX1];exact hX)
  have C:∀u∈U,tI (fV s p t evs us M) (.fn 18) [.slice (M.length+(j+1)) 0 (bC::(us.take i).flatten).length none,.str u] (M++(af6.cells true 0 (bS s p t q evs.length)::(X++(af6.cells true 0 W::G))))=some ⟨.bool (decide (u∈bC::(us.take i).flatten)),none,[]⟩:=fun u hu=>by rw[AI u hst (by omega)]
  have evv:evV q evs.length=.slice q 0 evs.length none:=by unfold evV;rw[if_neg (by omega)]
  have adz :=h30;rw[evv] at adz;have w1:IntKind.i64.wrap ((i:Int)+1)=((i+1:Nat):Int):=by rw[ai];omega
  obtain⟨L,hL⟩:=xE (bC::(us.take i).flatten);have A :bC::(us.take (i+1)).flatten=L++U:=by rw[hfl,hL];rfl
  rw[<-hL] at hX Y hsm Q hdu;simp only[<-hL] at C;have gck:(∀x:AV,x∈W->x.af2=true)=True:=eq_true hck;have t32:List.take 32 W=W:=GE (by omega);have hjl:∀j,(M.length+j<M.length)=False:=fun j=>gN _ _
  have hUl:=H.aiK U (Lo m);have Do:=LD D;by_cases V:∃u∈U,u∈L
  .obtain⟨F,hF⟩:=EN (m0:=M.length) hK (M++(af6.cells true 0 (bS s p t q evs.length)::(X++(af6.cells true 0 W::G)))) (.slice (M.length+(j+1)) 0 L.length none) v L U D hUl C V hb
   have S':=fun Z d h=>(hF Z d h).1
   have S:=fun Z d h=>(hF Z d h).2
   clear hF C;obtain rfl:B=true:=by rw[<-hdu,Db,QQk];left;obtain⟨u,h1,h2⟩:=V;exact List.any_eq_true.2 ⟨u,h1,decide_eq_true h2⟩
   simp only[bS] at hC hO hO2 S' S Q;right;simp only[<-hL];clear hs hs2 Y D ady hfl A hL hR H hq hst;subst I;simp only[<-hb2] at S' S;simp[-kz,-AV.af2,-CO,Do,bS,h1,adz,h31,y,hq',hr1,hr2,l32,gck,t32,hC,hO,hjl,S',S];done
  .obtain⟨F,hF⟩:=Hj (O:=tI (fV s p t evs us M)) (m0:=M.length) hK (M++(af6.cells true 0 (bS s p t q evs.length)::(X++(af6.cells true 0 W::G)))) (.slice (M.length+(j+1)) 0 L.length none) v U D hUl (fun u hu=>by rw[C u hu,decide_eq_false (fun h=>V ⟨u,hu,h⟩)]) hb
   have S':=fun Z d h=>(hF Z d h).1
   have S:=fun Z d h=>(hF Z d h).2
   clear hF C;have ael :Db (L++U) (us.drop (i+1))=B:=by
    rw[<-hdu,Db];have:U.any (fun u=>decide (u∈L))=false:=by rw[List.any_eq_false];intro u hu h;exact V ⟨u,hu,of_decide_eq_true h⟩
    rw[this,Bool.false_or]
   simp only[bS] at hC hO hO2 S' S Q;left;refine⟨((X++(af6.cells true 0 W::(G++J))).set j .HS++[.cells true 1 (stC (L++U))],i+1,X.length+(G.length+J.length+1)),?_⟩;refine bM (show(i+1<=evs.length/\((X++(af6.cells true 0 W::(G++J))).set j .HS++[af6.cells true 1 (stC (L++U))])[X.length+(G.length+J.length+1)]? =some (.cells true 1 (stC (bC::(us.take (i+1)).flatten)))/\Db (bC::(us.take (i+1)).flatten) (us.drop (i+1))=B)/\evs.length-(i+1)<evs.length-i from
     ⟨⟨by omega,by rw[A,Pi (by simp)];simp,by rw[A];exact ael⟩,by omega⟩) ?_
   simp only[A,<-hL];clear hs hs2 Y D ady hfl A hL hR H hq hst V hdu ael;subst I;simp only[<-hb2] at S' S;simp[-kz,-AV.af2,-CO,Do,bS,h1,adz,h31,y,hq',hr1,hr2,l32,gck,t32,hC,hO,hO2,Q,w1,hjl,S',S];done
 .right
  obtain rfl:B=false:=by rw[<-hdu,Mp (by rw[H.len];omega)];rfl
  subst I;simp[h31,y]
theorem GL:
  kO prog 35 [.agg (bS s p t q evs.length)] M (.int .i64 (bif Db [bC] us then 9 else 0)) M:=by
 have A:aS prog 35=some f35:=by kernel_rfl
 obtain⟨b,z,X⟩:∃b z,ag f35=[b,z]:=⟨_,_,rfl⟩
 obtain⟨B,u⟩:∃B,Db [bC] us=B:=⟨_,rfl⟩
 obtain⟨F,S⟩:=K8 H B u (K:=10) (by decide) X;rw[u];have J:=fun W d h=>(S W d h).1
 have Z:=fun W d h=>(S W d h).2
 clear S;simp[ag,aH,f35] at X;obtain⟨X,_⟩:=X;subst X;have m:=Jn q evs.length;have G:=Lf (s:=s) (p:=p) (t:=t) (evs:=evs) (us:=us) (M:=M) [.cells true 0 (bS s p t q evs.length)];have D:=Lg (s:=s) (p:=p) (t:=t) (evs:=evs) (us:=us) (M:=M) (M++[.cells true 0 (bS s p t q evs.length)]);have V:¬(12:Int)<evs.length:=by have:=H.small;omega
 simp only[bS] at J Z G D;have h:aa (aU prog) w9 (aS prog) (tI (fV s p t evs us M)) 10 35 [.agg (bS s p t q evs.length)] M=some ⟨.int .i64 (bif B then 9 else 0),none,[]⟩:=by
  cases B with
  |false=>
   simp[-CO,m,aa,A,f35,bS,G,D,V,J];done
  |true=>
   have C :=fun W d h=>Z W d h rfl
   clear Z;simp[-CO,m,aa,A,f35,bS,G,D,V,J,C];done
 have:=(ah ae (al _) (RB H) (ao _) h).1;simpa [afA.mem] using this
end
structure Tryz.agX (s:af8)(p t q:Nat)(evs:List (List AV))(cs:List Evc)(M:Mem):Prop where
 hp:∃o,M[p]? =some (.cells o 2 (pC s.P))
 ht:∃o,M[t]? =some (.cells o 3 (tC s.T))
 hq:evs≠[]->∃o,M[q]? =some (.cells o 32 evs.flatten)
 len:evs.length=cs.length
 small:cs.length<=4
 aiv:∀c∈cs,agU s c
 con:∀(i:Nat) ev c,evs[i]? =some ev->cs[i]? =some c->agO M ev c
theorem C4{α β:Type}{P:Nat->α->β->Prop}:∀(l:List α),(∀(i:Nat) a,l[i]? =some a->∃b,P i a b)->∃X:List β,X.length=l.length/\∀(i:Nat) a b,l[i]? =some a->X[i]? =some b->P i a b
 | [],_=>⟨[],rfl,fun i a b h=>by simp at h⟩
 |x::l,h=>by
  obtain⟨b,W⟩:=h 0 x rfl;obtain⟨X,V,S⟩:=C4 (P:=fun i=>P (i+1)) l fun i a Z=>h (i+1) a (by simpa using Z)
  refine⟨b::X,by simp[V],fun i a c Z hc=>?_⟩;cases i with
  |zero=>simp at Z hc;subst Z hc;exact W
  |succ i=>exact S i a c (by simpa using Z) (by simpa using hc)
section
variable {s:af8}{p t q:Nat}{evs:List (List AV)}{cs:List Evc}{M:Mem}
section
variable (H:agX s p t q evs cs M)
include H
theorem Tryz.agX.more(Z:Mem):agX s p t q evs cs (M++Z) where
 hp:=by obtain⟨o,h⟩:=H.hp;exact⟨o,gU h _⟩
 ht:=by obtain⟨o,h⟩:=H.ht;exact⟨o,gU h _⟩
 hq:=fun he=>by obtain⟨o,h⟩:=H.hq he;exact⟨o,gU h _⟩
 len:=H.len
 small:=H.small
 aiv:=H.aiv
 con:=fun i ev c X W=>(H.con i ev c X W).more Z
theorem Tryz.agX.at:agS s p t q evs (cs.map unE) M where
 hp:=H.hp
 ht:=H.ht
 hq:=H.hq
 len:=by rw[QQi,H.len]
 small:=by rw[H.len];exact H.small
 con:=fun i ev U W Z=>by rw[QQX,Pl] at Z;obtain⟨c,h3,V⟩:=Z;exact⟨c,H.aiv c (Lo h3),V,fun X=>(H.con i ev c W h3).more X⟩
theorem Tryz.agX.l32:∀e∈evs,e.length=32:=H.at.l32
theorem Tryz.agX.cok:∀e∈evs,∀x∈e,x.af2=true:=H.at.cok
theorem Tryz.agX.flat:evs.flatten.length=cs.length*32:=by rw[UI H.l32,H.len]
end
theorem O4{evs:List (List AV)}(h:∀e∈evs,∀x∈e,x.af2=true):evs.flatten.all AV.af2=true:=by rw[List.all_eq_true];intro x X;obtain⟨e,he,Z⟩:=List.mem_flatten.1 X;exact h e he x Z
theorem YJ(s:af8):0<s.T.length:=by
 have:∀k<8,0<(bL k).length:=by decide
 exact this _ (Nat.mod_lt _ (by decide))
end
theorem SS(L:List P2):∀f,AV.af7 f (pC L)=true:=fun f=>by rw[Vy];exact Zo f _
theorem D6:∀(f:Nat->Bool) (L:List Tr),AV.af7 f (tC L)=true
 |f,[]=>rfl
 |f,k::l=>by simp[tC,AV.af7,AV.afF,D6 f l]
def OkN(T:Nat)(new:Mem):Prop:=∀f:Nat->Bool,(∀b,b<T->f b=true)->new.all (fun x=>lH x&&x.afF f)=true
variable{T:Nat}
theorem OkN.of{new:Mem}(h:∀x∈new,lH x=true/\x.afF (fun b=>decide (b<T))=true):OkN T new:=fun f Z=>List.all_eq_true.2 fun x X=>by obtain⟨a,b⟩:=h x X;rw[a,Bool.true_and];exact af6.agc (fun k W=>Z k (of_decide_eq_true W)) x b
def aiL(T:Nat)(vs:List AV):Prop:=∀f:Nat->Bool,(∀b,b<T->f b=true)->AV.af7 f vs=true
theorem aiL.of{vs:List AV}(h:AV.af7 (fun b=>decide (b<T)) vs=true):aiL T vs:=fun f Z=>AV.agt (fun k X=>Z k (of_decide_eq_true X)) vs h
def qOf:AV->Nat
 |.slice kr _ _ _=>kr
 |_=>0
end Go.Proofs
namespace Go.Proofs
open Go.Eng
open Tryz
section
variable {s:af8}{p t q:Nat}{evs:List (List AV)}{cs:List Evc}{M:Mem}
end
structure Tryz.aiU (M:Mem)(v:AV)(evs:List (List AV)):Prop where
 s:∀Z,kh (aU prog) (M++Z) 32 38 v=some (evs.length,evs.flatten)
 l:∀N,CO (aU prog) 38 N v=some (.int .i64 evs.length)
theorem XJ(q n:Nat):(evV q n).known=true:=by unfold evV;split<;>rfl
section
variable {s:af8}{p t q:Nat}{evs:List (List AV)}{cs:List Evc}{M:Mem}
theorem Tryz.agX.chk(H:agX s p t q evs cs M):kO prog 35 [.agg (bS s p t q cs.length)] M (.int .i64 (bif Db [bC] (cs.map unE) then 9 else 0)) M:=by
 have:=GL H.at
 rwa [H.len] at this
end
end Go.Proofs
namespace Go.Proofs
open Go.Eng
theorem sK:∀{evs:List (List AV)} (k:Nat),(∀e∈evs,e.length=32)->evs.flatten.drop (k*32)=(evs.drop k).flatten
 | [],k,_=>by simp
 |e::l,0,_=>by simp
 |e::l,k+1,h=>by have X:=h e (by simp);rw[List.flatten_cons,List.drop_succ_cons,<-sK k (fun x Z=>h x (by simp[Z])),List.drop_append,Mp (by omega),List.nil_append,show(k+1)*32-e.length=k*32 by omega]
section
variable {s:af8}{p t q:Nat}{evs:List (List AV)}{cs:List Evc}{M:Mem}
end
end Go.Proofs
namespace Go.Proofs
open Go.Eng
open Tryz
def lP(s:af8)(a:AV):AV:=.agg [.int .u8 s.kind,.int .i8 s.sx,.int .i8 s.sy,.bool s.half,a]
theorem Q0(s:af8)(a:AV)(n:Nat)(y:a=.y9/\n=0\/a=.slice 0 0 n none)(M:Mem):kO prog 8 [lP s a] M (.bool (decide (n<=3))) M:=by
 have Z:aS prog 8=some f8:=by kernel_rfl
 refine fM (aj _) ?_;rcases y with⟨rfl,rfl⟩ | rfl
 .simp[aa,Z,f8,lP]
 .simp[aa,Z,f8,lP]
  omega
def qq:Nat->Code->Code
 |0,c=>c
 |n+1,.seq _ c=>qq n c
 |_+1,c=>c
def pj:Nat->Code->Code
 |0,.seq a _=>a
 |n+1,.seq _ c=>pj n c
 |_,c=>c
theorem xA{f:FuncId}{args:List AV}{v:AV}{p:Mem->Prop}{M:Mem}(h:p M):fU f args v p (.fn f) args M=some ⟨v,none,[]⟩:=by unfold fU;rw[if_pos ⟨rfl,rfl,h⟩]
variable{i:Int}{x1 x2 x3:List UInt8}
section
variable {M:Mem}{a1 a2 a4:AV}{a3:List UInt8}{e:Int}
section
variable (h1:a1.af2=true)(h2:a2.af2=true)(h4:a4.af2=true)(k1:a1.known=true)(k2:a2.known=true)(k4:a4.known=true)(he:e≠0)(hC:∀Z,kO prog 29 [.agg [a1,a2,.str a3,a4],.agg [.str x1,.str x2,.str x3]] (M++Z) (.int .i64 e) (M++Z))(Z:Mem)
include h1 h2 h4 k1 k2 k4 he hC Z
theorem Wc:
  kO prog 10 [.agg [a1,a2,.str a3,a4],.agg [.str x1,.str x2,.str x3]] (M++Z) (.tuple [.str [],.int .i64 e]) (M++Z):=by
 have F:aS prog 10=some f10:=by kernel_rfl
 have S:=gn (f:=29) (args:=[.agg [a1,a2,.str a3,a4],.agg [.str x1,.str x2,.str x3]]) (v:=.int .i64 e) (p:=fun W =>∃Z,W =M++Z) fun W ⟨Z,h⟩=>by rw[h];exact hC Z
 have V:∀K,fU 29 [.agg [a1,a2,.str a3,a4],.agg [.str x1,.str x2,.str x3]] (.int .i64 e) (fun W =>∃Z,W =M++Z) (.fn 29) [.agg [a1,a2,.str a3,a4],.agg [.str x1,.str x2,.str x3]] ((M++Z)++K)=some ⟨.int .i64 e,none,[]⟩:=fun K =>xA ⟨Z++K,SP _ _ _⟩
 obtain⟨O,X⟩:=xE (fU 29 [.agg [a1,a2,.str a3,a4],.agg [.str x1,.str x2,.str x3]] (.int .i64 e) (fun W =>∃Z,W =M++Z));rw[<-X] at S;simp only[<-X] at V;obtain⟨N,G⟩:=xE (M++Z);rw[<-G];simp only[<-G] at V;have J:=V [];have D:∀j,¬(N.length+j<N.length):=fun j=>by omega
 rw[List.append_nil] at J;have h:aa (aU prog) (fun _=>[]) (aS prog) O 1 10 [.agg [a1,a2,.str a3,a4],.agg [.str x1,.str x2,.str x3]] N=some ⟨.tuple [.str [],.int .i64 e],none,[]⟩:=by clear S X hC;simp[-AV.af2,-AV.known,-AV.cells,vS,aa,F,f10,V,he]
 have:=(ah ae (al _) S (ao _) h).1;simpa [afA.mem] using this
theorem LU:
  kO prog 11 [.agg [a1,a2,.str a3,a4],.agg [.str x1,.str x2,.str x3]] (M++Z) (.tuple [.agg [.str [],.y9,.int .i64 0,.str [],.str [],.str []],.int .i64 e]) (M++Z):=by
 have D:aS prog 11=some f11:=by kernel_rfl
 have S:=gn (f:=29) (args:=[.agg [a1,a2,.str a3,a4],.agg [.str x1,.str x2,.str x3]]) (v:=.int .i64 e) (p:=fun W =>∃Z,W =M++Z) fun W ⟨Z,h⟩=>by rw[h];exact hC Z
 have V:∀K,fU 29 [.agg [a1,a2,.str a3,a4],.agg [.str x1,.str x2,.str x3]] (.int .i64 e) (fun W =>∃Z,W =M++Z) (.fn 29) [.agg [a1,a2,.str a3,a4],.agg [.str x1,.str x2,.str x3]] ((M++Z)++K)=some ⟨.int .i64 e,none,[]⟩:=fun K =>xA ⟨Z++K,SP _ _ _⟩
 obtain⟨O,X⟩:=xE (fU 29 [.agg [a1,a2,.str a3,a4],.agg [.str x1,.str x2,.str x3]] (.int .i64 e) (fun W =>∃Z,W =M++Z));rw[<-X] at S;simp only[<-X] at V;obtain⟨N,F⟩:=xE (M++Z);rw[<-F];simp only[<-F] at V;have J:=V [];have G:∀j,¬(N.length+j<N.length):=fun j=>by omega
 rw[List.append_nil] at J;have h:aa (aU prog) (fun _=>[]) (aS prog) O 1 11 [.agg [a1,a2,.str a3,a4],.agg [.str x1,.str x2,.str x3]] N=some ⟨.tuple [.agg [.str [],.y9,.int .i64 0,.str [],.str [],.str []],.int .i64 e],none,[]⟩:=by clear S X hC;simp[-AV.af2,-AV.known,-AV.cells,vS,bZ,aa,D,f11,V,he,G]
 have:=(ah ae (al _) S (ao _) h).1;simpa [afA.mem] using this
end
theorem Hy{b:Bool}(h1:a1.af2=true)(h2:a2.af2=true)(h4:a4.af2=true)(H:a1.known=true)(I:a2.known=true)(Q:a4.known=true)(he:e≠0)(y:∀Z,kO prog 29 [.agg [a1,a2,.str a3,a4],.agg [.str x1,.str x2,.str x3]] (M++Z) (.int .i64 e) (M++Z))(Z:Mem):
  kO prog 31 [.agg [a1,a2,.str a3,a4],.agg [.str x1,.str x2,.str x3],.int .i64 i,.bool b] (M++Z) (.tuple [.agg [.str [],.str [],.str []],.int .i64 e]) (M++Z):=by
 have D:aS prog 31=some f31:=by kernel_rfl
 have S:=gn (f:=29) (args:=[.agg [a1,a2,.str a3,a4],.agg [.str x1,.str x2,.str x3]]) (v:=.int .i64 e) (p:=fun W =>∃Z,W =M++Z) fun W ⟨Z,h⟩=>by rw[h];exact y Z
 have V:∀K,fU 29 [.agg [a1,a2,.str a3,a4],.agg [.str x1,.str x2,.str x3]] (.int .i64 e) (fun W =>∃Z,W =M++Z) (.fn 29) [.agg [a1,a2,.str a3,a4],.agg [.str x1,.str x2,.str x3]] ((M++Z)++K)=some ⟨.int .i64 e,none,[]⟩:=fun K =>xA ⟨Z++K,SP _ _ _⟩
 obtain⟨O,X⟩:=xE (fU 29 [.agg [a1,a2,.str a3,a4],.agg [.str x1,.str x2,.str x3]] (.int .i64 e) (fun W =>∃Z,W =M++Z));rw[<-X] at S;simp only[<-X] at V;obtain⟨N,F⟩:=xE (M++Z);rw[<-F];simp only[<-F] at V;have J:=V [];have G:∀j,¬(N.length+j<N.length):=fun j=>by omega
 rw[List.append_nil] at J;have h:aa (aU prog) (fun _=>[]) (aS prog) O 1 31 [.agg [a1,a2,.str a3,a4],.agg [.str x1,.str x2,.str x3],.int .i64 i,.bool b] N=some ⟨.tuple [.agg [.str [],.str [],.str []],.int .i64 e],none,[]⟩:=by clear S X y;simp[-AV.af2,-AV.known,-AV.cells,vS,bZ,aa,D,f31,V,he,G]
 have:=(ah ae (al _) S (ao _) h).1;simpa [afA.mem] using this
section
variable (h1:a1.af2=true)(h2:a2.af2=true)(h4:a4.af2=true)(k1:a1.known=true)(k2:a2.known=true)(k4:a4.known=true)(he:e≠0)
include h1 h2 h4 k1 k2 k4 he
theorem RZ(y:∀Z,kO prog 31 [.agg [a1,a2,.str a3,a4],.agg [.str x1,.str x2,.str x3],.int .i64 i,.bool true] (M++Z) (.tuple [.agg [.str [],.str [],.str []],.int .i64 e]) (M++Z))(Z:Mem):
  kO prog 12 [.agg [a1,a2,.str a3,a4],.agg [.str x1,.str x2,.str x3],.int .i64 i] (M++Z) (.tuple [.agg [.str [],.str [],.str []],.int .i64 e]) (M++Z):=by
 have D:aS prog 12=some f12:=by kernel_rfl
 have S:=gn (f:=31) (args:=[.agg [a1,a2,.str a3,a4],.agg [.str x1,.str x2,.str x3],.int .i64 i,.bool true]) (v:=.tuple [.agg [.str [],.str [],.str []],.int .i64 e]) (p:=fun W =>∃Z,W =M++Z) fun W ⟨Z,h⟩=>by rw[h];exact y Z
 have V:∀K,fU 31 [.agg [a1,a2,.str a3,a4],.agg [.str x1,.str x2,.str x3],.int .i64 i,.bool true] (.tuple [.agg [.str [],.str [],.str []],.int .i64 e]) (fun W =>∃Z,W =M++Z) (.fn 31) [.agg [a1,a2,.str a3,a4],.agg [.str x1,.str x2,.str x3],.int .i64 i,.bool true] ((M++Z)++K)=some ⟨.tuple [.agg [.str [],.str [],.str []],.int .i64 e],none,[]⟩:=fun K =>xA ⟨Z++K,SP _ _ _⟩
 obtain⟨O,X⟩:=xE (fU 31 [.agg [a1,a2,.str a3,a4],.agg [.str x1,.str x2,.str x3],.int .i64 i,.bool true] (.tuple [.agg [.str [],.str [],.str []],.int .i64 e]) (fun W =>∃Z,W =M++Z));rw[<-X] at S;simp only[<-X] at V;obtain⟨N,F⟩:=xE (M++Z);rw[<-F];simp only[<-F] at V;have J:=V [];have G:∀j,¬(N.length+j<N.length):=fun j=>by omega
 rw[List.append_nil] at J;have h:aa (aU prog) (fun _=>[]) (aS prog) O 1 12 [.agg [a1,a2,.str a3,a4],.agg [.str x1,.str x2,.str x3],.int .i64 i] N=some ⟨.tuple [.agg [.str [],.str [],.str []],.int .i64 e],none,[]⟩:=by clear S X y;simp[-AV.af2,-AV.known,-AV.cells,vS,aa,D,f12,V,G]
 have:=(ah ae (al _) S (ao _) h).1;simpa [afA.mem] using this
theorem OL(y:∀Z,kO prog 31 [.agg [a1,a2,.str a3,a4],.agg [.str x1,.str x2,.str x3],.int .i64 i,.bool false] (M++Z) (.tuple [.agg [.str [],.str [],.str []],.int .i64 e]) (M++Z))(Z:Mem):
  kO prog 13 [.agg [a1,a2,.str a3,a4],.agg [.str x1,.str x2,.str x3],.int .i64 i] (M++Z) (.tuple [.agg [.str [],.str [],.str []],.int .i64 e]) (M++Z):=by
 have D:aS prog 13=some f13:=by kernel_rfl
 have S:=gn (f:=31) (args:=[.agg [a1,a2,.str a3,a4],.agg [.str x1,.str x2,.str x3],.int .i64 i,.bool false]) (v:=.tuple [.agg [.str [],.str [],.str []],.int .i64 e]) (p:=fun W =>∃Z,W =M++Z) fun W ⟨Z,h⟩=>by rw[h];exact y Z
 have V:∀K,fU 31 [.agg [a1,a2,.str a3,a4],.agg [.str x1,.str x2,.str x3],.int .i64 i,.bool false] (.tuple [.agg [.str [],.str [],.str []],.int .i64 e]) (fun W =>∃Z,W =M++Z) (.fn 31) [.agg [a1,a2,.str a3,a4],.agg [.str x1,.str x2,.str x3],.int .i64 i,.bool false] ((M++Z)++K)=some ⟨.tuple [.agg [.str [],.str [],.str []],.int .i64 e],none,[]⟩:=fun K =>xA ⟨Z++K,SP _ _ _⟩
 obtain⟨O,X⟩:=xE (fU 31 [.agg [a1,a2,.str a3,a4],.agg [.str x1,.str x2,.str x3],.int .i64 i,.bool false] (.tuple [.agg [.str [],.str [],.str []],.int .i64 e]) (fun W =>∃Z,W =M++Z));rw[<-X] at S;simp only[<-X] at V;obtain⟨N,F⟩:=xE (M++Z);rw[<-F];simp only[<-F] at V;have J:=V [];have G:∀j,¬(N.length+j<N.length):=fun j=>by omega
 rw[List.append_nil] at J;have h:aa (aU prog) (fun _=>[]) (aS prog) O 1 13 [.agg [a1,a2,.str a3,a4],.agg [.str x1,.str x2,.str x3],.int .i64 i] N=some ⟨.tuple [.agg [.str [],.str [],.str []],.int .i64 e],none,[]⟩:=by clear S X y;simp[-AV.af2,-AV.known,-AV.cells,vS,aa,D,f13,V,G]
 have:=(ah ae (al _) S (ao _) h).1;simpa [afA.mem] using this
end
end
end Go.Proofs
