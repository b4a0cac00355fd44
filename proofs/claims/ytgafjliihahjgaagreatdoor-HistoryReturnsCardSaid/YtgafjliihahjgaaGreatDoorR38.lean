/- See R54. -/
import Derived.Test.YtgafjliihahjgaaGreatDoorR35
set_option linter.all false
set_option maxRecDepth 100000
set_option maxHeartbeats 40000000
namespace Go.Proofs
open Go.Eng
open Tryz
theorem jD(q n:Nat)(N:Mem):lD (aM prog) 38 N (evV q n)=some (.int .i64 n):=by
 unfold evV;split
 ·rename_i h;subst h;simp
 ·simp
theorem iW(q n:Nat):(evV q n).kS=true:=by unfold evV;split<;>rfl
variable{N:Mem}{U:List (List UInt8)}{v:AV}
theorem IZ(h:sts N v=some U)(N' :Mem):lD (aM prog) 57 N' v=some (.int .i64 U.length):=by rcases rD h with⟨b',o,cs,rfl,h,ht⟩ | ⟨rfl,rfl⟩<;>simp
theorem pf{b:Nat}{L:List (List UInt8)}(hb:N[b]? =some (.cells true 1 (stC L)))(hv:sts N v=some U)(hl:L.length+U.length≤1000000):
  dy (aM prog) N 57 57 (.slice b 0 L.length none) v=some (.slice N.length 0 (L.length+U.length) none,N.set b .kO++[.cells true 1 (stC (L++U))]):=by
 have H':(stC U).all AV.kS=true:=by rw[List.all_eq_true];intro x hx;simp only[stC,List.mem_map] at hx;obtain⟨y,_,rfl⟩:=hx;rfl
 have hs:fA (aM prog) N 1 57 v=some (U.length,stC U):=by
  rcases rD hv with⟨b',o,cs,rfl,h,ht⟩ | ⟨rfl,rfl⟩
  ·have h2:U.length≤cs.length:=by have:=congrArg List.length ht;rw[List.length_take,bU] at this;omega
   rw[bU] at ht;simp[fA,h,h2,ht]
  ·rfl
 have h1:(L.length+U.length)*16≤140737488355328:=by omega
 have h2:L.length+U.length≤140737488355328:=by omega
 have e:(stC L).take L.length++stC U=stC (L++U):=by rw[U7,P8]
 simp[-fA,-List.all_eq_true,-AV.kS,dy,hs,H',hb,bU,h1,h2,e,tW,om]
variable{K p q t:Nat}{M:Mem}{b:Code}{evs:List (List AV)}{s:aeE}{us:List (List (List UInt8))}
section
variable (H:afj s p t q evs us M)
include H
theorem Ar(hK:5<K)(hb:ai f36=[b])(x0:aeD):
  ∃F:Env→Bool→Env×Mem×Nat,∀z' d,(ab z' 3=.slice (M.length+1) 0 1 none∧ab z' 10=evV q evs.length∧ab z' 11=.int .i64 evs.length∧ab z' 12=.int .i64 0)→
   aN (aM prog) (fun _=>[12,12,12,3]) (gC (dO s p t evs us M)) K 22 M.length true (.loop b) ⟨z',M++[x0,.cells true 1 [.str ar]],d⟩=some (.exit 0,⟨(F z' d).1,(F z' d).2.1,d⟩)∧
    ∃X',(F z' d).2.1=M++X' ∧ab (F z' d).1 3=.slice (M.length+(F z' d).2.2) 0 (ar::us.flatten).length none∧X'[(F z' d).2.2]? =some (.cells true 1 (stC (ar::us.flatten))):=by
 refine iz rfl (fun z'=>ab z' 3=.slice (M.length+1) 0 1 none∧ab z' 10=evV q evs.length∧ab z' 11=.int .i64 evs.length∧ab z' 12=.int .i64 0)
  (fun _ AC mem' j=>∃X',mem' =M++X' ∧ab AC 3=.slice (M.length+j) 0 (ar::us.flatten).length none∧X'[j]? =some (.cells true 1 (stC (ar::us.flatten)))) ?_
 rintro z' d ⟨h3,Zv,h11,h12⟩;simp[ai,aK,f36] at hb;have hn:aD [12,12,12,3] (aa b) z' ((3,.slice (M.length+1) 0 (ar::(us.take 0).flatten).length none)::(12,.int .i64 ((0:Nat):Int))::z')=aD [12,12,12,3] (aa b) z' z':=by simp[aD,h3,h12]
 rw[←hn];have:=H.small;refine iE (α:=Mem×Nat×Nat) (fun a=>⟨aD [12,12,12,3] (aa b) z' ((3,.slice (M.length+a.2.2) 0 (ar::(us.take a.2.1).flatten).length none)::(12,.int .i64 (a.2.1:Int))::z'),M++a.1,d⟩) (fun a=>evs.length-a.2.1)
  (fun a=>a.2.1≤evs.length∧a.1[a.2.2]? =some (.cells true 1 (stC (ar::(us.take a.2.1).flatten)))) (.exit 0) d (fun AC mem' =>∃j X',mem' =M++X' ∧ab AC 3=.slice (M.length+j) 0 (ar::us.flatten).length none∧X'[j]? =some (.cells true 1 (stC (ar::us.flatten)))) (by simp) ?_ K ([x0,.cells true 1 [.str ar]],0,1) ⟨by simp,by simp[stC]⟩ (by simp only;omega)
 rintro ⟨X,i,j⟩ ⟨hi,hX⟩;simp only at hi hX;clear hn;by_cases A':i<evs.length
 ·obtain⟨ev,X9⟩:∃ev,evs[i]? =some ev:=⟨_,List.getElem?_eq_getElem A'⟩
  obtain⟨U,hU⟩:∃U,us[i]? =some U:=⟨_,List.getElem?_eq_getElem (by rw[H.len];exact A')⟩
  have Yo:=List.mem_of_getElem? X9;have PP:evs≠[]:=by rintro rfl;simp at A'
  obtain⟨o,hq⟩:=H.hq PP;have lq:=(gL hq);have Zh :∀X,(M++X)[q]? =some (.cells o 32 evs.flatten):=fun X=>by rw[List.getElem?_append_left lq];exact hq
  obtain⟨Ya,Yc⟩:=H.row X9;obtain⟨R,hR⟩:∃R,R=evs.flatten:=⟨_,rfl⟩
  rw[←hR] at Ya Yc;simp only[←hR] at Zh;have l32:=H.l32 _ Yo;have Zf:=H.cok _ Yo;obtain⟨v,nw,hO,hs⟩:=nU H X9 hU (X++[.cells true 0 ev]);have hX1:j<X.length:=(gL hX);have hX2:(M++(X++(aeD.cells true 0 ev::nw)))[M.length+j]? =some (.cells true 1 (stC (ar::(us.take i).flatten))):=by rw[dC,List.getElem?_append_left hX1];exact hX
  have hs' :sts (M++(X++(aeD.cells true 0 ev::nw))) v=some U:=by have:=hs [];simpa using this
  have hsm:(ar::(us.take i).flatten).length+U.length≤1000000:=by
   have key:∀(l:List (List (List UInt8))),(∀U∈l,U.length≤3)→l.flatten.length≤3*l.length:=by
    intro l;induction l with
    |nil=>intro _;simp
    |cons x l ih=>
     intro h;have a:=h x (by simp);have b:=ih fun U hU=>h U (by simp[hU])
     rw[List.flatten_cons,List.length_append,List.length_cons];omega
   have a:=key (us.take i) fun U hU=>H.agZ U (List.mem_of_mem_take hU)
   have b:=H.agZ U (List.mem_of_getElem? hU);rw[List.length_take] at a;rw[List.length_cons];omega
  have ZS:=pf hX2 hs' hsm;have hfl:(us.take (i+1)).flatten=(us.take i).flatten++U:=by rw[List.take_add_one,hU];simp
  have evv:evV q evs.length=.slice q 0 evs.length none:=by unfold evV;rw[if_neg (by omega)]
  rw[evv] at Zv;have w1:IntKind.i64.wrap ((i:Int)+1)=((i+1:Nat):Int):=by rw[al (by omega) (by omega)];omega
  obtain⟨L,hL⟩:∃L,L=ar::(us.take i).flatten:=⟨_,rfl⟩
  have aak :ar::(us.take (i+1)).flatten=L++U:=by rw[hfl,hL];rfl
  rw[←hL] at hX hX2 hsm ZS;have gck:(∀x:AV,x∈ev→x.kS=true)=True:=eq_true Zf;have t32:List.take 32 ev=ev:=List.take_of_length_le (by omega);have Yj:∀j,(M.length+j<M.length)=False:=fun j=>dz _ _
  left;refine⟨((X++(aeD.cells true 0 ev::nw)).set j .kO++[.cells true 1 (stC (L++U))],i+1,X.length+(nw.length+1)),?_⟩;refine dZ (show(i+1≤evs.length∧((X++(aeD.cells true 0 ev::nw)).set j .kO++[aeD.cells true 1 (stC (L++U))])[X.length+(nw.length+1)]? =some (.cells true 1 (stC (ar::(us.take (i+1)).flatten))))∧evs.length-(i+1)<evs.length-i from⟨⟨by omega,by rw[aak,List.getElem?_append_right (by simp)];simp⟩,by omega⟩) ?_;simp only[aak,←hL];clear hs hX2 hs' hfl aak hL hR H hq;subst hb;simp[-dy,-AV.kS,Zv,h11,A',Zh,Ya,Yc,l32,gck,t32,hO,ZS,w1,Yj];done
 ·right
  have e:i=evs.length:=by omega
  have ht:us.take i=us:=List.take_of_length_le (by rw[H.len];omega);rw[ht] at hX ⊢;have:∃AC,aN (aM prog) (fun _=>[12,12,12,3]) (gC (dO s p t evs us M)) K 22 M.length true b ⟨aD [12,12,12,3] (aa b) z' ((3,.slice (M.length+j) 0 (ar::us.flatten).length none)::(12,.int .i64 (i:Int))::z'),M++X,d⟩=some (.exit 0,⟨AC,M++X,d⟩)∧ab AC 3=.slice (M.length+j) 0 (ar::us.flatten).length none:=by subst hb;simp[h11,A']
  obtain⟨AC,k1,k2⟩:=this;exact⟨AC,M++X,k1,j,X,rfl,k2,hX⟩
theorem Cj:
  ∃v X,kF prog 36 [.agg (aP s p t q evs.length)] M v (M++X)∧∀ext,sts (M++(X++ext)) v=some (ar::us.flatten):=by
 have hG:aT prog 36=some f36:=by kernel_rfl
 obtain⟨b,hb⟩:∃b,ai f36=[b]:=⟨_,rfl⟩
 obtain⟨F,hF⟩:=Ar H (K:=10) (by decide) hb (.cells true 0 (aP s p t q evs.length));have I':=fun z' d h=>(hF z' d h).1
 have T':∀z' d,(ab z' 3=.slice (M.length+1) 0 1 none∧ab z' 10=evV q evs.length∧ab z' 11=.int .i64 evs.length∧ab z' 12=.int .i64 0)→
   ∃j X',(F z' d).2.1=M++X' ∧ab (F z' d).1 3=.slice (M.length+j) 0 (ar::us.flatten).length none∧X'[j]? =some (.cells true 1 (stC (ar::us.flatten))):=fun z' d h=>⟨_,(hF z' d h).2⟩
 clear hF;simp[ai,aK,f36] at hb;subst hb;have F':=jD q evs.length;obtain⟨UU,hUU⟩:∃UU,UU=ar::us.flatten:=⟨_,rfl⟩
 rw[←hUU] at T' ⊢;simp only[aP] at I';have h:∃v m',aU (aM prog) (fun _=>[12,12,12,3]) (aT prog) (gC (dO s p t evs us M)) 10 36 [.agg (aP s p t q evs.length)] M=some (v,m')∧
   ∃j X',m' =M++X' ∧v=.slice (M.length+j) 0 UU.length none∧X'[j]? =some (.cells true 1 (stC UU)):=by
  simp[-lD,F',aU,hG,f36,aP,I'];refine⟨_,_,⟨rfl,rfl⟩,T' _ _ ?_⟩;exact⟨rfl,rfl,rfl,rfl⟩
 obtain⟨v,m',h1,j,X',rfl,rfl,h2⟩:=h;refine⟨_,X',aO ae (aq _) (CG H) (au _) h1,fun ext=>FE (o:=true) ?_⟩;rw[dC,List.getElem?_append_left (gL h2)];exact h2
end
def ur(c:Code):List Nat:=if (aa c).contains 32 then [32,32,32,4] else [46,46,46]
variable{O:adM}{b1:Code}{m0:Nat}
theorem Ew(hK:5<K)(N:Mem)(w v:AV)(U:List (List UInt8))(hv:sts N v=some U)(hU:U.length≤3)(hO:∀u∈U,O (.fn 18) [w,.str u] N=some ⟨.bool false,none,[]⟩)(hb:ai f35=[b1,b]):
  ∃F:Env→Bool→Env,∀z' d,(ab z' 4=w∧ab z' 44=v∧ab z' 45=.int .i64 U.length∧ab z' 46=.int .i64 0)→
   aN (aM prog) ur O K 59 m0 true (.loop b) ⟨z',N,d⟩=some (.exit 3,⟨F z' d,N,d⟩)∧
    (ab (F z' d) 1=ab z' 1∧ab (F z' d) 4=w∧ab (F z' d) 6=ab z' 6∧ab (F z' d) 30=ab z' 30∧ab (F z' d) 31=ab z' 31∧ab (F z' d) 32=ab z' 32):=by
 simp[ai,aK,f35] at hb;obtain⟨_,hb⟩:=hb;refine cv (L:=[46,46,46]) (by subst hb;rfl) (fun z'=>ab z' 4=w∧ab z' 44=v∧ab z' 45=.int .i64 U.length∧ab z' 46=.int .i64 0) (fun z' AC =>ab AC 1=ab z' 1∧ab AC 4=w∧ab AC 6=ab z' 6∧ab AC 30=ab z' 30∧ab AC 31=ab z' 31∧ab AC 32=ab z' 32) ?_;rintro z' d ⟨h4,h44,h45,h46⟩;have hn:aD [46,46,46] (aa b) z' ((46,.int .i64 ((0:Nat):Int))::z')=aD [46,46,46] (aa b) z' z':=by simp[aD,h46]
 rw[←hn];refine cV (α:=Nat) (fun n=>⟨aD [46,46,46] (aa b) z' ((46,.int .i64 (n:Int))::z'),N,d⟩) (fun n=>U.length-n) (fun n=>n≤U.length) _ _ d _ (by simp) ?_ K 0 (by omega) (by omega);rintro n Za;clear hn;subst hb;by_cases A':n<U.length
 ·left
  obtain⟨x,hx⟩:∃x,U[n]? =some x:=⟨U[n],List.getElem?_eq_getElem A'⟩
  have hox:=hO x (List.mem_of_getElem? hx);have w1:IntKind.i64.wrap ((n:Int)+1)=((n+1:Nat):Int):=by rw[al (by omega) (by omega)];omega
  rcases rD hv with⟨b',o,cs,rfl,UV,ht⟩ | ⟨rfl,rfl⟩
  ·rw[bU] at ht
   have YO:cs[n]? =some (.str x):=by have:=sj hx;rw[←ht,List.getElem?_take_of_lt (by omega)] at this;exact this
   have Y3:=(gL YO);have abG :∀h,cs[n]'h=.str x:=fun h=>by rw[List.getElem?_eq_getElem h] at YO;exact Option.some.inj YO
   refine⟨n+1,?_⟩;refine dZ (show n+1≤U.length∧U.length-(n+1)<U.length-n from⟨by omega,by omega⟩) ?_;simp[h4,h44,h45,A',UV,abG,Y3,hox,w1]
  ·simp at A'
 ·right
  simp[h4,h45,A']
theorem Cf(hK:5<K)(N:Mem)(w v:AV)(L U:List (List UInt8))(hv:sts N v=some U)(hU:U.length≤3)(hO:∀u∈U,O (.fn 18) [w,.str u] N=some ⟨.bool (decide (u∈L)),none,[]⟩)(hd:∃u∈U,u∈L)(hb:ai f35=[b1,b]):
  ∃F:Env→Bool→Env,∀z' d,(ab z' 4=w∧ab z' 44=v∧ab z' 45=.int .i64 U.length∧ab z' 46=.int .i64 0)→
   aN (aM prog) ur O K 59 m0 true (.loop b) ⟨z',N,d⟩=some (.ret,⟨F z' d,N,d⟩)∧ab (F z' d) 2=.int .i64 9:=by
 simp[ai,aK,f35] at hb;obtain⟨_,hb⟩:=hb;refine cv (L:=[46,46,46]) (by subst hb;rfl) (fun z'=>ab z' 4=w∧ab z' 44=v∧ab z' 45=.int .i64 U.length∧ab z' 46=.int .i64 0) (fun z' AC =>ab AC 2=.int .i64 9) ?_;rintro z' d ⟨h4,h44,h45,h46⟩;have hn:aD [46,46,46] (aa b) z' ((46,.int .i64 ((0:Nat):Int))::z')=aD [46,46,46] (aa b) z' z':=by simp[aD,h46]
 rw[←hn];refine cV (α:=Nat) (fun n=>⟨aD [46,46,46] (aa b) z' ((46,.int .i64 (n:Int))::z'),N,d⟩) (fun n=>U.length-n) (fun n=>∃u∈U.drop n,u∈L) _ _ d _ (by simp) ?_ K 0 (by simpa using hd) (by omega);rintro n ⟨u,hu,huL⟩;clear hn;subst hb;have A':n<U.length:=by have:=List.length_pos_of_mem hu;rw[List.length_drop] at this;omega
 obtain⟨x,hx⟩:∃x,U[n]? =some x:=⟨U[n],List.getElem?_eq_getElem A'⟩
 have hox:=hO x (List.mem_of_getElem? hx);have w1:IntKind.i64.wrap ((n:Int)+1)=((n+1:Nat):Int):=by rw[al (by omega) (by omega)];omega
 rcases rD hv with⟨b',o,cs,rfl,UV,ht⟩ | ⟨rfl,rfl⟩
 ·rw[bU] at ht
  have YO:cs[n]? =some (.str x):=by have:=sj hx;rw[←ht,List.getElem?_take_of_lt (by omega)] at this;exact this
  have Y3:=(gL YO);have abG :∀h,cs[n]'h=.str x:=fun h=>by rw[List.getElem?_eq_getElem h] at YO;exact Option.some.inj YO
  by_cases hxL:x∈L
  ·right
   rw[decide_eq_true hxL] at hox;simp[h4,h44,h45,A',UV,abG,Y3,hox]
  ·left
   rw[decide_eq_false hxL] at hox;refine⟨n+1,?_⟩;refine dZ (show(∃u∈U.drop (n+1),u∈L)∧U.length-(n+1)<U.length-n from⟨⟨u,?_,huL⟩,by omega⟩) ?_
   ·rw[List.drop_eq_getElem_cons A',List.mem_cons] at hu
    rcases hu with rfl | hu
    ·rw[List.getElem?_eq_getElem A'] at hx
     cases hx;exact absurd huL hxL
    ·exact hu
   simp[h4,h44,h45,A',UV,abG,Y3,hox,w1]
 ·simp at A'
theorem VV{l:List (List (List UInt8))}(h:∀U∈l,U.length≤3):l.flatten.length≤3*l.length:=by
 induction l with
 |nil=>simp
 |cons x l ih=>
  have a:=h x (by simp);have b:=ih fun U hU=>h U (by simp[hU])
  rw[List.flatten_cons,List.length_append,List.length_cons];omega
def uT:List (List UInt8)→List (List (List UInt8))→Bool
 |_,[]=>false
 |L,U::r=>U.any (fun u=>decide (u∈L))||uT (L++U) r
theorem Df:∀{us:List (List (List UInt8))}{L:List (List UInt8)},(L++us.flatten).Nodup→uT L us=false
 | [],_,_=>rfl
 |U::r,L,h=>by rw[List.flatten_cons,←List.append_assoc] at h;rw[uT,Df h,Bool.or_false,List.any_eq_false];intro u hu Zj;have h1:=(List.nodup_append.1 h).1;exact(List.nodup_append.1 h1).2.2 u (of_decide_eq_true Zj) u hu rfl
section
variable (H:afj s p t q evs us M)
include H
theorem Iy(B:Bool)(hB:uT [ar] us=B)(hK:5<K){bi:Code}(hb:ai f35=[b,bi]):
  ∃F:Env→Bool→Env×Mem×Nat,∀z' d,(ab z' 1=.ptr M.length 0∧ab z' 4=.slice (M.length+1) 0 1 none∧ab z' 30=evV q evs.length∧ab z' 31=.int .i64 evs.length∧ab z' 32=.int .i64 0)→
   aN (aM prog) ur (gC (dO s p t evs us M)) K 59 M.length true (.loop b) ⟨z',M++[.cells true 0 (aP s p t q evs.length),.cells true 1 [.str ar]],d⟩=some (bif B then .ret else .exit 1,⟨(F z' d).1,(F z' d).2.1,d⟩)∧(B=true→ab (F z' d).1 2=.int .i64 9):=by
 refine iz (L:=[32,32,32,4]) (by simp[ai,aK,f35] at hb;rw[←hb.1];rfl) (fun z'=>ab z' 1=.ptr M.length 0∧ab z' 4=.slice (M.length+1) 0 1 none∧ab z' 30=evV q evs.length∧ab z' 31=.int .i64 evs.length∧ab z' 32=.int .i64 0) (fun _ AC _ _=>B=true→ab AC 2=.int .i64 9) ?_;rintro z' d ⟨h1,h4,YB,h31,h32⟩;have UV :=hb;simp[ai,aK,f35] at UV;obtain⟨hb1,Yl⟩:=UV;have hn:aD [32,32,32,4] (aa b) z' ((4,.slice (M.length+(0+1)) 0 (ar::(us.take 0).flatten).length none)::(32,.int .i64 ((0:Nat):Int))::z')=aD [32,32,32,4] (aa b) z' z':=by simp[aD,h4,h32]
 rw[←hn];have:=H.small;refine iE (α:=Mem×Nat×Nat) (fun a=>⟨aD [32,32,32,4] (aa b) z' ((4,.slice (M.length+(a.2.2+1)) 0 (ar::(us.take a.2.1).flatten).length none)::(32,.int .i64 (a.2.1:Int))::z'),M++(aeD.cells true 0 (aP s p t q evs.length)::a.1),d⟩) (fun a=>evs.length-a.2.1)
  (fun a=>a.2.1≤evs.length∧a.1[a.2.2]? =some (.cells true 1 (stC (ar::(us.take a.2.1).flatten)))∧uT (ar::(us.take a.2.1).flatten) (us.drop a.2.1)=B) (bif B then .ret else .exit 1) d (fun AC _=>∃_:Nat,B=true→ab AC 2=.int .i64 9) (by cases B<;>simp) ?_ K ([.cells true 1 [.str ar]],0,0) ⟨by simp,by simp[stC],by simpa using hB⟩ (by simp only;omega)
 rintro ⟨X,i,j⟩ ⟨hi,hX,hdu⟩;simp only at hi hX hdu;clear hn;by_cases A':i<evs.length
 ·obtain⟨ev,X9⟩:∃ev,evs[i]? =some ev:=⟨_,List.getElem?_eq_getElem A'⟩
  obtain⟨U,hU⟩:∃U,us[i]? =some U:=⟨_,List.getElem?_eq_getElem (by rw[H.len];exact A')⟩
  have Yo:=List.mem_of_getElem? X9;have PP:evs≠[]:=by rintro rfl;simp at A'
  obtain⟨o,hq⟩:=H.hq PP;have lq:=(gL hq);have Zh :∀X,(M++X)[q]? =some (.cells o 32 evs.flatten):=fun X=>by rw[List.getElem?_append_left lq];exact hq
  obtain⟨Ya,Yc⟩:=H.row X9;obtain⟨R,hR⟩:∃R,R=evs.flatten:=⟨_,rfl⟩
  rw[←hR] at Ya Yc;simp only[←hR] at Zh;have l32:=H.l32 _ Yo;have Zf:=H.cok _ Yo;have hC:=Ex (s:=s) (p:=p) (t:=t) (us:=us) (M:=M) Yo (aeD.cells true 0 (aP s p t q evs.length)::(X++[.cells true 0 ev]));obtain⟨v,nw,hO,hs⟩:=nU H X9 hU (aeD.cells true 0 (aP s p t q evs.length)::(X++[.cells true 0 ev]));obtain⟨v2,nw2,Yn,ZC⟩:=nU H X9 hU (aeD.cells true 0 (aP s p t q evs.length)::(X++(.cells true 0 ev::nw)));have hX1:j<X.length:=(gL hX);have hX2:(M++(aeD.cells true 0 (aP s p t q evs.length)::(X++(aeD.cells true 0 ev::(nw++nw2)))))[M.length+(j+1)]? =some (.cells true 1 (stC (ar::(us.take i).flatten))):=by rw[dC,List.getElem?_cons_succ,List.getElem?_append_left hX1];exact hX
  have hs' :sts (M++(aeD.cells true 0 (aP s p t q evs.length)::(X++(aeD.cells true 0 ev::nw)))) v=some U:=by have:=hs [];simpa using this
  have ab5 :sts (M++(aeD.cells true 0 (aP s p t q evs.length)::(X++(aeD.cells true 0 ev::(nw++nw2))))) v2=some U:=by have:=ZC [];simpa using this
  have hsm:(ar::(us.take i).flatten).length+U.length≤1000000:=by
   have a:=VV (l:=us.take i) fun U hU=>H.agZ U (List.mem_of_mem_take hU)
   have b:=H.agZ U (List.mem_of_getElem? hU);rw[List.length_take] at a;rw[List.length_cons];omega
  have ZS:=pf hX2 ab5 hsm;have hfl:(us.take (i+1)).flatten=(us.take i).flatten++U:=by rw[List.take_add_one,hU];simp
  have hdr:us.drop i=U::us.drop (i+1):=by
   have X5 :i<us.length:=by rw[H.len];exact A'
   rw[List.drop_eq_getElem_cons X5];rw[List.getElem?_eq_getElem X5] at hU;rw[Option.some.inj hU]
  rw[hdr] at hdu;have XZ:sts (M++(aeD.cells true 0 (aP s p t q evs.length)::(X++(aeD.cells true 0 ev::nw)))) (.slice (M.length+(j+1)) 0 (ar::(us.take i).flatten).length none)=some (ar::(us.take i).flatten):=
   FE (o:=true) (by rw[dC,List.getElem?_cons_succ,List.getElem?_append_left hX1];exact hX)
  have hCo:∀u∈U,gC (dO s p t evs us M) (.fn 18) [.slice (M.length+(j+1)) 0 (ar::(us.take i).flatten).length none,.str u] (M++(aeD.cells true 0 (aP s p t q evs.length)::(X++(aeD.cells true 0 ev::nw))))=some ⟨.bool (decide (u∈ar::(us.take i).flatten)),none,[]⟩:=fun u hu=>by rw[yn u XZ (by omega)]
  have evv:evV q evs.length=.slice q 0 evs.length none:=by unfold evV;rw[if_neg (by omega)]
  have ab6 :=YB;rw[evv] at ab6;have w1:IntKind.i64.wrap ((i:Int)+1)=((i+1:Nat):Int):=by rw[al (by omega) (by omega)];omega
  obtain⟨L,hL⟩:∃L,L=ar::(us.take i).flatten:=⟨_,rfl⟩
  have aak :ar::(us.take (i+1)).flatten=L++U:=by rw[hfl,hL];rfl
  rw[←hL] at hX hX2 hsm ZS hdu;simp only[←hL] at hCo;have gck:(∀x:AV,x∈ev→x.kS=true)=True:=eq_true Zf;have t32:List.take 32 ev=ev:=List.take_of_length_le (by omega);have Yj:∀j,(M.length+j<M.length)=False:=fun j=>dz _ _
  have hUl:=H.agZ U (List.mem_of_getElem? hU);have F':=IZ hs';by_cases hdup:∃u∈U,u∈L
  ·obtain⟨F,hF⟩:=Cf (m0:=M.length) hK (M++(aeD.cells true 0 (aP s p t q evs.length)::(X++(aeD.cells true 0 ev::nw)))) (.slice (M.length+(j+1)) 0 L.length none) v L U hs' hUl hCo hdup hb
   have I':=fun z' d h=>(hF z' d h).1
   have T':=fun z' d h=>(hF z' d h).2
   clear hF hCo;obtain rfl:B=true:=by rw[←hdu,uT,Bool.or_eq_true];left;obtain⟨u,h1,h2⟩:=hdup;exact List.any_eq_true.2 ⟨u,h1,decide_eq_true h2⟩
   simp only[aP] at hC hO Yn I' T' ZS;right;simp only[←hL];clear hs ZC hX2 hs' ab5 hfl aak hL hR H hq XZ;subst hb1;simp only[←Yl] at I' T';simp[-dy,-AV.kS,-lD,F',aP,h1,ab6,h31,A',Zh,Ya,Yc,l32,gck,t32,hC,hO,Yj,I',T'];done
  ·obtain⟨F,hF⟩:=Ew (O:=gC (dO s p t evs us M)) (m0:=M.length) hK (M++(aeD.cells true 0 (aP s p t q evs.length)::(X++(aeD.cells true 0 ev::nw)))) (.slice (M.length+(j+1)) 0 L.length none) v U hs' hUl (fun u hu=>by rw[hCo u hu,decide_eq_false (fun h=>hdup ⟨u,hu,h⟩)]) hb
   have I':=fun z' d h=>(hF z' d h).1
   have T':=fun z' d h=>(hF z' d h).2
   clear hF hCo;have acO :uT (L++U) (us.drop (i+1))=B:=by
    rw[←hdu,uT];have:U.any (fun u=>decide (u∈L))=false:=by rw[List.any_eq_false];intro u hu h;exact hdup ⟨u,hu,of_decide_eq_true h⟩
    rw[this,Bool.false_or]
   simp only[aP] at hC hO Yn I' T' ZS;left;refine⟨((X++(aeD.cells true 0 ev::(nw++nw2))).set j .kO++[.cells true 1 (stC (L++U))],i+1,X.length+(nw.length+nw2.length+1)),?_⟩;refine dZ (show(i+1≤evs.length∧((X++(aeD.cells true 0 ev::(nw++nw2))).set j .kO++[aeD.cells true 1 (stC (L++U))])[X.length+(nw.length+nw2.length+1)]? =some (.cells true 1 (stC (ar::(us.take (i+1)).flatten)))∧uT (ar::(us.take (i+1)).flatten) (us.drop (i+1))=B)∧evs.length-(i+1)<evs.length-i from
     ⟨⟨by omega,by rw[aak,List.getElem?_append_right (by simp)];simp,by rw[aak];exact acO⟩,by omega⟩) ?_
   simp only[aak,←hL];clear hs ZC hX2 hs' ab5 hfl aak hL hR H hq XZ hdup hdu acO;subst hb1;simp only[←Yl] at I' T';simp[-dy,-AV.kS,-lD,F',aP,h1,ab6,h31,A',Zh,Ya,Yc,l32,gck,t32,hC,hO,Yn,ZS,w1,Yj,I',T'];done
 ·right
  obtain rfl:B=false:=by rw[←hdu,List.drop_of_length_le (by rw[H.len];omega)];rfl
  subst hb1;simp[h31,A']
theorem D9:
  kF prog 35 [.agg (aP s p t q evs.length)] M (.int .i64 (bif uT [ar] us then 9 else 0)) M:=by
 have hG:aT prog 35=some f35:=by kernel_rfl
 obtain⟨b,bi,hb⟩:∃b bi,ai f35=[b,bi]:=⟨_,_,rfl⟩
 obtain⟨B,hB⟩:∃B,uT [ar] us=B:=⟨_,rfl⟩
 obtain⟨F,hF⟩:=Iy H B hB (K:=10) (by decide) hb;rw[hB];have I':=fun z' d h=>(hF z' d h).1
 have T':=fun z' d h=>(hF z' d h).2
 clear hF;simp[ai,aK,f35] at hb;obtain⟨hb,_⟩:=hb;subst hb;have F':=jD q evs.length;have hM:=IA (s:=s) (p:=p) (t:=t) (evs:=evs) (us:=us) (M:=M) [.cells true 0 (aP s p t q evs.length)];have hN:=IB (s:=s) (p:=p) (t:=t) (evs:=evs) (us:=us) (M:=M) (M++[.cells true 0 (aP s p t q evs.length)]);have h12:¬(12:Int)<evs.length:=by have:=H.small;omega
 simp only[aP] at I' T' hM hN;have h:ad (aM prog) ur (aT prog) (gC (dO s p t evs us M)) 10 35 [.agg (aP s p t q evs.length)] M=some ⟨.int .i64 (bif B then 9 else 0),none,[]⟩:=by
  cases B with
  |false=>
   simp[-lD,F',ad,hG,f35,aP,hM,hN,h12,I'];done
  |true=>
   have ad0 :=fun z' d h=>T' z' d h rfl
   clear T';simp[-lD,F',ad,hG,f35,aP,hM,hN,h12,I',ad0];done
 have:=(ak ae (aq _) (CG H) (au _) h).1;simpa [HS.mem] using this
end
end Go.Proofs
