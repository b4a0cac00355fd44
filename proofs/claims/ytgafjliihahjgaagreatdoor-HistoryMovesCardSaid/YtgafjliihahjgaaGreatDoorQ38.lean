/- See Q54. -/
import Derived.Test.YtgafjliihahjgaaGreatDoorQ35
set_option linter.all false
namespace Go.Proofs
open Go.Eng
theorem cd(q n:Nat) (N:Mem):jw (aM Tryz.prog) 38 N (evV q n)=some (.int .i64 n):=by
 unfold evV;split
 ·rename_i h;subst h;simp
 ·simp
theorem eG(q n:Nat):(evV q n).cellOk=true:=by unfold evV;split<;>rfl
theorem GG{N:Mem}{v:AV}{U:List (List UInt8)}(h:sts N v=some U) (N' :Mem):jw (aM Tryz.prog) 57 N' v=some (.int .i64 U.length):=by rcases sX h with⟨b',o,cs,rfl,h,ht⟩ | ⟨rfl,rfl⟩<;>simp
theorem xQ{N:Mem}{b:Nat}{v:AV}{L U:List (List UInt8)}(hb:N[b]? =some (.cells true 1 (stC L))) (hv:sts N v=some U) (hl:L.length+U.length≤1000000):
  ia (aM Tryz.prog) N 57 57 (.slice b 0 L.length none) v=some (.slice N.length 0 (L.length+U.length) none,N.set b .absent++[.cells true 1 (stC (L++U))]):=by
 have hall:(stC U).all AV.cellOk=true:=by rw[List.all_eq_true];intro x hx;simp only[stC,List.mem_map] at hx;obtain⟨y,_,rfl⟩:=hx;rfl
 have hs:fc (aM Tryz.prog) N 1 57 v=some (U.length,stC U):=by
  rcases sX hv with⟨b',o,cs,rfl,h,ht⟩ | ⟨rfl,rfl⟩
  ·have h2:U.length≤cs.length:=by have:=congrArg List.length ht;rw[List.length_take,eJ] at this;omega
   rw[eJ] at ht;simp[fc,h,h2,ht]
  ·rfl
 have h1:(L.length+U.length)*16≤140737488355328:=by omega
 have h2:L.length+U.length≤140737488355328:=by omega
 have e:(stC L).take L.length++stC U=stC (L++U):=by rw[RE,Nq]
 simp[-fc,-List.all_eq_true,-AV.cellOk,ia,hs,hall,hb,eJ,h1,h2,e,uL,sV]
def rV(c:Code):List Nat:=if (ad c).contains 32 then [32,32,32,4] else [46,46,46]
set_option maxHeartbeats 4000000 in
theorem Cu{O:Oracle}{K m0:Nat}(hK:5<K) (N:Mem) (w v:AV) (U:List (List UInt8)) (hv:sts N v=some U) (hU:U.length≤3) (hO:∀u∈U,O (.fn 18) [w,.str u] N=some ⟨.bool false,none,[]⟩) {b1 b:Code}(hb:ax Tryz.f35=[b1,b]):
  ∃F:Env→Bool→Env,∀env0 d,(ab env0 4=w∧ab env0 44=v∧ab env0 45=.int .i64 U.length∧ab env0 46=.int .i64 0)→
   aT (aM Tryz.prog) rV O K 59 m0 true (.loop b) ⟨env0,N,d⟩=some (.exit 3,⟨F env0 d,N,d⟩)∧
    (ab (F env0 d) 1=ab env0 1∧ab (F env0 d) 4=w∧ab (F env0 d) 6=ab env0 6∧ab (F env0 d) 30=ab env0 30∧ab (F env0 d) 31=ab env0 31∧ab (F env0 d) 32=ab env0 32):=by
 simp[ax,aV,Tryz.f35] at hb;obtain⟨_,hb⟩:=hb;refine cg (L:=[46,46,46]) (by subst hb;rfl) (fun env0=>ab env0 4=w∧ab env0 44=v∧ab env0 45=.int .i64 U.length∧ab env0 46=.int .i64 0) (fun env0 env' =>ab env' 1=ab env0 1∧ab env' 4=w∧ab env' 6=ab env0 6∧ab env' 30=ab env0 30∧ab env' 31=ab env0 31∧ab env' 32=ab env0 32) ?_;rintro env0 d ⟨h4,h44,h45,h46⟩;have hn:aI [46,46,46] (ad b) env0 ((46,.int .i64 ((0:Nat):Int))::env0)=aI [46,46,46] (ad b) env0 env0:=by simp[aI,h46]
 rw[←hn];refine cG (α:=Nat) (fun n=>⟨aI [46,46,46] (ad b) env0 ((46,.int .i64 (n:Int))::env0),N,d⟩) (fun n=>U.length-n) (fun n=>n≤U.length) _ _ d _ (by simp) ?_ K 0 (by omega) (by omega);rintro n hn1;clear hn;subst hb;by_cases hlt:n<U.length
 ·left
  obtain⟨x,hx⟩:∃x,U[n]? =some x:=⟨U[n],List.getElem?_eq_getElem hlt⟩
  have hox:=hO x (List.mem_of_getElem? hx);have w1:IntKind.i64.wrap ((n:Int)+1)=((n+1:Nat):Int):=by rw[aj (by omega) (by omega)];omega
  rcases sX hv with⟨b',o,cs,rfl,hb',ht⟩ | ⟨rfl,rfl⟩
  ·rw[eJ] at ht
   have hcs:cs[n]? =some (.str x):=by have:=BI hx;rw[←ht,List.getElem?_take_of_lt (by omega)] at this;exact this
   have hcl:=(List.getElem?_eq_some_iff.1 hcs).1;have hcs' :∀h,cs[n]'h=.str x:=fun h=>by rw[List.getElem?_eq_getElem h] at hcs;exact Option.some.inj hcs
   refine⟨n+1,?_⟩;refine ee (show n+1≤U.length∧U.length-(n+1)<U.length-n from⟨by omega,by omega⟩) ?_;simp[h4,h44,h45,hlt,hb',hcs',hcl,hox,w1]
  ·simp at hlt
 ·right
  simp[h4,h45,hlt]
set_option maxHeartbeats 4000000 in
theorem Am{O:Oracle}{K m0:Nat}(hK:5<K) (N:Mem) (w v:AV) (L U:List (List UInt8)) (hv:sts N v=some U) (hU:U.length≤3) (hO:∀u∈U,O (.fn 18) [w,.str u] N=some ⟨.bool (decide (u∈L)),none,[]⟩) (hd:∃u∈U,u∈L) {b1 b:Code}(hb:ax Tryz.f35=[b1,b]):
  ∃F:Env→Bool→Env,∀env0 d,(ab env0 4=w∧ab env0 44=v∧ab env0 45=.int .i64 U.length∧ab env0 46=.int .i64 0)→
   aT (aM Tryz.prog) rV O K 59 m0 true (.loop b) ⟨env0,N,d⟩=some (.ret,⟨F env0 d,N,d⟩)∧ab (F env0 d) 2=.int .i64 9:=by
 simp[ax,aV,Tryz.f35] at hb;obtain⟨_,hb⟩:=hb;refine cg (L:=[46,46,46]) (by subst hb;rfl) (fun env0=>ab env0 4=w∧ab env0 44=v∧ab env0 45=.int .i64 U.length∧ab env0 46=.int .i64 0) (fun env0 env' =>ab env' 2=.int .i64 9) ?_;rintro env0 d ⟨h4,h44,h45,h46⟩;have hn:aI [46,46,46] (ad b) env0 ((46,.int .i64 ((0:Nat):Int))::env0)=aI [46,46,46] (ad b) env0 env0:=by simp[aI,h46]
 rw[←hn];refine cG (α:=Nat) (fun n=>⟨aI [46,46,46] (ad b) env0 ((46,.int .i64 (n:Int))::env0),N,d⟩) (fun n=>U.length-n) (fun n=>∃u∈U.drop n,u∈L) _ _ d _ (by simp) ?_ K 0 (by simpa using hd) (by omega);rintro n ⟨u,hu,huL⟩;clear hn;subst hb;have hlt:n<U.length:=by have:=List.length_pos_of_mem hu;rw[List.length_drop] at this;omega
 obtain⟨x,hx⟩:∃x,U[n]? =some x:=⟨U[n],List.getElem?_eq_getElem hlt⟩
 have hox:=hO x (List.mem_of_getElem? hx);have w1:IntKind.i64.wrap ((n:Int)+1)=((n+1:Nat):Int):=by rw[aj (by omega) (by omega)];omega
 rcases sX hv with⟨b',o,cs,rfl,hb',ht⟩ | ⟨rfl,rfl⟩
 ·rw[eJ] at ht
  have hcs:cs[n]? =some (.str x):=by have:=BI hx;rw[←ht,List.getElem?_take_of_lt (by omega)] at this;exact this
  have hcl:=(List.getElem?_eq_some_iff.1 hcs).1;have hcs' :∀h,cs[n]'h=.str x:=fun h=>by rw[List.getElem?_eq_getElem h] at hcs;exact Option.some.inj hcs
  by_cases hxL:x∈L
  ·right
   rw[decide_eq_true hxL] at hox;simp[h4,h44,h45,hlt,hb',hcs',hcl,hox]
  ·left
   rw[decide_eq_false hxL] at hox;refine⟨n+1,?_⟩;refine ee (show(∃u∈U.drop (n+1),u∈L)∧U.length-(n+1)<U.length-n from⟨⟨u,?_,huL⟩,by omega⟩) ?_
   ·rw[List.drop_eq_getElem_cons hlt,List.mem_cons] at hu
    rcases hu with rfl | hu
    ·rw[List.getElem?_eq_getElem hlt] at hx
     cases hx;exact absurd huL hxL
    ·exact hu
   simp[h4,h44,h45,hlt,hb',hcs',hcl,hox,w1]
 ·simp at hlt
theorem Sf{l:List (List (List UInt8))}(h:∀U∈l,U.length≤3):l.flatten.length≤3*l.length:=by
 induction l with
 |nil=>simp
 |cons x l ih=>
  have a:=h x (by simp);have b:=ih fun U hU=>h U (by simp[hU])
  rw[List.flatten_cons,List.length_append,List.length_cons];omega
def tn:List (List UInt8)→List (List (List UInt8))→Bool
 |_,[]=>false
 |L,U::r=>U.any (fun u=>decide (u∈L))||tn (L++U) r
theorem Bf:∀{us:List (List (List UInt8))}{L:List (List UInt8)},(L++us.flatten).Nodup→tn L us=false
 | [],_,_=>rfl
 |U::r,L,h=>by rw[List.flatten_cons,←List.append_assoc] at h;rw[tn,Bf h,Bool.or_false,List.any_eq_false];intro u hu hin;have h1:=(List.nodup_append.1 h).1;exact(List.nodup_append.1 h1).2.2 u (of_decide_eq_true hin) u hu rfl
set_option maxRecDepth 8192 in
set_option maxHeartbeats 8000000 in
theorem Gf{s:Sheet}{p t q:Nat}{evs:List (List AV)}{us:List (List (List UInt8))}{M:Mem}(H:Tryz.HstAt s p t q evs us M) (B:Bool) (hB:tn [ba] us=B) {K:Nat}(hK:5<K) {b bi:Code}(hb:ax Tryz.f35=[b,bi]):
  ∃F:Env→Bool→Env×Mem×Nat,∀env0 d,(ab env0 1=.ptr M.length 0∧ab env0 4=.slice (M.length+1) 0 1 none∧ab env0 30=evV q evs.length∧ab env0 31=.int .i64 evs.length∧ab env0 32=.int .i64 0)→
   aT (aM Tryz.prog) rV (rC (dQ s p t evs us M)) K 59 M.length true (.loop b) ⟨env0,M++[.cells true 0 (aR s p t q evs.length),.cells true 1 [.str ba]],d⟩=some (bif B then .ret else .exit 1,⟨(F env0 d).1,(F env0 d).2.1,d⟩)∧(B=true→ab (F env0 d).1 2=.int .i64 9):=by
 refine rn (L:=[32,32,32,4]) (by simp[ax,aV,Tryz.f35] at hb;rw[←hb.1];rfl) (fun env0=>ab env0 1=.ptr M.length 0∧ab env0 4=.slice (M.length+1) 0 1 none∧ab env0 30=evV q evs.length∧ab env0 31=.int .i64 evs.length∧ab env0 32=.int .i64 0) (fun _ env' _ _=>B=true→ab env' 2=.int .i64 9) ?_;rintro env0 d ⟨h1,h4,h30,h31,h32⟩;have hb' :=hb;simp[ax,aV,Tryz.f35] at hb';obtain⟨hb1,hb2⟩:=hb';have hn:aI [32,32,32,4] (ad b) env0 ((4,.slice (M.length+(0+1)) 0 (ba::(us.take 0).flatten).length none)::(32,.int .i64 ((0:Nat):Int))::env0)=aI [32,32,32,4] (ad b) env0 env0:=by simp[aI,h4,h32]
 rw[←hn];have:=H.small;refine pq (α:=Mem×Nat×Nat) (fun a=>⟨aI [32,32,32,4] (ad b) env0 ((4,.slice (M.length+(a.2.2+1)) 0 (ba::(us.take a.2.1).flatten).length none)::(32,.int .i64 (a.2.1:Int))::env0),M++(Slot.cells true 0 (aR s p t q evs.length)::a.1),d⟩) (fun a=>evs.length-a.2.1)
  (fun a=>a.2.1≤evs.length∧a.1[a.2.2]? =some (.cells true 1 (stC (ba::(us.take a.2.1).flatten)))∧tn (ba::(us.take a.2.1).flatten) (us.drop a.2.1)=B) (bif B then .ret else .exit 1) d (fun env' _=>∃_:Nat,B=true→ab env' 2=.int .i64 9) (by cases B<;>simp) ?_ K ([.cells true 1 [.str ba]],0,0) ⟨by simp,by simp[stC],by simpa using hB⟩ (by simp only;omega)
 rintro ⟨X,i,j⟩ ⟨hi,hX,hdu⟩;simp only at hi hX hdu;clear hn;by_cases hlt:i<evs.length
 ·obtain⟨ev,hev⟩:∃ev,evs[i]? =some ev:=⟨_,List.getElem?_eq_getElem hlt⟩
  obtain⟨U,hU⟩:∃U,us[i]? =some U:=⟨_,List.getElem?_eq_getElem (by rw[H.len];exact hlt)⟩
  have hmem:=List.mem_of_getElem? hev;have hne:evs≠[]:=by rintro rfl;simp at hlt
  obtain⟨o,hq⟩:=H.hq hne;have lq:=(List.getElem?_eq_some_iff.1 hq).1;have hq' :∀X,(M++X)[q]? =some (.cells o 32 evs.flatten):=fun X=>by rw[List.getElem?_append_left lq];exact hq
  obtain⟨hr1,hr2⟩:=H.row hev;obtain⟨R,hR⟩:∃R,R=evs.flatten:=⟨_,rfl⟩
  rw[←hR] at hr1 hr2;simp only[←hR] at hq';have l32:=H.l32 _ hmem;have hck:=H.cok _ hmem;have hC:=Cv (s:=s) (p:=p) (t:=t) (us:=us) (M:=M) hmem (Slot.cells true 0 (aR s p t q evs.length)::(X++[.cells true 0 ev]));obtain⟨v,nw,hO,hs⟩:=rW H hev hU (Slot.cells true 0 (aR s p t q evs.length)::(X++[.cells true 0 ev]));obtain⟨v2,nw2,hO2,hs2⟩:=rW H hev hU (Slot.cells true 0 (aR s p t q evs.length)::(X++(.cells true 0 ev::nw)));have hX1:j<X.length:=(List.getElem?_eq_some_iff.1 hX).1;have hX2:(M++(Slot.cells true 0 (aR s p t q evs.length)::(X++(Slot.cells true 0 ev::(nw++nw2)))))[M.length+(j+1)]? =some (.cells true 1 (stC (ba::(us.take i).flatten))):=by rw[kF,List.getElem?_cons_succ,List.getElem?_append_left hX1];exact hX
  have hs' :sts (M++(Slot.cells true 0 (aR s p t q evs.length)::(X++(Slot.cells true 0 ev::nw)))) v=some U:=by have:=hs [];simpa using this
  have hs2' :sts (M++(Slot.cells true 0 (aR s p t q evs.length)::(X++(Slot.cells true 0 ev::(nw++nw2))))) v2=some U:=by have:=hs2 [];simpa using this
  have hsm:(ba::(us.take i).flatten).length+U.length≤1000000:=by
   have a:=Sf (l:=us.take i) fun U hU=>H.ulen U (List.mem_of_mem_take hU)
   have b:=H.ulen U (List.mem_of_getElem? hU);rw[List.length_take] at a;rw[List.length_cons];omega
  have hap:=xQ hX2 hs2' hsm;have hfl:(us.take (i+1)).flatten=(us.take i).flatten++U:=by rw[List.take_add_one,hU];simp
  have hdr:us.drop i=U::us.drop (i+1):=by
   have hlt' :i<us.length:=by rw[H.len];exact hlt
   rw[List.drop_eq_getElem_cons hlt'];rw[List.getElem?_eq_getElem hlt'] at hU;rw[Option.some.inj hU]
  rw[hdr] at hdu;have hst:sts (M++(Slot.cells true 0 (aR s p t q evs.length)::(X++(Slot.cells true 0 ev::nw)))) (.slice (M.length+(j+1)) 0 (ba::(us.take i).flatten).length none)=some (ba::(us.take i).flatten):=
   Ks (o:=true) (by rw[kF,List.getElem?_cons_succ,List.getElem?_append_left hX1];exact hX)
  have hCo:∀u∈U,rC (dQ s p t evs us M) (.fn 18) [.slice (M.length+(j+1)) 0 (ba::(us.take i).flatten).length none,.str u] (M++(Slot.cells true 0 (aR s p t q evs.length)::(X++(Slot.cells true 0 ev::nw))))=some ⟨.bool (decide (u∈ba::(us.take i).flatten)),none,[]⟩:=fun u hu=>by rw[wq u hst (by omega)]
  have evv:evV q evs.length=.slice q 0 evs.length none:=by unfold evV;rw[if_neg (by omega)]
  have h30' :=h30;rw[evv] at h30';have w1:IntKind.i64.wrap ((i:Int)+1)=((i+1:Nat):Int):=by rw[aj (by omega) (by omega)];omega
  obtain⟨L,hL⟩:∃L,L=ba::(us.take i).flatten:=⟨_,rfl⟩
  have hfl' :ba::(us.take (i+1)).flatten=L++U:=by rw[hfl,hL];rfl
  rw[←hL] at hX hX2 hsm hap hdu;simp only[←hL] at hCo;have gck:(∀x:AV,x∈ev→x.cellOk=true)=True:=eq_true hck;have t32:List.take 32 ev=ev:=List.take_of_length_le (by omega);have hjl:∀j,(M.length+j<M.length)=False:=fun j=>fH _ _
  have hUl:=H.ulen U (List.mem_of_getElem? hU);have hlen:=GG hs';by_cases hdup:∃u∈U,u∈L
  ·obtain⟨F,hF⟩:=Am (m0:=M.length) hK (M++(Slot.cells true 0 (aR s p t q evs.length)::(X++(Slot.cells true 0 ev::nw)))) (.slice (M.length+(j+1)) 0 L.length none) v L U hs' hUl hCo hdup hb
   have hF1:=fun env0 d h=>(hF env0 d h).1
   have hF2:=fun env0 d h=>(hF env0 d h).2
   clear hF hCo;obtain rfl:B=true:=by rw[←hdu,tn,Bool.or_eq_true];left;obtain⟨u,h1,h2⟩:=hdup;exact List.any_eq_true.2 ⟨u,h1,decide_eq_true h2⟩
   simp only[aR] at hC hO hO2 hF1 hF2 hap;right;simp only[←hL];clear hs hs2 hX2 hs' hs2' hfl hfl' hL hR H hq hst;subst hb1;simp only[←hb2] at hF1 hF2;simp[-ia,-AV.cellOk,-jw,hlen,aR,h1,h30',h31,hlt,hq',hr1,hr2,l32,gck,t32,hC,hO,hjl,hF1,hF2];done
  ·obtain⟨F,hF⟩:=Cu (O:=rC (dQ s p t evs us M)) (m0:=M.length) hK (M++(Slot.cells true 0 (aR s p t q evs.length)::(X++(Slot.cells true 0 ev::nw)))) (.slice (M.length+(j+1)) 0 L.length none) v U hs' hUl (fun u hu=>by rw[hCo u hu,decide_eq_false (fun h=>hdup ⟨u,hu,h⟩)]) hb
   have hF1:=fun env0 d h=>(hF env0 d h).1
   have hF2:=fun env0 d h=>(hF env0 d h).2
   clear hF hCo;have hdu' :tn (L++U) (us.drop (i+1))=B:=by
    rw[←hdu,tn];have:U.any (fun u=>decide (u∈L))=false:=by rw[List.any_eq_false];intro u hu h;exact hdup ⟨u,hu,of_decide_eq_true h⟩
    rw[this,Bool.false_or]
   simp only[aR] at hC hO hO2 hF1 hF2 hap;left;refine⟨((X++(Slot.cells true 0 ev::(nw++nw2))).set j .absent++[.cells true 1 (stC (L++U))],i+1,X.length+(nw.length+nw2.length+1)),?_⟩;refine ee (show(i+1≤evs.length∧((X++(Slot.cells true 0 ev::(nw++nw2))).set j .absent++[Slot.cells true 1 (stC (L++U))])[X.length+(nw.length+nw2.length+1)]? =some (.cells true 1 (stC (ba::(us.take (i+1)).flatten)))∧tn (ba::(us.take (i+1)).flatten) (us.drop (i+1))=B)∧evs.length-(i+1)<evs.length-i from
     ⟨⟨by omega,by rw[hfl',List.getElem?_append_right (by simp)];simp,by rw[hfl'];exact hdu'⟩,by omega⟩) ?_
   simp only[hfl',←hL];clear hs hs2 hX2 hs' hs2' hfl hfl' hL hR H hq hst hdup hdu hdu';subst hb1;simp only[←hb2] at hF1 hF2;simp[-ia,-AV.cellOk,-jw,hlen,aR,h1,h30',h31,hlt,hq',hr1,hr2,l32,gck,t32,hC,hO,hO2,hap,w1,hjl,hF1,hF2];done
 ·right
  obtain rfl:B=false:=by rw[←hdu,List.drop_of_length_le (by rw[H.len];omega)];rfl
  subst hb1;simp[h31,hlt]
theorem B7{s:Sheet}{p t q:Nat}{evs:List (List AV)}{us:List (List (List UInt8))}{M:Mem}(H:Tryz.HstAt s p t q evs us M):
  ACallsTo Tryz.prog 35 [.agg (aR s p t q evs.length)] M (.int .i64 (bif tn [ba] us then 9 else 0)) M:=by
 have hG:aL Tryz.prog 35=some Tryz.f35:=by kernel_rfl
 obtain⟨b,bi,hb⟩:∃b bi,ax Tryz.f35=[b,bi]:=⟨_,_,rfl⟩
 obtain⟨B,hB⟩:∃B,tn [ba] us=B:=⟨_,rfl⟩
 obtain⟨F,hF⟩:=Gf H B hB (K:=10) (by decide) hb;rw[hB];have hF1:=fun env0 d h=>(hF env0 d h).1
 have hF2:=fun env0 d h=>(hF env0 d h).2
 clear hF;simp[ax,aV,Tryz.f35] at hb;obtain⟨hb,_⟩:=hb;subst hb;have hlen:=cd q evs.length;have hM:=Gh (s:=s) (p:=p) (t:=t) (evs:=evs) (us:=us) (M:=M) [.cells true 0 (aR s p t q evs.length)];have hN:=Gi (s:=s) (p:=p) (t:=t) (evs:=evs) (us:=us) (M:=M) (M++[.cells true 0 (aR s p t q evs.length)]);have h12:¬(12:Int)<evs.length:=by have:=H.small;omega
 simp only[aR] at hF1 hF2 hM hN;have h:aa (aM Tryz.prog) rV (aL Tryz.prog) (rC (dQ s p t evs us M)) 10 35 [.agg (aR s p t q evs.length)] M=some ⟨.int .i64 (bif B then 9 else 0),none,[]⟩:=by
  cases B with
  |false=>
   simp[-jw,hlen,aa,hG,Tryz.f35,aR,hM,hN,h12,hF1];done
  |true=>
   have hF2' :=fun env0 d h=>hF2 env0 d h rfl
   clear hF2;simp[-jw,hlen,aa,hG,Tryz.f35,aR,hM,hN,h12,hF1,hF2'];done
 have:=(al ae (aw _) (LU H) (az _) h).1;simpa [CallRes.mem] using this
end Go.Proofs
