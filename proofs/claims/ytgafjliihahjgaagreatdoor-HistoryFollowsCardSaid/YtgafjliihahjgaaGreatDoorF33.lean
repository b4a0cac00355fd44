/- See F54. -/
import Derived.Test.YtgafjliihahjgaaGreatDoorF30
set_option linter.all false
set_option maxRecDepth 100000
set_option maxHeartbeats 40000000
namespace Go.Proofs
open Go.Eng
open Tryz
theorem Ix(q n:Nat)(N:Mem):DB (aN prog) 38 N (evV q n)=some (.int .i64 n):=by
 unfold evV;split
 next h=>subst h;simp
 ·simp
theorem Eo(q n:Nat):(evV q n).aeS=true:=by unfold evV;split<;>rfl
variable{N:Mem}{U:List (List UInt8)}{v:AV}
theorem KJ(h:sts N v=some U)(A :Mem):DB (aN prog) 57 A v=some (.int .i64 U.length):=by rcases wC h with⟨Z,o,X,rfl,h,W⟩ | ⟨rfl,rfl⟩<;>simp
theorem AZ{b:Nat}{L:List (List UInt8)}(A:N[b]? =some (.cells true 1 (stC L)))(G:sts N v=some U)(H:L.length+U.length≤1000000):
  jk (aN prog) N 57 57 (.slice b 0 L.length none) v=some (.slice N.length 0 (L.length+U.length) none,N.set b .aeP++[.cells true 1 (stC (L++U))]):=by
 have V:(stC U).all AV.aeS=true:=by rw[List.all_eq_true];intro x W;simp only[stC,List.mem_map] at W;obtain⟨y,_,rfl⟩:=W;rfl
 have S:iy (aN prog) N 1 57 v=some (U.length,stC U):=by
  rcases wC G with⟨K,o,O,rfl,h,Z⟩ | ⟨rfl,rfl⟩
  ·have X:U.length≤O.length:=by have:=congrArg List.length Z;rw[List.length_take,fe] at this;omega
   rw[fe] at Z;simp[iy,h,X,Z]
  ·rfl
 have M:(L.length+U.length)*16≤140737488355328:=by omega
 have X:L.length+U.length≤140737488355328:=by omega
 have e:(stC L).take L.length++stC U=stC (L++U):=by rw[Xf,Sh]
 simp[-iy,-List.all_eq_true,-AV.aeS,jk,S,V,A,fe,M,X,e,xP,wA]
def vn(c:Code):List Nat:=if (ab c).contains 32 then [32,32,32,4] else [46,46,46]
variable{K m0:Nat}{O:aeT}{b b1:Code}
theorem F8(I:5<K)(N:Mem)(w v:AV)(U:List (List UInt8))(G:sts N v=some U)(R:U.length≤3)(H:∀u∈U,O (.fn 18) [w,.str u] N=some ⟨.bool false,none,[]⟩)(A:ai f35=[b1,b]):
  ∃F:Env→Bool→Env,∀Z d,(ad Z 4=w∧ad Z 44=v∧ad Z 45=.int .i64 U.length∧ad Z 46=.int .i64 0)→
   aM (aN prog) vn O K 59 m0 true (.loop b) ⟨Z,N,d⟩=some (.exit 3,⟨F Z d,N,d⟩)∧
    (ad (F Z d) 1=ad Z 1∧ad (F Z d) 4=w∧ad (F Z d) 6=ad Z 6∧ad (F Z d) 30=ad Z 30∧ad (F Z d) 31=ad Z 31∧ad (F Z d) 32=ad Z 32):=by
 simp[ai,aG,f35] at A;obtain⟨_,A⟩:=A;refine cD (L:=[46,46,46]) (by subst A;rfl) (fun Z=>ad Z 4=w∧ad Z 44=v∧ad Z 45=.int .i64 U.length∧ad Z 46=.int .i64 0) (fun Z W =>ad W 1=ad Z 1∧ad W 4=w∧ad W 6=ad Z 6∧ad W 30=ad Z 30∧ad W 31=ad Z 31∧ad W 32=ad Z 32) ?_;rintro Z d ⟨h4,h44,h45,h46⟩;have D:aD [46,46,46] (ab b) Z ((46,.int .i64 ((0:Nat):Int))::Z)=aD [46,46,46] (ab b) Z Z:=by simp[aD,h46]
 rw[←D];refine dh (α:=Nat) (fun n=>⟨aD [46,46,46] (ab b) Z ((46,.int .i64 (n:Int))::Z),N,d⟩) (fun n=>U.length-n) (fun n=>n≤U.length) _ _ d _ (by simp) ?_ K 0 (by omega) (by omega);rintro n m;clear D;subst A;by_cases V:n<U.length
 ·left
  obtain⟨x,C⟩:∃x,U[n]? =some x:=⟨U[n],List.getElem?_eq_getElem V⟩
  have S:=H x (List.mem_of_getElem? C);have w1:IntKind.i64.wrap ((n:Int)+1)=((n+1:Nat):Int):=by rw[aq];omega
  rcases wC G with⟨Y,o,B,rfl,j,z⟩ | ⟨rfl,rfl⟩
  ·rw[fe] at z
   have X:B[n]? =some (.str x):=by have:=rP C;rw[←z,List.getElem?_take_of_lt (by omega)] at this;exact this
   have M:=gL X;have J :∀h,B[n]'h=.str x:=fun h=>by rw[List.getElem?_eq_getElem h] at X;exact Option.some.inj X
   refine⟨n+1,?_⟩;refine fG (show n+1≤U.length∧U.length-(n+1)<U.length-n from⟨by omega,by omega⟩) ?_;simp[h4,h44,h45,V,j,J,M,S,w1]
  ·simp at V
 ·right
  simp[h4,h45,V]
theorem Dt(R:5<K)(N:Mem)(w v:AV)(L U:List (List UInt8))(G:sts N v=some U)(Y:U.length≤3)(H:∀u∈U,O (.fn 18) [w,.str u] N=some ⟨.bool (decide (u∈L)),none,[]⟩)(I:∃u∈U,u∈L)(A:ai f35=[b1,b]):
  ∃F:Env→Bool→Env,∀Z d,(ad Z 4=w∧ad Z 44=v∧ad Z 45=.int .i64 U.length∧ad Z 46=.int .i64 0)→
   aM (aN prog) vn O K 59 m0 true (.loop b) ⟨Z,N,d⟩=some (.ret,⟨F Z d,N,d⟩)∧ad (F Z d) 2=.int .i64 9:=by
 simp[ai,aG,f35] at A;obtain⟨_,A⟩:=A;refine cD (L:=[46,46,46]) (by subst A;rfl) (fun Z=>ad Z 4=w∧ad Z 44=v∧ad Z 45=.int .i64 U.length∧ad Z 46=.int .i64 0) (fun Z j =>ad j 2=.int .i64 9) ?_;rintro Z d ⟨h4,h44,h45,h46⟩;have C:aD [46,46,46] (ab b) Z ((46,.int .i64 ((0:Nat):Int))::Z)=aD [46,46,46] (ab b) Z Z:=by simp[aD,h46]
 rw[←C];refine dh (α:=Nat) (fun n=>⟨aD [46,46,46] (ab b) Z ((46,.int .i64 (n:Int))::Z),N,d⟩) (fun n=>U.length-n) (fun n=>∃u∈U.drop n,u∈L) _ _ d _ (by simp) ?_ K 0 (by simpa using I) (by omega);rintro n ⟨u,hu,huL⟩;clear C;subst A;have S:n<U.length:=by have:=List.length_pos_of_mem hu;rw[List.length_drop] at this;omega
 obtain⟨x,D⟩:∃x,U[n]? =some x:=⟨U[n],List.getElem?_eq_getElem S⟩
 have X:=H x (List.mem_of_getElem? D);have w1:IntKind.i64.wrap ((n:Int)+1)=((n+1:Nat):Int):=by rw[aq];omega
 rcases wC G with⟨b',o,B,rfl,z,m⟩ | ⟨rfl,rfl⟩
 ·rw[fe] at m
  have W:B[n]? =some (.str x):=by have:=rP D;rw[←m,List.getElem?_take_of_lt (by omega)] at this;exact this
  have M:=gL W;have J :∀h,B[n]'h=.str x:=fun h=>by rw[List.getElem?_eq_getElem h] at W;exact Option.some.inj W
  by_cases V:x∈L
  ·right
   rw[decide_eq_true V] at X;simp[h4,h44,h45,S,z,J,M,X]
  ·left
   rw[decide_eq_false V] at X;refine⟨n+1,?_⟩;refine fG (show(∃u∈U.drop (n+1),u∈L)∧U.length-(n+1)<U.length-n from⟨⟨u,?_,huL⟩,by omega⟩) ?_
   ·rw[List.drop_eq_getElem_cons S,List.mem_cons] at hu
    rcases hu with rfl | hu
    ·rw[List.getElem?_eq_getElem S] at D
     cases D;exact absurd huL V
    ·exact hu
   simp[h4,h44,h45,S,z,J,M,X,w1]
 ·simp at S
theorem X7{l:List (List (List UInt8))}(h:∀U∈l,U.length≤3):l.flatten.length≤3*l.length:=by
 induction l with
 |nil=>simp
 |cons x l ih=>
  have a:=h x (by simp);have b:=ih fun U Z=>h U (by simp[Z])
  rw[List.flatten_cons,List.length_append,List.length_cons];omega
def LI:List (List UInt8)→List (List (List UInt8))→Bool
 |_,[]=>false
 |L,U::r=>U.any (fun u=>decide (u∈L))||LI (L++U) r
theorem Ej:∀{us:List (List (List UInt8))} {L:List (List UInt8)},(L++us.flatten).Nodup→LI L us=false
 | [],_,_=>rfl
 |U::r,L,h=>by rw[List.flatten_cons,←List.append_assoc] at h;rw[LI,Ej h,Bool.or_false,List.any_eq_false];intro u hu Z;have X:=(List.nodup_append.1 h).1;exact(List.nodup_append.1 X).2.2 u (of_decide_eq_true Z) u hu rfl
variable{M:Mem}{evs:List (List AV)}{p q t:Nat}{s:aeX}{us:List (List (List UInt8))}
section
variable (H:afJ s p t q evs us M)
include H
theorem Kj(B:Bool)(hB:LI [bk] us=B)(hK:5<K){bi:Code}(hb:ai f35=[b,bi]):
  ∃F:Env→Bool→Env×Mem×Nat,∀Z d,(ad Z 1=.ptr M.length 0∧ad Z 4=.slice (M.length+1) 0 1 none∧ad Z 30=evV q evs.length∧ad Z 31=.int .i64 evs.length∧ad Z 32=.int .i64 0)→
   aM (aN prog) vn (nb (fy s p t evs us M)) K 59 M.length true (.loop b) ⟨Z,M++[.cells true 0 (dv s p t q evs.length),.cells true 1 [.str bk]],d⟩=some (bif B then .ret else .exit 1,⟨(F Z d).1,(F Z d).2.1,d⟩)∧(B=true→ad (F Z d).1 2=.int .i64 9):=by
 refine kV (L:=[32,32,32,4]) (by simp[ai,aG,f35] at hb;rw[←hb.1];rfl) (fun Z=>ad Z 1=.ptr M.length 0∧ad Z 4=.slice (M.length+1) 0 1 none∧ad Z 30=evV q evs.length∧ad Z 31=.int .i64 evs.length∧ad Z 32=.int .i64 0) (fun _ AC _ _=>B=true→ad AC 2=.int .i64 9) ?_;rintro Z d ⟨h1,h4,h30,h31,h32⟩;have Z8 :=hb;simp[ai,aG,f35] at Z8;obtain⟨A,hb2⟩:=Z8;have hn:aD [32,32,32,4] (ab b) Z ((4,.slice (M.length+(0+1)) 0 (bk::(us.take 0).flatten).length none)::(32,.int .i64 ((0:Nat):Int))::Z)=aD [32,32,32,4] (ab b) Z Z:=by simp[aD,h4,h32]
 rw[←hn];have:=H.small;refine kG (α:=Mem×Nat×Nat) (fun a=>⟨aD [32,32,32,4] (ab b) Z ((4,.slice (M.length+(a.2.2+1)) 0 (bk::(us.take a.2.1).flatten).length none)::(32,.int .i64 (a.2.1:Int))::Z),M++(aeY.cells true 0 (dv s p t q evs.length)::a.1),d⟩) (fun a=>evs.length-a.2.1)
  (fun a=>a.2.1≤evs.length∧a.1[a.2.2]? =some (.cells true 1 (stC (bk::(us.take a.2.1).flatten)))∧LI (bk::(us.take a.2.1).flatten) (us.drop a.2.1)=B) (bif B then .ret else .exit 1) d (fun AC _=>∃_:Nat,B=true→ad AC 2=.int .i64 9) (by cases B<;>simp) ?_ K ([.cells true 1 [.str bk]],0,0) ⟨by simp,by simp[stC],by simpa using hB⟩ (by simp only;omega)
 rintro ⟨X,i,j⟩ ⟨hi,hX,hdu⟩;simp only at hi hX hdu;clear hn;by_cases FS:i<evs.length
 ·obtain⟨W,m⟩:∃W,evs[i]? =some W:=⟨_,List.getElem?_eq_getElem FS⟩
  obtain⟨U,Y⟩:∃U,us[i]? =some U:=⟨_,List.getElem?_eq_getElem (by rw[H.len];exact FS)⟩
  have aas:=List.mem_of_getElem? m;have S':evs≠[]:=by rintro rfl;simp at FS
  obtain⟨o,hq⟩:=H.hq S';have lq:=gL hq;have hq' :∀X,(M++X)[q]? =some (.cells o 32 evs.flatten):=fun X=>gU hq _
  obtain⟨hr1,hr2⟩:=H.row m;obtain⟨R,hR⟩:=xE evs.flatten;rw[←hR] at hr1 hr2;simp only[←hR] at hq';have l32:=H.l32 _ aas;have hck:=H.cok _ aas;have hC:=F9 (s:=s) (p:=p) (t:=t) (us:=us) (M:=M) aas (aeY.cells true 0 (dv s p t q evs.length)::(X++[.cells true 0 W]));obtain⟨v,J,hO,hs⟩:=vo H m Y (aeY.cells true 0 (dv s p t q evs.length)::(X++[.cells true 0 W]));obtain⟨v2,S,hO2,hs2⟩:=vo H m Y (aeY.cells true 0 (dv s p t q evs.length)::(X++(.cells true 0 W::J)));have hX1:j<X.length:=gL hX;have I:(M++(aeY.cells true 0 (dv s p t q evs.length)::(X++(aeY.cells true 0 W::(J++S)))))[M.length+(j+1)]? =some (.cells true 1 (stC (bk::(us.take i).flatten))):=by rw[fV,List.getElem?_cons_succ,List.getElem?_append_left hX1];exact hX
  have D :sts (M++(aeY.cells true 0 (dv s p t q evs.length)::(X++(aeY.cells true 0 W::J)))) v=some U:=by have:=hs [];simpa using this
  have acI :sts (M++(aeY.cells true 0 (dv s p t q evs.length)::(X++(aeY.cells true 0 W::(J++S))))) v2=some U:=by have:=hs2 [];simpa using this
  have hsm:(bk::(us.take i).flatten).length+U.length≤1000000:=by
   have a:=X7 (l:=us.take i) fun U Y=>H.ahw U (List.mem_of_mem_take Y)
   have b:=H.ahw U (List.mem_of_getElem? Y);rw[List.length_take] at a;rw[List.length_cons];omega
  have G:=AZ I acI hsm;have hfl:(us.take (i+1)).flatten=(us.take i).flatten++U:=by rw[List.take_add_one,Y];simp
  have hdr:us.drop i=U::us.drop (i+1):=by
   have aae :i<us.length:=by rw[H.len];exact FS
   rw[List.drop_eq_getElem_cons aae];rw[List.getElem?_eq_getElem aae] at Y;rw[Option.some.inj Y]
  rw[hdr] at hdu;have hst:sts (M++(aeY.cells true 0 (dv s p t q evs.length)::(X++(aeY.cells true 0 W::J)))) (.slice (M.length+(j+1)) 0 (bk::(us.take i).flatten).length none)=some (bk::(us.take i).flatten):=
   Pf (o:=true) (by rw[fV,List.getElem?_cons_succ,List.getElem?_append_left hX1];exact hX)
  have C:∀u∈U,nb (fy s p t evs us M) (.fn 18) [.slice (M.length+(j+1)) 0 (bk::(us.take i).flatten).length none,.str u] (M++(aeY.cells true 0 (dv s p t q evs.length)::(X++(aeY.cells true 0 W::J))))=some ⟨.bool (decide (u∈bk::(us.take i).flatten)),none,[]⟩:=fun u hu=>by rw[zw u hst (by omega)]
  have evv:evV q evs.length=.slice q 0 evs.length none:=by unfold evV;rw[if_neg (by omega)]
  have acJ :=h30;rw[evv] at acJ;have w1:IntKind.i64.wrap ((i:Int)+1)=((i+1:Nat):Int):=by rw[aq];omega
  obtain⟨L,hL⟩:=xE (bk::(us.take i).flatten);have z :bk::(us.take (i+1)).flatten=L++U:=by rw[hfl,hL];rfl
  rw[←hL] at hX I hsm G hdu;simp only[←hL] at C;have gck:(∀x:AV,x∈W→x.aeS=true)=True:=eq_true hck;have t32:List.take 32 W=W:=List.take_of_length_le (by omega);have hjl:∀j,(M.length+j<M.length)=False:=fun j=>oH _ _
  have hUl:=H.ahw U (List.mem_of_getElem? Y);have H':=KJ D;by_cases V:∃u∈U,u∈L
  ·obtain⟨F,hF⟩:=Dt (m0:=M.length) hK (M++(aeY.cells true 0 (dv s p t q evs.length)::(X++(aeY.cells true 0 W::J)))) (.slice (M.length+(j+1)) 0 L.length none) v L U D hUl C V hb
   have J':=fun Z d h=>(hF Z d h).1
   have Z5:=fun Z d h=>(hF Z d h).2
   clear hF C;obtain rfl:B=true:=by rw[←hdu,LI,Bool.or_eq_true];left;obtain⟨u,h1,h2⟩:=V;exact List.any_eq_true.2 ⟨u,h1,decide_eq_true h2⟩
   simp only[dv] at hC hO hO2 J' Z5 G;right;simp only[←hL];clear hs hs2 I D acI hfl z hL hR H hq hst;subst A;simp only[←hb2] at J' Z5;simp[-jk,-AV.aeS,-DB,H',dv,h1,acJ,h31,FS,hq',hr1,hr2,l32,gck,t32,hC,hO,hjl,J',Z5];done
  ·obtain⟨F,hF⟩:=F8 (O:=nb (fy s p t evs us M)) (m0:=M.length) hK (M++(aeY.cells true 0 (dv s p t q evs.length)::(X++(aeY.cells true 0 W::J)))) (.slice (M.length+(j+1)) 0 L.length none) v U D hUl (fun u hu=>by rw[C u hu,decide_eq_false (fun h=>V ⟨u,hu,h⟩)]) hb
   have J':=fun Z d h=>(hF Z d h).1
   have Z5:=fun Z d h=>(hF Z d h).2
   clear hF C;have ado :LI (L++U) (us.drop (i+1))=B:=by
    rw[←hdu,LI];have:U.any (fun u=>decide (u∈L))=false:=by rw[List.any_eq_false];intro u hu h;exact V ⟨u,hu,of_decide_eq_true h⟩
    rw[this,Bool.false_or]
   simp only[dv] at hC hO hO2 J' Z5 G;left;refine⟨((X++(aeY.cells true 0 W::(J++S))).set j .aeP++[.cells true 1 (stC (L++U))],i+1,X.length+(J.length+S.length+1)),?_⟩;refine fG (show(i+1≤evs.length∧((X++(aeY.cells true 0 W::(J++S))).set j .aeP++[aeY.cells true 1 (stC (L++U))])[X.length+(J.length+S.length+1)]? =some (.cells true 1 (stC (bk::(us.take (i+1)).flatten)))∧LI (bk::(us.take (i+1)).flatten) (us.drop (i+1))=B)∧evs.length-(i+1)<evs.length-i from
     ⟨⟨by omega,by rw[z,List.getElem?_append_right (by simp)];simp,by rw[z];exact ado⟩,by omega⟩) ?_
   simp only[z,←hL];clear hs hs2 I D acI hfl z hL hR H hq hst V hdu ado;subst A;simp only[←hb2] at J' Z5;simp[-jk,-AV.aeS,-DB,H',dv,h1,acJ,h31,FS,hq',hr1,hr2,l32,gck,t32,hC,hO,hO2,G,w1,hjl,J',Z5];done
 ·right
  obtain rfl:B=false:=by rw[←hdu,List.drop_of_length_le (by rw[H.len];omega)];rfl
  subst A;simp[h31,FS]
theorem Fq:
  kO prog 35 [.agg (dv s p t q evs.length)] M (.int .i64 (bif LI [bk] us then 9 else 0)) M:=by
 have u:aK prog 35=some f35:=by kernel_rfl
 obtain⟨b,m,Z⟩:∃b m,ai f35=[b,m]:=⟨_,_,rfl⟩
 obtain⟨B,j⟩:∃B,LI [bk] us=B:=⟨_,rfl⟩
 obtain⟨F,V⟩:=Kj H B j (K:=10) (by decide) Z;rw[j];have S:=fun X d h=>(V X d h).1
 have J:=fun X d h=>(V X d h).2
 clear V;simp[ai,aG,f35] at Z;obtain⟨Z,_⟩:=Z;subst Z;have Y:=Ix q evs.length;have D:=Km (s:=s) (p:=p) (t:=t) (evs:=evs) (us:=us) (M:=M) [.cells true 0 (dv s p t q evs.length)];have C:=Kn (s:=s) (p:=p) (t:=t) (evs:=evs) (us:=us) (M:=M) (M++[.cells true 0 (dv s p t q evs.length)]);have W:¬(12:Int)<evs.length:=by have:=H.small;omega
 simp only[dv] at S J D C;have h:aa (aN prog) vn (aK prog) (nb (fy s p t evs us M)) 10 35 [.agg (dv s p t q evs.length)] M=some ⟨.int .i64 (bif B then 9 else 0),none,[]⟩:=by
  cases B with
  |false=>
   simp[-DB,Y,aa,u,f35,dv,D,C,W,S];done
  |true=>
   have z :=fun X d h=>J X d h rfl
   clear J;simp[-DB,Y,aa,u,f35,dv,D,C,W,S,z];done
 have:=(ah ae (ar _) (QX H) (au _) h).1;simpa [aeQ.mem] using this
end
end Go.Proofs
