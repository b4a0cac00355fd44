/- See P53. -/
import Derived.Test.YtmhkeaphiadacaaGreatDoorP39
set_option linter.all false
set_option maxRecDepth 100000
set_option maxHeartbeats 40000000
namespace Go.Proofs
open Go.Eng
open Tryz
def dH(pv tv:AV) (nm:List UInt8) (q n:Nat):List AV:=[pv,tv,.str nm,evV q n]
def ckW:List (List UInt8)→List Int→List (List (List UInt8))→Int
 |L,e::es,U::us=>if e≠0 then e else if U.any (fun u=>decide (u∈L))=true then 9 else ckW (L++U) es us
 |_,_,_=>0
theorem Uo:∀{l:List (List AV)}{i:Nat}{e:List AV},(∀x∈l,x.length=32)→l[i]? =some e→(l.flatten.drop (i*32)).take 32=e∧i*32+32≤l.flatten.length
 | [],i,e,_,h=>by simp at h
 |x::l,0,e,hl,h=>by have hx:=hl x (by simp);simp at h;subst h;simp[hx]
 |x::l,i+1,e,hl,h=>by have hx:=hl x (by simp);obtain⟨a,b⟩:=Uo (l:=l) (fun e he=>hl e (by simp[he])) (by simpa using h:l[i]? =some e);refine⟨?_,by rw[List.flatten_cons,List.length_append];omega⟩;rw[List.flatten_cons,List.drop_append,List.drop_of_length_le (by omega),List.nil_append,show(i+1)*32-x.length=i*32 by omega];exact a
structure Tryz.aby (pv tv:AV) (nm:List UInt8) (q:Nat) (evs:List (List AV)) (us:List (List (List UInt8))) (es:List Int) (M:Mem):Prop where
 cp:pv.qK=true
 ct:tv.qK=true
 hq:evs≠[]→∃o,M[q]? =some (.cells o 32 evs.flatten)
 len:us.length=evs.length
 aco:es.length=evs.length
 small:evs.length≤12
 l32:∀e∈evs,e.length=32
 cok:∀e∈evs,∀x∈e,x.qK=true
 abx:∀U∈us,U.length≤3
 nd:∀(i j:Nat) ev U U' e e',evs[i]? =some ev→evs[j]? =some ev→us[i]? =some U→us[j]? =some U' →es[i]? =some e→es[j]? =some e' →e=e' ∧(e=0→U=U')
 acS:∀X,mB prog 41 [.agg [pv,tv]] (M++X) (.int .i64 0) (M++X)
 nmR:∀X,mB prog 50 [.str nm] X (.bool true) X
 nmL:∀X,mB prog 42 [.str nm] X (.bool true) X
 chk:∀(i:Nat) ev e,evs[i]? =some ev→es[i]? =some e→∀X,mB prog 43 [.agg [pv,tv],.agg ev] (M++X) (.int .i64 e) (M++X)
 un:∀(i:Nat) ev U,evs[i]? =some ev→us[i]? =some U→es[i]? =some 0→∀X,∃v nw,mB prog 44 [.agg ev] (M++X) v (M++X++nw)∧∀ext,sts (M++X++nw++ext) v=some U
def dv(pv tv:AV) (nm:List UInt8) (evs:List (List AV)) (us:List (List (List UInt8))) (es:List Int) (M:Mem) (c:Go.Eng.Callee) (a:List AV) (N:Mem) (r:HS):Prop:=match c,a with
 |.fn 43,[x,.agg ev]=>x=.agg [pv,tv]∧(∃X,N=M++X)∧∃(i:Nat) (e:Int),evs[i]? =some ev∧es[i]? =some e∧r=⟨.int .i64 e,none,[]⟩
 |.fn 44,[.agg ev]=>∃(i:Nat) (U:List (List UInt8)) (v:AV) (nw:Mem),evs[i]? =some ev∧us[i]? =some U∧es[i]? =some 0∧mB prog 44 [.agg ev] N v (N++nw)∧(∀ext,sts (N++nw++ext) v=some U)∧r=⟨v,none,nw⟩
 |.fn 45,[w,.str u]=>∃L,sts N w=some L∧L.length≤1000000000∧r=⟨.bool (decide (u∈L)),none,[]⟩
 |.fn 41,[x]=>x=.agg [pv,tv]∧(∃X,N=M++X)∧r=⟨.int .i64 0,none,[]⟩
 |.fn 50,[.str u]=>u=nm∧r=⟨.bool true,none,[]⟩
 |.fn 42,[.str u]=>u=nm∧r=⟨.bool true,none,[]⟩
 |_,_=>False
variable{ev:List AV}{i:Nat}
section
variable {pv tv:AV}{nm:List UInt8}{q:Nat}{evs:List (List AV)}{us:List (List (List UInt8))}{es:List Int}{M:Mem}
section
variable (H:aby pv tv nm q evs us es M)
include H
theorem CM:qS prog (fS (dv pv tv nm evs us es M)):=vz fun c a N r h=>by
 unfold dv at h;split at h
 ·obtain⟨rfl,⟨X,rfl⟩,i,e,h1,h2,rfl⟩:=h
  exact ak (by simpa using H.chk i _ e h1 h2 X)
 ·obtain⟨i,U,v,nw,_,_,_,h1,_,rfl⟩:=h
  exact ak h1
 ·obtain⟨L,h1,h2,rfl⟩:=h
  exact ak (by simpa using pB _ h2 h1)
 ·obtain⟨rfl,⟨X,rfl⟩,rfl⟩:=h
  exact ak (by simpa using H.acS X)
 ·obtain⟨rfl,rfl⟩:=h
  exact ak (by simpa using H.nmR N)
 ·obtain⟨rfl,rfl⟩:=h
  exact ak (by simpa using H.nmL N)
 ·exact h.elim
theorem uO{e:Int}(h:evs[i]? =some ev)(he:es[i]? =some e)(X:Mem):fS (dv pv tv nm evs us es M) (.fn 43) [.agg [pv,tv],.agg ev] (M++X)=some ⟨.int .i64 e,none,[]⟩:=
 eY (S:=dv pv tv nm evs us es M) (show dv pv tv nm evs us es M _ _ _ _ from⟨rfl,⟨X,rfl⟩,i,e,h,he,rfl⟩) fun r' h' =>by obtain⟨_,_,j,e',k1,k2,rfl⟩:=h';have l1:=(List.getElem?_eq_some_iff.1 h).1;have l2:=(List.getElem?_eq_some_iff.1 k1).1;rw[(H.nd i j ev _ _ e e' h k1 (List.getElem?_eq_getElem (by rw[H.len];exact l1)) (List.getElem?_eq_getElem (by rw[H.len];exact l2)) he k2).1]
end
theorem xk(X:Mem):fS (dv pv tv nm evs us es M) (.fn 41) [.agg [pv,tv]] (M++X)=some ⟨.int .i64 0,none,[]⟩:=
 eY (S:=dv pv tv nm evs us es M) (show dv pv tv nm evs us es M _ _ _ _ from⟨rfl,⟨X,rfl⟩,rfl⟩) fun r' h=>h.2.2
theorem xm(N:Mem):fS (dv pv tv nm evs us es M) (.fn 50) [.str nm] N=some ⟨.bool true,none,[]⟩:=
 eY (S:=dv pv tv nm evs us es M) (show dv pv tv nm evs us es M _ _ _ _ from⟨rfl,rfl⟩) fun r' h=>h.2
theorem uP(N:Mem):fS (dv pv tv nm evs us es M) (.fn 42) [.str nm] N=some ⟨.bool true,none,[]⟩:=
 eY (S:=dv pv tv nm evs us es M) (show dv pv tv nm evs us es M _ _ _ _ from⟨rfl,rfl⟩) fun r' h=>h.2
theorem o9{N:Mem}{w:AV}{L:List (List UInt8)}(u:List UInt8)(h:sts N w=some L)(hl:L.length≤1000000000):fS (dv pv tv nm evs us es M) (.fn 45) [w,.str u] N=some ⟨.bool (decide (u∈L)),none,[]⟩:=
 eY (S:=dv pv tv nm evs us es M) (show dv pv tv nm evs us es M _ _ _ _ from⟨L,h,hl,rfl⟩) fun r' h' =>by obtain⟨L',h1,_,h2⟩:=h';rw[h] at h1;cases h1;exact h2
section
variable (H:aby pv tv nm q evs us es M)
include H
theorem jI{U:List (List UInt8)}(h1:evs[i]? =some ev)(h2:us[i]? =some U)(h3:es[i]? =some 0)(X:Mem):
  ∃v nw,fS (dv pv tv nm evs us es M) (.fn 44) [.agg ev] (M++X)=some ⟨v,none,nw⟩∧∀ext,sts (M++(X++(nw++ext))) v=some U:=by
 obtain⟨v,nw,a,b⟩:=H.un i ev U h1 h2 h3 X;obtain⟨r,g1,g2⟩:=DN (S:=dv pv tv nm evs us es M) (c:=.fn 44) (a:=[.agg ev]) (M:=M++X) ⟨⟨v,none,nw⟩,show dv pv tv nm evs us es M _ _ _ _ from⟨i,U,v,nw,h1,h2,h3,a,b,rfl⟩⟩;obtain⟨i',U',v',nw',k1,k2,k3,k4,k5,rfl⟩:=(show∃(i:Nat) (U:List (List UInt8)) (v:AV) (nw:Mem),evs[i]? =some ev∧us[i]? =some U∧es[i]? =some 0∧mB prog 44 [.agg ev] (M++X) v ((M++X)++nw)∧(∀ext,sts ((M++X)++nw++ext) v=some U)∧r=⟨v,none,nw⟩ from g2);have:=(H.nd i i' ev U U' 0 0 h1 k1 h2 k2 h3 k3).2 rfl;subst this;exact⟨v',nw',g1,fun ext=>by have:=k5 ext;rwa [List.append_assoc,List.append_assoc] at this⟩
theorem Tryz.aby.row(h:evs[i]? =some ev):(evs.flatten.drop (i*32)).take 32=ev∧i*32+32≤evs.flatten.length:=Uo H.l32 h
end
end
end Go.Proofs
namespace Go.Proofs
open Go.Eng
open Tryz
variable{K q:Nat}{b bi:Code}{es:List Int}{evs:List (List AV)}{nm:List UInt8}{pv tv:AV}{us:List (List (List UInt8))}
theorem EH{M:Mem}(H:aby pv tv nm q evs us es M)(W:Int)(hW:ckW [nm] es us=W)(B:Bool)(hB:B=decide (W≠0))(hK:13<K)(hb:aj f20=[b,bi]):
  ∃F:Env→Bool→Env×Mem×Nat,∀y' d,(aa y' 1=.ptr M.length 0∧aa y' 4=.slice (M.length+1) 0 1 none∧aa y' 30=evV q evs.length∧aa y' 31=.int .i64 evs.length∧aa y' 32=.int .i64 0)→
   aQ (aC prog) uN (fS (dv pv tv nm evs us es M)) K 59 M.length true (.loop b) ⟨y',M++[.cells true 0 (dH pv tv nm q evs.length),.cells true 1 [.str nm]],d⟩=some (bif B then .ret else .exit 1,⟨(F y' d).1,(F y' d).2.1,d⟩)∧(B=true→aa (F y' d).1 2=.int .i64 W):=by
 have hK5:5<K:=by omega
 refine kF (L:=[32,32,32,4]) (by simp[aj,aD,f20] at hb;rw[←hb.1];rfl) (fun y'=>aa y' 1=.ptr M.length 0∧aa y' 4=.slice (M.length+1) 0 1 none∧aa y' 30=evV q evs.length∧aa y' 31=.int .i64 evs.length∧aa y' 32=.int .i64 0) (fun _ z' _ _=>B=true→aa z' 2=.int .i64 W) ?_;rintro y' d ⟨h1,h4,WW,ZK,h32⟩;have J' :=hb;simp[aj,aD,f20] at J';obtain⟨hb1,WE⟩:=J';have hn:az [32,32,32,4] (ab b) y' ((4,.slice (M.length+(0+1)) 0 (nm::(us.take 0).flatten).length none)::(32,.int .i64 ((0:Nat):Int))::y')=az [32,32,32,4] (ab b) y' y':=by simp[az,h4,h32]
 rw[←hn];have:=H.small;refine jS (α:=Mem×Nat×Nat) (fun a=>⟨az [32,32,32,4] (ab b) y' ((4,.slice (M.length+(a.2.2+1)) 0 (nm::(us.take a.2.1).flatten).length none)::(32,.int .i64 (a.2.1:Int))::y'),M++(aae.cells true 0 (dH pv tv nm q evs.length)::a.1),d⟩) (fun a=>evs.length-a.2.1)
  (fun a=>a.2.1≤evs.length∧a.1[a.2.2]? =some (.cells true 1 (stC (nm::(us.take a.2.1).flatten)))∧ckW (nm::(us.take a.2.1).flatten) (es.drop a.2.1) (us.drop a.2.1)=W) (bif B then .ret else .exit 1) d (fun z' _=>∃_:Nat,B=true→aa z' 2=.int .i64 W) (by cases B<;>simp) ?_ K ([.cells true 1 [.str nm]],0,0) ⟨by simp,by simp[stC],by simpa using hW⟩ (by simp only;omega)
 rintro ⟨X,i,j⟩ ⟨hi,hX,Yf⟩;simp only at hi hX Yf;clear hn;by_cases AC:i<evs.length
 ·obtain⟨ev,WQ⟩:∃ev,evs[i]? =some ev:=⟨_,List.getElem?_eq_getElem AC⟩
  obtain⟨U,hU⟩:∃U,us[i]? =some U:=⟨_,List.getElem?_eq_getElem (by rw[H.len];exact AC)⟩
  have W8:=List.mem_of_getElem? WQ;have H':evs≠[]:=by rintro rfl;simp at AC
  obtain⟨o,hq⟩:=H.hq H';have lq:=(List.getElem?_eq_some_iff.1 hq).1;have Zl :∀X,(M++X)[q]? =some (.cells o 32 evs.flatten):=fun X=>by rw[List.getElem?_append_left lq];exact hq
  obtain⟨WL,WR⟩:=H.row WQ;obtain⟨R,hR⟩:∃R,R=evs.flatten:=⟨_,rfl⟩
  rw[←hR] at WL WR;simp only[←hR] at Zl;have l32:=H.l32 _ W8;have ZE:=H.cok _ W8;obtain⟨e,he⟩:∃e,es[i]? =some e:=⟨_,List.getElem?_eq_getElem (by rw[H.aco];exact AC)⟩
  have hC:=uO (pv:=pv) (tv:=tv) (nm:=nm) (us:=us) H WQ he (aae.cells true 0 (dH pv tv nm q evs.length)::(X++[.cells true 0 ev]));have hde:es.drop i=e::es.drop (i+1):=by have WD :=(List.getElem?_eq_some_iff.1 he).1;rw[List.drop_eq_getElem_cons WD];rw[List.getElem?_eq_getElem WD] at he;rw[Option.some.inj he]
  have hdr:us.drop i=U::us.drop (i+1):=by
   have WD :i<us.length:=by rw[H.len];exact AC
   rw[List.drop_eq_getElem_cons WD];rw[List.getElem?_eq_getElem WD] at hU;rw[Option.some.inj hU]
  rw[hde,hdr,ckW] at Yf;have WB:∀j,(M.length+j<M.length)=False:=fun j=>bK _ _
  have gck:(∀x:AV,x∈ev→x.qK=true)=True:=eq_true ZE;have t32:List.take 32 ev=ev:=List.take_of_length_le (by omega);have evv:evV q evs.length=.slice q 0 evs.length none:=by unfold evV;rw[if_neg (by omega)]
  have Zi :=WW;rw[evv] at Zi;have cpv:=H.cp;have ctv:=H.ct;by_cases Zt:e≠0
  ·right
   rw[if_pos Zt] at Yf;subst Yf;obtain rfl:B=true:=by rw[hB];exact decide_eq_true Zt
   simp only[dH] at hC;clear H hq hR;subst hb1;simp[-gq,-AV.qK,-dY,dH,h1,Zi,ZK,AC,Zl,WL,WR,l32,gck,t32,hC,WB,Zt];done
  have he0' :e=0:=Classical.not_not.1 Zt;subst he0';rw[if_neg Zt] at Yf;obtain⟨v,nw,hO,hs⟩:=jI H WQ hU he (aae.cells true 0 (dH pv tv nm q evs.length)::(X++[.cells true 0 ev]));obtain⟨v2,nw2,W0,Yj⟩:=jI H WQ hU he (aae.cells true 0 (dH pv tv nm q evs.length)::(X++(.cells true 0 ev::nw)));have hX1:j<X.length:=(List.getElem?_eq_some_iff.1 hX).1;have hX2:(M++(aae.cells true 0 (dH pv tv nm q evs.length)::(X++(aae.cells true 0 ev::(nw++nw2)))))[M.length+(j+1)]? =some (.cells true 1 (stC (nm::(us.take i).flatten))):=by rw[dO,List.getElem?_cons_succ,List.getElem?_append_left hX1];exact hX
  have Zp :sts (M++(aae.cells true 0 (dH pv tv nm q evs.length)::(X++(aae.cells true 0 ev::nw)))) v=some U:=by have:=hs [];simpa using this
  have ZZ :sts (M++(aae.cells true 0 (dH pv tv nm q evs.length)::(X++(aae.cells true 0 ev::(nw++nw2))))) v2=some U:=by have:=Yj [];simpa using this
  have YU:(nm::(us.take i).flatten).length+U.length≤1000000:=by
   have a:=Rw (l:=us.take i) fun U hU=>H.abx U (List.mem_of_mem_take hU)
   have b:=H.abx U (List.mem_of_getElem? hU);rw[List.length_take] at a;rw[List.length_cons];omega
  have hap:=pI hX2 ZZ YU;have YV:(us.take (i+1)).flatten=(us.take i).flatten++U:=by rw[List.take_add_one,hU];simp
  have WI:sts (M++(aae.cells true 0 (dH pv tv nm q evs.length)::(X++(aae.cells true 0 ev::nw)))) (.slice (M.length+(j+1)) 0 (nm::(us.take i).flatten).length none)=some (nm::(us.take i).flatten):=
   FT (o:=true) (by rw[dO,List.getElem?_cons_succ,List.getElem?_append_left hX1];exact hX)
  have hCo:∀u∈U,fS (dv pv tv nm evs us es M) (.fn 45) [.slice (M.length+(j+1)) 0 (nm::(us.take i).flatten).length none,.str u] (M++(aae.cells true 0 (dH pv tv nm q evs.length)::(X++(aae.cells true 0 ev::nw))))=some ⟨.bool (decide (u∈nm::(us.take i).flatten)),none,[]⟩:=fun u hu=>by rw[o9 u WI (by omega)]
  have w1:IntKind.i64.wrap ((i:Int)+1)=((i+1:Nat):Int):=by rw[ai (by omega) (by omega)];omega
  obtain⟨L,hL⟩:∃L,L=nm::(us.take i).flatten:=⟨_,rfl⟩
  have YA :nm::(us.take (i+1)).flatten=L++U:=by rw[YV,hL];rfl
  rw[←hL] at hX hX2 YU hap Yf;simp only[←hL] at hCo;have hUl:=H.abx U (List.mem_of_getElem? hU);have A':=xo Zp;by_cases hdup:∃u∈U,u∈L
  ·obtain⟨F,hF⟩:=Cj (m0:=M.length) hK5 (M++(aae.cells true 0 (dH pv tv nm q evs.length)::(X++(aae.cells true 0 ev::nw)))) (.slice (M.length+(j+1)) 0 L.length none) v L U Zp hUl hCo hdup hb
   have H1:=fun y' d h=>(hF y' d h).1
   have P':=fun y' d h=>(hF y' d h).2
   clear hF hCo;have hany:U.any (fun u=>decide (u∈L))=true:=by obtain⟨u,h1,h2⟩:=hdup;exact List.any_eq_true.2 ⟨u,h1,decide_eq_true h2⟩
   rw[hany,if_pos rfl] at Yf;subst Yf;obtain rfl:B=true:=hB;simp only[dH] at hC hO W0 H1 P' hap;right;simp only[←hL];clear hs Yj hX2 Zp ZZ YV YA hL hR H hq WI;subst hb1;simp only[←WE] at H1 P';simp[-gq,-AV.qK,-dY,A',dH,h1,Zi,ZK,AC,Zl,WL,WR,l32,gck,t32,hC,hO,WB,H1,P'];done
  ·obtain⟨F,hF⟩:=EI (O:=fS (dv pv tv nm evs us es M)) (m0:=M.length) hK5 (M++(aae.cells true 0 (dH pv tv nm q evs.length)::(X++(aae.cells true 0 ev::nw)))) (.slice (M.length+(j+1)) 0 L.length none) v U Zp hUl (fun u hu=>by rw[hCo u hu,decide_eq_false (fun h=>hdup ⟨u,hu,h⟩)]) hb
   have H1:=fun y' d h=>(hF y' d h).1
   have P':=fun y' d h=>(hF y' d h).2
   clear hF hCo;have hdu' :ckW (L++U) (es.drop (i+1)) (us.drop (i+1))=W:=by
    have:U.any (fun u=>decide (u∈L))=false:=by rw[List.any_eq_false];intro u hu h;exact hdup ⟨u,hu,of_decide_eq_true h⟩
    rw[this,if_neg (by simp)] at Yf;exact Yf
   simp only[dH] at hC hO W0 H1 P' hap;left;refine⟨((X++(aae.cells true 0 ev::(nw++nw2))).set j .qF++[.cells true 1 (stC (L++U))],i+1,X.length+(nw.length+nw2.length+1)),?_⟩;refine cC (show(i+1≤evs.length∧((X++(aae.cells true 0 ev::(nw++nw2))).set j .qF++[aae.cells true 1 (stC (L++U))])[X.length+(nw.length+nw2.length+1)]? =some (.cells true 1 (stC (nm::(us.take (i+1)).flatten)))∧ckW (nm::(us.take (i+1)).flatten) (es.drop (i+1)) (us.drop (i+1))=W)∧evs.length-(i+1)<evs.length-i from
     ⟨⟨by omega,by rw[YA,List.getElem?_append_right (by simp)];simp,by rw[YA];exact hdu'⟩,by omega⟩) ?_
   simp only[YA,←hL];clear hs Yj hX2 Zp ZZ YV YA hL hR H hq WI hdup Yf hdu' hW;subst hb1;simp only[←WE] at H1 P';simp[-gq,-AV.qK,-dY,A',dH,h1,Zi,ZK,AC,Zl,WL,WR,l32,gck,t32,hC,hO,W0,hap,w1,WB,H1,P'];done
 ·right
  have hW0:W=0:=by rw[←Yf,List.drop_of_length_le (by rw[H.aco];omega)];rfl
  obtain rfl:B=false:=by rw[hB,hW0];rfl
  subst hb1;simp[ZK,AC]
theorem ES{M:Mem}(H:aby pv tv nm q evs us es M)(W:Int)(hW:ckW [nm] es us=W)(B:Bool)(hB:B=decide (W≠0))(hK:13<K)(hb:aj f12=[b,bi]):
  ∃F:Env→Bool→Env×Mem×Nat,∀y' d,(aa y' 1=.ptr M.length 0∧aa y' 4=.slice (M.length+1) 0 1 none∧aa y' 28=evV q evs.length∧aa y' 29=.int .i64 evs.length∧aa y' 30=.int .i64 0)→
   aQ (aC prog) uS (fS (dv pv tv nm evs us es M)) K 57 M.length true (.loop b) ⟨y',M++[.cells true 0 (dH pv tv nm q evs.length),.cells true 1 [.str nm]],d⟩=some (bif B then .ret else .exit 0,⟨(F y' d).1,(F y' d).2.1,d⟩)∧(B=true→aa (F y' d).1 2=.int .i64 W):=by
 have hK5:5<K:=by omega
 refine kF (L:=[30,30,30,4]) (by simp[aj,aD,f12] at hb;rw[←hb.1];rfl) (fun y'=>aa y' 1=.ptr M.length 0∧aa y' 4=.slice (M.length+1) 0 1 none∧aa y' 28=evV q evs.length∧aa y' 29=.int .i64 evs.length∧aa y' 30=.int .i64 0) (fun _ z' _ _=>B=true→aa z' 2=.int .i64 W) ?_;rintro y' d ⟨h1,h4,WW,ZK,h32⟩;have J' :=hb;simp[aj,aD,f12] at J';obtain⟨hb1,WE⟩:=J';have hn:az [30,30,30,4] (ab b) y' ((4,.slice (M.length+(0+1)) 0 (nm::(us.take 0).flatten).length none)::(30,.int .i64 ((0:Nat):Int))::y')=az [30,30,30,4] (ab b) y' y':=by simp[az,h4,h32]
 rw[←hn];have:=H.small;refine jS (α:=Mem×Nat×Nat) (fun a=>⟨az [30,30,30,4] (ab b) y' ((4,.slice (M.length+(a.2.2+1)) 0 (nm::(us.take a.2.1).flatten).length none)::(30,.int .i64 (a.2.1:Int))::y'),M++(aae.cells true 0 (dH pv tv nm q evs.length)::a.1),d⟩) (fun a=>evs.length-a.2.1)
  (fun a=>a.2.1≤evs.length∧a.1[a.2.2]? =some (.cells true 1 (stC (nm::(us.take a.2.1).flatten)))∧ckW (nm::(us.take a.2.1).flatten) (es.drop a.2.1) (us.drop a.2.1)=W) (bif B then .ret else .exit 0) d (fun z' _=>∃_:Nat,B=true→aa z' 2=.int .i64 W) (by cases B<;>simp) ?_ K ([.cells true 1 [.str nm]],0,0) ⟨by simp,by simp[stC],by simpa using hW⟩ (by simp only;omega)
 rintro ⟨X,i,j⟩ ⟨hi,hX,Yf⟩;simp only at hi hX Yf;clear hn;by_cases AC:i<evs.length
 ·obtain⟨ev,WQ⟩:∃ev,evs[i]? =some ev:=⟨_,List.getElem?_eq_getElem AC⟩
  obtain⟨U,hU⟩:∃U,us[i]? =some U:=⟨_,List.getElem?_eq_getElem (by rw[H.len];exact AC)⟩
  have W8:=List.mem_of_getElem? WQ;have H':evs≠[]:=by rintro rfl;simp at AC
  obtain⟨o,hq⟩:=H.hq H';have lq:=(List.getElem?_eq_some_iff.1 hq).1;have Zl :∀X,(M++X)[q]? =some (.cells o 32 evs.flatten):=fun X=>by rw[List.getElem?_append_left lq];exact hq
  obtain⟨WL,WR⟩:=H.row WQ;obtain⟨R,hR⟩:∃R,R=evs.flatten:=⟨_,rfl⟩
  rw[←hR] at WL WR;simp only[←hR] at Zl;have l32:=H.l32 _ W8;have ZE:=H.cok _ W8;obtain⟨e,he⟩:∃e,es[i]? =some e:=⟨_,List.getElem?_eq_getElem (by rw[H.aco];exact AC)⟩
  have hC:=uO (pv:=pv) (tv:=tv) (nm:=nm) (us:=us) H WQ he (aae.cells true 0 (dH pv tv nm q evs.length)::(X++[.cells true 0 ev]));have hde:es.drop i=e::es.drop (i+1):=by have WD :=(List.getElem?_eq_some_iff.1 he).1;rw[List.drop_eq_getElem_cons WD];rw[List.getElem?_eq_getElem WD] at he;rw[Option.some.inj he]
  have hdr:us.drop i=U::us.drop (i+1):=by
   have WD :i<us.length:=by rw[H.len];exact AC
   rw[List.drop_eq_getElem_cons WD];rw[List.getElem?_eq_getElem WD] at hU;rw[Option.some.inj hU]
  rw[hde,hdr,ckW] at Yf;have WB:∀j,(M.length+j<M.length)=False:=fun j=>bK _ _
  have gck:(∀x:AV,x∈ev→x.qK=true)=True:=eq_true ZE;have t32:List.take 32 ev=ev:=List.take_of_length_le (by omega);have evv:evV q evs.length=.slice q 0 evs.length none:=by unfold evV;rw[if_neg (by omega)]
  have Zi :=WW;rw[evv] at Zi;have cpv:=H.cp;have ctv:=H.ct;by_cases Zt:e≠0
  ·right
   rw[if_pos Zt] at Yf;subst Yf;obtain rfl:B=true:=by rw[hB];exact decide_eq_true Zt
   simp only[dH] at hC;clear H hq hR;subst hb1;simp[-gq,-AV.qK,-dY,dH,h1,Zi,ZK,AC,Zl,WL,WR,l32,gck,t32,hC,WB,Zt];done
  have he0' :e=0:=Classical.not_not.1 Zt;subst he0';rw[if_neg Zt] at Yf;obtain⟨v,nw,hO,hs⟩:=jI H WQ hU he (aae.cells true 0 (dH pv tv nm q evs.length)::(X++[.cells true 0 ev]));obtain⟨v2,nw2,W0,Yj⟩:=jI H WQ hU he (aae.cells true 0 (dH pv tv nm q evs.length)::(X++(.cells true 0 ev::nw)));have hX1:j<X.length:=(List.getElem?_eq_some_iff.1 hX).1;have hX2:(M++(aae.cells true 0 (dH pv tv nm q evs.length)::(X++(aae.cells true 0 ev::(nw++nw2)))))[M.length+(j+1)]? =some (.cells true 1 (stC (nm::(us.take i).flatten))):=by rw[dO,List.getElem?_cons_succ,List.getElem?_append_left hX1];exact hX
  have Zp :sts (M++(aae.cells true 0 (dH pv tv nm q evs.length)::(X++(aae.cells true 0 ev::nw)))) v=some U:=by have:=hs [];simpa using this
  have ZZ :sts (M++(aae.cells true 0 (dH pv tv nm q evs.length)::(X++(aae.cells true 0 ev::(nw++nw2))))) v2=some U:=by have:=Yj [];simpa using this
  have YU:(nm::(us.take i).flatten).length+U.length≤1000000:=by
   have a:=Rw (l:=us.take i) fun U hU=>H.abx U (List.mem_of_mem_take hU)
   have b:=H.abx U (List.mem_of_getElem? hU);rw[List.length_take] at a;rw[List.length_cons];omega
  have hap:=pI hX2 ZZ YU;have YV:(us.take (i+1)).flatten=(us.take i).flatten++U:=by rw[List.take_add_one,hU];simp
  have WI:sts (M++(aae.cells true 0 (dH pv tv nm q evs.length)::(X++(aae.cells true 0 ev::nw)))) (.slice (M.length+(j+1)) 0 (nm::(us.take i).flatten).length none)=some (nm::(us.take i).flatten):=
   FT (o:=true) (by rw[dO,List.getElem?_cons_succ,List.getElem?_append_left hX1];exact hX)
  have hCo:∀u∈U,fS (dv pv tv nm evs us es M) (.fn 45) [.slice (M.length+(j+1)) 0 (nm::(us.take i).flatten).length none,.str u] (M++(aae.cells true 0 (dH pv tv nm q evs.length)::(X++(aae.cells true 0 ev::nw))))=some ⟨.bool (decide (u∈nm::(us.take i).flatten)),none,[]⟩:=fun u hu=>by rw[o9 u WI (by omega)]
  have w1:IntKind.i64.wrap ((i:Int)+1)=((i+1:Nat):Int):=by rw[ai (by omega) (by omega)];omega
  obtain⟨L,hL⟩:∃L,L=nm::(us.take i).flatten:=⟨_,rfl⟩
  have YA :nm::(us.take (i+1)).flatten=L++U:=by rw[YV,hL];rfl
  rw[←hL] at hX hX2 YU hap Yf;simp only[←hL] at hCo;have hUl:=H.abx U (List.mem_of_getElem? hU);have A':=xo Zp;by_cases hdup:∃u∈U,u∈L
  ·obtain⟨F,hF⟩:=Ck (m0:=M.length) hK5 (M++(aae.cells true 0 (dH pv tv nm q evs.length)::(X++(aae.cells true 0 ev::nw)))) (.slice (M.length+(j+1)) 0 L.length none) v L U Zp hUl hCo hdup hb
   have H1:=fun y' d h=>(hF y' d h).1
   have P':=fun y' d h=>(hF y' d h).2
   clear hF hCo;have hany:U.any (fun u=>decide (u∈L))=true:=by obtain⟨u,h1,h2⟩:=hdup;exact List.any_eq_true.2 ⟨u,h1,decide_eq_true h2⟩
   rw[hany,if_pos rfl] at Yf;subst Yf;obtain rfl:B=true:=hB;simp only[dH] at hC hO W0 H1 P' hap;right;simp only[←hL];clear hs Yj hX2 Zp ZZ YV YA hL hR H hq WI;subst hb1;simp only[←WE] at H1 P';simp[-gq,-AV.qK,-dY,A',dH,h1,Zi,ZK,AC,Zl,WL,WR,l32,gck,t32,hC,hO,WB,H1,P'];done
  ·obtain⟨F,hF⟩:=ET (O:=fS (dv pv tv nm evs us es M)) (m0:=M.length) hK5 (M++(aae.cells true 0 (dH pv tv nm q evs.length)::(X++(aae.cells true 0 ev::nw)))) (.slice (M.length+(j+1)) 0 L.length none) v U Zp hUl (fun u hu=>by rw[hCo u hu,decide_eq_false (fun h=>hdup ⟨u,hu,h⟩)]) hb
   have H1:=fun y' d h=>(hF y' d h).1
   have P':=fun y' d h=>(hF y' d h).2
   clear hF hCo;have hdu' :ckW (L++U) (es.drop (i+1)) (us.drop (i+1))=W:=by
    have:U.any (fun u=>decide (u∈L))=false:=by rw[List.any_eq_false];intro u hu h;exact hdup ⟨u,hu,of_decide_eq_true h⟩
    rw[this,if_neg (by simp)] at Yf;exact Yf
   simp only[dH] at hC hO W0 H1 P' hap;left;refine⟨((X++(aae.cells true 0 ev::(nw++nw2))).set j .qF++[.cells true 1 (stC (L++U))],i+1,X.length+(nw.length+nw2.length+1)),?_⟩;refine cC (show(i+1≤evs.length∧((X++(aae.cells true 0 ev::(nw++nw2))).set j .qF++[aae.cells true 1 (stC (L++U))])[X.length+(nw.length+nw2.length+1)]? =some (.cells true 1 (stC (nm::(us.take (i+1)).flatten)))∧ckW (nm::(us.take (i+1)).flatten) (es.drop (i+1)) (us.drop (i+1))=W)∧evs.length-(i+1)<evs.length-i from
     ⟨⟨by omega,by rw[YA,List.getElem?_append_right (by simp)];simp,by rw[YA];exact hdu'⟩,by omega⟩) ?_
   simp only[YA,←hL];clear hs Yj hX2 Zp ZZ YV YA hL hR H hq WI hdup Yf hdu' hW;subst hb1;simp only[←WE] at H1 P';simp[-gq,-AV.qK,-dY,A',dH,h1,Zi,ZK,AC,Zl,WL,WR,l32,gck,t32,hC,hO,W0,hap,w1,WB,H1,P'];done
 ·right
  have hW0:W=0:=by rw[←Yf,List.drop_of_length_le (by rw[H.aco];omega)];rfl
  obtain rfl:B=false:=by rw[hB,hW0];rfl
  subst hb1;simp[ZK,AC]
theorem abP:aO prog 20=some f20:=by kernel_rfl
theorem mj{M:Mem}(H:aby pv tv nm q evs us es M):
  mB prog 20 [.agg (dH pv tv nm q evs.length)] M (.int .i64 (ckW [nm] es us)) M:=by
 obtain⟨b,bi,hb⟩:∃b bi,aj f20=[b,bi]:=⟨_,_,rfl⟩
 obtain⟨W,hW⟩:∃W,ckW [nm] es us=W:=⟨_,rfl⟩
 obtain⟨B,hB⟩:∃B,B=decide (W≠0):=⟨_,rfl⟩
 obtain⟨F,hF⟩:=EH H W hW B hB (K:=20) (by decide) hb;rw[hW];have cpv:=H.cp;have ctv:=H.ct;have H1:=fun y' d h=>(hF y' d h).1
 have P':=fun y' d h=>(hF y' d h).2
 clear hF;simp[aj,aD,f20] at hb;obtain⟨hb,_⟩:=hb;subst hb;have A':=cB q evs.length;have hM:=xk (pv:=pv) (tv:=tv) (nm:=nm) (evs:=evs) (us:=us) (es:=es) (M:=M) [.cells true 0 (dH pv tv nm q evs.length)];have hN:=xm (pv:=pv) (tv:=tv) (nm:=nm) (evs:=evs) (us:=us) (es:=es) (M:=M) (M++[.cells true 0 (dH pv tv nm q evs.length)]);have Xp:=uP (pv:=pv) (tv:=tv) (nm:=nm) (evs:=evs) (us:=us) (es:=es) (M:=M) (M++[.cells true 0 (dH pv tv nm q evs.length)]);have h12:¬(12:Int)<evs.length:=by have:=H.small;omega
 simp only[dH] at H1 P' hM hN Xp;have h:ad (aC prog) uN (aO prog) (fS (dv pv tv nm evs us es M)) 20 20 [.agg (dH pv tv nm q evs.length)] M=some ⟨.int .i64 W,none,[]⟩:=by
  cases B with
  |false=>
   obtain rfl:W=0:=by simpa using hB.symm
   simp[-dY,A',ad,abP,f20,dH,hM,hN,h12,H1];done
  |true=>
   have hF2' :=fun y' d h=>P' y' d h rfl
   clear P';simp[-dY,A',ad,abP,f20,dH,hM,hN,h12,H1,hF2'];done
 have:=(au af (aw _) (CM H) (ax _) h).1;simpa [HS.mem] using this
theorem abQ:aO prog 12=some f12:=by kernel_rfl
theorem ml{M:Mem}(H:aby pv tv nm q evs us es M):
  mB prog 12 [.agg (dH pv tv nm q evs.length)] M (.int .i64 (ckW [nm] es us)) M:=by
 obtain⟨b,bi,hb⟩:∃b bi,aj f12=[b,bi]:=⟨_,_,rfl⟩
 obtain⟨W,hW⟩:∃W,ckW [nm] es us=W:=⟨_,rfl⟩
 obtain⟨B,hB⟩:∃B,B=decide (W≠0):=⟨_,rfl⟩
 obtain⟨F,hF⟩:=ES H W hW B hB (K:=20) (by decide) hb;rw[hW];have cpv:=H.cp;have ctv:=H.ct;have H1:=fun y' d h=>(hF y' d h).1
 have P':=fun y' d h=>(hF y' d h).2
 clear hF;simp[aj,aD,f12] at hb;obtain⟨hb,_⟩:=hb;subst hb;have A':=cB q evs.length;have hM:=xk (pv:=pv) (tv:=tv) (nm:=nm) (evs:=evs) (us:=us) (es:=es) (M:=M) [.cells true 0 (dH pv tv nm q evs.length)];have hN:=xm (pv:=pv) (tv:=tv) (nm:=nm) (evs:=evs) (us:=us) (es:=es) (M:=M) (M++[.cells true 0 (dH pv tv nm q evs.length)]);have Xp:=uP (pv:=pv) (tv:=tv) (nm:=nm) (evs:=evs) (us:=us) (es:=es) (M:=M) (M++[.cells true 0 (dH pv tv nm q evs.length)]);have h12:¬(12:Int)<evs.length:=by have:=H.small;omega
 simp only[dH] at H1 P' hM hN Xp;have h:ad (aC prog) uS (aO prog) (fS (dv pv tv nm evs us es M)) 20 12 [.agg (dH pv tv nm q evs.length)] M=some ⟨.int .i64 W,none,[]⟩:=by
  cases B with
  |false=>
   obtain rfl:W=0:=by simpa using hB.symm
   simp[-dY,A',ad,abQ,f12,dH,hM,Xp,h12,H1];done
  |true=>
   have hF2' :=fun y' d h=>P' y' d h rfl
   clear P';simp[-dY,A',ad,abQ,f12,dH,hM,Xp,h12,H1,hF2'];done
 have:=(au af (aw _) (CM H) (ax _) h).1;simpa [HS.mem] using this
variable{args:List AV}{f:FuncId}{v:AV}
theorem TC{p:Mem→Prop}{M:Mem}(h:p M):gP f args v p (.fn f) args M=some ⟨v,none,[]⟩:=by unfold gP;rw[if_pos ⟨rfl,rfl,h⟩]
theorem fp{c:FuncId}{ca:List AV}{r:AV}{M:Mem}(hC:∀Z,mB prog c ca (M++Z) v (M++Z))(h:∀(O:aac) (N:Mem),(∀Z',O (.fn c) ca (N++Z')=some ⟨v,none,[]⟩)→O (.fn c) ca N=some ⟨v,none,[]⟩→(∀j,¬(N.length+j<N.length))→ad (aC prog) (fun _=>[]) (aO prog) O 1 f args N=some ⟨r,none,[]⟩)(Z:Mem):mB prog f args (M++Z) r (M++Z):=by
 have hO:=ij (P:=prog) (f:=c) (args:=ca) (v:=v) (p:=fun M' =>∃Z,M' =M++Z) fun M' ⟨Z,h⟩=>by rw[h];exact hC Z
 have e1:∀Z',gP c ca v (fun M' =>∃Z,M' =M++Z) (.fn c) ca ((M++Z)++Z')=some ⟨v,none,[]⟩:=fun Z' =>TC ⟨Z++Z',List.append_assoc _ _ _⟩
 have e2:=e1 [];rw[List.append_nil] at e2;have:=(au af (aw _) hO (ax _) (h _ _ e1 e2 fun j=>by omega)).1;simpa [HS.mem] using this
variable{u x1 x2 x3:List UInt8}
section
variable {M:Mem}{a1 a2 a4:AV}{a3:List UInt8}{e:Int}
section
variable (h1:a1.qK=true)(h2:a2.qK=true)(h4:a4.qK=true)(k1:a1.known=true)(k2:a2.known=true)(k4:a4.known=true)(he:e≠0)
include h1 h2 h4 k1 k2 k4 he
theorem Pq(hC:∀Z,mB prog 20 [.agg [a1,a2,.str a3,a4]] (M++Z) (.int .i64 e) (M++Z))(Z:Mem):
  mB prog 51 [.agg [a1,a2,.str a3,a4],.agg [.str x1,.str x2,.str x3]] (M++Z) (.int .i64 e) (M++Z):=fp hC (fun O N e1 e10 WB=>by
  have hG:aO prog 51=some f51:=by kernel_rfl
  simp[-AV.qK,-AV.known,-AV.cells,vS,ad,hG,f51,e1,he]) Z
section
variable (hC:∀Z,mB prog 51 [.agg [a1,a2,.str a3,a4],.agg [.str x1,.str x2,.str x3]] (M++Z) (.int .i64 e) (M++Z))(Z:Mem)
include hC Z
theorem SS:
  mB prog 22 [.agg [a1,a2,.str a3,a4],.agg [.str x1,.str x2,.str x3]] (M++Z) (.tuple [.str [],.int .i64 e]) (M++Z):=fp hC (fun O N e1 e10 WB=>by
  have hG:aO prog 22=some f22:=by kernel_rfl
  simp[-AV.qK,-AV.known,-AV.cells,vS,ad,hG,f22,e1,he]) Z
theorem JN:
  mB prog 23 [.agg [a1,a2,.str a3,a4],.agg [.str x1,.str x2,.str x3]] (M++Z) (.tuple [.agg [.str [],.kO,.int .i64 0,.str [],.str [],.str []],.int .i64 e]) (M++Z):=fp hC (fun O N e1 e10 WB=>by
  have hG:aO prog 23=some f23:=by kernel_rfl
  simp[-AV.qK,-AV.known,-AV.cells,vS,bO,ad,hG,f23,e1,he,WB]) Z
end
end
theorem E4{i:Int}{b:Bool}(h1:a1.qK=true)(h2:a2.qK=true)(h4:a4.qK=true)(k1:a1.known=true)(k2:a2.known=true)(k4:a4.known=true)(he:e≠0)(hC:∀Z,mB prog 51 [.agg [a1,a2,.str a3,a4],.agg [.str x1,.str x2,.str x3]] (M++Z) (.int .i64 e) (M++Z))(Z:Mem):
  mB prog 54 [.agg [a1,a2,.str a3,a4],.agg [.str x1,.str x2,.str x3],.int .i64 i,.bool b] (M++Z) (.tuple [.agg [.str [],.str [],.str []],.int .i64 e]) (M++Z):=fp hC (fun O N e1 e10 WB=>by
  have hG:aO prog 54=some f54:=by kernel_rfl
  simp[-AV.qK,-AV.known,-AV.cells,vS,bO,ad,hG,f54,e1,he,WB]) Z
theorem Pp{i:Int}(h1:a1.qK=true)(h2:a2.qK=true)(h4:a4.qK=true)(k1:a1.known=true)(k2:a2.known=true)(k4:a4.known=true)(he:e≠0)(hC:∀Z,mB prog 54 [.agg [a1,a2,.str a3,a4],.agg [.str x1,.str x2,.str x3],.int .i64 i,.bool true] (M++Z) (.tuple [.agg [.str [],.str [],.str []],.int .i64 e]) (M++Z))(Z:Mem):
  mB prog 24 [.agg [a1,a2,.str a3,a4],.agg [.str x1,.str x2,.str x3],.int .i64 i] (M++Z) (.tuple [.agg [.str [],.str [],.str []],.int .i64 e]) (M++Z):=fp hC (fun O N e1 e10 WB=>by
  have hG:aO prog 24=some f24:=by kernel_rfl
  simp[-AV.qK,-AV.known,-AV.cells,vS,ad,hG,f24,e1,WB]) Z
theorem ML{i:Int}(h1:a1.qK=true)(h2:a2.qK=true)(h4:a4.qK=true)(k1:a1.known=true)(k2:a2.known=true)(k4:a4.known=true)(he:e≠0)(hC:∀Z,mB prog 54 [.agg [a1,a2,.str a3,a4],.agg [.str x1,.str x2,.str x3],.int .i64 i,.bool false] (M++Z) (.tuple [.agg [.str [],.str [],.str []],.int .i64 e]) (M++Z))(Z:Mem):
  mB prog 25 [.agg [a1,a2,.str a3,a4],.agg [.str x1,.str x2,.str x3],.int .i64 i] (M++Z) (.tuple [.agg [.str [],.str [],.str []],.int .i64 e]) (M++Z):=fp hC (fun O N e1 e10 WB=>by
  have hG:aO prog 25=some f25:=by kernel_rfl
  simp[-AV.qK,-AV.known,-AV.cells,vS,ad,hG,f25,e1,WB]) Z
section
variable (h1:a1.qK=true)(h2:a2.qK=true)(h4:a4.qK=true)(k1:a1.known=true)(k2:a2.known=true)(k4:a4.known=true)(he:e≠0)(hC:∀Z,mB prog 20 [.agg [a1,a2,.str a3,a4]] (M++Z) (.int .i64 e) (M++Z))(Z:Mem)
include h1 h2 h4 k1 k2 k4 he hC Z
theorem MM:
  mB prog 26 [.agg [a1,a2,.str a3,a4]] (M++Z) (.tuple [.kO,.int .i64 e]) (M++Z):=fp hC (fun O N e1 e10 WB=>by
  have hG:aO prog 26=some f26:=by kernel_rfl
  simp[-AV.qK,-AV.known,-AV.cells,vS,ad,hG,f26,e1,he]) Z
theorem Pr:
  mB prog 27 [.agg [a1,a2,.str a3,a4],.str u] (M++Z) (.tuple [.int .i64 0,.int .i64 e]) (M++Z):=fp hC (fun O N e1 e10 WB=>by
  have hG:aO prog 27=some f27:=by kernel_rfl
  simp[-AV.qK,-AV.known,-AV.cells,vS,ad,hG,f27,e1,he]) Z
theorem JO:
  mB prog 28 [.agg [a1,a2,.str a3,a4],.str u] (M++Z) (.tuple [.int .i64 0,.int .i64 0,.int .i64 e]) (M++Z):=fp hC (fun O N e1 e10 WB=>by
  have hG:aO prog 28=some f28:=by kernel_rfl
  simp[-AV.qK,-AV.known,-AV.cells,vS,ad,hG,f28,e1,he]) Z
end
theorem JM{i:Int}(h1:a1.qK=true)(h2:a2.qK=true)(h4:a4.qK=true)(k1:a1.known=true)(k2:a2.known=true)(k4:a4.known=true)(he:e≠0)(hC:∀Z,mB prog 20 [.agg [a1,a2,.str a3,a4]] (M++Z) (.int .i64 e) (M++Z))(Z:Mem):
  mB prog 16 [.agg [a1,a2,.str a3,a4],.int .i64 i] (M++Z) (.tuple [.agg Qr,.int .i64 e]) (M++Z):=fp hC (fun O N e1 e10 WB=>by
  have hG:aO prog 16=some f16:=by kernel_rfl
  simp[-AV.qK,-AV.known,-AV.cells,vS,bO,ad,hG,f16,e1,he,WB,Qr]) Z
theorem E5{i:Int}(h1:a1.qK=true)(h2:a2.qK=true)(h4:a4.qK=true)(k1:a1.known=true)(k2:a2.known=true)(k4:a4.known=true)(he:e≠0)(hC:∀Z,mB prog 20 [.agg [a1,a2,.str a3,a4]] (M++Z) (.int .i64 e) (M++Z))(Z:Mem):
  mB prog 15 [.agg [a1,a2,.str a3,a4],.int .i64 i] (M++Z) (.tuple [.agg Qr,.int .i64 e]) (M++Z):=fp hC (fun O N e1 e10 WB=>by
  have hG:aO prog 15=some f15:=by kernel_rfl
  simp[-AV.qK,-AV.known,-AV.cells,vS,bO,ad,hG,f15,e1,he,WB,Qr]) Z
theorem JL{x:List AV}(lx:x.length=32)(cx:x.all AV.qK=true)(h1:a1.qK=true)(h2:a2.qK=true)(h4:a4.qK=true)(k1:a1.known=true)(k2:a2.known=true)(k4:a4.known=true)(he:e≠0)(hC:∀Z,mB prog 20 [.agg [a1,a2,.str a3,a4]] (M++Z) (.int .i64 e) (M++Z))(Z:Mem):
  mB prog 10 [.agg [a1,a2,.str a3,a4],.agg x] (M++Z) (.tuple [.agg Qr,.int .i64 e]) (M++Z):=fp hC (fun O N e1 e10 WB=>by
  have hG:aO prog 10=some f10:=by kernel_rfl
  simp[-AV.qK,-AV.known,-AV.cells,vS,bO,ad,hG,f10,e1,he,WB,Qr,-List.all_eq_true]) Z
theorem yL(h1:a1.qK=true)(h2:a2.qK=true)(h4:a4.qK=true)(k1:a1.known=true)(k2:a2.known=true)(k4:a4.known=true)(he:e≠0)(hC:∀Z,mB prog 20 [.agg [a1,a2,.str a3,a4]] (M++Z) (.int .i64 e) (M++Z))(Z:Mem):
  mB prog 29 [.agg [a1,a2,.str a3,a4],.kO] (M++Z) (.tuple [.int .i64 0,.bool false,.int .i64 e]) (M++Z):=fp hC (fun O N e1 e10 WB=>by
  have hG:aO prog 29=some f29:=by kernel_rfl
  simp[-AV.qK,-AV.known,-AV.cells,vS,ad,hG,f29,e1,he]) Z
end
end Go.Proofs
namespace Go.Eng
theorem xV{P:Program}{f g:FuncId}{a b:List AV}{v w:AV}{M:Mem}(hf:∀Z,mB P f a (M++Z) v (M++Z))(hg:∀Z,mB P g b (M++Z) w (M++Z))(H':f≠g):
  ∃O:aac,qS P O∧(∀Z,O (.fn f) a (M++Z)=some ⟨v,none,[]⟩)∧∀Z,O (.fn g) b (M++Z)=some ⟨w,none,[]⟩:=by
 obtain⟨O,h1,h2⟩:=vt (P:=P) (ι:=Bool×Mem) (fun _=>True) (fun i=>.fn (bif i.1 then f else g)) (fun i=>bif i.1 then a else b) (fun i=>M++i.2) (fun i=>⟨bif i.1 then v else w,none,[]⟩)
  (by
   rintro ⟨i,Z⟩ _;cases i
   ·exact ak (by rw[List.append_nil];exact hg Z)
   ·exact ak (by rw[List.append_nil];exact hf Z))
  (by
   rintro ⟨i,Z⟩ ⟨j,Z'⟩ _ _ h _ _;cases i<;>cases j<;>simp only[cond_true,cond_false,Callee.fn.injEq] at h ⊢
   ·exact absurd h.symm H'
   ·exact absurd h H')
 exact⟨O,h1,fun Z=>h2 (true,Z) trivial,fun Z=>h2 (false,Z) trivial⟩
end Go.Eng
namespace Go.Proofs
open Go.Eng
open Tryz
variable{n:Nat}
section
variable {M:Mem}{a1 a2 a4:AV}{a3:List UInt8}{e:Int}
section
variable (h1:a1.qK=true)(h2:a2.qK=true)(h4:a4.qK=true)(k1:a1.known=true)(k2:a2.known=true)(k4:a4.known=true)
include h1 h2 h4 k1 k2 k4
theorem Ar(he:e≠0)(hC:∀Z,mB prog 41 [.agg [a1,a2]] (M++Z) (.int .i64 e) (M++Z))(Z:Mem):
  mB prog 20 [.agg [a1,a2,.str a3,a4]] (M++Z) (.int .i64 e) (M++Z):=by
 have Xg :∀Z',mB prog 41 [.agg [a1,a2]] ((M++Z)++Z') (.int .i64 e) ((M++Z)++Z'):=fun Z' =>by rw[List.append_assoc];exact hC _
 obtain⟨O,hO,e1,_⟩:=xV Xg (fun Z' =>lC ((M++Z)++Z')) (by decide);obtain⟨N,hN⟩:∃N,N=M++Z:=⟨_,rfl⟩
 rw[←hN];simp only[←hN] at e1;have e10:=e1 [];rw[List.append_nil] at e10;have h:ad (aC prog) (fun _=>[]) (aO prog) O 1 20 [.agg [a1,a2,.str a3,a4]] N=some ⟨.int .i64 e,none,[]⟩:=by clear hO hC Xg;simp[-AV.qK,-AV.known,-AV.cells,vS,ad,abP,f20,e1,he]
 have:=(au af (aw _) hO (ax _) h).1;simpa [HS.mem] using this
theorem Mm(hC:∀Z,mB prog 41 [.agg [a1,a2]] (M++Z) (.int .i64 0) (M++Z))(hI:∀Z,mB prog 50 [.str a3] (M++Z) (.bool false) (M++Z))(Z:Mem):
  mB prog 20 [.agg [a1,a2,.str a3,a4]] (M++Z) (.int .i64 8) (M++Z):=by
 have Xg :∀Z',mB prog 41 [.agg [a1,a2]] ((M++Z)++Z') (.int .i64 0) ((M++Z)++Z'):=fun Z' =>by rw[List.append_assoc];exact hC _
 have hI' :∀Z',mB prog 50 [.str a3] ((M++Z)++Z') (.bool false) ((M++Z)++Z'):=fun Z' =>by rw[List.append_assoc];exact hI _
 obtain⟨O,hO,e1,e2⟩:=xV Xg hI' (by decide);obtain⟨N,hN⟩:∃N,N=M++Z:=⟨_,rfl⟩
 rw[←hN];simp only[←hN] at e1 e2;have e10:=e1 [];have e20:=e2 [];rw[List.append_nil] at e10 e20;have h:ad (aC prog) (fun _=>[]) (aO prog) O 1 20 [.agg [a1,a2,.str a3,a4]] N=some ⟨.int .i64 8,none,[]⟩:=by clear hO hC Xg hI hI';simp[-AV.qK,-AV.known,-AV.cells,vS,ad,abP,f20,e1,e2]
 have:=(au af (aw _) hO (ax _) h).1;simpa [HS.mem] using this
end
theorem Ml(hn:12<n)(A':∀N,dY (aC prog) 39 N a4=some (.int .i64 n))(h1:a1.qK=true)(h2:a2.qK=true)(h4:a4.qK=true)(k1:a1.known=true)(k2:a2.known=true)(k4:a4.known=true)(hC:∀Z,mB prog 41 [.agg [a1,a2]] (M++Z) (.int .i64 0) (M++Z))(hI:∀Z,mB prog 50 [.str a3] (M++Z) (.bool true) (M++Z))(Z:Mem):
  mB prog 20 [.agg [a1,a2,.str a3,a4]] (M++Z) (.int .i64 4) (M++Z):=by
 have Xg :∀Z',mB prog 41 [.agg [a1,a2]] ((M++Z)++Z') (.int .i64 0) ((M++Z)++Z'):=fun Z' =>by rw[List.append_assoc];exact hC _
 have hI' :∀Z',mB prog 50 [.str a3] ((M++Z)++Z') (.bool true) ((M++Z)++Z'):=fun Z' =>by rw[List.append_assoc];exact hI _
 obtain⟨O,hO,e1,e2⟩:=xV Xg hI' (by decide);obtain⟨N,hN⟩:∃N,N=M++Z:=⟨_,rfl⟩
 rw[←hN];simp only[←hN] at e1 e2;have w8:IntKind.i64.wrap 4=4:=rfl;have e10:=e1 [];have e20:=e2 [];rw[List.append_nil] at e10 e20;have h:ad (aC prog) (fun _=>[]) (aO prog) O 1 20 [.agg [a1,a2,.str a3,a4]] N=some ⟨.int .i64 4,none,[]⟩:=by clear hO hC Xg hI hI';simp[-AV.qK,-AV.known,-AV.cells,vS,ad,abP,f20,e1,e2,-dY,A',show(12:Int)<(n:Int) by omega]
 have:=(au af (aw _) hO (ax _) h).1;simpa [HS.mem] using this
section
variable (h1:a1.qK=true)(h2:a2.qK=true)(h4:a4.qK=true)(k1:a1.known=true)(k2:a2.known=true)(k4:a4.known=true)
include h1 h2 h4 k1 k2 k4
theorem At(he:e≠0)(hC:∀Z,mB prog 41 [.agg [a1,a2]] (M++Z) (.int .i64 e) (M++Z))(Z:Mem):
  mB prog 12 [.agg [a1,a2,.str a3,a4]] (M++Z) (.int .i64 e) (M++Z):=by
 have Xg :∀Z',mB prog 41 [.agg [a1,a2]] ((M++Z)++Z') (.int .i64 e) ((M++Z)++Z'):=fun Z' =>by rw[List.append_assoc];exact hC _
 obtain⟨O,hO,e1,_⟩:=xV Xg (fun Z' =>lC ((M++Z)++Z')) (by decide);obtain⟨N,hN⟩:∃N,N=M++Z:=⟨_,rfl⟩
 rw[←hN];simp only[←hN] at e1;have e10:=e1 [];rw[List.append_nil] at e10;have h:ad (aC prog) (fun _=>[]) (aO prog) O 1 12 [.agg [a1,a2,.str a3,a4]] N=some ⟨.int .i64 e,none,[]⟩:=by clear hO hC Xg;simp[-AV.qK,-AV.known,-AV.cells,vS,ad,abQ,f12,e1,he]
 have:=(au af (aw _) hO (ax _) h).1;simpa [HS.mem] using this
theorem Mv(hC:∀Z,mB prog 41 [.agg [a1,a2]] (M++Z) (.int .i64 0) (M++Z))(hI:∀Z,mB prog 42 [.str a3] (M++Z) (.bool false) (M++Z))(Z:Mem):
  mB prog 12 [.agg [a1,a2,.str a3,a4]] (M++Z) (.int .i64 8) (M++Z):=by
 have Xg :∀Z',mB prog 41 [.agg [a1,a2]] ((M++Z)++Z') (.int .i64 0) ((M++Z)++Z'):=fun Z' =>by rw[List.append_assoc];exact hC _
 have hI' :∀Z',mB prog 42 [.str a3] ((M++Z)++Z') (.bool false) ((M++Z)++Z'):=fun Z' =>by rw[List.append_assoc];exact hI _
 obtain⟨O,hO,e1,e2⟩:=xV Xg hI' (by decide);obtain⟨N,hN⟩:∃N,N=M++Z:=⟨_,rfl⟩
 rw[←hN];simp only[←hN] at e1 e2;have e10:=e1 [];have e20:=e2 [];rw[List.append_nil] at e10 e20;have h:ad (aC prog) (fun _=>[]) (aO prog) O 1 12 [.agg [a1,a2,.str a3,a4]] N=some ⟨.int .i64 8,none,[]⟩:=by clear hO hC Xg hI hI';simp[-AV.qK,-AV.known,-AV.cells,vS,ad,abQ,f12,e1,e2]
 have:=(au af (aw _) hO (ax _) h).1;simpa [HS.mem] using this
end
theorem Mu(hn:12<n)(A':∀N,dY (aC prog) 39 N a4=some (.int .i64 n))(h1:a1.qK=true)(h2:a2.qK=true)(h4:a4.qK=true)(k1:a1.known=true)(k2:a2.known=true)(k4:a4.known=true)(hC:∀Z,mB prog 41 [.agg [a1,a2]] (M++Z) (.int .i64 0) (M++Z))(hI:∀Z,mB prog 42 [.str a3] (M++Z) (.bool true) (M++Z))(Z:Mem):
  mB prog 12 [.agg [a1,a2,.str a3,a4]] (M++Z) (.int .i64 4) (M++Z):=by
 have Xg :∀Z',mB prog 41 [.agg [a1,a2]] ((M++Z)++Z') (.int .i64 0) ((M++Z)++Z'):=fun Z' =>by rw[List.append_assoc];exact hC _
 have hI' :∀Z',mB prog 42 [.str a3] ((M++Z)++Z') (.bool true) ((M++Z)++Z'):=fun Z' =>by rw[List.append_assoc];exact hI _
 obtain⟨O,hO,e1,e2⟩:=xV Xg hI' (by decide);obtain⟨N,hN⟩:∃N,N=M++Z:=⟨_,rfl⟩
 rw[←hN];simp only[←hN] at e1 e2;have w8:IntKind.i64.wrap 4=4:=rfl;have e10:=e1 [];have e20:=e2 [];rw[List.append_nil] at e10 e20;have h:ad (aC prog) (fun _=>[]) (aO prog) O 1 12 [.agg [a1,a2,.str a3,a4]] N=some ⟨.int .i64 4,none,[]⟩:=by clear hO hC Xg hI hI';simp[-AV.qK,-AV.known,-AV.cells,vS,ad,abQ,f12,e1,e2,-dY,A',show(12:Int)<(n:Int) by omega]
 have:=(au af (aw _) hO (ax _) h).1;simpa [HS.mem] using this
end
end Go.Proofs
namespace Go.Proofs
open Go.Eng
open Tryz
def CF:List (List UInt8×Bool):=[([],false),([49],false),([97,32,98],false),([65,49],true),([107,48],true)]
theorem nv(nm:List UInt8)(b:Bool)(h:(nm,b)∈CF)(M:Mem):mB prog 50 [.str nm] M (.bool b) M:=by refine aB (ah _) (lv:=ab) (K:=8) rfl rfl ?_ M;simp only[CF,List.mem_cons,List.not_mem_nil,or_false,Prod.mk.injEq] at h;rcases h with⟨h,k⟩ | ⟨h,k⟩ | ⟨h,k⟩ | ⟨h,k⟩ | ⟨h,k⟩<;>(subst h;subst k;as_aux_lemma=>kernel_rfl)
theorem EK:(ow (aC prog) ab (aO prog) bt 20 6 (.fn 42) [.str []] []).map (fun r=>(r.v,r.mem []))=some (.bool false,[]++[]):=by kernel_rfl
theorem EL:(ow (aC prog) ab (aO prog) bt 20 6 (.fn 42) [.str [49]] []).map (fun r=>(r.v,r.mem []))=some (.bool false,[]++[]):=by kernel_rfl
theorem EM:(ow (aC prog) ab (aO prog) bt 20 6 (.fn 42) [.str [97,32,98]] []).map (fun r=>(r.v,r.mem []))=some (.bool false,[]++[]):=by kernel_rfl
theorem EN:(ow (aC prog) ab (aO prog) bt 20 6 (.fn 42) [.str [65,49]] []).map (fun r=>(r.v,r.mem []))=some (.bool true,[]++[]):=by kernel_rfl
theorem EO:(ow (aC prog) ab (aO prog) bt 20 6 (.fn 42) [.str [107,48]] []).map (fun r=>(r.v,r.mem []))=some (.bool true,[]++[]):=by kernel_rfl
theorem nt(nm:List UInt8)(b:Bool)(h:(nm,b)∈CF)(M:Mem):mB prog 42 [.str nm] M (.bool b) M:=by
 simp only[CF,List.mem_cons,List.not_mem_nil,or_false,Prod.mk.injEq] at h;rcases h with⟨rfl,rfl⟩ | ⟨rfl,rfl⟩ | ⟨rfl,rfl⟩ | ⟨rfl,rfl⟩ | ⟨rfl,rfl⟩
 ·exact mB.lift rfl rfl (bU (new:=[]) af (aw _) (ax _) (ah _) EK) M
 ·exact mB.lift rfl rfl (bU (new:=[]) af (aw _) (ax _) (ah _) EL) M
 ·exact mB.lift rfl rfl (bU (new:=[]) af (aw _) (ax _) (ah _) EM) M
 ·exact mB.lift rfl rfl (bU (new:=[]) af (aw _) (ax _) (ah _) EN) M
 ·exact mB.lift rfl rfl (bU (new:=[]) af (aw _) (ax _) (ah _) EO) M
variable{M:Mem}
theorem BV{pv tv:AV}(h1:pv.qK=true)(h2:tv.qK=true)(A':∀N,dY (aC prog) 36 N tv=some (.int .i64 0)):
  mB prog 41 [.agg [pv,tv]] M (.int .i64 13) M:=by
 have hG:aO prog 41=some f41:=by kernel_rfl
 have w13:IntKind.i64.wrap 13=13:=rfl;refine aY (K:=1) (lv:=fun _=>[]) (ah _) ?_;simp[-AV.qK,-AV.known,-AV.cells,vS,-dY,A',ad,hG,f41]
theorem NJ:∀(us:List (List (List UInt8))) (L:List (List UInt8)),ckW L (List.replicate us.length 0) us=bif zm L us then 9 else 0
 | [],_=>rfl
 |U::r,L=>by
  rw[List.length_cons,List.replicate_succ,ckW,if_neg (by simp),zm];cases h:U.any (fun u=>decide (u∈L)) with
  |true=>rfl
  |false=>rw[if_neg (by simp),Bool.false_or];exact NJ r (L++U)
variable{cs:List Evc}{s:aaf}
theorem Tryz.aaE.adb{p t q:Nat}{evs:List (List AV)}(H:aaE s p t q evs cs M)(nm:List UInt8)(hR:∀X,mB prog 50 [.str nm] X (.bool true) X)(hL:∀X,mB prog 42 [.str nm] X (.bool true) X):
  aby (.slice p 0 s.P.length none) (.slice t 0 s.T.length none) nm q evs (cs.map unE) (List.replicate (cs.map unE).length 0) M where
 cp:=rfl
 ct:=rfl
 hq:=H.hq
 len:=by rw[List.length_map,H.len]
 aco:=by rw[List.length_replicate,List.length_map,H.len]
 small:=by have:=H.small;have:=H.len;omega
 l32:=H.l32
 cok:=H.cok
 abx:=H.at.abx
 nd:=fun i j ev U U' e e' h1 h2 h3 h4 h5 h6=>⟨by have a:=List.eq_of_mem_replicate (List.mem_of_getElem? h5);have b:=List.eq_of_mem_replicate (List.mem_of_getElem? h6);rw[a,b],fun _=>H.at.nd h1 h2 h3 h4⟩
 acS:=fun X=>by obtain⟨o,hp⟩:=(H.more X).hp;obtain⟨o',ht⟩:=(H.more X).ht;have:=bl s (M++X) p t o o' hp ht;simpa [shB] using this
 nmR:=hR
 nmL:=hL
 chk:=fun i ev e h1 h2 X=>by have a:=List.eq_of_mem_replicate (List.mem_of_getElem? h2);rw[a];exact H.at.chk ev (List.mem_of_getElem? h1) X
 un:=fun i ev U h1 h2 _ X=>H.at.un i ev U h1 h2 X
theorem Tryz.aaE.aaP{p t q:Nat}{evs:List (List AV)}(H:aaE s p t q evs cs M)(nm:List UInt8)(hR:∀X,mB prog 50 [.str nm] X (.bool true) X)(hL:∀X,mB prog 42 [.str nm] X (.bool true) X):
  mB prog 20 [.agg [.slice p 0 s.P.length none,.slice t 0 s.T.length none,.str nm,evV q cs.length]] M (.int .i64 (bif zm [nm] (cs.map unE) then 9 else 0)) M∧
  mB prog 12 [.agg [.slice p 0 s.P.length none,.slice t 0 s.T.length none,.str nm,evV q cs.length]] M (.int .i64 (bif zm [nm] (cs.map unE) then 9 else 0)) M:=by
 have a:=mj (H.adb nm hR hL);have b:=ml (H.adb nm hR hL);rw[NJ,H.len] at a b;exact⟨a,b⟩
end Go.Proofs
