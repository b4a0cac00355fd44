/- See R54. -/
import Derived.Test.YtgafjliihahjgaaGreatDoorR37
import Derived.Test.YtgafjliihahjgaaGreatDoorR38
set_option linter.all false
set_option maxRecDepth 100000
set_option maxHeartbeats 40000000
namespace Go.Proofs
open Go.Eng
open Tryz
structure Tryz.ae2 (s:aeE) (p t q:Nat) (evs:List (List AV)) (cs:List Evc) (M:Mem):Prop where
 hp:∃o,M[p]? =some (.cells o 2 (pC s.P))
 ht:∃o,M[t]? =some (.cells o 3 (tC s.T))
 hq:evs≠[]→∃o,M[q]? =some (.cells o 32 evs.flatten)
 len:evs.length=cs.length
 small:cs.length≤4
 af8:∀c∈cs,aWg s c
 con:∀(i:Nat) ev c,evs[i]? =some ev→cs[i]? =some c→afi M ev c
theorem AI{α β:Type}{P:Nat→α→β→Prop}:∀(l:List α),(∀(i:Nat) a,l[i]? =some a→∃b,P i a b)→∃bs:List β,bs.length=l.length∧∀(i:Nat) a b,l[i]? =some a→bs[i]? =some b→P i a b
 | [],_=>⟨[],rfl,fun i a b h=>by simp at h⟩
 |x::l,h=>by
  obtain⟨b,hb⟩:=h 0 x rfl;obtain⟨bs,h1,h2⟩:=AI (P:=fun i=>P (i+1)) l fun i a hi=>h (i+1) a (by simpa using hi)
  refine⟨b::bs,by simp[h1],fun i a c hi hc=>?_⟩;cases i with
  |zero=>simp at hi hc;subst hi hc;exact hb
  |succ i=>exact h2 i a c (by simpa using hi) (by simpa using hc)
section
variable {s:aeE}{p t q:Nat}{evs:List (List AV)}{cs:List Evc}{M:Mem}
section
variable (H:ae2 s p t q evs cs M)
include H
theorem Tryz.ae2.more(Z:Mem):ae2 s p t q evs cs (M++Z) where
 hp:=by obtain⟨o,h⟩:=H.hp;exact⟨o,by rw[List.getElem?_append_left (gL h)];exact h⟩
 ht:=by obtain⟨o,h⟩:=H.ht;exact⟨o,by rw[List.getElem?_append_left (gL h)];exact h⟩
 hq:=fun he=>by obtain⟨o,h⟩:=H.hq he;exact⟨o,by rw[List.getElem?_append_left (gL h)];exact h⟩
 len:=H.len
 small:=H.small
 af8:=H.af8
 con:=fun i ev c h1 h2=>(H.con i ev c h1 h2).more Z
theorem Tryz.ae2.at:afj s p t q evs (cs.map unE) M where
 hp:=H.hp
 ht:=H.ht
 hq:=H.hq
 len:=by rw[List.length_map,H.len]
 small:=by rw[H.len];exact H.small
 con:=fun i ev U h1 h2=>by rw[List.getElem?_map,Option.map_eq_some_iff] at h2;obtain⟨c,h3,h4⟩:=h2;exact⟨c,H.af8 c (List.mem_of_getElem? h3),h4,fun X=>(H.con i ev c h1 h3).more X⟩
theorem Tryz.ae2.l32:∀e∈evs,e.length=32:=H.at.l32
theorem Tryz.ae2.cok:∀e∈evs,∀x∈e,x.kS=true:=H.at.cok
theorem Tryz.ae2.flat:evs.flatten.length=cs.length*32:=by rw[Np H.l32,H.len]
end
theorem Mm{evs:List (List AV)}(h:∀e∈evs,∀x∈e,x.kS=true):evs.flatten.all AV.kS=true:=by rw[List.all_eq_true];intro x hx;obtain⟨e,he,hxe⟩:=List.mem_flatten.1 hx;exact h e he x hxe
theorem Tryz.ae2.aht(H:ae2 s p t q evs cs M):aeJ M (.slice p 0 s.P.length none) 2 s.P.length (pC s.P):=by obtain⟨o,h⟩:=H.hp;exact .inr ⟨p,o,rfl,(fI s).1,h⟩
theorem MT(s:aeE):0<s.T.length:=by
 have:∀k<8,0<(bD k).length:=by decide
 exact this _ (Nat.mod_lt _ (by decide))
theorem Tryz.ae2.ahu(H:ae2 s p t q evs cs M):aeJ M (.slice t 0 s.T.length none) 3 s.T.length (tC s.T):=by obtain⟨o,h⟩:=H.ht;exact .inr ⟨t,o,rfl,MT s,h⟩
end
theorem wM(L:List P2):∀f,AV.aeB f (pC L)=true:=fun f=>by rw[MK];exact V6 f _
theorem wW:∀(f:Nat→Bool) (L:List Tr),AV.aeB f (tC L)=true
 |f,[]=>rfl
 |f,k::l=>by simp[tC,AV.aeB,AV.y9,wW f l]
def OkN(T:Nat) (new:Mem):Prop:=∀f:Nat→Bool,(∀b,b<T→f b=true)→new.all (fun x=>gm x&&x.y9 f)=true
variable{T:Nat}
theorem OkN.of{new:Mem}(h:∀x∈new,gm x=true∧x.y9 (fun b=>decide (b<T))=true):OkN T new:=fun f hf=>List.all_eq_true.2 fun x hx=>by obtain⟨a,b⟩:=h x hx;rw[a,Bool.true_and];exact aeD.aeH (fun k hk=>hf k (of_decide_eq_true hk)) x b
def afU(T:Nat) (vs:List AV):Prop:=∀f:Nat→Bool,(∀b,b<T→f b=true)→AV.aeB f vs=true
theorem afU.of{vs:List AV}(h:AV.aeB (fun b=>decide (b<T)) vs=true):afU T vs:=fun f hf=>AV.aeY (fun k hk=>hf k (of_decide_eq_true hk)) vs h
theorem Tryz.ae2.refs{s:aeE}{p t q:Nat}{evs:List (List AV)}{cs:List Evc}{M:Mem}(H:ae2 s p t q evs cs M):afU M.length (aP s p t q cs.length):=by
 refine .of ?_;have a:=H.aht.refs 0;have b:=H.ahu.refs 0;have c:(evV q cs.length).y9 (fun b=>decide (b<M.length))=true:=by
  unfold evV;split
  ·rfl
  ·rename_i h0
   obtain⟨o,h⟩:=H.hq (by rintro rfl;have:=H.len;simp at this;omega);have:=(gL h);simp only[AV.y9,decide_eq_true_eq];exact this
 rw[Nat.add_zero] at a b;unfold aP;simp only[AV.aeB,a,b,c,wQ,Bool.and_self]
def qOf:AV→Nat
 |.slice kr _ _ _=>kr
 |_=>0
theorem FV{s:aeE}{p t:Nat}{M:Mem}{l ev:AV}{cs:List Evc}(hp:∃o,M[p]? =some (.cells o 2 (pC s.P)))(ht:∃o,M[t]? =some (.cells o 3 (tC s.T)))(Zd:ev.kS=true)(rev:ev.y9 (fun b=>decide (b<M.length))=true)(H:Qg M l cs)(af8:∀c∈cs,aWg s c)(small:cs.length≤4):
  ∃q evs new,kF prog 38 [.agg [.slice p 0 s.P.length none,.slice t 0 s.T.length none,.str ar,ev],l] M (.agg (aP s (M.length+4) (M.length+6) q cs.length)) (M++new)∧ae2 s (M.length+4) (M.length+6) q evs cs (M++new)∧OkN (M.length+new.length) new:=by
 obtain⟨o1,hp⟩:=hp;obtain⟨o2,ht⟩:=ht;have lp:=(fI s).1;have lt:=MT s;have rP:aeJ M (.slice p 0 s.P.length none) 2 s.P.length (pC s.P):=.inr ⟨p,o1,rfl,lp,hp⟩;have rT:aeJ M (.slice t 0 s.T.length none) 3 s.T.length (tC s.T):=.inr ⟨t,o2,rfl,lt,ht⟩;have lP:(pC s.P).length=s.P.length*2:=by rw[MK,fF,fG,Nat.mul_comm]
 have lT:(tC s.T).length=s.T.length*3:=by rw[BC,Nat.mul_comm]
 have hn2:=(fI s).2;have ht2:s.T.length≤1000:=by
  have:∀k<8,(bD k).length≤1000:=by decide
  exact this _ (Nat.mod_lt _ (by decide))
 obtain⟨pv,hpv⟩:∃pv,pv=clV (M.length+3) s.P.length:=⟨_,rfl⟩
 obtain⟨tv,htv⟩:∃tv,tv=clV (M.length+5) s.T.length:=⟨_,rfl⟩
 obtain⟨XP,hXP⟩:∃X,X=clX 2 s.P.length (pC s.P):=⟨_,rfl⟩
 obtain⟨XT,hXT⟩:∃X,X=clX 3 s.T.length (tC s.T):=⟨_,rfl⟩
 have eP:=Tv (rP.more [.cells true 0 [.slice p 0 s.P.length none,.slice t 0 s.T.length none,.str ar,ev],.cells true 0 [.kK,.kK,.str [],.kK],.cells true 0 [.kK,.kK,.str ar,.kK]]) lP hn2 (by rw[MK];exact J8 _);have eT:=Tw (rT.more [.cells true 0 [.slice p 0 s.P.length none,.slice t 0 s.T.length none,.str ar,ev],.cells true 0 [.kK,.kK,.str [],.kK],.cells true 0 [.kK,.kK,.str ar,.kK],.kO,XP]) lT ht2 (Vy _);have e3:(M++[aeD.cells true 0 [.slice p 0 s.P.length none,.slice t 0 s.T.length none,.str ar,ev],.cells true 0 [.kK,.kK,.str [],.kK],.cells true 0 [.kK,.kK,.str ar,.kK]]).length=M.length+3:=by simp
 have e5:(M++[aeD.cells true 0 [.slice p 0 s.P.length none,.slice t 0 s.T.length none,.str ar,ev],.cells true 0 [.kK,.kK,.str [],.kK],.cells true 0 [.kK,.kK,.str ar,.kK],.kO,XP]).length=M.length+5:=by simp
 rw[e3,←hpv,←hXP] at eP;rw[e5,←htv,←hXT] at eT;obtain⟨N0,Y4⟩:∃N0,N0=M++[aeD.cells true 0 [.slice p 0 s.P.length none,.slice t 0 s.T.length none,.str ar,ev],.cells true 0 [.kK,.kK,.str [],.kK],.cells true 0 [pv,tv,.str ar,.kK],.kO,XP,.kO,XT]:=⟨_,rfl⟩
 have XR:N0[M.length+2]? =some (.cells true 0 [pv,tv,.str ar,.kK]):=by rw[Y4,dC];rfl
 have hz:N0[M.length+1]? =some (.cells true 0 [.kK,.kK,.str [],.kK]):=by rw[Y4,dC];rfl
 have hl0:N0.length=M.length+7:=by rw[Y4];simp
 obtain⟨b,bi,hb⟩:∃b bi,ai f38=[b,bi]:=⟨_,_,rfl⟩
 have cpq:pv.kS=true:=by rw[hpv];exact jG _ _
 have ctq:tv.kS=true:=by rw[htv];exact jG _ _
 obtain⟨F,hF⟩:=Gt H (fun c hc=>(af8 c hc).ok) (by omega) ⟨_,Y4⟩ (show M.length≤M.length+2 by omega) XR cpq ctq hb;have F':∀N,lD (aM prog) 38 N l=some (.int .i64 cs.length):=by obtain⟨ag0,l1,r1,_⟩:=H;exact GB r1
 have hE:∀{N i E evs},CpI N0 (M.length+2) pv tv cs N i E evs→E.kS=true:=fun I=>by rcases I.row with⟨_,rfl⟩ | ⟨_,rfl,_⟩<;>rfl
 obtain⟨z',d,Yu,hr⟩:=Ll (F:=F) hb (rfl:(AV.slice p 0 s.P.length none).kS=true) (rfl:(AV.slice t 0 s.T.length none).kS=true) Zd rP.refs rT.refs cpq (by rw[hpv];exact JL _ _) (by rw[hpv];exact JK _ _) (fun j hj=>by rw[hpv];exact dm (by omega)) ctq (by rw[htv];exact JL _ _) (by rw[htv];exact JK _ _) (fun j hj=>by rw[htv];exact dm (by omega))
  (by rw[hXP];exact mI _ _ _) (by rw[hXP];exact q9 (wM _)) (by rw[hXT];exact mI _ _ _) (by rw[hXT];exact q9 (fun f=>wW f _)) F' eP eT (by rw[←Y4];exact fun z' d h=>(hF z' d h).1) (fun z' d h=>(hF z' d h).2.1.cell) (fun z' d h=>by rw[(hF z' d h).2.1.same _ (by omega) (by omega)];exact hz)
  (fun z' d h=>hE (hF z' d h).2.1) (fun z' d h=>(hF z' d h).2.2.1) (fun z' d h=>(hF z' d h).2.2.2) (fun z' d h=>by have:=(hF z' d h).2.1.len;omega)
 have I:=(hF z' d Yu).2.1;have Yz:=aO ae (aq _) OD (au _) hr;obtain⟨E,hEe⟩:∃E,E=(F z' d).2.2.1:=⟨_,rfl⟩
 obtain⟨evs,aaF⟩:∃x,x=(F z' d).2.2.2:=⟨_,rfl⟩
 obtain⟨N,hN⟩:∃x,x=(F z' d).2.1:=⟨_,rfl⟩
 rw[←hEe,←hN] at Yz;rw[←hEe,←aaF,←hN] at I;obtain⟨N',ZR⟩:∃x,x=N.set (M.length+1) (.cells true 0 [pv,tv,.str ar,E]):=⟨_,rfl⟩
 rw[←ZR] at Yz;have hNz:N[M.length+1]? =some (.cells true 0 [.kK,.kK,.str [],.kK]):=by rw[I.same _ (by omega) (by omega)];exact hz
 have hk:ae5 N N' :=by rw[ZR];exact ae5.set hNz (.inl rfl) _
 have aaM :∃new,N' =M++new:=by
  refine⟨N'.drop M.length,?_⟩;refine List.ext_getElem? fun i=>?_
  by_cases hi:i<M.length
  ·rw[List.getElem?_append_left hi,ZR,List.getElem?_set_ne (by omega),I.same i (by omega) (by omega),Y4,List.getElem?_append_left hi]
  ·rw[List.getElem?_append_right (by omega),List.getElem?_drop]
   congr 1;omega
 obtain⟨new,Yx⟩:=aaM;have hv:AV.agg [pv,tv,.str ar,E]=.agg (aP s (M.length+4) (M.length+6) (qOf E) cs.length):=by
  have e1:pv=.slice (M.length+4) 0 s.P.length none:=by rw[hpv];unfold clV;rw[if_neg (by omega)]
  have e2:tv=.slice (M.length+6) 0 s.T.length none:=by rw[htv];unfold clV;rw[if_neg (by omega)]
  rw[e1,e2];rcases I.row with⟨h0,rfl⟩ | ⟨kr,rfl,h0,_⟩
  ·unfold aP evV;rw[if_pos h0]
  ·unfold aP evV;rw[if_neg (by omega)];rfl
 rw[hv,Yx] at Yz;have ab7:N'.length=N.length:=by rw[ZR,List.length_set]
 have hge:M.length+7≤N.length:=by have:=I.len;omega
 have H':∀(k:Nat) x,M.length≤k→N'[k]? =some x→gm x=true∧x.y9 (fun b=>decide (b<N'.length))=true:=by
  intro k x hk hx;rw[ab7];have Yb :E.y9 (fun b=>decide (b<N.length))=true:=by
   rcases I.row with⟨_,rfl⟩ | ⟨kr,rfl,_,_,hr⟩
   ·rfl
   ·simp only[AV.y9,decide_eq_true_eq];exact(gL hr)
  have pvr:pv.y9 (fun b=>decide (b<N.length))=true:=by rw[hpv];exact dm (by omega)
  have tvr:tv.y9 (fun b=>decide (b<N.length))=true:=by rw[htv];exact dm (by omega)
  have Zg:∀y,y=aeD.cells true 0 [pv,tv,.str ar,E]→gm y=true∧y.y9 (fun b=>decide (b<N.length))=true:=by rintro y rfl;exact⟨rfl,by simp only[fg,AV.aeB,wQ,pvr,tvr,Yb,Bool.and_self]⟩
  by_cases k1:k=M.length+1
  ·subst k1
   rw[ZR,List.getElem?_set_self (by omega)] at hx;exact Zg x (Option.some.inj hx).symm
  rw[ZR,List.getElem?_set_ne (by omega)] at hx;by_cases k2:k=M.length+2
  ·subst k2
   rw[I.cell] at hx;exact Zg x (Option.some.inj hx).symm
  by_cases k0:k<N0.length
  ·rw[I.same k k0 k2,Y4] at hx
   obtain⟨j,rfl⟩:∃j,k=M.length+j:=⟨k-M.length,by omega⟩
   rw[dC] at hx
   match j,hx with
   |0,hx=>
    cases hx;have lp1:=(gL hp);have lt1:=(gL ht);have r1:ev.y9 (fun b=>decide (b<N.length))=true:=AV.aeH (fun b hb=>by simp only[decide_eq_true_eq] at hb ⊢;omega) ev rev;have r2:(decide (p<N.length))=true:=by simp only[decide_eq_true_eq];omega
    have r3:(decide (t<N.length))=true:=by simp only[decide_eq_true_eq];omega
    exact⟨rfl,by simp only[fg,AV.aeB,AV.y9,r1,r2,r3,Bool.and_self]⟩
   |1,_=>omega
   |2,_=>omega
   |3,hx=>cases hx;exact⟨rfl,rfl⟩
   |4,hx=>cases hx;rw[hXP];exact⟨mI _ _ _,q9 (wM _) _⟩
   |5,hx=>cases hx;exact⟨rfl,rfl⟩
   |6,hx=>cases hx;rw[hXT];exact⟨mI _ _ _,q9 (fun f=>wW f _) _⟩
   |j+7,hx=>simp at hx
  ·exact I.ok k x (by omega) hx
 refine⟨_,evs,new,Yz,?_,.of fun x hx=>?_⟩
 rotate_left
 ·obtain⟨i,hi⟩:=List.getElem?_of_mem hx
  have:=H' (M.length+i) x (by omega) (by rw[Yx,dC];exact hi)
  rwa [Yx,List.length_append] at this
 rw[←Yx];have agF:∀(k es:Nat) (C:List AV),es=1∨es=2∨es=3→k<N0.length→N0[k]? =some (.cells true es C)→N'[k]? =some (.cells true es C):=fun k es C he Zn h=>hk k true es C he (by rw[I.same k Zn (by rintro rfl;rw[XR] at h;cases h;omega)];exact h)
 refine⟨⟨true,agF _ _ _ (.inr (.inl rfl)) (by omega) ?_⟩,⟨true,agF _ _ _ (.inr (.inr rfl)) (by omega) ?_⟩,fun PP=>?_,I.evl,small,af8,fun i ev c h1 h2=>(I.con i ev c h1 h2).upd hk⟩
 ·rw[Y4,dC,hXP];unfold clX;rw[if_neg (by omega)];rfl
 ·rw[Y4,dC,hXT];unfold clX;rw[if_neg (by omega)];rfl
 ·rcases I.row with⟨h0,rfl⟩ | ⟨kr,rfl,h0,hge,hr⟩
  ·exact absurd (List.eq_nil_of_length_eq_zero (by rw[I.evl];exact h0)) PP
  ·exact⟨true,show N'[kr]? =some (.cells true 32 evs.flatten) by rw[ZR,List.getElem?_set_ne (by omega)];exact hr⟩
end Go.Proofs
namespace Go.Proofs
open Go.Eng
open Tryz
section
variable {s:aeE}{p t q:Nat}{evs:List (List AV)}{cs:List Evc}{M:Mem}
theorem Tryz.ae2.ahv{N:Mem}(H:ae2 s p t q evs cs N){k:Nat}{o:Bool}{D:List AV}(h:N[k]? =some (.cells o 0 D))(x:aeD):ae2 s p t q evs cs (N.set k x) where
 hp:=by obtain⟨w,e⟩:=H.hp;exact⟨w,by rw[List.getElem?_set_ne (by rintro rfl;rw[h] at e;cases e)];exact e⟩
 ht:=by obtain⟨w,e⟩:=H.ht;exact⟨w,by rw[List.getElem?_set_ne (by rintro rfl;rw[h] at e;cases e)];exact e⟩
 hq:=fun PP=>by obtain⟨w,e⟩:=H.hq PP;exact⟨w,by rw[List.getElem?_set_ne (by rintro rfl;rw[h] at e;cases e)];exact e⟩
 len:=H.len
 small:=H.small
 af8:=H.af8
 con:=fun i ev c h1 h2=>(H.con i ev c h1 h2).upd (ae5.set h (.inl rfl) x)
end
structure Tryz.ahw (M:Mem) (v:AV) (evs:List (List AV)):Prop where
 s:∀Z,fA (aM prog) (M++Z) 32 38 v=some (evs.length,evs.flatten)
 l:∀N,lD (aM prog) 38 N v=some (.int .i64 evs.length)
end Go.Proofs
namespace Go.Proofs
open Go.Eng
open Tryz
theorem RZ{f g:FuncId}{a b:List AV}{m m' :Mem}{r:HS}{L:List (FuncId×List AV×Mem×HS)}(h:f≠g):fM ((f,a,m,r)::L) (.fn g) b m' =fM L (.fn g) b m' :=by rw[fM,if_neg (fun e=>h (by have:=e.1;cases this;rfl))]
theorem Nk(q n:Nat):(evV q n).known=true:=by unfold evV;split<;>rfl
def BF:List AV:=[.kK,.kK,.str [],.kK]
section
variable {s:aeE}{p t q:Nat}{evs:List (List AV)}{cs:List Evc}{M:Mem}
theorem Tryz.ae2.chk(H:ae2 s p t q evs cs M):kF prog 35 [.agg (aP s p t q cs.length)] M (.int .i64 (bif uT [ar] (cs.map unE) then 9 else 0)) M:=by
 have:=D9 H.at
 rwa [H.len] at this
theorem Tryz.ae2.ahx(H:ae2 s p t q evs cs M)(f:Nat→Bool)(hf:∀b,b<M.length→f b=true):(evV q cs.length).y9 f=true:=by have:=H.refs f hf;simp only[aP,AV.aeB,Bool.and_eq_true] at this;exact this.2.2.2.1
end
end Go.Proofs
namespace Go.Proofs
open Go.Eng
open Tryz
def ag1:=bj (rfl:aG f19=_) (ls:=[[0,0,2,0,14,31,63,127]]) (by kernel_rfl)
variable{O:adM}{ev ev' pv Zk tv Zl :AV}{i n:Nat}{X8:Mem}
theorem Gr{M:Mem}{q:Nat}{o:Bool}{D:List AV}(cp:pv.kS=true)(ct:tv.kS=true)(ce:ev.kS=true)(rp:afU M.length [pv,tv,.str ar,ev])(F':∀N,lD (aM prog) 38 N ev=some (.int .i64 n))(X9:ev=.slice q 0 n none)(hq:M[q]? =some (.cells o 32 D))(hD:D.length=n*32)(hn:n≤1000)(hi:i≤n)(cpq:Zk.kS=true)(ctq:Zl.kS=true)(ceq:ev'.kS=true)(kq:Zk.known=true∧Zl.known=true∧ev'.known=true)(rq:afU (M.length+(X8.length+2)) [Zk,Zl,.str ar,ev'])(ok2:OkN (M.length+(X8.length+2)) X8)(e1:O (.fn 35) [.agg [pv,tv,.str ar,ev]] (M++[.cells true 0 [pv,tv,.str ar,ev],.cells true 0 [.kK,.kK,.str [],.kK]])=some ⟨.int .i64 0,none,[]⟩)(e3:O (.fn 38) [.agg [pv,tv,.str ar,ev],.slice q 0 i none] (M++[.cells true 0 [pv,tv,.str ar,ev],.cells true 0 [.kK,.kK,.str [],.kK]])=some ⟨.agg [Zk,Zl,.str ar,ev'],none,X8⟩):
  aU (aM prog) (fun _=>[]) (aT prog) O 1 19 [.agg [pv,tv,.str ar,ev],.int .i64 i] M=some (.tuple [.agg [Zk,Zl,.str ar,ev'],.int .i64 0],M++(.cells true 0 [pv,tv,.str ar,ev]::.cells true 0 [Zk,Zl,.str ar,ev']::X8)):=by
 have hG:aT prog 19=some f19:=by kernel_rfl
 have XU :=ag1;simp only[aG,bF,f19,List.nil_append,List.append_nil,List.map_cons,List.map_nil,List.cons.injEq,and_true] at XU;have Yj:∀j,(M.length+j<M.length)=False:=fun j=>dz _ _
 obtain⟨kp,kt,ke⟩:=kq;have r_2:=rp (fun b=>decide (b<M.length+2)) (by intro b hb;simp only[decide_eq_true_eq];omega);have q_8:=rq (fun b=>decide (b<M.length+(X8.length+2))) (by intro b hb;simp only[decide_eq_true_eq];exact hb);have o_8:=ok2 (fun b=>decide (b<M.length+(X8.length+2))) (by intro b hb;simp only[decide_eq_true_eq];exact hb);simp only[AV.aeB,Bool.and_eq_true] at r_2 q_8;obtain⟨r21,r22,_,r23,_⟩:=r_2;obtain⟨q81,q82,_,q83,_⟩:=q_8;clear rp rq ok2;have lq:=(gL hq);have Zh :∀Z,(M++Z)[q]? =some (.cells o 32 D):=fun Z=>by rw[List.getElem?_append_left lq];exact hq
 have hq2:∀j,(q<M.length+j)=True:=fun j=>by rw[eq_iff_iff,iff_true];omega
 have hq3:(q<M.length)=True:=by rw[eq_iff_iff,iff_true];exact lq
 have hq4:∀j,(M.length+j≤q)=False:=fun j=>by rw[eq_iff_iff,iff_false];omega
 have hq5:∀j,(q=M.length+j)=False:=fun j=>by rw[eq_iff_iff,iff_false];omega
 have X5 :¬(n:Int)<(i:Int):=by omega
 have X7:(i:Int)≤(n:Int):=by omega
 have hi0:¬(i:Int)<0:=by omega
 have hD1:n*32≤D.length:=by omega
 subst X9;simp[-getElem?_pos,-AV.kS,-AV.known,-AV.cells,-bk,-bp,-aZ,-aE,-AV.y9,-aeD.y9,-List.all_eq_true,vS,rS,mS,fq,aY XU,cO,cd,fz,cY,bW,iT,bef,Nat.testBit,aU,-lD,F',hG,f19,e1,e3,cpq,ctq,ceq,r21,r22,r23,q81,q82,q83,o_8,Yj,Zh,hq2,X5,X7,hi0,hD1];done
theorem Gq{M:Mem}(cp:pv.kS=true)(ct:tv.kS=true)(ce:ev.kS=true)(rp:afU M.length [pv,tv,.str ar,ev])(F':∀N,lD (aM prog) 38 N ev=some (.int .i64 n))(X9:ev=.kK)(hn:n=0)(hi:i=0)(cpq:Zk.kS=true)(ctq:Zl.kS=true)(ceq:ev'.kS=true)(kq:Zk.known=true∧Zl.known=true∧ev'.known=true)(rq:afU (M.length+(X8.length+2)) [Zk,Zl,.str ar,ev'])(ok2:OkN (M.length+(X8.length+2)) X8)(e1:O (.fn 35) [.agg [pv,tv,.str ar,ev]] (M++[.cells true 0 [pv,tv,.str ar,ev],.cells true 0 [.kK,.kK,.str [],.kK]])=some ⟨.int .i64 0,none,[]⟩)(e3:O (.fn 38) [.agg [pv,tv,.str ar,ev],.kK] (M++[.cells true 0 [pv,tv,.str ar,ev],.cells true 0 [.kK,.kK,.str [],.kK]])=some ⟨.agg [Zk,Zl,.str ar,ev'],none,X8⟩):
  aU (aM prog) (fun _=>[]) (aT prog) O 1 19 [.agg [pv,tv,.str ar,ev],.int .i64 i] M=some (.tuple [.agg [Zk,Zl,.str ar,ev'],.int .i64 0],M++(.cells true 0 [pv,tv,.str ar,ev]::.cells true 0 [Zk,Zl,.str ar,ev']::X8)):=by
 have hG:aT prog 19=some f19:=by kernel_rfl
 have XU :=ag1;simp only[aG,bF,f19,List.nil_append,List.append_nil,List.map_cons,List.map_nil,List.cons.injEq,and_true] at XU;have Yj:∀j,(M.length+j<M.length)=False:=fun j=>dz _ _
 obtain⟨kp,kt,ke⟩:=kq;have r_2:=rp (fun b=>decide (b<M.length+2)) (by intro b hb;simp only[decide_eq_true_eq];omega);have q_8:=rq (fun b=>decide (b<M.length+(X8.length+2))) (by intro b hb;simp only[decide_eq_true_eq];exact hb);have o_8:=ok2 (fun b=>decide (b<M.length+(X8.length+2))) (by intro b hb;simp only[decide_eq_true_eq];exact hb);simp only[AV.aeB,Bool.and_eq_true] at r_2 q_8;obtain⟨r21,r22,_,r23,_⟩:=r_2;obtain⟨q81,q82,_,q83,_⟩:=q_8;clear rp rq ok2;subst X9;subst hn;subst hi;simp[-getElem?_pos,-AV.kS,-AV.known,-AV.cells,-bk,-bp,-aZ,-aE,-AV.y9,-aeD.y9,-List.all_eq_true,vS,rS,mS,fq,aY XU,cO,cd,fz,cY,bW,iT,bef,Nat.testBit,aU,-lD,F',hG,f19,e1,e3,cpq,ctq,ceq,r21,r22,r23,q81,q82,q83,o_8,Yj];done
theorem JX:∀{evs:List (List AV)}(k:Nat),(∀e∈evs,e.length=32)→evs.flatten.take (k*32)=(evs.take k).flatten
 | [],k,_=>by simp
 |e::l,0,_=>by simp
 |e::l,k+1,h=>by have h1:=h e (by simp);rw[List.flatten_cons,List.take_succ_cons,List.flatten_cons,←JX k (fun x hx=>h x (by simp[hx])),List.take_append,List.take_of_length_le (by omega),show(k+1)*32-e.length=k*32 by omega]
theorem qj:∀{evs:List (List AV)}(k:Nat),(∀e∈evs,e.length=32)→evs.flatten.drop (k*32)=(evs.drop k).flatten
 | [],k,_=>by simp
 |e::l,0,_=>by simp
 |e::l,k+1,h=>by have h1:=h e (by simp);rw[List.flatten_cons,List.drop_succ_cons,←qj k (fun x hx=>h x (by simp[hx])),List.drop_append,List.drop_of_length_le (by omega),List.nil_append,show(k+1)*32-e.length=k*32 by omega]
variable{Zz:Mem}
section
variable {s:aeE}{p t q:Nat}{evs:List (List AV)}{cs:List Evc}{M:Mem}
theorem Tryz.ae2.ahy{b0:aeD}(H:ae2 s p t q evs cs ((M++(b0::.cells true 0 BF::Zz))++X8))(h:List AV):ae2 s p t q evs cs (M++(b0::.cells true 0 h::(Zz++X8))):=by
 have hz:((M++(b0::.cells true 0 BF::Zz))++X8)[M.length+1]? =some (.cells true 0 BF):=by rw[List.append_assoc,dC];rfl
 have:=H.ahv hz (.cells true 0 h);rw[List.append_assoc,Bb] at this;exact this
theorem UR{h0 h:List AV}{k:Nat}(hk:Zz.length=k)(r0:afU M.length h0)(r:afU (M.length+(X8.length+(k+2))) h)(ok:OkN (M.length+(k+2)) Zz)(ok2:OkN (M.length+(X8.length+(k+2))) X8):
  OkN (M.length+(aeD.cells true 0 h0::.cells true 0 h::(Zz++X8)).length) (aeD.cells true 0 h0::.cells true 0 h::(Zz++X8)):=by
 intro f hf;have hf' :∀b,b<M.length+(X8.length+(k+2))→f b=true:=fun b hb=>hf b (by simp only[List.length_cons,List.length_append];omega)
 have a1:=r0 f fun b hb=>hf' b (by omega)
 have a2:=r f hf';have a3:=ok f fun b hb=>hf' b (by omega)
 have a4:=ok2 f hf';simp only[List.all_cons,List.all_append,jI,fg,a1,a2,a3,a4,Bool.and_self]
section
variable (H:ae2 s p t q evs cs M)
include H
theorem Tryz.ae2.ag0(h:cs.length=0):cs=[]∧evs=[]:=⟨List.eq_nil_of_length_eq_zero h,List.eq_nil_of_length_eq_zero (by rw[H.len];exact h)⟩
theorem Tryz.ae2.agG(i:Nat)(hi:i≤cs.length)(h0:0<cs.length):afQ M (.slice q 0 i none) i (evs.take i).flatten:=by
 by_cases hz:i=0
 ·subst hz
  exact .inl ⟨rfl,by simp,.inr ⟨q,rfl⟩⟩
 ·obtain⟨o,h⟩:=H.hq (by rintro rfl;have:=H.len;simp at this;omega)
  exact .inr ⟨q,o,evs.flatten,rfl,by omega,h,JX i H.l32⟩
theorem Tryz.ae2.agH(k:Nat):∀(i:Nat) e c,(evs.take k)[i]? =some e→(cs.take k)[i]? =some c→afi M e c:=fun i e c h1 h2=>by
 rw[List.getElem?_take] at h1 h2;split at h1
 ·rename_i A'
  rw[if_pos A'] at h2;exact H.con i e c h1 h2
 ·cases h1
theorem DU(hd:uT [ar] (cs.map unE)=false)(i:Nat)(hi:i≤cs.length):
  ∃p' t' q' aaj new,kF prog 19 [.agg (aP s p t q cs.length),.int .i64 i] M (.tuple [.agg (aP s p' t' q' i),.int .i64 0]) (M++new)∧ae2 s p' t' q' aaj (cs.take i) (M++new)∧OkN (M.length+new.length) new:=by
 have f1:=(H.more [.cells true 0 (aP s p t q cs.length),.cells true 0 BF]).chk;rw[hd] at f1;have small:=H.small;obtain⟨sl,YT,hE⟩:∃sl,((cs.length=0∧sl=.kK)∨(0<cs.length∧sl=.slice q 0 i none))∧Qg (M++[.cells true 0 (aP s p t q cs.length),.cells true 0 BF]) sl (cs.take i):=by
  by_cases h0:cs.length=0
  ·obtain⟨rfl,rfl⟩:=H.ag0 h0
   exact⟨_,.inl ⟨rfl,rfl⟩,[],by simp,.inl ⟨by simp,rfl,.inl rfl⟩,fun i e c h=>by simp at h⟩
  ·refine⟨_,.inr ⟨by omega,rfl⟩,evs.take i,by rw[List.length_take,List.length_take,H.len],?_,(H.more _).agH i⟩
   have:=(H.agG i hi (by omega)).more [.cells true 0 (aP s p t q cs.length),.cells true 0 BF]
   rwa [List.length_take,Nat.min_eq_left hi]
 have H2:=H.more [.cells true 0 (aP s p t q cs.length),.cells true 0 BF];obtain⟨q',aaj,X8,f3,H3,ok2⟩:=FV H2.hp H2.ht (iW q cs.length) (H.ahx _ (fun b hb=>by simp only[decide_eq_true_eq,List.length_append];omega)) hE (fun d hd=>H.af8 d (List.mem_of_mem_take hd)) (by rw[List.length_take];omega);have hA2:(M++[aeD.cells true 0 (aP s p t q cs.length),.cells true 0 BF]).length=M.length+2:=by simp
 have Ym:(cs.take i).length=i:=by rw[List.length_take];omega
 rw[hA2] at f3 H3 ok2;rw[Ym] at f3;have eN:M.length+2+X8.length=M.length+(X8.length+2):=by omega
 rw[eN] at ok2;have rq:afU (M.length+(X8.length+2)) (aP s (M.length+2+4) (M.length+2+6) q' i):=by have:=H3.refs;rw[Ym,List.length_append,hA2,eN] at this;exact this
 have f3' :kF prog 38 [.agg (aP s p t q cs.length),sl] (M++[.cells true 0 (aP s p t q cs.length),.cells true 0 BF]) (.agg (aP s (M.length+2+4) (M.length+2+6) q' i)) (M++[.cells true 0 (aP s p t q cs.length),.cells true 0 BF]++X8):=f3;obtain⟨A,hA⟩:∃A,A=M++[aeD.cells true 0 (aP s p t q cs.length),.cells true 0 BF]:=⟨_,rfl⟩
 rw[←hA] at f1 f3';have hO:kP prog (fM [(35,[.agg (aP s p t q cs.length)],A,⟨.int .i64 0,none,[]⟩),(38,[.agg (aP s p t q cs.length),sl],A,⟨.agg (aP s (M.length+2+4) (M.length+2+6) q' i),none,X8⟩)]):=iO fun y hy=>by
  simp only[List.mem_cons,List.not_mem_nil,or_false] at hy;rcases hy with rfl | rfl
  ·exact⟨by simpa [HS.mem] using f1,by simp⟩
  ·exact⟨by simpa [HS.mem] using f3',by simp⟩
 obtain⟨O,hOe⟩:∃O,O=fM [(35,[.agg (aP s p t q cs.length)],A,⟨.int .i64 0,none,[]⟩),(38,[.agg (aP s p t q cs.length),sl],A,⟨.agg (aP s (M.length+2+4) (M.length+2+6) q' i),none,X8⟩)]:=⟨_,rfl⟩
 have e1:O (.fn 35) [.agg (aP s p t q cs.length)] A=some ⟨.int .i64 0,none,[]⟩:=by rw[hOe];exact Nn
 have e3:O (.fn 38) [.agg (aP s p t q cs.length),sl] A=some ⟨.agg (aP s (M.length+2+4) (M.length+2+6) q' i),none,X8⟩:=by rw[hOe,RZ (by decide)];exact Nn
 rw[←hOe] at hO;clear hOe f1 f3 f3';subst hA;have hr:aU (aM prog) (fun _=>[]) (aT prog) O 1 19 [.agg (aP s p t q cs.length),.int .i64 i] M=some (.tuple [.agg (aP s (M.length+2+4) (M.length+2+6) q' i),.int .i64 0],M++(.cells true 0 (aP s p t q cs.length)::.cells true 0 (aP s (M.length+2+4) (M.length+2+6) q' i)::([]++X8))):=by
  rcases YT with⟨h0,rfl⟩ | ⟨h0,rfl⟩
  ·exact Gq rfl rfl (iW q cs.length) H.refs (jD q cs.length) (by unfold evV;rw[if_pos h0]) h0 (by omega) rfl rfl (iW q' i) ⟨rfl,rfl,Nk _ _⟩ rq ok2 e1 e3
  ·obtain⟨o,hq⟩:=H.hq (by rintro rfl;have:=H.len;simp at this;omega)
   exact Gr rfl rfl (iW q cs.length) H.refs (jD q cs.length) (by unfold evV;rw[if_neg (by omega)]) hq H.flat (by omega) hi rfl rfl (iW q' i) ⟨rfl,rfl,Nk _ _⟩ rq ok2 e1 e3
 have hs:=aO ae (aq _) hO (au _) hr;exact⟨M.length+2+4,M.length+2+6,q',aaj,_,hs,H3.ahy _,UR (k:=0) rfl H.refs rq (fun f _=>rfl) ok2⟩
end
end
end Go.Proofs
namespace Go.Proofs
open Go.Eng
open Tryz
def iA(s:aeE) (a:AV):AV:=.agg [.int .u8 s.kind,.int .i8 s.sx,.int .i8 s.sy,.bool s.half,a]
theorem Oe(s:aeE)(a:AV)(n:Nat)(ha:a=.kK∧n=0∨a=.slice 0 0 n none)(M:Mem):kF prog 8 [iA s a] M (.bool (decide (n≤3))) M:=by
 have hG:aT prog 8=some f8:=by kernel_rfl
 refine bB (K:=1) (lv:=fun _=>[]) (ah _) ?_;rcases ha with⟨rfl,rfl⟩ | rfl
 ·simp[ad,hG,f8,iA]
 ·simp[ad,hG,f8,iA]
  omega
def ov:Nat→Code→Code
 |0,c=>c
 |n+1,.seq _ c=>ov n c
 |_+1,c=>c
def fy:Nat→Code→Code
 |0,.seq a _=>a
 |n+1,.seq _ c=>fy n c
 |_,c=>c
end Go.Proofs
