/- See Q54. -/
import Derived.Test.YtgafjliihahjgaaGreatDoorQ22
set_option linter.all false
namespace Go.Proofs
open Go.Eng
def kC:List (List UInt8×List UInt8)→List AV
 | []=>[]
 |k::l=>.str k.1::.str k.2::kC l
theorem fK:∀l:List (List UInt8×List UInt8),(kC l).length=2*l.length
 | []=>rfl
 |_::l=>by simp only[kC,List.length_cons,fK l];omega
theorem Ph:∀(l:List (List UInt8×List UInt8)) (i:Nat),(kC l).drop (i*2)=kC (l.drop i)
 |l,0=>by simp
 | [],i+1=>by simp[kC]
 |k::l,i+1=>by
  have:(i+1)*2=i*2+1+1:=by omega
  rw[this];simp only[kC,List.drop_succ_cons];exact Ph l i
theorem yZ{l:List (List UInt8×List UInt8)}{i:Nat}{k:List UInt8×List UInt8}(h:l[i]? =some k):
  ((kC l).drop (i*2)).take 2=[.str k.1,.str k.2]∧(kC l)[i*2]? =some (.str k.1)∧(kC l)[i*2+1]? =some (.str k.2):=by
 have hd:l.drop i=k::l.drop (i+1):=by rw[List.getElem?_eq_some_iff] at h;obtain⟨h1,h2⟩:=h;rw[←h2];exact List.drop_eq_getElem_cons h1
 have e:=Ph l i;rw[hd] at e;refine⟨by rw[e];rfl,?_,?_⟩
 ·have:(kC l)[i*2]? =((kC l).drop (i*2))[0]? :=by rw[List.getElem?_drop];rfl
  rw[this,e];rfl
 ·have:(kC l)[i*2+1]? =((kC l).drop (i*2))[1]? :=by rw[List.getElem?_drop]
  rw[this,e];rfl
theorem uz(n:Nat):∀l:List (List UInt8×List UInt8),AV.refsL n (kC l)=[]
 | []=>by simp[kC,AV.refsL]
 |k::l=>by simp[kC,AV.refsL,AV.refs,uz n l]
def kT(Q:List (Rat×Rat)):List (List UInt8×List UInt8):=Q.map fun q=>(ah q.1,ah q.2)
theorem di(Q:List (Rat×Rat)):(kT Q).length=Q.length:=by simp[kT]
theorem Df{Q:List (Rat×Rat)}{i:Nat}{q:Rat×Rat}(h:Q[i]? =some q):(kT Q)[i]? =some (ah q.1,ah q.2):=by simp[kT,h]
theorem HY{Q:List (Rat×Rat)}{u:Rat}:∀{i:Nat}{q:Rat×Rat},Q[i]? =some q→bh (Q.take (i+1)) u=bh (Q.take i) u+if q.1≤u then 1 else 0:=by
 induction Q with
 |nil=>intro i q h;simp at h
 |cons a Q ih=>
  intro i q h;cases i with
  |zero=>simp at h;subst h;simp[bh]
  |succ i=>
   simp at h;have:=ih h;simp only[List.take_succ_cons,bh] at this ⊢;omega
def O5(Q:List (Rat×Rat)):Prop:=∀q∈Q,fine q.1∧fine q.2
set_option maxHeartbeats 1600000 in
theorem wA{K:Nat}(Q:List (Rat×Rat)) (u:Rat) (hQ:O5 Q) (hu:fine u) (hl:Q.length≤1000000000) (hK:Q.length<K) {b:Code}(hb:ax Tryz.f113=[b]):
  ∃F:Env→Bool→Env,∀env0 d,(ab env0 1=.str (ah u)∧ab env0 5=.int .i64 0∧ab env0 8=.slice 0 0 Q.length none∧ab env0 9=.int .i64 Q.length∧ab env0 10=.int .i64 0)→
   aT (aM Tryz.prog) (fun _=>[5,10]) (af aC) K 23 1 true (.loop b) ⟨env0,[.cells false 2 (kC (kT Q))],d⟩=some (.exit 0,⟨F env0 d,[.cells false 2 (kC (kT Q))],d⟩)∧
    ab (F env0 d) 5=.int .i64 (bh Q u):=by
 refine cg rfl (fun env0=>ab env0 1=.str (ah u)∧ab env0 5=.int .i64 0∧ab env0 8=.slice 0 0 Q.length none∧ab env0 9=.int .i64 Q.length∧ab env0 10=.int .i64 0) (fun _ env' =>ab env' 5=.int .i64 (bh Q u)) ?_;rintro env0 d ⟨h1,h5,h8,h9,h10⟩;simp[ax,aV,Tryz.f113] at hb;have hn:aI [5,10] (ad b) env0 ((5,.int .i64 ((0:Nat):Int))::(10,.int .i64 ((0:Nat):Int))::env0)=aI [5,10] (ad b) env0 env0:=by simp[aI,h5,h10]
 rw[←hn];have kl:(kC (kT Q)).length=2*Q.length:=by rw[fK,di]
 refine cG (α:=Nat) (fun n=>⟨aI [5,10] (ad b) env0 ((5,.int .i64 ((bh (Q.take n) u:Nat):Int))::(10,.int .i64 (n:Int))::env0),[.cells false 2 (kC (kT Q))],d⟩) (fun n=>Q.length-n) (fun n=>n≤Q.length) (.exit 0) _ d _ (by simp) ?_ K 0 (by omega) (by omega);intro n hn1;clear hn;subst hb;by_cases hlt:n<Q.length
 ·left
  obtain⟨q,hq⟩:∃q,Q[n]? =some q:=⟨Q[n],List.getElem?_eq_getElem hlt⟩
  obtain⟨k1,k2,k3⟩:=yZ (Df hq);have hp:=HY (u:=u) hq;have hle:=iq (Q.take n) u;rw[List.length_take] at hle;obtain⟨P,hP⟩:∃P,bh (Q.take n) u=P:=⟨_,rfl⟩
  rw[hP] at hp hle ⊢;have w1:IntKind.i64.wrap ((n:Int)+1)=((n+1:Nat):Int):=by rw[aj (by omega) (by omega)];omega
  have w2:IntKind.i64.wrap ((P:Int)+1)=((P+1:Nat):Int):=by rw[aj (by omega) (by omega)];omega
  obtain⟨m,hm⟩:∃m,m=n+1:=⟨_,rfl⟩
  rw[←hm] at w1 hp;obtain⟨⟨f1,f2⟩,_⟩:=hQ q (List.mem_of_getElem? hq);obtain⟨u1,u2⟩:=hu;have k4:n*2+2≤(kC (kT Q)).length:=by omega
  by_cases hle1:q.1≤u
  ·have c:=qZ.2 hle1
   rw[if_pos hle1] at hp;rw[←hp] at w2;refine⟨m,?_⟩;simp[h1,h8,h9,hlt,af,aC,ay,f1,f2,u1,u2,k1,k4,c,w1,w2,uz];omega
  ·have c:¬qY q.1 u≤0:=fun h=>hle1 (qZ.1 h)
   rw[if_neg hle1,Nat.add_zero] at hp;refine⟨m,?_⟩;simp[h1,h8,h9,hlt,af,aC,ay,f1,f2,u1,u2,k1,k4,c,w1,hp,uz];omega
 ·right
  have e:Q.take n=Q:=List.take_of_length_le (by omega);rw[e];have hlt' :¬(n:Int)<Q.length:=by omega
  simp[h9,hlt]
theorem Pj(f:Nat→Option Nat):∀l:List (List UInt8×List UInt8),AV.rens f (kC l)=kC l
 | []=>by simp[kC,AV.rens]
 |k::l=>by simp[kC,AV.rens,AV.ren,Pj f l]
theorem BR(Q:List (Rat×Rat)) (u:Rat) (hQ:O5 Q) (hu:fine u) (hl:Q.length≤1000000000):
  ACallsTo Tryz.prog 113 [.slice 0 0 Q.length none,.str (ah u)] [.cells false 2 (kC (kT Q))] (.int .i64 (bh Q u)) [.cells false 2 (kC (kT Q))]:=by
 have hG:aL Tryz.prog 113=some Tryz.f113:=by kernel_rfl
 obtain⟨b,hb⟩:∃b,ax Tryz.f113=[b]:=⟨_,rfl⟩
 obtain⟨F,hF⟩:=wA (K:=Q.length+1) Q u hQ hu hl (by omega) hb;simp[ax,aV,Tryz.f113] at hb;subst hb;refine aZ (lv:=(fun _=>[5,10])) (K:=(Q.length+1)) iE ?_;simp[aa,hG,Tryz.f113,hF]
def BA(p:Option Rat) (q:Rat):Bool:=match p with
 |some r=>decide (r<q)
 |none=>true
def ckE(p:Option Rat):List (List UInt8×List UInt8)→Int
 | []=>0
 |k::l=>if u4 k.1=0∧u4 k.2=0 then (if BA p ((cV k.1).getD 0) then ckE (cV k.1) l else 6) else 2
def OS(L:List (List UInt8×List UInt8)) (n:Nat) (p:Option Rat):Prop:=
 (n=0∧p=none)∨(∃m q k,n=m+1∧p=some q∧L[m]? =some k∧k.1=ah q∧(aJ q.num.natAbs).length≤200∧(aJ q.den).length≤200)
theorem H3(q:Rat):(aJ q.num.natAbs).length≤(ah q).length∧(aJ q.den).length≤(ah q).length:=by
 have h:=vm q.num;unfold ah;split
 ·rename_i h1
  have h2:=sQ q.num.natAbs;rw[h1];exact⟨h,by have:(aJ 1).length=1:=rfl;omega⟩
 ·simp only[List.length_append,List.length_cons]
  exact⟨by omega,by omega⟩
set_option maxHeartbeats 1600000 in
theorem nF{K:Nat}(L:List (List UInt8×List UInt8)) (hL:∀k∈L,k.1.length≤9∧k.2.length≤9) (hl:L.length≤1000000000) (hK:L.length<K) {b:Code}(hb:ax Tryz.f256=[b]):
  ∃F:Env→Bool→Env×Mem×(List UInt8×List UInt8),∀env0 d,(ab env0 0=.slice 0 0 L.length none∧ab env0 8=.slice 0 0 L.length none∧ab env0 9=.int .i64 L.length∧ab env0 10=.int .i64 0)→
   aT (aM Tryz.prog) (fun _=>[10]) (af aA) K 40 1 true (.loop b) ⟨env0,[.cells false 2 (kC L)],d⟩=some (if ckE none L=0 then .exit 0 else .ret,⟨(F env0 d).1,(F env0 d).2.1,d⟩)∧
    ((ckE none L=0→(F env0 d).2.1=[.cells false 2 (kC L)])∧(ckE none L≠0→(F env0 d).2.1=[.cells false 2 (kC L),.cells true 0 [.str (F env0 d).2.2.1,.str (F env0 d).2.2.2]]∧ab (F env0 d).1 2=.int .i64 (ckE none L))):=by
 refine rn (β:=List UInt8×List UInt8) rfl (fun env0=>(ab env0 0=.slice 0 0 L.length none∧ab env0 8=.slice 0 0 L.length none∧ab env0 9=.int .i64 L.length∧ab env0 10=.int .i64 0)) (fun _ env' mem' x=>(ckE none L=0→mem' =[.cells false 2 (kC L)])∧(ckE none L≠0→mem' =[.cells false 2 (kC L),.cells true 0 [.str x.1,.str x.2]]∧ab env' 2=.int .i64 (ckE none L))) ?_;rintro env0 d ⟨h0,h8,h9,h10⟩;simp[ax,aV,Tryz.f256] at hb;have hn:aI [10] (ad b) env0 ((10,.int .i64 ((0:Nat):Int))::env0)=aI [10] (ad b) env0 env0:=by simp[aI,h10]
 rw[←hn];have kl:(kC L).length=2*L.length:=fK L;refine pq (α:=Nat) (fun n=>⟨aI [10] (ad b) env0 ((10,.int .i64 (n:Int))::env0),[.cells false 2 (kC L)],d⟩) (fun n=>L.length-n) (fun n=>n≤L.length∧∃p,OS L n p∧ckE none L=ckE p (L.drop n)) (if ckE none L=0 then .exit 0 else .ret) d (fun env' mem' =>∃x:List UInt8×List UInt8,(ckE none L=0→mem' =[.cells false 2 (kC L)])∧(ckE none L≠0→mem' =[.cells false 2 (kC L),.cells true 0 [.str x.1,.str x.2]]∧ab env' 2=.int .i64 (ckE none L))) (by split<;>simp) ?_ K 0 ⟨by omega,none,.inl ⟨rfl,rfl⟩,by rw[List.drop_zero]⟩ (by omega);rintro n ⟨hn1,p,hp,he⟩;clear hn;subst hb;by_cases hlt:n<L.length
 ·obtain⟨k,hk⟩:∃k,L[n]? =some k:=⟨L[n],List.getElem?_eq_getElem hlt⟩
  obtain⟨k1,k2,k3⟩:=yZ hk;obtain⟨l1,l2⟩:=hL k (List.mem_of_getElem? hk);have l1' :k.1.length≤18:=by omega
  have l2' :k.2.length≤18:=by omega
  have hd:L.drop n=k::L.drop (n+1):=by rw[List.getElem?_eq_some_iff] at hk;obtain⟨h1,h2⟩:=hk;rw[←h2];exact List.drop_eq_getElem_cons h1
  rw[hd,ckE] at he;have w1:IntKind.i64.wrap ((n:Int)+1)=((n+1:Nat):Int):=by rw[aj (by omega) (by omega)];omega
  have k4:n*2+2≤(kC L).length:=by omega
  by_cases c1:u4 k.1=0
  ·by_cases c2:u4 k.2=0
   ·rw[if_pos ⟨c1,c2⟩] at he
    obtain⟨q,hq,hqs,q1,q2⟩:=Q6 c1;rw[hq] at he;have ql:=H3 q;rw[←hqs] at ql;have q1' :(aJ q.num.natAbs).length≤9:=by omega
    have q2' :(aJ q.den).length≤9:=by omega
    clear ql;simp only[Option.getD_some] at he;rcases hp with⟨rfl,rfl⟩ | ⟨m,r,j,rfl,rfl,hj,hjs,r1,r2⟩
    ·rw[if_pos (by rfl)] at he
     left;refine⟨1,?_⟩;have hz:(0:Int)<L.length:=by omega
     have b1:OS L 1 (some q):=.inr ⟨0,q,k,rfl,rfl,hk,hqs,q1,q2⟩;have w3:IntKind.i64.wrap 1=1:=rfl;simp at k1 k4 hlt;simp[h0,h8,h9,hlt,af,aA,l1',l2',c1,c2,k1,k4,w3,uz,Nat.testBit];exact⟨⟨by omega,_,b1,by simpa using he⟩,by omega⟩
    ·obtain⟨j1,j2,j3⟩:=yZ hj
     have w2:IntKind.i64.wrap (((m+1:Nat):Int)-1)=(m:Int):=by rw[aj (by omega) (by omega)];omega
     have rl:=H3 r;have rl2:=(hL j (List.mem_of_getElem? hj)).1;rw[←hjs] at rl;have r1' :(aJ r.num.natAbs).length≤9:=by omega
     have r2' :(aJ r.den).length≤9:=by omega
     clear rl rl2;obtain⟨n,hn⟩:∃n,n=m+1:=⟨_,rfl⟩
     rw[←hn] at hk k1 k2 k3 k4 w1 w2 hlt hn1 he hd ⊢;have n0:(0:Int)<n:=by omega
     have n0' :0<n:=by omega
     have hm:m<L.length:=by omega
     rw[hqs] at l1 l1' c1 k1;rw[hjs] at j2;have b1:OS L (n+1) (some q):=.inr ⟨n,q,k,rfl,rfl,hk,hqs,q1,q2⟩;obtain⟨v,hv⟩:∃v,v=n+1:=⟨_,rfl⟩
     rw[←hv] at w1 b1 he;by_cases hrq:r<q
     ·have c:¬qY q r≤0:=fun h=>by have:=qZ.1 h;grind
      rw[if_pos (by simp[BA,hrq])] at he;left;refine⟨v,?_⟩;simp[h0,h8,h9,hlt,hm,n0',af,aA,aC,ay,l1',l2',c1,c2,k1,k4,j2,w1,w2,q1',q2',r1',r2',c,uz,Nat.testBit];exact⟨⟨by omega,_,b1,he⟩,by omega⟩
     ·have c:qY q r≤0:=qZ.2 (by grind)
      rw[if_neg (by simp[BA,hrq])] at he;right;rw[he];simp[h0,h8,h9,hlt,hm,n0',af,aA,aC,ay,l1',l2',c1,c2,k1,k4,j2,w2,q1',q2',r1',r2',c,Nat.testBit];exact⟨_,_,⟨rfl,rfl⟩,⟨_,_,rfl⟩,rfl⟩
   ·rw[if_neg (fun h=>c2 h.2)] at he
    right;rw[he];simp[h8,h9,hlt,af,aA,l1',l2',c1,c2,k1,k4];exact⟨_,_,⟨rfl,rfl⟩,⟨k.1,k.2,rfl⟩,rfl⟩
  ·rw[if_neg (fun h=>c1 h.1)] at he
   right;rw[he];simp[h8,h9,hlt,af,aA,l1',c1,k1,k4];exact⟨_,_,⟨rfl,rfl⟩,⟨k.1,k.2,rfl⟩,rfl⟩
 ·right
  have e:L.drop n=[]:=List.drop_of_length_le (by omega);rw[e,ckE] at he;rw[he];simp[h9,hlt]
def knE(L:List (List UInt8×List UInt8)):Int:=if 20<L.length then 4 else ckE none L
theorem tz(L:List (List UInt8×List UInt8)) (hL:∀k∈L,k.1.length≤9∧k.2.length≤9) (hl:L.length≤1000000000):
  ACallsTo Tryz.prog 256 [.slice 0 0 L.length none] [.cells false 2 (kC L)] (.int .i64 (knE L)) [.cells false 2 (kC L)]:=by
 have hG:aL Tryz.prog 256=some Tryz.f256:=by kernel_rfl
 obtain⟨b,hb⟩:∃b,ax Tryz.f256=[b]:=⟨_,rfl⟩
 obtain⟨F,hF⟩:=nF (K:=L.length+1) L hL hl (by omega) hb;simp[ax,aV,Tryz.f256] at hb;subst hb;refine aZ (lv:=(fun _=>[10])) (K:=(L.length+1)) bK ?_;unfold knE;by_cases h20:20<L.length
 ·rw[if_pos h20]
  have h20I:(20:Int)<L.length:=by omega
  simp[aa,hG,Tryz.f256,h20I]
 ·rw[if_neg h20]
  have h20I:¬(20:Int)<L.length:=by omega
  by_cases hc:ckE none L=0
  ·rw[if_pos hc] at hF
   have hF1:=fun env0 d h=>(hF env0 d h).1
   have hF2:=fun env0 d h=>(hF env0 d h).2.1 hc
   clear hF;simp[aa,hG,Tryz.f256,h20I,hF1,hF2,hc]
  ·rw[if_neg hc] at hF
   have hF1:=fun env0 d h=>(hF env0 d h).1
   have hF2:=fun env0 d h=>((hF env0 d h).2.2 hc).1
   have hF3:=fun env0 d h=>((hF env0 d h).2.2 hc).2
   clear hF;simp[aa,hG,Tryz.f256,h20I,hF1,hF2,hF3]
def rh(d:Deed) (j:Nat):P2:=(((d.N.tmod 3+2*j:Int):Rat),mkRat ((HT d.K j%4:Nat)-1:Int) (1+d.K.2.2.2%2))
def bM(d:Deed) (c:Nat):List P2:=(List.range c).map (rh d)
theorem J2(d:Deed) (c:Nat):bM d (c+1)=bM d c++[rh d c]:=by simp[bM,List.range_succ]
theorem cH(d:Deed) (c:Nat):(bM d c).length=c:=by simp[bM]
def Ir:List AV:=[.int .i64 0,.str [],.nilslice,.nilslice,.nilslice,.str [],.str [],.str [],.str [],.str [],.str [],.str [],.str [],.str [],.str [],.nilslice,.str [],.str [],.str [],.str [],.str [],.str [],.str [],.str [],.str [],.int .i64 0,.int .i64 0,.int .i64 0,.int .i64 0,.str [],.str [],.str []]
def Hy(d:Deed) (n k:Nat) (nm:List UInt8) (v:Z3) (o:Int) (s:Z3) (x:AV):Mem:=
 [.absent,.absent,.cells true 0 [.slice 0 0 n none,.slice 1 0 k none],.cells true 0 d.cells,.cells true 0 Ir,.cells true 0 [.str (zS v.1),.str (zS v.2.1),.str (zS v.2.2)],.cells true 0 [.str (zS v.1),.str (zS v.2.1),.str (zS v.2.2),.str (zS o)],.cells true 0 (bt nm v x s)]
def yU(d:Deed) (n k:Nat) (nm:List UInt8) (v:Z3) (o:Int) (s:Z3) (j:Nat):Mem:=if j=0 then Hy d n k nm v o s .nilslice else Hy d n k nm v o s (.slice 8 0 j none)++[.cells true 2 (pC (bM d j))]
theorem uo{d:Deed}{n k:Nat}{nm:List UInt8}{v:Z3}{o:Int}{s:Z3}{j:Nat}(h:0<j):yU d n k nm v o s j=Hy d n k nm v o s (.slice 8 0 j none)++[.cells true 2 (pC (bM d j))]:=if_neg (by omega)
theorem Le(n:Nat):AV.refsL n Ir=[]:=rfl
theorem Qd(f:Nat→Option Nat):AV.rens f Ir=Ir:=rfl
set_option maxRecDepth 8192 in
set_option maxHeartbeats 12800000 in
theorem Ae{K:Nat}(d:Deed) (hd:d.Ok) (n k:Nat) (nm:List UInt8) (v:Z3) (o:Int) (s:Z3) (c:Nat) (hc:c≤3) (hK:c<K) {b:Code}(hb:ax Tryz.f28=[b]):
  ∃F:Env→Env,∀env0,(ab env0 4=.ptr 3 0∧ab env0 9=.ptr 7 0∧ab env0 121=.int .i64 c∧ab env0 122=.int .i64 0∧ab env0 6=.ptr 4 0)→
   aT (aM Tryz.prog) (fun _=>[122,122]) (cX d) K 172 2 true (.loop b) ⟨env0,yU d n k nm v o s 0,false⟩=some (.exit 1,⟨F env0,yU d n k nm v o s c,decide (0<c)⟩)∧ab (F env0) 9=.ptr 7 0∧ab (F env0) 6=.ptr 4 0:=by
 refine rm (L:=[122,122]) rfl false _ (fun env0=>ab env0 4=.ptr 3 0∧ab env0 9=.ptr 7 0∧ab env0 121=.int .i64 c∧ab env0 122=.int .i64 0∧ab env0 6=.ptr 4 0) (fun env0 env' =>ab env' 9=.ptr 7 0∧ab env' 6=.ptr 4 0) ?_;rintro env0 ⟨h4,h9,h121,h122,h6⟩;obtain⟨os,hops⟩:∃os,aE Tryz.f28=os:=⟨_,rfl⟩
 have hbs:=br hops (ls:=[[0,0,2,6,14,30,63,0,255],[0,1,3,7,15,0,32,96,255,0,1023],[0,0,0,4,12,28,60,0,128,384,896,1920,0,4096,12288,28672,61440,131068,262142,524287,1048575,2097151],[0,0,0,4,12,28,60,0,128,384,896,1920,0,4096,12288,28672,61440,131068,262142,524287,1048575,2097151],[0,1,3,0,8,24,56,0,128,504,1016,0,0,6144,14336,30720,63488,129024,0,262144,786432,1835008,3932160,8126464,16777208,33554424,67108856,134217727,268435455,536870911,1073741823],[0,0,2,6,14,30,62,126,0,510,1022,2047,4095,8191],[0,0,0,0,0,0,63,0,128,384,896,2047,4095,0,8192,24576,57344,122880,0,262144,786432,1835008,3932160,0,8388608,25165824,58720256,125829120,268427264,536870911,1073741823,2147483647]]) (by kernel_rfl);simp only[aE,bC,Tryz.f28,List.nil_append,List.append_nil,List.cons_append] at hops;subst hops;simp only[List.map_cons,List.map_nil,List.cons.injEq,and_true] at hbs;obtain⟨-,-,-,-,hb4,-,-⟩:=hbs;have k26:oh [0,1,3,0,8,24,56,0,128,504,1016,0,0,6144,14336,30720,63488,129024,0,262144,786432,1835008,3932160,8126464,16777208,33554424,67108856,134217727,268435455,536870911,1073741823] 31 26=true:=by decide
 have k27:oh [0,1,3,0,8,24,56,0,128,504,1016,0,0,6144,14336,30720,63488,129024,0,262144,786432,1835008,3932160,8126464,16777208,33554424,67108856,134217727,268435455,536870911,1073741823] 31 27=true:=by decide
 have k30:oh [0,1,3,0,8,24,56,0,128,504,1016,0,0,6144,14336,30720,63488,129024,0,262144,786432,1835008,3932160,8126464,16777208,33554424,67108856,134217727,268435455,536870911,1073741823] 31 30=true:=by decide
 have j27:aN [0,1,3,0,8,24,56,0,128,504,1016,0,0,6144,14336,30720,63488,129024,0,262144,786432,1835008,3932160,8126464,16777208,33554424,67108856,134217727,268435455,536870911,1073741823] 27=true:=by decide
 have j30:aN [0,1,3,0,8,24,56,0,128,504,1016,0,0,6144,14336,30720,63488,129024,0,262144,786432,1835008,3932160,8126464,16777208,33554424,67108856,134217727,268435455,536870911,1073741823] 30=true:=by decide
 simp[ax,aV,Tryz.f28] at hb;have hn0:aI [122,122] (ad b) env0 ((122,.int .i64 ((0:Nat):Int))::env0)=aI [122,122] (ad b) env0 env0:=by simp[aI,h122]
 rw[←hn0];have hm1:(yU d n k nm v o s 0).length=8:=rfl;refine cG (α:=Nat) (fun j=>⟨aI [122,122] (ad b) env0 ((122,.int .i64 (j:Int))::env0),yU d n k nm v o s j,decide (0<j)⟩) (fun j=>c-j) (fun j=>j≤c) (.exit 1) _ _ _ (by simp) ?_ K 0 (by omega) (by omega);intro j hn1;clear hn0;subst hb;by_cases hlt:j<c
 ·left
  have hk1:=J2 d j;have hkp:rh d j=(((d.N.tmod 3+2*j:Int):Rat),mkRat ((HT d.K j%4:Nat)-1:Int) (1+d.K.2.2.2%2)):=rfl;have q1:=uC d j (by omega);have q2:=Ka hd.K j;have q3:=lQ d.N 3 (by decide);simp only[Int.cast_ofNat_Int] at q3;have hN:=hd.N;unfold xh at hN;have hN7:=Q7 d;have h11:d.cells[11]? =some (.int .u8 (d.K.2.2.2:Nat)):=rfl;have wN:IntKind.i64.wrap d.N=d.N:=bF (by omega) (by omega);obtain⟨y,hy⟩:∃y,y=d.N.tmod 3:=⟨_,rfl⟩
  rw[←hy] at q3 hkp;have l0:=u6 d;have r0:=fV d;have o0:=Hr d;have n0:=Bd d;have hdO:∀c a M,cX d c a M=cX d c a M:=fun _ _ _=>rfl
  obtain⟨C,hC⟩:∃C,C=d.cells:=⟨_,rfl⟩
  have hC' :d.cells=C:=hC.symm;rw[←hC] at q1 hN7 h11 l0;simp only[←hC] at r0 o0 n0;obtain⟨X,hX⟩:∃X,X=HT d.K j:=⟨_,rfl⟩
  rw[←hX] at q1 q2 hkp;have j7:∀h,C[7]'h=_:=fun h=>Option.some.inj ((List.getElem?_eq_getElem h).symm.trans hN7)
  have j11:∀h,C[11]'h=_:=fun h=>Option.some.inj ((List.getElem?_eq_getElem h).symm.trans h11)
  have j8:∀h,C[8+j]'h=_:=fun h=>Option.some.inj ((List.getElem?_eq_getElem h).symm.trans q1)
  have t4:((X:Nat):Int).tmod 4=((X%4:Nat):Int):=rfl;have x4:X%4<4:=Nat.mod_lt _ (by decide);obtain⟨x,hx⟩:∃x,x=X%4:=⟨_,rfl⟩
  rw[←hx] at t4 x4 hkp;have wX:IntKind.i64.wrap (X:Int)=(X:Int):=bF (by omega) (by omega);have wx:IntKind.i64.wrap ((x:Int)-1)=(x:Int)-1:=bF (by omega) (by omega);have t2:((d.K.2.2.2:Nat):Int).tmod 2=((d.K.2.2.2%2:Nat):Int):=rfl;have x2:d.K.2.2.2%2<2:=Nat.mod_lt _ (by decide);obtain⟨w,hw⟩:∃x,x=d.K.2.2.2%2:=⟨_,rfl⟩
  rw[←hw] at t2 x2 hkp;have ww:IntKind.i64.wrap (w:Int)=(w:Int):=bF (by omega) (by omega);have ww1:IntKind.i64.wrap (1+(w:Int))=((1+w:Nat):Int):=by rw[bF (by omega) (by omega)];omega
  obtain⟨D,hD⟩:∃D,D=1+w:=⟨_,rfl⟩
  rw[←hD] at ww1 hkp;have hDp:0<D:=by omega
  have hDl:D<100000000:=by omega
  have w2j:IntKind.i64.wrap (2*(j:Int))=2*(j:Int):=bF (by omega) (by omega);have wyj:IntKind.i64.wrap (y+2*(j:Int))=y+2*(j:Int):=bF (by omega) (by omega);obtain⟨Y,hY⟩:∃Y,Y=y+2*(j:Int):=⟨_,rfl⟩
  rw[←hY] at wyj hkp;have gY:Y.natAbs<100000000:=by omega
  obtain⟨Z,hZ⟩:∃Z,Z=(x:Int)-1:=⟨_,rfl⟩
  rw[←hZ] at wx hkp;have gZ:Z.natAbs<100000000:=by omega
  have hpc:pC [rh d j]=[.str (zS Y),.str (ah (mkRat Z D))]:=by rw[hkp];rfl
  have w1:IntKind.i64.wrap ((j:Int)+1)=((j+1:Nat):Int):=by rw[aj (by omega) (by omega)];omega
  obtain⟨m,hm⟩:∃m,m=j+1:=⟨_,rfl⟩
  rw[←hm] at w1 hk1;have hmp:0<m:=by omega
  have hKm:pC (bM d m)=pC (bM d j)++[.str (zS Y),.str (ah (mkRat Z D))]:=by rw[hk1,zn,hpc]
  have hj3:(j:Int)<4:=by omega
  have hj3' :j<4:=by omega
  have hjc:(j:Int)<c:=by omega
  refine⟨m,?_⟩;rw[uo hmp,hKm];by_cases hj0:j=0
  ·have e0:yU d n k nm v o s j=Hy d n k nm v o s .nilslice:=if_pos hj0
   have e1:bM d j=[]:=by rw[hj0];rfl
   have hd0:decide (0<j)=false:=by simp[hj0]
   have hmd:decide (0<m)=true:=by simpa using hmp
   have hm0:m=1:=by omega
   rw[e0,hd0,e1,hm0];rw[hm0] at w1;have e2:pC []++[.str (zS Y),.str (ah (mkRat Z D))]=[.str (zS Y),.str (ah (mkRat Z D))]:=rfl;rw[e2];simp[Hy,bt,hC',h4,h9,h121,hjc,l0,r0,n0,q1,j7,j11,hj3,Le,Qd,wN,←hy,t4,t2,wX,wx,ww,ww1,w2j,wyj,←hY,←hZ,gY,gZ,hDp,hDl,w1,hm1,cX,af,cC,-aD,ir hb4,jf,oC,vg,cj,k26,k27,k30,j27,j30,bO,aH,Nat.testBit];omega
  ·have hpos:0<j:=by omega
   have hd1:decide (0<j)=true:=by simpa using hpos
   have hmd:decide (0<m)=true:=by simpa using hmp
   rw[uo hpos,hd1];have hPl:(pC (bM d j)).length=j*2:=by rw[sS,cH]
   obtain⟨P,hP⟩:∃P,P=bM d j:=⟨_,rfl⟩
   rw[←hP] at hPl ⊢;have g3:(pC P).take (j*2)=pC P:=List.take_of_length_le (by omega);have g4:m*32≤140737488355328:=by omega
   have g5:m≤140737488355328:=by omega
   simp[Hy,bt,hC',h4,h9,h121,hjc,l0,r0,n0,q1,j7,j11,hj3,Le,Qd,wN,←hy,t4,t2,wX,wx,ww,ww1,w2j,wyj,←hY,←hZ,gY,gZ,hDp,hDl,w1,hm1,hPl,←hm,hmd,g3,g4,g5,dK,zo,fz,cX,af,cC,-aD,ir hb4,jf,oC,vg,cj,k26,k27,k30,j27,j30,bO,aH,Nat.testBit];omega
 ·right
  have e:j=c:=by omega
  subst e;simp[h9,h6,h121]
set_option maxRecDepth 8192 in
set_option maxHeartbeats 12800000 in
theorem xx(d:Deed) (hd:d.Ok) (n k i:Nat) (hi:i<6) (hn:0<n) (hl:n≤1000) (hk:d.kind%5=2):
  ACallsTo Tryz.prog 28 [.agg [.slice 0 0 n none,.slice 1 0 k none],.agg d.cells,.int .i64 i] [.absent,.absent] (.agg (bt (bA i) (bw d.A) (.slice 2 0 (1+d.K.1%3) none) (dw (bw d.A) (qc d.B)))) ([.absent,.absent]++[.cells true 2 (pC (bM d (1+d.K.1%3)))]):=by
 have hG:aL Tryz.prog 28=some Tryz.f28:=by kernel_rfl
 obtain⟨os,hops⟩:∃os,aE Tryz.f28=os:=⟨_,rfl⟩
 have hbs:=br hops (ls:=[[0,0,2,6,14,30,63,0,255],[0,1,3,7,15,0,32,96,255,0,1023],[0,0,0,4,12,28,60,0,128,384,896,1920,0,4096,12288,28672,61440,131068,262142,524287,1048575,2097151],[0,0,0,4,12,28,60,0,128,384,896,1920,0,4096,12288,28672,61440,131068,262142,524287,1048575,2097151],[0,1,3,0,8,24,56,0,128,504,1016,0,0,6144,14336,30720,63488,129024,0,262144,786432,1835008,3932160,8126464,16777208,33554424,67108856,134217727,268435455,536870911,1073741823],[0,0,2,6,14,30,62,126,0,510,1022,2047,4095,8191],[0,0,0,0,0,0,63,0,128,384,896,2047,4095,0,8192,24576,57344,122880,0,262144,786432,1835008,3932160,0,8388608,25165824,58720256,125829120,268427264,536870911,1073741823,2147483647]]) (by kernel_rfl);simp only[aE,bC,Tryz.f28,List.nil_append,List.append_nil,List.cons_append] at hops;subst hops;simp only[List.map_cons,List.map_nil,List.cons.injEq,and_true] at hbs;obtain⟨hb0,hb1,hb2,hb3,hb4,hb5,hb6⟩:=hbs;have a08:aN [0,0,2,6,14,30,63,0,255] 8=true:=by decide
 have a110:aN [0,1,3,7,15,0,32,96,255,0,1023] 10=true:=by decide
 have a321:aN [0,0,0,4,12,28,60,0,128,384,896,1920,0,4096,12288,28672,61440,131068,262142,524287,1048575,2097151] 21=true:=by decide
 have a221:aN [0,0,0,4,12,28,60,0,128,384,896,1920,0,4096,12288,28672,61440,131068,262142,524287,1048575,2097151] 21=true:=by decide
 have a513:aN [0,0,2,6,14,30,62,126,0,510,1022,2047,4095,8191] 13=true:=by decide
 have a631:aN [0,0,0,0,0,0,63,0,128,384,896,2047,4095,0,8192,24576,57344,122880,0,262144,786432,1835008,3932160,0,8388608,25165824,58720256,125829120,268427264,536870911,1073741823,2147483647] 31=true:=by decide
 obtain⟨b,hb⟩:∃b,ax Tryz.f28=[b]:=⟨_,rfl⟩
 have c3:d.K.1%3<3:=Nat.mod_lt _ (by decide);obtain⟨F,hF⟩:=Ae (K:=9) d hd n k (bA i) (bw d.A) (d.N.tmod 5) (dw (bw d.A) (qc d.B)) (1+d.K.1%3) (by omega) (by omega) hb;have hcp:0<1+d.K.1%3:=by omega
 have hcd:decide (0<1+d.K.1%3)=true:=by simpa using hcp
 rw[uo hcp,hcd] at hF;have hF0:yU d n k (bA i) (bw d.A) (d.N.tmod 5) (dw (bw d.A) (qc d.B)) 0=Hy d n k (bA i) (bw d.A) (d.N.tmod 5) (dw (bw d.A) (qc d.B)) .nilslice:=rfl;rw[hF0] at hF;simp[ax,aV,Tryz.f28] at hb;subst hb;have hN:=hd.N;have hB:=sG hd.B;have hA:=sG hd.A;have n1:=bR d.A;have m1:=fl d.B;have q3:=lQ d.N 5 (by decide);have h8:=Sb d;have h0:=R7 d;have h4:=R8 d;have h5:=R9 d;have h6:=Sa d;have h7:=Q7 d;have h1:=Sc d;have l0:=u6 d;have r0:=fV d;have o0:=Hr d;have okd:=gn d hd;clear hd;obtain⟨kd,⟨A1,A2,A3⟩,⟨B1,B2,B3⟩,N,⟨K1,K2,K3,K4⟩⟩:=d;simp only at hF c3 hk hN hB hA n1 m1 q3 h8 h0 h4 h5 h6 h7 h1 ⊢;simp only[Int.cast_ofNat_Int] at q3;unfold xh at hN;obtain⟨hB1,hB2,hB3⟩:=hB;simp only at hB1 hB2 hB3;have wN:IntKind.i64.wrap N=N:=bF (by omega) (by omega);have wB1:IntKind.i64.wrap B1=B1:=bF (by omega) (by omega);have wB2:IntKind.i64.wrap B2=B2:=bF (by omega) (by omega);have wB3:IntKind.i64.wrap B3=B3:=bF (by omega) (by omega);have hkt:((kd:Nat):Int).tmod 5=2:=by have:((kd:Nat):Int).tmod 5=((kd%5:Nat):Int):=rfl;rw[this,hk];rfl
 obtain⟨⟨nx,ny,nz⟩,e1⟩:∃v,v=bw (A1,A2,A3):=⟨_,rfl⟩
 rw[←e1] at n1;have e2:qc (B1,B2,B3)=(B1.tmod 3,B2.tmod 3,B3.tmod 3):=rfl;rw[e2] at m1;obtain⟨o,ho⟩:∃o,o=N.tmod 5:=⟨_,rfl⟩
 rw[←ho] at q3;have go:o.natAbs<100000000:=by omega
 have gi:i<100000000:=by omega
 obtain⟨bx,hbx⟩:∃o,o=B1.tmod 3:=⟨_,rfl⟩
 obtain⟨by',hby⟩:∃o,o=B2.tmod 3:=⟨_,rfl⟩
 obtain⟨bz,hbz⟩:∃o,o=B3.tmod 3:=⟨_,rfl⟩
 rw[←hbx,←hby,←hbz] at m1 e2;obtain⟨g1,g2,g3⟩:=m1;simp only at g1 g2 g3;have g1' :bx.natAbs≤10000:=by omega
 have g2' :by'.natAbs≤10000:=by omega
 have g3' :bz.natAbs≤10000:=by omega
 have m2:dO 2 (bx,by',bz):=⟨g1,g2,g3⟩;obtain⟨C,hC⟩:∃C,C=Deed.cells ⟨kd,(A1,A2,A3),(B1,B2,B3),N,(K1,K2,K3,K4)⟩:=⟨_,rfl⟩
 rw[←hC] at h8 h0 h4 h5 h6 h7 h1 l0 r0 o0;have hC' :Deed.cells ⟨kd,(A1,A2,A3),(B1,B2,B3),N,(K1,K2,K3,K4)⟩=C:=hC.symm;have tk:C.take 12=C:=List.take_of_length_le (by omega);have j8:∀h,C[8]'h=_:=fun h=>Option.some.inj ((List.getElem?_eq_getElem h).symm.trans h8)
 have j0:∀h,C[0]'h=_:=fun h=>Option.some.inj ((List.getElem?_eq_getElem h).symm.trans h0)
 have j4:∀h,C[4]'h=_:=fun h=>Option.some.inj ((List.getElem?_eq_getElem h).symm.trans h4)
 have j5:∀h,C[5]'h=_:=fun h=>Option.some.inj ((List.getElem?_eq_getElem h).symm.trans h5)
 have j6:∀h,C[6]'h=_:=fun h=>Option.some.inj ((List.getElem?_eq_getElem h).symm.trans h6)
 have j7:∀h,C[7]'h=_:=fun h=>Option.some.inj ((List.getElem?_eq_getElem h).symm.trans h7)
 have hp:=fX;rw[e2,←e1,←ho] at hF;obtain⟨⟨sx,sy,sz⟩,hs⟩:∃v,v=dw (nx,ny,nz) (bx,by',bz):=⟨_,rfl⟩
 rw[←hs] at hF;simp only[Hy,bt,bA,Ir,←hC,List.cons_append,List.nil_append] at hF;have hF1:=fun env0 h=>(hF env0 h).1
 have hG9:=fun env0 h=>(hF env0 h).2.1
 have hG6:=fun env0 h=>(hF env0 h).2.2
 clear hF;have t3:((K1:Nat):Int).tmod 3=((K1%3:Nat):Int):=rfl;obtain⟨x,hx⟩:∃x,x=K1%3:=⟨_,rfl⟩
 rw[←hx] at t3 c3 hF1 hG9 hG6;have w13:IntKind.i64.wrap (x:Int)=(x:Int):=bF (by omega) (by omega);have w14:IntKind.i64.wrap (1+(x:Int))=((1+x:Nat):Int):=by rw[bF (by omega) (by omega)];omega
 obtain⟨c,hc⟩:∃c,c=1+x:=⟨_,rfl⟩
 rw[←hc] at w14 hF1 hG9 hG6;have c1:=w14;have w1:IntKind.i64.wrap 1=1:=rfl;have w2:IntKind.i64.wrap 2=2:=rfl;have w3:IntKind.i64.wrap 3=3:=rfl;have w4:IntKind.i64.wrap 4=4:=rfl;have w5:IntKind.i64.wrap 5=5:=rfl;have w0:IntKind.i64.wrap 0=0:=rfl;have u12:IntKind.i64.wrap (1+1)=2:=rfl;have u13:IntKind.i64.wrap (1+2)=3:=rfl;have u14:IntKind.i64.wrap (1+3)=4:=rfl;have u15:IntKind.i64.wrap (1+4)=5:=rfl;have hip:=eW (n:=(i:Int)) (by omega);have hip' :(zS (i:Int)).length+1≤9223372036854775807:=by unfold zS;omega
 have hip2:1+(zS (i:Int)).length≤9223372036854775807:=by omega
 have h:aa (aM Tryz.prog) (fun _=>[122,122]) (aL Tryz.prog) (cX ⟨kd,(A1,A2,A3),(B1,B2,B3),N,(K1,K2,K3,K4)⟩) 9 28 [.agg [.slice 0 0 n none,.slice 1 0 k none],.agg C,.int .i64 i] [.absent,.absent]=some ⟨(.agg (bt (bA i) (bw (A1,A2,A3)) (.slice 2 0 (1+K1%3) none) (dw (bw (A1,A2,A3)) (qc (B1,B2,B3))))),some [.absent,.absent],[.cells true 2 (pC (bM ⟨kd,(A1,A2,A3),(B1,B2,B3),N,(K1,K2,K3,K4)⟩ (1+K1%3)))]⟩:=by rw[e2,←e1,←hs,←hx,←hc];simp[aa,hG,Tryz.f28,cX,af,cC,zA,l0,j8,j0,j4,j5,j6,j7,h1,hA,←e1,hkt,wN,wB1,wB2,wB3,←ho,←hbx,←hby,←hbz,go,gi,g1',g2',g3',hp,n1,m2,w2,w3,hip2,fx,bO,aH,-aD,bX hb0,bX hb1,bX hb3,iB,ni,zG,kI,cj,mF,bef,a08,a110,a321,Nat.testBit,hF1,hG9,hG6,←hs,c1,t3,w13,bt,bA,dK,fz]
 have:=(al ae (aw _) okd (az _) h).1;rw[←hC];simpa [CallRes.mem] using this
end Go.Proofs
