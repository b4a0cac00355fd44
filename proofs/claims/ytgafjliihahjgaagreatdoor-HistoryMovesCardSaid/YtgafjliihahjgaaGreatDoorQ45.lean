/- See Q54. -/
import Derived.Test.YtgafjliihahjgaaGreatDoorQ41
import Derived.Test.YtgafjliihahjgaaGreatDoorQ32
set_option linter.all false
namespace Go.Proofs
open Go.Eng
def TR(M:Mem) (x:AV) (L:List (List UInt8×List UInt8)):Prop:=∃b o cs,x=.slice b 0 L.length none∧M[b]? =some (.cells o 2 cs)∧cs.take (2*L.length)=kC L
theorem Pk(n:Nat):∀L:List (List UInt8×List UInt8),AV.unders n (kC L)=true
 | []=>by simp[kC,AV.unders]
 |k::L=>by simp[kC,AV.unders,AV.under,Pk n L]
theorem Rj:∀{L:List (List UInt8×List UInt8)}{i:Nat}{v:AV}(f:Nat→Option Nat),(kC L)[i]? =some v→v.ren f=v:=by
 intro L i v f h;have h1:=Pj f L;rw[fb] at h1;have:((kC L).map (AV.ren f))[i]? =(kC L)[i]? :=by rw[h1]
 rw[List.getElem?_map,h] at this;simpa using this
theorem zz{ks:List Nat}{M:Mem}{b:Nat}{o:Bool}{cs:List AV}{L:List (List UInt8×List UInt8)}(h:M[b]? =some (.cells o 2 cs)) (ht:cs.take (2*L.length)=kC L):SubSlot ks M b (.cells false 2 (kC L)):=by
 refine⟨Pk _ _,o,cs,h,fun j v hv=>?_⟩;have hj:j<2*L.length:=by have:=(List.getElem?_eq_some_iff.1 hv).1;rw[fK] at this;exact this
 have:cs[j]? =(kC L)[j]? :=by rw[←ht,List.getElem?_take_of_lt hj]
 rw[this,hv,Rj _ hv]
theorem PX{P:Program}{f:FuncId}{L:List (List UInt8×List UInt8)}{M:Mem}{x:AV}{rest:List AV}{v:AV}(hr:AV.closeds rest=true) (hv:v.closed=true)
  (h:ACallsTo P f (.slice 0 0 L.length none::rest) [.cells false 2 (kC L)] v [.cells false 2 (kC L)]) (hx:TR M x L):ACallsTo P f (x::rest) M v M:=by
 obtain⟨b,o,cs,rfl,hb,ht⟩:=hx;have hlt:=(List.getElem?_eq_some_iff.1 hb).1;have hu:AV.unders [b].length (.slice 0 0 L.length none::rest)=true:=by
  show(decide (0<1)&&AV.unders 1 rest)=true
  rw[cK hr];rfl
 have:=ACallsTo.frame (M:=M) (new:=[]) [b] (m:=[.cells false 2 (kC L)]) rfl (by simpa using hlt) hu (fun i s hs=>by
  cases i with
  |zero=>simp at hs;subst hs;exact zz hb ht
  |succ i=>simp at hs) rfl (by simpa using h)
 have hvr:v.ren (ar [b] M.length)=v:=by have:=bH (vs:=[v]) (ρ:=ar [b] M.length) (by simp[AV.closeds,hv]);simpa [AV.rens] using this
 simpa [AV.rens,AV.ren,ar,bH hr,hvr] using this
def Tf(a b:Rat×Rat) (u:Rat):Prop:=(fine (u-a.1)∧fine (b.1-a.1)∧b.1-a.1≠0)∧fine ((u-a.1) / (b.1-a.1))∧fine (b.2-a.2)∧fine ((u-a.1) / (b.1-a.1)*(b.2-a.2))
def S3(Q:List (Rat×Rat)) (u:Rat):Prop:=O5 Q∧fine u∧asc Q∧∀(i:Nat) a b,Q[i]? =some a→Q[i+1]? =some b→a.1≤u→u<b.1→Tf a b u
theorem fa:∀{Q:List (Rat×Rat)}{u:Rat},asc Q→∀(i:Nat) q,Q[i]? =some q→(q.1≤u↔i<bh Q u)
 | [],u,_,i,q,h=>by simp at h
 |a::l,u,ha,i,q,h=>by
  by_cases h0:a.1≤u
  ·have e:bh (a::l) u=bh l u+1:=by rw[bh,if_pos h0,Nat.add_comm]
   cases i with
   |zero=>simp at h;subst h;exact⟨fun _=>by omega,fun _=>h0⟩
   |succ i=>
    have:=fa (CW ha) i q (by simpa using h) (u:=u);rw[e,this];omega
  ·have e:bh (a::l) u=0:=oL ha (by simpa using Rat.not_le.1 h0)
   rw[e];refine⟨fun hq=>absurd ?_ h0,fun h=>by omega⟩;cases i with
   |zero=>simp at h;subst h;exact hq
   |succ i=>
    have key:∀{l:List (Rat×Rat)}{a:Rat×Rat},asc (a::l)→∀(i:Nat) q,l[i]? =some q→a.1≤q.1:=by
     intro l;induction l with
     |nil=>intro a _ i q h;simp at h
     |cons b l ih=>
      intro a h i q hq;have h1:=h.1;cases i with
      |zero=>simp at hq;subst hq;grind
      |succ i=>
       have:=ih h.2 i q (by simpa using hq)
       grind
    have:=key ha i q (by simpa using h)
    grind
theorem uO:∀{Q:List (Rat×Rat)}{u:Rat},asc Q→∀(m:Nat) a b,Q[m]? =some a→Q[m+1]? =some b→a.1≤u→u<b.1→dM Q u=a.2+(u-a.1) / (b.1-a.1)*(b.2-a.2)
 | [],u,_,m,a,b,h,_,_,_=>by simp at h
 | [q],u,_,m,a,b,_,h,_,_=>by simp at h
 |q::r::l,u,ha,m,a,b,h1,h2,h3,h4=>by
  cases m with
  |zero=>simp at h1 h2;subst h1 h2;exact Ip ha h3 h4
  |succ m=>
   have hr:r.1≤u:=by have:=(fa (u:=u) ha.2 m a (by simpa using h1)).1 h3;exact(fa ha.2 0 r rfl).2 (by omega)
   rw[Kv ha hr];exact uO ha.2 m a b (by simpa using h1) (by simpa using h2) h3 h4
theorem BN:∀{Q:List (Rat×Rat)}{u:Rat}{m:Nat}{a:Rat×Rat},asc Q→Q.length=m+1→Q[m]? =some a→a.1≤u→dM Q u=a.2:=by
 intro Q u m a ha hl hm hu;have h1:=(fa ha m a hm).1 hu;have h2:=iq Q u;have e:bh Q u=Q.length:=by omega
 have hne:Q≠[]:=by rintro rfl;simp at hl
 unfold dM jO;rw[e,if_neg hne,if_neg (by omega),if_pos rfl];have e2:Q.length-1=m:=by omega
 simp only[e2];rw[show Q.getD m (0,0)=a by simp[List.getD,hm],Rat.zero_mul,Rat.add_zero]
theorem vy{a:Rat×Rat}{l:List (Rat×Rat)}{u:Rat}(ha:asc (a::l)) (hu:u<a.1):dM (a::l) u=a.2:=by have e:bh (a::l) u=0:=oL ha (by simpa using hu);unfold dM jO;rw[e];simp[Rat.zero_mul,Rat.add_zero]
set_option maxRecDepth 8192 in
set_option maxHeartbeats 3200000 in
theorem Gg{K:Nat}(Q:List (Rat×Rat)) (u:Rat) (h:S3 Q u) (hl:Q.length≤1000000000) (hK:Q.length<K) {b:Code}(hb:ax Tryz.f87=[b]):
  ∃F:Env→Bool→Env,∀env0 d,(ab env0 0=.slice 0 0 Q.length none∧ab env0 1=.str (ah u)∧ab env0 6=.int .i64 0)→
   aT (aM Tryz.prog) (fun _=>[6]) (af aA) K 83 1 true (.loop b) ⟨env0,[.cells false 2 (kC (kT Q))],d⟩=some (.exit 0,⟨F env0 d,[.cells false 2 (kC (kT Q))],d⟩)∧
    ab (F env0 d) 6=.int .i64 (bh Q u)∧ab (F env0 d) 0=.slice 0 0 Q.length none∧ab (F env0 d) 1=.str (ah u):=by
 refine cg rfl (fun env0=>ab env0 0=.slice 0 0 Q.length none∧ab env0 1=.str (ah u)∧ab env0 6=.int .i64 0) (fun _ env' =>ab env' 6=.int .i64 (bh Q u)∧ab env' 0=.slice 0 0 Q.length none∧ab env' 1=.str (ah u)) ?_;rintro env0 d ⟨h0,h1,h6⟩;obtain⟨hQ,⟨u1,u2⟩,ha,_⟩:=h;simp[ax,aV,Tryz.f87] at hb;have hn:aI [6] (ad b) env0 ((6,.int .i64 ((0:Nat):Int))::env0)=aI [6] (ad b) env0 env0:=by simp[aI,h6]
 rw[←hn];have kl:(kC (kT Q)).length=2*Q.length:=by rw[fK,di]
 have hp:=iq Q u;refine cG (α:=Nat) (fun n=>⟨aI [6] (ad b) env0 ((6,.int .i64 (n:Int))::env0),[.cells false 2 (kC (kT Q))],d⟩) (fun n=>Q.length-n) (fun n=>n≤bh Q u) (.exit 0) _ d _ (by simp) ?_ K 0 (by omega) (by omega);intro n hn1;clear hn;subst hb;by_cases hlt:n<Q.length
 ·obtain⟨q,hq⟩:∃q,Q[n]? =some q:=⟨Q[n],List.getElem?_eq_getElem hlt⟩
  obtain⟨k1,k2,k3⟩:=yZ (Df hq);obtain⟨⟨f1,f2⟩,_⟩:=hQ q (List.mem_of_getElem? hq);have hg:=fa ha n q hq (u:=u);have k4:n*2<(kC (kT Q)).length:=by omega
  have j2:∀h,(kC (kT Q))[n*2]'h=.str (ah q.1):=fun h=>Option.some.inj ((List.getElem?_eq_getElem h).symm.trans k2)
  have w1:IntKind.i64.wrap ((n:Int)+1)=((n+1:Nat):Int):=by rw[aj (by omega) (by omega)];omega
  obtain⟨m,hm⟩:∃m,m=n+1:=⟨_,rfl⟩
  rw[←hm] at w1;by_cases hle:q.1≤u
  ·left
   have c:=qZ.2 hle;have hlt2:=hg.1 hle;refine⟨m,?_⟩;simp[h0,h1,hlt,af,aA,aC,ay,f1,f2,u1,u2,j2,k4,c,w1];omega
  ·right
   have c:¬qY q.1 u≤0:=fun h=>hle (qZ.1 h)
   have e:bh Q u=n:=by
    have:¬n<bh Q u:=fun h=>hle (hg.2 h)
    omega
   rw[e];simp[h0,h1,hlt,af,aA,aC,ay,f1,f2,u1,u2,j2,k4,c]
 ·right
  have e:bh Q u=n:=by omega
  have hlt' :¬(n:Int)<Q.length:=by omega
  rw[e];simp[h0,h1,hlt]
set_option maxRecDepth 8192 in
set_option maxHeartbeats 6400000 in
theorem D2(Q:List (Rat×Rat)) (u:Rat) (h:S3 Q u) (hp:0<Q.length) (hl:Q.length≤1000000000):
  ACallsTo Tryz.prog 87 [.slice 0 0 Q.length none,.str (ah u)] [.cells false 2 (kC (kT Q))] (.tuple [.int .i64 (bh Q u),.str (ah (dM Q u))]) [.cells false 2 (kC (kT Q))]:=by
 have hG:aL Tryz.prog 87=some Tryz.f87:=by kernel_rfl
 obtain⟨b,hb⟩:∃b,ax Tryz.f87=[b]:=⟨_,rfl⟩
 obtain⟨F,hF⟩:=Gg (K:=Q.length+1) Q u h hl (by omega) hb;obtain⟨os,hops⟩:∃os,aE Tryz.f87=os:=⟨_,rfl⟩
 have hbs:=br hops (ls:=[[0,1,3,7,0,31],[0,0,0,4,14,30,62,1,255],[0,0,2,7,15,0,0,96,224,0,0,1567,4095],[0,0,2,7,0,16,0,64,255,511,1023,2047,2047,4095,16383],[0,0,2,0,0,16,0,64,240,504,1022,2047,4095]]) (by kernel_rfl);simp only[aE,bC,Tryz.f87,List.nil_append,List.append_nil,List.cons_append] at hops;subst hops;simp only[List.map_cons,List.map_nil,List.cons.injEq,and_true] at hbs;obtain⟨hb0,hb1,hb2,hb3,hb4⟩:=hbs;have j0:aN [0,1,3,7,0,31] 5=true:=by decide
 have j1:aN [0,0,0,4,14,30,62,1,255] 8=true:=by decide
 have j3:aN [0,0,2,7,0,16,0,64,255,511,1023,2047,2047,4095,16383] 14=true:=by decide
 have j4:aN [0,0,2,0,0,16,0,64,240,504,1022,2047,4095] 12=true:=by decide
 simp[ax,aV,Tryz.f87] at hb;subst hb;have hF1:=fun env0 d h=>(hF env0 d h).1
 have hG6:=fun env0 d h=>(hF env0 d h).2.1
 have hG0:=fun env0 d h=>(hF env0 d h).2.2.1
 have hG1:=fun env0 d h=>(hF env0 d h).2.2.2
 clear hF;obtain⟨hQ,⟨u1,u2⟩,ha,hseg⟩:=h;have kl:(kC (kT Q)).length=2*Q.length:=by rw[fK,di]
 have hle:=iq Q u;have hp' :¬Q.length=0:=by omega
 have hne:¬Q=[]:=by rintro rfl;simp at hp
 obtain⟨n,hn⟩:∃n,n=bh Q u:=⟨_,rfl⟩
 have hget:=fun i q hq=>fa (u:=u) ha i q hq
 rw[←hn] at hle hG6 ⊢;simp only[←hn] at hget;have h:aa (aM Tryz.prog) (fun _=>[6]) (aL Tryz.prog) (af aA) (Q.length+1) 87 [.slice 0 0 Q.length none,.str (ah u)] [.cells false 2 (kC (kT Q))]=some ⟨.tuple [.int .i64 n,.str (ah (dM Q u))],none,[]⟩:=by
  by_cases h0:n=0
  ·obtain⟨q,hq⟩:∃q,Q[0]? =some q:=⟨Q[0],List.getElem?_eq_getElem hp⟩
   obtain⟨k1,k2,k3⟩:=yZ (Df hq);have hv:dM Q u=q.2:=by
    cases Q with
    |nil=>simp at hp
    |cons a l=>
     simp at hq;subst hq;exact vy ha (Rat.not_le.1 fun h=>by have:=(hget 0 a rfl).1 h;omega)
   rw[hv];subst h0;simp at k3;simp[aa,hG,Tryz.f87,hF1,hG6,hG0,hp,hp',k3,-aD,ai hb0,bc,aW,a8,j0]
  ·by_cases hE:n=Q.length
   ·obtain⟨m,hm⟩:∃m,n=m+1:=⟨n-1,by omega⟩
    obtain⟨q,hq⟩:∃q,Q[m]? =some q:=⟨Q[m],List.getElem?_eq_getElem (by omega)⟩
    obtain⟨k1,k2,k3⟩:=yZ (Df hq);have hv:dM Q u=q.2:=BN ha (by omega) hq ((hget m q hq).2 (by omega));rw[hv];have w2:IntKind.i64.wrap ((n:Int)-1)=(m:Int):=by rw[aj (by omega) (by omega)];omega
    have hml:m<Q.length:=by omega
    rw[←hE] at hp' hml hF1 hG6 hG0 hG1 ⊢;simp[aa,hG,Tryz.f87,hF1,hG6,hG0,h0,hml,k3,w2,-aD,ai hb1,bc,aW,a8,j1]
   ·obtain⟨m,hm⟩:∃m,n=m+1:=⟨n-1,by omega⟩
    have hE' :¬(n:Int)=Q.length:=by omega
    obtain⟨a,haq⟩:∃q,Q[m]? =some q:=⟨Q[m],List.getElem?_eq_getElem (by omega)⟩
    obtain⟨b,hbq⟩:∃q,Q[n]? =some q:=⟨Q[n],List.getElem?_eq_getElem (by omega)⟩
    obtain⟨a1,a2,a3⟩:=yZ (Df haq);obtain⟨b1,b2,b3⟩:=yZ (Df hbq);have le1:=(hget m a haq).2 (by omega);have le2:u<b.1:=Rat.not_le.1 fun h=>by have:=(hget n b hbq).1 h;omega
    have hv:=uO ha m a b haq (by rw[←hm];exact hbq) le1 le2;obtain⟨⟨⟨x1,x2⟩,⟨x3,x4⟩,hnz⟩,⟨x5,x6⟩,⟨x7,x8⟩,x9,x10⟩:=hseg m a b haq (by rw[←hm];exact hbq) le1 le2;obtain⟨⟨f1,f2⟩,f3,f4⟩:=hQ a (List.mem_of_getElem? haq);obtain⟨⟨g1,g2⟩,g3,g4⟩:=hQ b (List.mem_of_getElem? hbq);rw[hv];have w2:IntKind.i64.wrap ((n:Int)-1)=(m:Int):=by rw[aj (by omega) (by omega)];omega
    have hml:m<Q.length:=by omega
    have hnl:n<Q.length:=by omega
    have ka:m*2+2≤(kC (kT Q)).length:=by omega
    have kb:n*2+2≤(kC (kT Q)).length:=by omega
    obtain⟨x,hx⟩:∃x,x=u-a.1:=⟨_,rfl⟩
    obtain⟨y,hy⟩:∃x,x=b.1-a.1:=⟨_,rfl⟩
    obtain⟨z,hz⟩:∃x,x=b.2-a.2:=⟨_,rfl⟩
    rw[←hx] at x1 x2 x5 x6 x9 x10 ⊢;rw[←hy] at x3 x4 x5 x6 x9 x10 hnz ⊢;rw[←hz] at x7 x8 x9 x10 ⊢;obtain⟨k,hk⟩:∃k,k=x / y:=⟨_,rfl⟩
    rw[←hk] at x5 x6 x9 x10 ⊢;simp[aa,hG,Tryz.f87,hF1,hG6,hG0,hG1,h0,hp',hE',hml,hnl,a1,b1,ka,kb,w2,af,aA,aC,ay,f1,f2,f3,f4,g1,g2,g3,g4,u1,u2,←hx,←hy,←hz,x1,x2,x3,x4,hnz,←hk,x5,x6,x7,x8,x9,x10,-aD,bD hb2,dy,gr,gf,dx,cj,kQ,bef,mF,ai hb3,ai hb4,bc,aW,a8,j3,j4,Nat.testBit]
 have:=(al ae (aw _) bK (az _) h).1;simpa [CallRes.mem] using this
def zV(n:Z3):V3:=((n.1:Rat),(n.2.1:Rat),(n.2.2:Rat))
def sgB(ar:Bool):Rat:=if ar then -1 else 1
def vf(n:Z3) (o:Int) (v:Z3) (ar:Bool) (p:V3):V3:=if (o:Rat)≤ei (zV n) p then iT p (iM (zV v) (sgB ar)) else p
def Dh(n:Z3) (K:List P2) (v:Z3) (ar:Bool) (p:V3):V3:=iT p (iM (zV v) (sgB ar*dM K (ei (zV n) p)))
def M7(t:Int×Int×Int×Int) (c:Z3) (ar:Bool) (p:V3):V3:=iT (AG (jP t.1 ar) (lR t.2.1 t.2.2.1 t.2.2.2) (iT p (iM (zV c) (-1)))) (zV c)
theorem C7{a b:Rat}:0≤qY a b↔b≤a:=by
 have h:=R5 (a:=a) (b:=b);constructor
 ·intro h1
  exact Rat.not_lt.1 fun h2=>by have:=h.2 h2;omega
 ·intro h1
  have:¬qY a b<0:=fun h2=>absurd (h.1 h2) (Rat.not_lt.2 h1)
  omega
open Classical in
noncomputable def fY(f:FuncId) (args:List AV):Option AV:=
 match f,args with
 |92,[.agg [.int .i64 a,.int .i64 b,.int .i64 c,.int .i64 d],.agg [.str x,.str y,.str z],.bool ar]=>match v3P x y z with
  |some v=>if (de a∧de b∧de c∧de d)∧TurnOk (jP a ar) (lR b c d) v then some (vA (AG (jP a ar) (lR b c d) v)) else none
  |none=>none
 |f,args=>fF f args
theorem qV:OracleOk Tryz.prog (af fY):=bq fun f args v h mem=>by
 unfold fY at h;split at h
 ·split at h
  ·rename_i v hv
   split at h
   ·rename_i hc
    cases h;obtain⟨rfl,rfl,rfl⟩:=dZ hv;exact IF _ _ _ _ _ v hc.1.1 hc.1.2.1 hc.1.2.2.1 hc.1.2.2.2 hc.2 mem
   ·cases h
  ·cases h
 ·have:=yl.fn _ _ mem ⟨v,none,[]⟩ (by unfold af;simp only;rw[h])
  simpa [CallRes.mem] using this
theorem n7:(aE Tryz.f52).map (fun o=>eC o.toList)=[[0,1,3,7,0,31,0,64,192,448,1023,2047],[0,0,2,6,0,30,63,127],[0,1,3,0,8,24,0,120,255,511,1023,1023,2047,8191],[0,0,2,6,0,0,48,126,255,511],[0,1,3,0,0,16,56,0,255,0,1023,2047]]:=by kernel_rfl
structure FaultOk (n:Z3) (o:Int) (v:Z3) (ar:Bool) (p:V3):Prop where
 d:dotOk (zV n) p
 fd:fine (ei (zV n) p)
 o:fine (o:Rat)
 s:Dw (zV v) (sgB ar)
 a:vF p∧vF (iM (zV v) (sgB ar))
set_option maxRecDepth 8192 in
set_option maxHeartbeats 6400000 in
theorem tL(nm:List UInt8) (n:Z3) (o:Int) (v:Z3) (ar:Bool) (p:V3) (h:FaultOk n o v ar p) (M:Mem):
  ACallsTo Tryz.prog 52 [.agg (bm nm n o v),vA p,.bool ar] M (vA (vf n o v ar p)) M:=by
 have hG:aL Tryz.prog 52=some Tryz.f52:=by kernel_rfl
 refine aq qV (lv:=fun _=>[]) (K:=1) rfl rfl ?_ M;obtain⟨d,⟨fd1,fd2⟩,⟨o1,o2⟩,s,a1,a2⟩:=h;obtain⟨os,hops⟩:∃os,aE Tryz.f52=os:=⟨_,rfl⟩
 have hbs:=br hops (ls:=[[0,1,3,7,0,31,0,64,192,448,1023,2047],[0,0,2,6,0,30,63,127],[0,1,3,0,8,24,0,120,255,511,1023,1023,2047,8191],[0,0,2,6,0,0,48,126,255,511],[0,1,3,0,0,16,56,0,255,0,1023,2047]]) n7;simp only[aE,bC,Tryz.f52,List.nil_append,List.append_nil,List.cons_append] at hops;subst hops;simp only[List.map_cons,List.map_nil,List.cons.injEq,and_true] at hbs;obtain⟨hb0,hb1,hb2,hb3,hb4⟩:=hbs;have j0:aN [0,1,3,7,0,31,0,64,192,448,1023,2047] 11=true:=by decide
 have j1:aN [0,0,2,6,0,30,63,127] 7=true:=by decide
 have one1:cV [49]=some 1:=rfl;have one2:cV [45,49]=some (-1):=rfl;unfold vf;obtain⟨N,hN⟩:∃N,N=zV n:=⟨_,rfl⟩
 obtain⟨S,hS⟩:∃N,N=zV v:=⟨_,rfl⟩
 rw[←hN] at d fd1 fd2 ⊢;rw[←hS] at s a2 ⊢;obtain⟨q,hq⟩:∃q:Rat,q=(o:Rat):=⟨_,rfl⟩
 obtain⟨k,hk⟩:∃k,k=sgB ar:=⟨_,rfl⟩
 rw[←hq] at o1 o2 ⊢;rw[←hk] at s a2 ⊢;obtain⟨dt,hdt⟩:∃k,k=ei N p:=⟨_,rfl⟩
 obtain⟨w,hw⟩:∃w,w=iM S k:=⟨_,rfl⟩
 rw[←hdt] at fd1 fd2 ⊢;rw[←hw] at a2 ⊢;unfold zV at hN hS;unfold sgB at hk;by_cases hle:q≤dt
 ·have c:=C7.2 hle
  rw[if_pos hle];cases ar with
  |false=>
   rw[if_neg (by decide)] at hk;rw[←hk] at one1;simp[aa,hG,Tryz.f52,af,fY,fF,aX,aA,aC,vA,bm,zS,nr,ay,←hN,←hS,←hq,←hdt,←hw,one1,d,fd1,fd2,o1,o2,s,a1,a2,c,-aD,ai hb0,ai hb1,bc,aW,a8,j0,j1,Nat.testBit]
  |true=>
   rw[if_pos rfl] at hk;rw[←hk] at one2;simp[aa,hG,Tryz.f52,af,fY,fF,aX,aA,aC,vA,bm,zS,nr,ay,←hN,←hS,←hq,←hdt,←hw,one2,d,fd1,fd2,o1,o2,s,a1,a2,c,-aD,ai hb0,ai hb1,bc,aW,a8,j0,j1,Nat.testBit]
 ·have c:¬0≤qY dt q:=fun h=>hle (C7.1 h)
  rw[if_neg hle];cases ar<;>simp[aa,hG,Tryz.f52,af,fY,fF,aX,aA,aC,vA,bm,zS,nr,ay,←hN,←hq,←hdt,d,fd1,fd2,o1,o2,c,-aD,ai hb0,bc,aW,a8,j0,Nat.testBit]
theorem lf(c:Evc) (hk:c.k=1∨c.k=4) (b u w kn:AV) (hb:b.cellOk=true) (hu:u.cellOk=true) (hs:w.cellOk=true) (hn:kn.cellOk=true) (ar:Bool) (p:V3) (M:Mem):
  ACallsTo Tryz.prog 52 [.agg (c.cells b u w kn),vA p,.bool ar] M (vA p) M:=by
 have hG:aL Tryz.prog 52=some Tryz.f52:=by kernel_rfl
 refine aZ (K:=1) (lv:=fun _=>[]) (ao _) ?_;have hcs:∀s,(AV.str s).cellOk=true:=fun _=>rfl
 have hci:∀k n,(AV.int k n).cellOk=true:=fun _ _=>rfl
 rcases hk with hk | hk<;>cases ar<;>simp[-AV.cellOk,hcs,aa,hG,Tryz.f52,Evc.cells,vA,hk]
structure TiltOk (t:Int×Int×Int×Int) (c:Z3) (ar:Bool) (p:V3):Prop where
 f1:de t.1=true
 f2:de t.2.1=true
 f3:de t.2.2.1=true
 f4:de t.2.2.2=true
 s:Dw (zV c) (-1)
 a:vF p∧vF (iM (zV c) (-1))
 tk:TurnOk (jP t.1 ar) (lR t.2.1 t.2.2.1 t.2.2.2) (iT p (iM (zV c) (-1)))
 b:vF (AG (jP t.1 ar) (lR t.2.1 t.2.2.1 t.2.2.2) (iT p (iM (zV c) (-1))))∧vF (zV c)
set_option maxRecDepth 8192 in
set_option maxHeartbeats 6400000 in
theorem vT(nm:List UInt8) (t:Int×Int×Int×Int) (c:Z3) (ar:Bool) (p:V3) (h:TiltOk t c ar p) (M:Mem):
  ACallsTo Tryz.prog 52 [.agg (cx nm t c),vA p,.bool ar] M (vA (M7 t c ar p)) M:=by
 have hG:aL Tryz.prog 52=some Tryz.f52:=by kernel_rfl
 refine aq qV (lv:=fun _=>[]) (K:=1) rfl rfl ?_ M;obtain⟨f1,f2,f3,f4,s,⟨a1,a2⟩,tk,b1,b2⟩:=h;obtain⟨t1,t2,t3,t4⟩:=t;simp only at f1 f2 f3 f4 tk b1;obtain⟨os,hops⟩:∃os,aE Tryz.f52=os:=⟨_,rfl⟩
 have hbs:=br hops (ls:=[[0,1,3,7,0,31,0,64,192,448,1023,2047],[0,0,2,6,0,30,63,127],[0,1,3,0,8,24,0,120,255,511,1023,1023,2047,8191],[0,0,2,6,0,0,48,126,255,511],[0,1,3,0,0,16,56,0,255,0,1023,2047]]) n7;simp only[aE,bC,Tryz.f52,List.nil_append,List.append_nil,List.cons_append] at hops;subst hops;simp only[List.map_cons,List.map_nil,List.cons.injEq,and_true] at hbs;obtain⟨hb0,hb1,hb2,hb3,hb4⟩:=hbs;have j4:aN [0,1,3,0,0,16,56,0,255,0,1023,2047] 11=true:=by decide
 have one2:cV [45,49]=some (-1):=rfl;unfold M7;simp only;obtain⟨C,hC⟩:∃N,N=zV c:=⟨_,rfl⟩
 rw[←hC] at s a2 tk b1 b2 ⊢;obtain⟨k,hk⟩:∃k:Rat,k= -1:=⟨_,rfl⟩
 rw[←hk] at s a2 tk b1 one2 ⊢;obtain⟨w,hw⟩:∃w,w=iM C k:=⟨_,rfl⟩
 rw[←hw] at a2 tk b1 ⊢;obtain⟨q,hq⟩:∃q,q=iT p w:=⟨_,rfl⟩
 rw[←hq] at tk b1 ⊢;obtain⟨r,hr⟩:∃w,w=AG (jP t1 ar) (lR t2 t3 t4) q:=⟨_,rfl⟩
 rw[←hr] at b1 ⊢;unfold zV at hC;cases ar<;>simp[aa,hG,Tryz.f52,af,fY,fF,aX,vA,cx,zS,nr,←hC,←hw,←hq,←hr,one2,f1,f2,f3,f4,s,a1,a2,tk,b1,b2,-aD,ai hb4,bc,aW,a8,j4,Nat.testBit]
structure FoldOk (n:Z3) (L:List P2) (v:Z3) (ar:Bool) (p:V3):Prop where
 d:dotOk (zV n) p
 fd:fine (ei (zV n) p)
 kn:S3 L (ei (zV n) p)
 w:fine (dM L (ei (zV n) p))
 k:fine (sgB ar)
 s:Dw (zV v) (sgB ar*dM L (ei (zV n) p))
 a:vF p∧vF (iM (zV v) (sgB ar*dM L (ei (zV n) p)))
theorem BS{M:Mem}{b:Nat}{o:Bool}{L:List P2}{u:Rat}(hp:0<L.length) (hl:L.length≤1000) (hb:M[b]? =some (.cells o 2 (kC (kT L)))) (h:S3 L u):
  ACallsTo Tryz.prog 87 [.slice b 0 L.length none,.str (ah u)] M (.tuple [.int .i64 (bh L u),.str (ah (dM L u))]) M:=by
 have kl:=di L;have e:∀b,AV.slice b 0 L.length none=.slice b 0 (kT L).length none:=fun b=>by rw[kl]
 have h0:=D2 L u h hp (by omega);rw[e 0] at h0;rw[e b];exact PX rfl rfl h0 ⟨b,o,_,rfl,hb,List.take_of_length_le (by rw[fK];omega)⟩
set_option maxRecDepth 8192 in
set_option maxHeartbeats 6400000 in
theorem tM(nm:List UInt8) (n:Z3) (L:List P2) (v:Z3) (ar:Bool) (p:V3) (h:FoldOk n L v ar p) (hp:0<L.length) (hl:L.length≤1000):
  ACallsTo Tryz.prog 52 [.agg (bt nm n (.slice 0 0 L.length none) v),vA p,.bool ar] [.cells false 2 (kC (kT L))] (vA (Dh n L v ar p)) [.cells false 2 (kC (kT L))]:=by
 have hG:aL Tryz.prog 52=some Tryz.f52:=by kernel_rfl
 obtain⟨d,⟨fd1,fd2⟩,kn,⟨w1,w2⟩,⟨k1,k2⟩,s,a1,a2⟩:=h;have hO:OracleOk Tryz.prog (Oracle.or (cw 87 [.slice 0 0 L.length none,.str (ah (ei (zV n) p))] (.tuple [.int .i64 (bh L (ei (zV n) p)),.str (ah (dM L (ei (zV n) p)))]) (fun N=>∃Z,N=Slot.cells false 2 (kC (kT L))::Z)) (af fY)):=
  OracleOk.or (cS fun N ⟨Z,hZ⟩=>by subst hZ;exact BS hp hl (b:=0) (o:=false) rfl kn) qV
 obtain⟨os,hops⟩:∃os,aE Tryz.f52=os:=⟨_,rfl⟩
 have hbs:=br hops (ls:=[[0,1,3,7,0,31,0,64,192,448,1023,2047],[0,0,2,6,0,30,63,127],[0,1,3,0,8,24,0,120,255,511,1023,1023,2047,8191],[0,0,2,6,0,0,48,126,255,511],[0,1,3,0,0,16,56,0,255,0,1023,2047]]) n7;simp only[aE,bC,Tryz.f52,List.nil_append,List.append_nil,List.cons_append] at hops;subst hops;simp only[List.map_cons,List.map_nil,List.cons.injEq,and_true] at hbs;obtain⟨hb0,hb1,hb2,hb3,hb4⟩:=hbs;have j2:aN [0,1,3,0,8,24,0,120,255,511,1023,1023,2047,8191] 13=true:=by decide
 have j3:aN [0,0,2,6,0,0,48,126,255,511] 9=true:=by decide
 have one1:cV [49]=some 1:=rfl;have one2:cV [45,49]=some (-1):=rfl;unfold Dh;obtain⟨N,hN⟩:∃N,N=zV n:=⟨_,rfl⟩
 obtain⟨S,hS⟩:∃N,N=zV v:=⟨_,rfl⟩
 rw[←hN] at d fd1 fd2 kn w1 w2 s a2 hO ⊢;rw[←hS] at s a2 ⊢;obtain⟨u,hu⟩:∃u,u=ei N p:=⟨_,rfl⟩
 rw[←hu] at fd1 fd2 kn w1 w2 s a2 hO ⊢;obtain⟨x,hx⟩:∃x,x=dM L u:=⟨_,rfl⟩
 rw[←hx] at w1 w2 s a2 hO ⊢;obtain⟨pn,hpn⟩:∃x,x=bh L u:=⟨_,rfl⟩
 rw[←hpn] at hO;obtain⟨k,hk⟩:∃k,k=sgB ar:=⟨_,rfl⟩
 rw[←hk] at k1 k2 s a2 ⊢;obtain⟨y,hy⟩:∃y,y=k*x:=⟨_,rfl⟩
 rw[←hy] at s a2 ⊢;obtain⟨z,hz⟩:∃z,z=iM S y:=⟨_,rfl⟩
 rw[←hz] at a2 ⊢;unfold zV at hN hS;unfold sgB at hk;have h:aa (aM Tryz.prog) (fun _=>[]) (aL Tryz.prog) (Oracle.or (cw 87 [.slice 0 0 L.length none,.str (ah u)] (.tuple [.int .i64 pn,.str (ah x)]) (fun N=>∃Z,N=Slot.cells false 2 (kC (kT L))::Z)) (af fY)) 1 52 [.agg (bt nm n (.slice 0 0 L.length none) v),vA p,.bool ar] [.cells false 2 (kC (kT L))]=some ⟨vA (iT p z),none,[]⟩:=by
  clear hO;cases ar with
  |false=>
   rw[if_neg (by decide)] at hk;rw[←hk] at one1;simp[aa,hG,Tryz.f52,Oracle.or,cw,af,fY,fF,aX,aA,aC,vA,bt,zS,nr,ay,←hN,←hS,←hu,←hy,←hz,one1,d,w1,w2,k1,k2,s,a1,a2,-aD,ai hb2,ai hb3,bc,aW,a8,j2,j3,Nat.testBit]
  |true=>
   rw[if_pos rfl] at hk;rw[←hk] at one2;simp[aa,hG,Tryz.f52,Oracle.or,cw,af,fY,fF,aX,aA,aC,vA,bt,zS,nr,ay,←hN,←hS,←hu,←hy,←hz,one2,d,w1,w2,k1,k2,s,a1,a2,-aD,ai hb2,ai hb3,bc,aW,a8,j2,j3,Nat.testBit]
 have:=(al ae (aw _) hO (az _) h).1;simpa [CallRes.mem] using this
theorem vR(nm:List UInt8) (n:Z3) (L:List P2) (v:Z3) (ar:Bool) (p:V3) (h:FoldOk n L v ar p) (hp:0<L.length) (hl:L.length≤1000) (M:Mem) (b:Nat) (o:Bool) (hb:M[b]? =some (.cells o 2 (kC (kT L)))):
  ACallsTo Tryz.prog 52 [.agg (bt nm n (.slice b 0 L.length none) v),vA p,.bool ar] M (vA (Dh n L v ar p)) M:=by
 have lb:=(List.getElem?_eq_some_iff.1 hb).1;have:=ACallsTo.frame (M:=M) (new:=[]) [b] rfl (by simpa using lb) (by rfl) (fun i t hs=>by
  match i with
  |0=>simp at hs;subst hs;exact zz (o:=o) hb (List.take_of_length_le (by rw[fK];rw[di];omega))
  |i+1=>simp at hs) rfl (tM nm n L v ar p h hp hl)
 simpa [bt,vA,AV.rens,AV.ren,Go.Eng.ar] using this
def S4(a b:Rat×Rat):Prop:=(b.1-a.1≠0∧fine (b.2-a.2)∧fine (b.1-a.1))∧fine ((b.2-a.2) / (b.1-a.1))∧fine ((b.2-a.2) / (b.1-a.1)*a.1)
def TG(Q:List (Rat×Rat)):Prop:=O5 Q∧∀(i:Nat) a b,Q[i]? =some a→Q[i+1]? =some b→S4 a b
theorem JW{Q:List (Rat×Rat)}{i:Nat}{q:Rat×Rat}(h:Q[i]? =some q):Q.getD i (0,0)=q:=by simp[List.getD,h]
set_option maxHeartbeats 1600000 in
theorem Iw(Q:List (Rat×Rat)) (n:Nat) (hn:n≤Q.length) (hQ:TG Q) (hl:Q.length≤1000000000):
  ACallsTo Tryz.prog 112 [.slice 0 0 Q.length none,.int .i64 n] [.cells false 2 (kC (kT Q))] (.tuple [.str (ah (jO Q n).1),.str (ah (jO Q n).2)]) [.cells false 2 (kC (kT Q))]:=by
 have hG:aL Tryz.prog 112=some Tryz.f112:=by kernel_rfl
 have z:ah 0=[48]:=rfl;refine aZ (K:=1) (lv:=fun _=>[]) bK ?_;have kl:(kC (kT Q)).length=2*Q.length:=by rw[fK,di]
 unfold jO;by_cases h0:Q=[]
 ·subst h0
  simp[aa,hG,Tryz.f112,z]
 ·have hp:0<Q.length:=List.length_pos_iff.2 h0
  have hp' :¬Q.length=0:=by omega
  rw[if_neg h0];by_cases hz:n=0
  ·subst hz
   obtain⟨q,hq⟩:∃q,Q[0]? =some q:=⟨Q[0],List.getElem?_eq_getElem hp⟩
   obtain⟨k1,k2,k3⟩:=yZ (Df hq);rw[if_pos rfl,JW hq];simp at k3;simp[aa,hG,Tryz.f112,z,h0,hp,k3]
  ·rw[if_neg hz]
   obtain⟨m,rfl⟩:∃m,n=m+1:=⟨n-1,by omega⟩
   obtain⟨a,ha⟩:∃q,Q[m]? =some q:=⟨Q[m],List.getElem?_eq_getElem (by omega)⟩
   obtain⟨a1,a2,a3⟩:=yZ (Df ha);have w2:IntKind.i64.wrap (((m+1:Nat):Int)-1)=(m:Int):=by rw[aj (by omega) (by omega)];omega
   have e1:m+1-1=m:=by omega
   rw[e1,JW ha];have hm:m<Q.length:=by omega
   by_cases hE:m+1=Q.length
   ·rw[if_pos hE]
    rw[hE] at w2 ⊢;simp[aa,hG,Tryz.f112,z,hp',hm,a3,w2]
   ·rw[if_neg hE]
    have hE' :¬((m:Int)+1=Q.length):=by omega
    obtain⟨b,hb⟩:∃q,Q[m+1]? =some q:=⟨Q[m+1],List.getElem?_eq_getElem (by omega)⟩
    obtain⟨b1,b2,b3⟩:=yZ (Df hb);rw[JW hb];obtain⟨⟨hnz,⟨i1,i2⟩,i3,i4⟩,⟨j1,j2⟩,j3,j4⟩:=hQ.2 m a b ha hb;obtain⟨⟨f1,f2⟩,f3,f4⟩:=hQ.1 a (List.mem_of_getElem? ha);obtain⟨⟨g1,g2⟩,g3,g4⟩:=hQ.1 b (List.mem_of_getElem? hb);unfold zH;obtain⟨x,hx⟩:∃x,x=b.2-a.2:=⟨_,rfl⟩
    obtain⟨y,hy⟩:∃y,y=b.1-a.1:=⟨_,rfl⟩
    rw[←hx] at i1 i2 j1 j2 j3 j4 ⊢;rw[←hy] at i3 i4 j1 j2 j3 j4 hnz ⊢;obtain⟨s,hs⟩:∃s,s=x / y:=⟨_,rfl⟩
    rw[←hs] at j1 j2 j3 j4 ⊢;obtain⟨t,ht⟩:∃t,t=s*a.1:=⟨_,rfl⟩
    rw[←ht] at j3 j4 ⊢;have ka:m*2+2≤(kC (kT Q)).length:=by omega
    have kb:(m+1)*2+2≤(kC (kT Q)).length:=by omega
    obtain⟨v,hv⟩:∃v,v=m+1:=⟨_,rfl⟩
    rw[←hv] at hE b1 kb w2 ⊢;have hEI:¬(v:Int)=Q.length:=by omega
    have v0:¬v=0:=by omega
    have vl:v<Q.length:=by omega
    simp[aa,hG,Tryz.f112,hp',hm,hEI,v0,vl,a1,b1,ka,kb,w2,af,aA,aC,ay,f1,f2,f3,f4,g1,g2,g3,g4,←hx,←hy,i1,i2,i3,i4,hnz,←hs,j1,j2,j3,j4,←ht,Nat.testBit]
def Qa(Q:List (Rat×Rat)) (u:Rat):Prop:=(TG Q∧fine u)∧(fine (jO Q (bh Q u)).1∧fine (jO Q (bh Q u)).2)∧fine ((jO Q (bh Q u)).2*u)
theorem DW{M:Mem}{b:Nat}{o:Bool}{L:List P2}{u:Rat}(hp:0<L.length) (hl:L.length≤1000) (hb:M[b]? =some (.cells o 2 (kC (kT L)))) (h:Qa L u):
  ACallsTo Tryz.prog 72 [.slice b 0 L.length none,.str (ah u)] M (.str (ah (dM L u))) M:=by
 have hG:aL Tryz.prog 72=some Tryz.f72:=by kernel_rfl
 have kl:=di L;have e:∀b,AV.slice b 0 L.length none=.slice b 0 (kT L).length none:=fun b=>by rw[kl]
 obtain⟨⟨hQ,fu⟩,⟨⟨f1,f2⟩,f3,f4⟩,f5,f6⟩:=h;have row:TR M (.slice b 0 (kT L).length none) (kT L):=⟨b,o,_,rfl,hb,List.take_of_length_le (by rw[fK];omega)⟩;have h1:=BR L u hQ.1 fu (by omega);have h2:=Iw L (bh L u) (iq L u) hQ (by omega);rw[e 0] at h1 h2;have h1:=PX rfl rfl h1 row;have h2:=PX rfl rfl h2 row;rw[←e b] at h1 h2;have hO:OracleOk Tryz.prog (Oracle.or (cw 113 [.slice b 0 L.length none,.str (ah u)] (.int .i64 (bh L u)) (fun N=>N=M)) (Oracle.or (cw 112 [.slice b 0 L.length none,.int .i64 (bh L u)] (.tuple [.str (ah (jO L (bh L u)).1),.str (ah (jO L (bh L u)).2)]) (fun N=>N=M)) (af aA))):=
  OracleOk.or (cS fun N hN=>by subst hN;exact h1) (OracleOk.or (cS fun N hN=>by subst hN;exact h2) bK)
 unfold dM;obtain⟨n,hn⟩:∃n,n=bh L u:=⟨_,rfl⟩
 rw[←hn] at f1 f2 f3 f4 f5 f6 hO ⊢;obtain⟨c,hc⟩:∃c,c=(jO L n).1:=⟨_,rfl⟩
 obtain⟨s,hs⟩:∃c,c=(jO L n).2:=⟨_,rfl⟩
 rw[←hc] at f1 f2 hO ⊢;rw[←hs] at f3 f4 f5 f6 hO ⊢;obtain⟨u1,u2⟩:=fu;obtain⟨t,ht⟩:∃t,t=s*u:=⟨_,rfl⟩
 rw[←ht] at f5 f6 ⊢;have h:aa (aM Tryz.prog) (fun _=>[]) (aL Tryz.prog) (Oracle.or (cw 113 [.slice b 0 L.length none,.str (ah u)] (.int .i64 n) (fun N=>N=M)) (Oracle.or (cw 112 [.slice b 0 L.length none,.int .i64 n] (.tuple [.str (ah c),.str (ah s)]) (fun N=>N=M)) (af aA))) 1 72 [.slice b 0 L.length none,.str (ah u)] M=some ⟨.str (ah (c+t)),none,[]⟩:=by clear hO;simp[aa,hG,Tryz.f72,Oracle.or,cw,af,aA,aC,ay,u1,u2,f1,f2,f3,f4,f5,f6,←ht]
 have:=(al ae (aw _) hO (az _) h).1;simpa [CallRes.mem] using this
end Go.Proofs
