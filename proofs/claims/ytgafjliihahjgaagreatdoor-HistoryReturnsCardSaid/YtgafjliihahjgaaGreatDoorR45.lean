/- See R54. -/
import Derived.Test.YtgafjliihahjgaaGreatDoorR41
import Derived.Test.YtgafjliihahjgaaGreatDoorR32
import Derived.Test.YtgafjliihahjgaaGreatDoorR44
set_option linter.all false
set_option maxRecDepth 100000
set_option maxHeartbeats 40000000
namespace Go.Proofs
open Go.Eng
open Tryz
def XL(M:Mem) (x:AV) (L:List (List UInt8×List UInt8)):Prop:=∃b o cs,x=.slice b 0 L.length none∧M[b]? =some (.cells o 2 cs)∧cs.take (2*L.length)=kC L
theorem Si(n:Nat):∀L:List (List UInt8×List UInt8),AV.aeQ n (kC L)=true
 | []=>by simp[kC,AV.aeQ]
 |k::L=>by simp[kC,AV.aeQ,AV.under,Si n L]
theorem UG:∀{L:List (List UInt8×List UInt8)}{i:Nat}{v:AV}(f:Nat→Option Nat),(kC L)[i]? =some v→v.ren f=v:=by
 intro L i v f h;have h1:=Vj f L;rw[fV] at h1;have:((kC L).map (AV.ren f))[i]? =(kC L)[i]? :=by rw[h1]
 rw[List.getElem?_map,h] at this;simpa using this
variable{L:List (List UInt8×List UInt8)}{M:Mem}
theorem Bt{ks:List Nat}{b:Nat}{o:Bool}{cs:List AV}(h:M[b]? =some (.cells o 2 cs))(ht:cs.take (2*L.length)=kC L):so ks M b (.cells false 2 (kC L)):=by
 refine⟨Si _ _,o,cs,h,fun j v hv=>?_⟩;have hj:j<2*L.length:=by have:=(gL hv);rw[fF] at this;exact this
 have:cs[j]? =(kC L)[j]? :=by rw[←ht,List.getElem?_take_of_lt hj]
 rw[this,hv,UG _ hv]
theorem W8{P:Program}{f:FuncId}{x:AV}{rest:List AV}{v:AV}(hr:AV.aeG rest=true)(hv:v.closed=true)(h:kF P f (.slice 0 0 L.length none::rest) [.cells false 2 (kC L)] v [.cells false 2 (kC L)])(hx:XL M x L):kF P f (x::rest) M v M:=by
 obtain⟨b,o,cs,rfl,hb,ht⟩:=hx;have A':=(gL hb);have hu:AV.aeQ [b].length (.slice 0 0 L.length none::rest)=true:=by
  show(decide (0<1)&&AV.aeQ 1 rest)=true
  rw[cH hr];rfl
 have:=kF.frame (M:=M) (new:=[]) [b] (m:=[.cells false 2 (kC L)]) rfl (by simpa using A') hu (fun i s hs=>by
  cases i with
  |zero=>simp at hs;subst hs;exact Bt hb ht
  |succ i=>simp at hs) rfl (by simpa using h)
 have hvr:v.ren (aF [b] M.length)=v:=by have:=bQ (vs:=[v]) (ρ:=aF [b] M.length) (by simp[AV.aeG,hv]);simpa [AV.aeM] using this
 simpa [AV.aeM,AV.ren,aF,bQ hr,hvr] using this
def W9(a b:Rat×Rat) (u:Rat):Prop:=(aeF (u-a.1)∧aeF (b.1-a.1)∧b.1-a.1≠0)∧aeF ((u-a.1) / (b.1-a.1))∧aeF (b.2-a.2)∧aeF ((u-a.1) / (b.1-a.1)*(b.2-a.2))
def Wx(Q:List (Rat×Rat)) (u:Rat):Prop:=VX Q∧aeF u∧asc Q∧∀(i:Nat) a b,Q[i]? =some a→Q[i+1]? =some b→a.1≤u→u<b.1→W9 a b u
theorem fU:∀{Q:List (Rat×Rat)}{u:Rat},asc Q→∀(i:Nat) q,Q[i]? =some q→(q.1≤u↔i<bS Q u)
 | [],u,_,i,q,h=>by simp at h
 |a::l,u,ha,i,q,h=>by
  by_cases h0:a.1≤u
  ·have e:bS (a::l) u=bS l u+1:=by rw[bS,if_pos h0,Nat.add_comm]
   cases i with
   |zero=>simp at h;subst h;exact⟨fun _=>by omega,fun _=>h0⟩
   |succ i=>
    have:=fU (EX ha) i q (by simpa using h) (u:=u);rw[e,this];omega
  ·have e:bS (a::l) u=0:=qG ha (by simpa using Rat.not_le.1 h0)
   rw[e];refine⟨fun hq=>absurd ?_ h0,fun h=>by omega⟩;cases i with
   |zero=>simp at h;subst h;exact hq
   |succ i=>
    have key:∀{l:List (Rat×Rat)}{a:Rat×Rat},asc (a::l)→∀(i:Nat) q,l[i]? =some q→a.1≤q.1:=by
     intro l;induction l with
     |nil=>intro a _ i q h;simp at h
     |cons b l ih=>
      intro a h i q hq;have h1:=h.1;cases i with
      |zero=>simp at hq;subst hq;grind
      |succ i=>
       have:=ih h.2 i q (by simpa using hq)
       grind
    have:=key ha i q (by simpa using h)
    grind
theorem w6:∀{Q:List (Rat×Rat)}{u:Rat},asc Q→∀(m:Nat) a b,Q[m]? =some a→Q[m+1]? =some b→a.1≤u→u<b.1→fL Q u=a.2+(u-a.1) / (b.1-a.1)*(b.2-a.2)
 | [],u,_,m,a,b,h,_,_,_=>by simp at h
 | [q],u,_,m,a,b,_,h,_,_=>by simp at h
 |q::r::l,u,ha,m,a,b,h1,h2,h3,h4=>by
  cases m with
  |zero=>simp at h1 h2;subst h1 h2;exact KR ha h3 h4
  |succ m=>
   have hr:r.1≤u:=by have:=(fU (u:=u) ha.2 m a (by simpa using h1)).1 h3;exact(fU ha.2 0 r rfl).2 (by omega)
   rw[MY ha hr];exact w6 ha.2 m a b (by simpa using h1) (by simpa using h2) h3 h4
theorem DO:∀{Q:List (Rat×Rat)}{u:Rat}{m:Nat}{a:Rat×Rat},asc Q→Q.length=m+1→Q[m]? =some a→a.1≤u→fL Q u=a.2:=by
 intro Q u m a ha hl hm hu;have h1:=(fU ha m a hm).1 hu;have h2:=ns Q u;have e:bS Q u=Q.length:=by omega
 have PP:Q≠[]:=by rintro rfl;simp at hl
 unfold fL tL;rw[e,if_neg PP,if_neg (by omega),if_pos rfl];have e2:Q.length-1=m:=by omega
 simp only[e2];rw[show Q.getD m (0,0)=a by simp[List.getD,hm],Rat.zero_mul,Rat.add_zero]
theorem xL{a:Rat×Rat}{l:List (Rat×Rat)}{u:Rat}(ha:asc (a::l))(hu:u<a.1):fL (a::l) u=a.2:=by have e:bS (a::l) u=0:=qG ha (by simpa using hu);unfold fL tL;rw[e];simp[Rat.zero_mul,Rat.add_zero]
theorem Iz{K:Nat}(Q:List (Rat×Rat))(u:Rat)(h:Wx Q u)(hl:Q.length≤1000000000)(hK:Q.length<K){b:Code}(hb:ai f87=[b]):
  ∃F:Env→Bool→Env,∀z' d,(ab z' 0=.slice 0 0 Q.length none∧ab z' 1=.str (aw u)∧ab z' 6=.int .i64 0)→
   aN (aM prog) (fun _=>[6]) (ag ao) K 83 1 true (.loop b) ⟨z',[.cells false 2 (kC (kT Q))],d⟩=some (.exit 0,⟨F z' d,[.cells false 2 (kC (kT Q))],d⟩)∧
    ab (F z' d) 6=.int .i64 (bS Q u)∧ab (F z' d) 0=.slice 0 0 Q.length none∧ab (F z' d) 1=.str (aw u):=by
 refine cv rfl (fun z'=>ab z' 0=.slice 0 0 Q.length none∧ab z' 1=.str (aw u)∧ab z' 6=.int .i64 0) (fun _ AC =>ab AC 6=.int .i64 (bS Q u)∧ab AC 0=.slice 0 0 Q.length none∧ab AC 1=.str (aw u)) ?_;rintro z' d ⟨h0,h1,h6⟩;obtain⟨hQ,⟨u1,u2⟩,ha,_⟩:=h;simp[ai,aK,f87] at hb;have hn:aD [6] (aa b) z' ((6,.int .i64 ((0:Nat):Int))::z')=aD [6] (aa b) z' z':=by simp[aD,h6]
 rw[←hn];have kl:(kC (kT Q)).length=2*Q.length:=by rw[fF,fG]
 have hp:=ns Q u;refine cV (α:=Nat) (fun n=>⟨aD [6] (aa b) z' ((6,.int .i64 (n:Int))::z'),[.cells false 2 (kC (kT Q))],d⟩) (fun n=>Q.length-n) (fun n=>n≤bS Q u) (.exit 0) _ d _ (by simp) ?_ K 0 (by omega) (by omega);intro n Za;clear hn;subst hb;by_cases A':n<Q.length
 ·obtain⟨q,hq⟩:∃q,Q[n]? =some q:=⟨Q[n],List.getElem?_eq_getElem A'⟩
  obtain⟨k1,k2,k3⟩:=Mt (Sj hq);obtain⟨⟨f1,f2⟩,_⟩:=hQ q (List.mem_of_getElem? hq);have hg:=fU ha n q hq (u:=u);have k4:n*2<(kC (kT Q)).length:=by omega
  have j2:∀h,(kC (kT Q))[n*2]'h=.str (aw q.1):=gE k2
  have w1:IntKind.i64.wrap ((n:Int)+1)=((n+1:Nat):Int):=by rw[al (by omega) (by omega)];omega
  obtain⟨m,hm⟩:∃m,m=n+1:=⟨_,rfl⟩
  rw[←hm] at w1;by_cases X7:q.1≤u
  ·left
   have c:=tH.2 X7;have abx:=hg.1 X7;refine⟨m,?_⟩;simp[h0,h1,A',ag,ao,aH,aB,f1,f2,u1,u2,j2,k4,c,w1];omega
  ·right
   have c:¬mo q.1 u≤0:=fun h=>X7 (tH.1 h)
   have e:bS Q u=n:=by
    have:¬n<bS Q u:=fun h=>X7 (hg.2 h)
    omega
   rw[e];simp[h0,h1,A',ag,ao,aH,aB,f1,f2,u1,u2,j2,k4,c]
 ·right
  have e:bS Q u=n:=by omega
  have X5 :¬(n:Int)<Q.length:=by omega
  rw[e];simp[h0,h1,A']
theorem F0(Q:List (Rat×Rat))(u:Rat)(h:Wx Q u)(hp:0<Q.length)(hl:Q.length≤1000000000):
  kF prog 87 [.slice 0 0 Q.length none,.str (aw u)] [.cells false 2 (kC (kT Q))] (.tuple [.int .i64 (bS Q u),.str (aw (fL Q u))]) [.cells false 2 (kC (kT Q))]:=by
 have hG:aT prog 87=some f87:=by kernel_rfl
 obtain⟨b,hb⟩:∃b,ai f87=[b]:=⟨_,rfl⟩
 obtain⟨F,hF⟩:=Iz (K:=Q.length+1) Q u h hl (by omega) hb;have IR:=bj (rfl:aG f87=_) (ls:=[[0,1,3,7,0,31],[0,0,0,4,14,30,62,1,255],[0,0,2,7,15,0,0,96,224,0,0,1567,4095],[0,0,2,7,0,16,0,64,255,511,1023,2047,2047,4095,16383],[0,0,2,0,0,16,0,64,240,504,1022,2047,4095]]) (by kernel_rfl);simp only[aG,bF,f87,List.nil_append,List.append_nil,List.cons_append,List.map_cons,List.map_nil,List.cons.injEq,and_true] at IR;obtain⟨XY,hb1,Yl,ZP,hb4⟩:=IR;have j0:aX [0,1,3,7,0,31] 5=true:=by decide
 have j1:aX [0,0,0,4,14,30,62,1,255] 8=true:=by decide
 have j3:aX [0,0,2,7,0,16,0,64,255,511,1023,2047,2047,4095,16383] 14=true:=by decide
 have j4:aX [0,0,2,0,0,16,0,64,240,504,1022,2047,4095] 12=true:=by decide
 simp[ai,aK,f87] at hb;subst hb;have I':=fun z' d h=>(hF z' d h).1
 have hG6:=fun z' d h=>(hF z' d h).2.1
 have hG0:=fun z' d h=>(hF z' d h).2.2.1
 have hG1:=fun z' d h=>(hF z' d h).2.2.2
 clear hF;obtain⟨hQ,⟨u1,u2⟩,ha,hseg⟩:=h;have kl:(kC (kT Q)).length=2*Q.length:=by rw[fF,fG]
 have X7:=ns Q u;have hp' :¬Q.length=0:=by omega
 have PP:¬Q=[]:=by rintro rfl;simp at hp
 obtain⟨n,hn⟩:∃n,n=bS Q u:=⟨_,rfl⟩
 have Yk:=fun i q hq=>fU (u:=u) ha i q hq
 rw[←hn] at X7 hG6 ⊢;simp only[←hn] at Yk;have h:ad (aM prog) (fun _=>[6]) (aT prog) (ag ao) (Q.length+1) 87 [.slice 0 0 Q.length none,.str (aw u)] [.cells false 2 (kC (kT Q))]=some ⟨.tuple [.int .i64 n,.str (aw (fL Q u))],none,[]⟩:=by
  by_cases h0:n=0
  ·obtain⟨q,hq⟩:∃q,Q[0]? =some q:=⟨Q[0],List.getElem?_eq_getElem hp⟩
   obtain⟨k1,k2,k3⟩:=Mt (Sj hq);have hv:fL Q u=q.2:=by
    cases Q with
    |nil=>simp at hp
    |cons a l=>
     simp at hq;subst hq;exact xL ha (Rat.not_le.1 fun h=>by have:=(Yk 0 a rfl).1 h;omega)
   rw[hv];subst h0;simp at k3;simp[ad,hG,f87,I',hG6,hG0,hp,hp',k3,-aE,aj XY,bn,bf,bm,j0]
  ·by_cases hE:n=Q.length
   ·obtain⟨m,hm⟩:∃m,n=m+1:=⟨n-1,by omega⟩
    obtain⟨q,hq⟩:∃q,Q[m]? =some q:=⟨Q[m],List.getElem?_eq_getElem (by omega)⟩
    obtain⟨k1,k2,k3⟩:=Mt (Sj hq);have hv:fL Q u=q.2:=DO ha (by omega) hq ((Yk m q hq).2 (by omega));rw[hv];have w2:IntKind.i64.wrap ((n:Int)-1)=(m:Int):=by rw[al (by omega) (by omega)];omega
    have hml:m<Q.length:=by omega
    rw[←hE] at hp' hml I' hG6 hG0 hG1 ⊢;simp[ad,hG,f87,I',hG6,hG0,h0,hml,k3,w2,-aE,aj hb1,bn,bf,bm,j1]
   ·obtain⟨m,hm⟩:∃m,n=m+1:=⟨n-1,by omega⟩
    have Yb :¬(n:Int)=Q.length:=by omega
    obtain⟨a,haq⟩:∃q,Q[m]? =some q:=⟨Q[m],List.getElem?_eq_getElem (by omega)⟩
    obtain⟨b,hbq⟩:∃q,Q[n]? =some q:=⟨Q[n],List.getElem?_eq_getElem (by omega)⟩
    obtain⟨a1,a2,a3⟩:=Mt (Sj haq);obtain⟨b1,b2,b3⟩:=Mt (Sj hbq);have le1:=(Yk m a haq).2 (by omega);have le2:u<b.1:=Rat.not_le.1 fun h=>by have:=(Yk n b hbq).1 h;omega
    have hv:=w6 ha m a b haq (by rw[←hm];exact hbq) le1 le2;obtain⟨⟨⟨x1,x2⟩,⟨x3,x4⟩,hnz⟩,⟨x5,x6⟩,⟨x7,x8⟩,x9,x10⟩:=hseg m a b haq (by rw[←hm];exact hbq) le1 le2;obtain⟨⟨f1,f2⟩,f3,f4⟩:=hQ a (List.mem_of_getElem? haq);obtain⟨⟨g1,g2⟩,g3,g4⟩:=hQ b (List.mem_of_getElem? hbq);rw[hv];have w2:IntKind.i64.wrap ((n:Int)-1)=(m:Int):=by rw[al (by omega) (by omega)];omega
    have hml:m<Q.length:=by omega
    have hnl:n<Q.length:=by omega
    have ka:m*2+2≤(kC (kT Q)).length:=by omega
    have kb:n*2+2≤(kC (kT Q)).length:=by omega
    obtain⟨x,hx⟩:∃x,x=u-a.1:=⟨_,rfl⟩
    obtain⟨y,hy⟩:∃x,x=b.1-a.1:=⟨_,rfl⟩
    obtain⟨z,hz⟩:∃x,x=b.2-a.2:=⟨_,rfl⟩
    rw[←hx] at x1 x2 x5 x6 x9 x10 ⊢;rw[←hy] at x3 x4 x5 x6 x9 x10 hnz ⊢;rw[←hz] at x7 x8 x9 x10 ⊢;obtain⟨k,hk⟩:∃k,k=x / y:=⟨_,rfl⟩
    rw[←hk] at x5 x6 x9 x10 ⊢;simp[ad,hG,f87,I',hG6,hG0,hG1,h0,hp',Yb,hml,hnl,a1,b1,ka,kb,w2,ag,ao,aH,aB,f1,f2,f3,f4,g1,g2,g3,g4,u1,u2,←hx,←hy,←hz,x1,x2,x3,x4,hnz,←hk,x5,x6,x7,x8,x9,x10,-aE,aY Yl,cO,jN,fz,cY,bW,iT,bef,oU,aj ZP,aj hb4,bn,bf,bm,j3,j4,Nat.testBit]
 have:=(ak ae (aq _) bP (au _) h).1;simpa [HS.mem] using this
def zV(n:Z3):V3:=((n.1:Rat),(n.2.1:Rat),(n.2.2:Rat))
def sgB(aF:Bool):Rat:=if aF then -1 else 1
def xv(n:Z3) (o:Int) (v:Z3) (aF:Bool) (p:V3):V3:=if (o:Rat)≤eX (zV n) p then oY p (jR (zV v) (sgB aF)) else p
def Fk(n:Z3) (K:List P2) (v:Z3) (aF:Bool) (p:V3):V3:=oY p (jR (zV v) (sgB aF*fL K (eX (zV n) p)))
def Kg(t:Int×Int×Int×Int) (c:Z3) (aF:Bool) (p:V3):V3:=oY (CB (lG t.1 aF) (nA t.2.1 t.2.2.1 t.2.2.2) (oY p (jR (zV c) (-1)))) (zV c)
theorem Mi{a b:Rat}:0≤mo a b↔b≤a:=by
 have h:=E7 (a:=a) (b:=b);constructor
 ·intro h1
  exact Rat.not_lt.1 fun h2=>by have:=h.2 h2;omega
 ·intro h1
  have:¬mo a b<0:=fun h2=>absurd (h.1 h2) (Rat.not_lt.2 h1)
  omega
open Classical in
noncomputable def de(f:FuncId) (args:List AV):Option AV:=
 match f,args with
 |92,[.agg [.int .i64 a,.int .i64 b,.int .i64 c,.int .i64 d],.agg [.str x,.str y,.str z],.bool aF]=>match v3P x y z with
  |some v=>if (dH a∧dH b∧dH c∧dH d)∧afO (lG a aF) (nA b c d) v then some (vA (CB (lG a aF) (nA b c d) v)) else none
  |none=>none
 |f,args=>dF f args
theorem jf:kP prog (ag de):=bK fun f args v h mem=>by
 unfold de at h;split at h
 ·split at h
  ·rename_i v hv
   split at h
   ·rename_i hc
    cases h;obtain⟨rfl,rfl,rfl⟩:=fB hv;exact K6 _ _ _ _ _ v hc.1.1 hc.1.2.1 hc.1.2.2.1 hc.1.2.2.2 hc.2 mem
   ·cases h
  ·cases h
 ·have:=Af.fn _ _ mem ⟨v,none,[]⟩ (by unfold ag;simp only;rw[h])
  simpa [HS.mem] using this
theorem pO:(aG f52).map (fun o=>eY o.toList)=[[0,1,3,7,0,31,0,64,192,448,1023,2047],[0,0,2,6,0,30,63,127],[0,1,3,0,8,24,0,120,255,511,1023,1023,2047,8191],[0,0,2,6,0,0,48,126,255,511],[0,1,3,0,0,16,56,0,255,0,1023,2047]]:=by kernel_rfl
structure aga (n:Z3) (o:Int) (v:Z3) (aF:Bool) (p:V3):Prop where
 d:ae3 (zV n) p
 fd:aeF (eX (zV n) p)
 o:aeF (o:Rat)
 s:FB (zV v) (sgB aF)
 a:vF p∧vF (jR (zV v) (sgB aF))
theorem agb:aT prog 52=some f52:=by kernel_rfl
theorem vK(nm:List UInt8)(n:Z3)(o:Int)(v:Z3)(aF:Bool)(p:V3)(h:aga n o v aF p)(M:Mem):
  kF prog 52 [.agg (cb nm n o v),vA p,.bool aF] M (vA (xv n o v aF p)) M:=by
 refine az jf (lv:=fun _=>[]) (K:=1) rfl rfl ?_ M;obtain⟨d,⟨fd1,fd2⟩,⟨o1,o2⟩,s,a1,a2⟩:=h;obtain⟨os,FS⟩:∃os,aG f52=os:=⟨_,rfl⟩
 have IR:=bj FS (ls:=[[0,1,3,7,0,31,0,64,192,448,1023,2047],[0,0,2,6,0,30,63,127],[0,1,3,0,8,24,0,120,255,511,1023,1023,2047,8191],[0,0,2,6,0,0,48,126,255,511],[0,1,3,0,0,16,56,0,255,0,1023,2047]]) pO;simp only[aG,bF,f52,List.nil_append,List.append_nil,List.cons_append] at FS;subst FS;simp only[List.map_cons,List.map_nil,List.cons.injEq,and_true] at IR;obtain⟨XY,hb1,Yl,ZP,hb4⟩:=IR;have j0:aX [0,1,3,7,0,31,0,64,192,448,1023,2047] 11=true:=by decide
 have j1:aX [0,0,2,6,0,30,63,127] 7=true:=by decide
 have aal:dJ [49]=some 1:=rfl;have aaw:dJ [45,49]=some (-1):=rfl;unfold xv;obtain⟨N,hN⟩:∃N,N=zV n:=⟨_,rfl⟩
 obtain⟨S,hS⟩:∃N,N=zV v:=⟨_,rfl⟩
 rw[←hN] at d fd1 fd2 ⊢;rw[←hS] at s a2 ⊢;obtain⟨q,hq⟩:∃q:Rat,q=(o:Rat):=⟨_,rfl⟩
 obtain⟨k,hk⟩:∃k,k=sgB aF:=⟨_,rfl⟩
 rw[←hq] at o1 o2 ⊢;rw[←hk] at s a2 ⊢;obtain⟨dt,hdt⟩:∃k,k=eX N p:=⟨_,rfl⟩
 obtain⟨w,hw⟩:∃w,w=jR S k:=⟨_,rfl⟩
 rw[←hdt] at fd1 fd2 ⊢;rw[←hw] at a2 ⊢;unfold zV at hN hS;unfold sgB at hk;by_cases X7:q≤dt
 ·have c:=Mi.2 X7
  rw[if_pos X7];cases aF with
  |false=>
   rw[if_neg (by decide)] at hk;rw[←hk] at aal;simp[ad,agb,f52,ag,de,dF,cR,ao,aH,vA,cb,zS,vq,aB,←hN,←hS,←hq,←hdt,←hw,aal,d,fd1,fd2,o1,o2,s,a1,a2,c,-aE,aj XY,aj hb1,bn,bf,bm,j0,j1,Nat.testBit]
  |true=>
   rw[if_pos rfl] at hk;rw[←hk] at aaw;simp[ad,agb,f52,ag,de,dF,cR,ao,aH,vA,cb,zS,vq,aB,←hN,←hS,←hq,←hdt,←hw,aaw,d,fd1,fd2,o1,o2,s,a1,a2,c,-aE,aj XY,aj hb1,bn,bf,bm,j0,j1,Nat.testBit]
 ·have c:¬0≤mo dt q:=fun h=>X7 (Mi.1 h)
  rw[if_neg X7];cases aF<;>simp[ad,agb,f52,ag,de,dF,cR,ao,aH,vA,cb,zS,vq,aB,←hN,←hq,←hdt,d,fd1,fd2,o1,o2,c,-aE,aj XY,bn,bf,bm,j0,Nat.testBit]
theorem mR(c:Evc)(hk:c.k=1∨c.k=4)(b u w kn:AV)(hb:b.kS=true)(hu:u.kS=true)(hs:w.kS=true)(hn:kn.kS=true)(aF:Bool)(p:V3)(M:Mem):
  kF prog 52 [.agg (c.cells b u w kn),vA p,.bool aF] M (vA p) M:=by
 refine bB (K:=1) (lv:=fun _=>[]) (ah _) ?_;have YO:∀s,(AV.str s).kS=true:=fun _=>rfl
 have hci:∀k n,(AV.int k n).kS=true:=fun _ _=>rfl
 rcases hk with hk | hk<;>cases aF<;>simp[-AV.kS,YO,ad,agb,f52,Evc.cells,vA,hk]
structure agm (t:Int×Int×Int×Int) (c:Z3) (aF:Bool) (p:V3):Prop where
 f1:dH t.1=true
 f2:dH t.2.1=true
 f3:dH t.2.2.1=true
 f4:dH t.2.2.2=true
 s:FB (zV c) (-1)
 a:vF p∧vF (jR (zV c) (-1))
 tk:afO (lG t.1 aF) (nA t.2.1 t.2.2.1 t.2.2.2) (oY p (jR (zV c) (-1)))
 b:vF (CB (lG t.1 aF) (nA t.2.1 t.2.2.1 t.2.2.2) (oY p (jR (zV c) (-1))))∧vF (zV c)
theorem xZ(nm:List UInt8)(t:Int×Int×Int×Int)(c:Z3)(aF:Bool)(p:V3)(h:agm t c aF p)(M:Mem):
  kF prog 52 [.agg (dB nm t c),vA p,.bool aF] M (vA (Kg t c aF p)) M:=by
 refine az jf (lv:=fun _=>[]) (K:=1) rfl rfl ?_ M;obtain⟨f1,f2,f3,f4,s,⟨a1,a2⟩,tk,b1,b2⟩:=h;obtain⟨t1,t2,t3,t4⟩:=t;simp only at f1 f2 f3 f4 tk b1;obtain⟨os,FS⟩:∃os,aG f52=os:=⟨_,rfl⟩
 have IR:=bj FS (ls:=[[0,1,3,7,0,31,0,64,192,448,1023,2047],[0,0,2,6,0,30,63,127],[0,1,3,0,8,24,0,120,255,511,1023,1023,2047,8191],[0,0,2,6,0,0,48,126,255,511],[0,1,3,0,0,16,56,0,255,0,1023,2047]]) pO;simp only[aG,bF,f52,List.nil_append,List.append_nil,List.cons_append] at FS;subst FS;simp only[List.map_cons,List.map_nil,List.cons.injEq,and_true] at IR;obtain⟨XY,hb1,Yl,ZP,hb4⟩:=IR;have j4:aX [0,1,3,0,0,16,56,0,255,0,1023,2047] 11=true:=by decide
 have aaw:dJ [45,49]=some (-1):=rfl;unfold Kg;simp only;obtain⟨C,hC⟩:∃N,N=zV c:=⟨_,rfl⟩
 rw[←hC] at s a2 tk b1 b2 ⊢;obtain⟨k,hk⟩:∃k:Rat,k= -1:=⟨_,rfl⟩
 rw[←hk] at s a2 tk b1 aaw ⊢;obtain⟨w,hw⟩:∃w,w=jR C k:=⟨_,rfl⟩
 rw[←hw] at a2 tk b1 ⊢;obtain⟨q,hq⟩:∃q,q=oY p w:=⟨_,rfl⟩
 rw[←hq] at tk b1 ⊢;obtain⟨r,hr⟩:∃w,w=CB (lG t1 aF) (nA t2 t3 t4) q:=⟨_,rfl⟩
 rw[←hr] at b1 ⊢;unfold zV at hC;cases aF<;>simp[ad,agb,f52,ag,de,dF,cR,vA,dB,zS,vq,←hC,←hw,←hq,←hr,aaw,f1,f2,f3,f4,s,a1,a2,tk,b1,b2,-aE,aj hb4,bn,bf,bm,j4,Nat.testBit]
abbrev I4:=Int×Int×Int×Int
def lx(t:I4) (aF:Bool):I4:=if aF then (t.1,-t.2.1,-t.2.2.1,-t.2.2.2) else t
def W7(t:I4):List Int:=
 [t.1*t.1+t.2.1*t.2.1-t.2.2.1*t.2.2.1-t.2.2.2*t.2.2.2,2*(t.2.1*t.2.2.1-t.1*t.2.2.2),2*(t.2.1*t.2.2.2+t.1*t.2.2.1),
  2*(t.2.1*t.2.2.1+t.1*t.2.2.2),t.1*t.1-t.2.1*t.2.1+t.2.2.1*t.2.2.1-t.2.2.2*t.2.2.2,2*(t.2.2.1*t.2.2.2-t.1*t.2.1),
  2*(t.2.1*t.2.2.2-t.1*t.2.2.1),2*(t.2.2.1*t.2.2.2+t.1*t.2.1),t.1*t.1-t.2.1*t.2.1-t.2.2.1*t.2.2.1+t.2.2.2*t.2.2.2]
def xI(t:I4):Nat:=(t.1*t.1+t.2.1*t.2.1+t.2.2.1*t.2.2.1+t.2.2.2*t.2.2.2).toNat
def dmB(n:Int) (g:Nat):Bool:=(g==2&&n%2==0&&decide (-142≤n)&&decide (n≤142))||(g==4&&n%4==0&&decide (-142≤n)&&decide (n≤142))||(g==5&&(n==0||n==5))||(g==10&&(n==0||n==10))
abbrev M3:=V3×V3×V3
def vL(v:V3):List AV:=[.str (aw v.1),.str (aw v.2.1),.str (aw v.2.2)]
def KW(r:M3) (v:V3):V3:=(eX r.1 v,eX r.2.1 v,eX r.2.2 v)
def Wy(a b:V3):V3:=(a.1-b.1,a.2.1-b.2.1,a.2.2-b.2.2)
def KD(t:I4):M3:=
 ((mkRat (t.1*t.1+t.2.1*t.2.1-t.2.2.1*t.2.2.1-t.2.2.2*t.2.2.2) (xI t),mkRat (2*(t.2.1*t.2.2.1-t.1*t.2.2.2)) (xI t),mkRat (2*(t.2.1*t.2.2.2+t.1*t.2.2.1)) (xI t)),
  (mkRat (2*(t.2.1*t.2.2.1+t.1*t.2.2.2)) (xI t),mkRat (t.1*t.1-t.2.1*t.2.1+t.2.2.1*t.2.2.1-t.2.2.2*t.2.2.2) (xI t),mkRat (2*(t.2.2.1*t.2.2.2-t.1*t.2.1)) (xI t)),
  (mkRat (2*(t.2.1*t.2.2.2-t.1*t.2.2.1)) (xI t),mkRat (2*(t.2.2.1*t.2.2.2+t.1*t.2.1)) (xI t),mkRat (t.1*t.1-t.2.1*t.2.1-t.2.2.1*t.2.2.1+t.2.2.2*t.2.2.2) (xI t)))
def mOk(r:M3) (v:V3):Prop:=ae3 r.1 v∧ae3 r.2.1 v∧ae3 r.2.2 v
theorem iK{v:V3}(h:vC v)(M:Mem):kF prog 14 [vA v] M (.int .i64 0) M:=by have:=lO (aw v.1) (aw v.2.1) (aw v.2.2) h.2.1 h.2.2.1 h.2.2.2 M;rw[h.1] at this;exact this
structure agI (r:M3) (c:V3):Prop where
 ck:vC c
 m:mOk r c
 f:vF c∧vF (KW r c)
 s:vC (Wy c (KW r c))
end Go.Proofs
