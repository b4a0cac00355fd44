/- See F54. -/
import Derived.Test.YtgafjliihahjgaaGreatDoorF36
import Derived.Test.YtgafjliihahjgaaGreatDoorF27
import Derived.Test.YtgafjliihahjgaaGreatDoorF39
set_option linter.all false
set_option maxRecDepth 100000
set_option maxHeartbeats 40000000
namespace Go.Proofs
open Go.Eng
open Tryz
def ZT(M:Mem)(x:AV)(L:List (List UInt8×List UInt8)):Prop:=∃b o Z,x=.slice b 0 L.length none∧M[b]? =some (.cells o 2 Z)∧Z.take (2*L.length)=kC L
theorem UA(n:Nat):∀L:List (List UInt8×List UInt8),AV.afa n (kC L)=true
 | []=>by simp[kC,AV.afa]
 |k::L=>by simp[kC,AV.afa,AV.under,UA n L]
theorem WO:∀{L:List (List UInt8×List UInt8)} {i:Nat} {v:AV} (f:Nat→Option Nat),(kC L)[i]? =some v→v.ren f=v:=by
 intro L i v f h;have Z:=Uz f L;rw[gb] at Z;have:((kC L).map (AV.ren f))[i]? =(kC L)[i]? :=by rw[Z]
 rw[List.getElem?_map,h] at this;simpa using this
variable{L:List (List UInt8×List UInt8)}{M:Mem}
theorem rK{ks:List Nat}{b:Nat}{o:Bool}{cs:List AV}(h:M[b]? =some (.cells o 2 cs))(A:cs.take (2*L.length)=kC L):tI ks M b (.cells false 2 (kC L)):=by
 refine⟨UA _ _,o,cs,h,fun j v Z=>?_⟩;have X:j<2*L.length:=by have:=gL Z;rw[fB] at this;exact this
 have:cs[j]? =(kC L)[j]? :=by rw[←A,List.getElem?_take_of_lt X]
 rw[this,Z,WO _ Z]
theorem P7{P:Program}{f:FuncId}{x:AV}{rest:List AV}{v:AV}(A:AV.ae0 rest=true)(G:v.closed=true)(h:kO P f (.slice 0 0 L.length none::rest) [.cells false 2 (kC L)] v [.cells false 2 (kC L)])(H:ZT M x L):kO P f (x::rest) M v M:=by
 obtain⟨b,o,O,rfl,W,V⟩:=H;have S:=gL W;have hu:AV.afa [b].length (.slice 0 0 L.length none::rest)=true:=by
  show(decide (0<1)&&AV.afa 1 rest)=true
  rw[cI A];rfl
 have:=kO.frame (M:=M) (new:=[]) [b] (m:=[.cells false 2 (kC L)]) rfl (by simpa using S) hu (fun i s Z=>by
  cases i with
  |zero=>simp at Z;subst Z;exact rK W V
  |succ i=>simp at Z) rfl (by simpa using h)
 have X:v.ren (dL [b] M.length)=v:=by have:=ca (vs:=[v]) (ρ:=dL [b] M.length) (by simp[AV.ae0,G]);simpa [AV.ae3] using this
 simpa [AV.ae3,AV.ren,dL,ca A,X] using this
def Zh(a b:Rat×Rat)(u:Rat):Prop:=(aeZ (u-a.1)∧aeZ (b.1-a.1)∧b.1-a.1≠0)∧aeZ ((u-a.1) / (b.1-a.1))∧aeZ (b.2-a.2)∧aeZ ((u-a.1) / (b.1-a.1)*(b.2-a.2))
def YJ(Q:List (Rat×Rat))(u:Rat):Prop:=OG Q∧aeZ u∧asc Q∧∀(i:Nat) a b,Q[i]? =some a→Q[i+1]? =some b→a.1≤u→u<b.1→Zh a b u
theorem ga:∀{Q:List (Rat×Rat)} {u:Rat},asc Q→∀(i:Nat) q,Q[i]? =some q→(q.1≤u↔i<bc Q u)
 | [],u,_,i,q,h=>by simp at h
 |a::l,u,ha,i,q,h=>by
  by_cases Z:a.1≤u
  ·have e:bc (a::l) u=bc l u+1:=by rw[bc,if_pos Z,Nat.add_comm]
   cases i with
   |zero=>simp at h;subst h;exact⟨fun _=>by omega,fun _=>Z⟩
   |succ i=>
    have:=ga (GA ha) i q (by simpa using h) (u:=u);rw[e,this];omega
  ·have e:bc (a::l) u=0:=rD ha (by simpa using Rat.not_le.1 Z)
   rw[e];refine⟨fun hq=>absurd ?_ Z,fun h=>by omega⟩;cases i with
   |zero=>simp at h;subst h;exact hq
   |succ i=>
    have X:∀{l:List (Rat×Rat)}{a:Rat×Rat},asc (a::l)→∀(i:Nat) q,l[i]? =some q→a.1≤q.1:=by
     intro l;induction l with
     |nil=>intro a _ i q h;simp at h
     |cons b l ih=>
      intro a h i q hq;have W:=h.1;cases i with
      |zero=>simp at hq;subst hq;grind
      |succ i=>
       have:=ih h.2 i q (by simpa using hq)
       grind
    have:=X ha i q (by simpa using h)
    grind
theorem xS:∀{Q:List (Rat×Rat)} {u:Rat},asc Q→∀(m:Nat) a b,Q[m]? =some a→Q[m+1]? =some b→a.1≤u→u<b.1→ej Q u=a.2+(u-a.1) / (b.1-a.1)*(b.2-a.2)
 | [],u,_,m,a,b,h,_,_,_=>by simp at h
 | [q],u,_,m,a,b,_,h,_,_=>by simp at h
 |q::r::l,u,ha,m,a,b,h1,h2,h3,h4=>by
  cases m with
  |zero=>simp at h1 h2;subst h1 h2;exact ML ha h3 h4
  |succ m=>
   have Z:r.1≤u:=by have:=(ga (u:=u) ha.2 m a (by simpa using h1)).1 h3;exact(ga ha.2 0 r rfl).2 (by omega)
   rw[Pk ha Z];exact xS ha.2 m a b (by simpa using h1) (by simpa using h2) h3 h4
theorem EZ:∀{Q:List (Rat×Rat)} {u:Rat} {m:Nat} {a:Rat×Rat},asc Q→Q.length=m+1→Q[m]? =some a→a.1≤u→ej Q u=a.2:=by
 intro Q u m a X W Z hu;have O:=(ga X m a Z).1 hu;have K:=gl Q u;have e:bc Q u=Q.length:=by omega
 have V:Q≠[]:=by rintro rfl;simp at W
 unfold ej lH;rw[e,if_neg V,if_neg (by omega),if_pos rfl];have S:Q.length-1=m:=by omega
 simp only[S];rw[show Q.getD m (0,0)=a by simp[List.getD,Z],Rat.zero_mul,Rat.add_zero]
theorem yT{a:Rat×Rat}{l:List (Rat×Rat)}{u:Rat}(A:asc (a::l))(hu:u<a.1):ej (a::l) u=a.2:=by have e:bc (a::l) u=0:=rD A (by simpa using hu);unfold ej lH;rw[e];simp[Rat.zero_mul,Rat.add_zero]
theorem Kl{K:Nat}(Q:List (Rat×Rat))(u:Rat)(h:YJ Q u)(G:Q.length≤1000000000)(hK:Q.length<K){b:Code}(A:ai f87=[b]):
  ∃F:Env→Bool→Env,∀Z d,(ad Z 0=.slice 0 0 Q.length none∧ad Z 1=.str (ak u)∧ad Z 6=.int .i64 0)→
   aM (aN prog) (fun _=>[6]) (af aj) K 83 1 true (.loop b) ⟨Z,[.cells false 2 (kC (kT Q))],d⟩=some (.exit 0,⟨F Z d,[.cells false 2 (kC (kT Q))],d⟩)∧
    ad (F Z d) 6=.int .i64 (bc Q u)∧ad (F Z d) 0=.slice 0 0 Q.length none∧ad (F Z d) 1=.str (ak u):=by
 refine cD rfl (fun Z=>ad Z 0=.slice 0 0 Q.length none∧ad Z 1=.str (ak u)∧ad Z 6=.int .i64 0) (fun _ V =>ad V 6=.int .i64 (bc Q u)∧ad V 0=.slice 0 0 Q.length none∧ad V 1=.str (ak u)) ?_;rintro Z d ⟨h0,h1,h6⟩;obtain⟨hQ,⟨S,O⟩,z,_⟩:=h;simp[ai,aG,f87] at A;have J:aD [6] (ab b) Z ((6,.int .i64 ((0:Nat):Int))::Z)=aD [6] (ab b) Z Z:=by simp[aD,h6]
 rw[←J];have kl:(kC (kT Q)).length=2*Q.length:=by rw[fB,cM]
 have hp:=gl Q u;refine dh (α:=Nat) (fun n=>⟨aD [6] (ab b) Z ((6,.int .i64 (n:Int))::Z),[.cells false 2 (kC (kT Q))],d⟩) (fun n=>Q.length-n) (fun n=>n≤bc Q u) (.exit 0) _ d _ (by simp) ?_ K 0 (by omega) (by omega);intro n j;clear J;subst A;by_cases W:n<Q.length
 ·obtain⟨q,hq⟩:∃q,Q[n]? =some q:=⟨Q[n],List.getElem?_eq_getElem W⟩
  obtain⟨k1,Y,k3⟩:=Ca (GU hq);obtain⟨⟨f1,f2⟩,_⟩:=hQ q (List.mem_of_getElem? hq);have D:=ga z n q hq (u:=u);have C:n*2<(kC (kT Q)).length:=by omega
  have B:∀h,(kC (kT Q))[n*2]'h=.str (ak q.1):=gE Y
  have w1:IntKind.i64.wrap ((n:Int)+1)=((n+1:Nat):Int):=by rw[aq];omega
  obtain⟨m,R⟩:=xE (n+1);rw[←R] at w1;by_cases X:q.1≤u
  ·left
   have c:=oI.2 X;have I:=D.1 X;refine⟨m,?_⟩;simp[h0,h1,W,af,aj,az,ao,f1,f2,S,O,B,C,c,w1];omega
  ·right
   have c:¬jQ q.1 u≤0:=fun h=>X (oI.1 h)
   have e:bc Q u=n:=by
    have:¬n<bc Q u:=fun h=>X (D.2 h)
    omega
   rw[e];simp[h0,h1,W,af,aj,az,ao,f1,f2,S,O,B,C,c]
 ·right
  have e:bc Q u=n:=by omega
  have H :¬(n:Int)<Q.length:=by omega
  rw[e];simp[h0,h1,W]
theorem HQ(Q:List (Rat×Rat))(u:Rat)(h:YJ Q u)(hp:0<Q.length)(hl:Q.length≤1000000000):
  kO prog 87 [.slice 0 0 Q.length none,.str (ak u)] [.cells false 2 (kC (kT Q))] (.tuple [.int .i64 (bc Q u),.str (ak (ej Q u))]) [.cells false 2 (kC (kT Q))]:=by
 have hG:aK prog 87=some f87:=by kernel_rfl
 obtain⟨b,hb⟩:∃b,ai f87=[b]:=⟨_,rfl⟩
 obtain⟨F,B⟩:=Kl (K:=Q.length+1) Q u h hl (by omega) hb;obtain⟨os,Do⟩:∃os,aC f87=os:=⟨_,rfl⟩
 have I':=be Do (ls:=[[0,1,3,7,0,31],[0,0,0,4,14,30,62,1,255],[0,0,2,7,15,0,0,96,224,0,0,1567,4095],[0,0,2,7,0,16,0,64,255,511,1023,2047,2047,4095,16383],[0,0,2,0,0,16,0,64,240,504,1022,2047,4095]]) (by kernel_rfl);simp only[aC,bn,f87,lA] at Do;subst Do;simp only[lB] at I';obtain⟨Z9,hb1,hb2,hb3,hb4⟩:=I';have j0:ba [0,1,3,7,0,31] 5=true:=by decide
 have j1:ba [0,0,0,4,14,30,62,1,255] 8=true:=by decide
 have j3:ba [0,0,2,7,0,16,0,64,255,511,1023,2047,2047,4095,16383] 14=true:=by decide
 have j4:ba [0,0,2,0,0,16,0,64,240,504,1022,2047,4095] 12=true:=by decide
 simp[ai,aG,f87] at hb;subst hb;have J':=fun D d h=>(B D d h).1
 have Z:=fun D d h=>(B D d h).2.1
 have O:=fun D d h=>(B D d h).2.2.1
 have j:=fun D d h=>(B D d h).2.2.2
 clear B;obtain⟨hQ,⟨u1,u2⟩,ha,Y⟩:=h;have kl:(kC (kT Q)).length=2*Q.length:=by rw[fB,cM]
 have hle:=gl Q u;have C :¬Q.length=0:=by omega
 have S':¬Q=[]:=by rintro rfl;simp at hp
 obtain⟨n,hn⟩:=xE (bc Q u);have X:=fun i q hq=>ga (u:=u) ha i q hq
 rw[←hn] at hle Z ⊢;simp only[←hn] at X;have h:aa (aN prog) (fun _=>[6]) (aK prog) (af aj) (Q.length+1) 87 [.slice 0 0 Q.length none,.str (ak u)] [.cells false 2 (kC (kT Q))]=some ⟨.tuple [.int .i64 n,.str (ak (ej Q u))],none,[]⟩:=by
  by_cases h0:n=0
  ·obtain⟨q,hq⟩:∃q,Q[0]? =some q:=⟨Q[0],List.getElem?_eq_getElem hp⟩
   obtain⟨k1,k2,k3⟩:=Ca (GU hq);have R:ej Q u=q.2:=by
    cases Q with
    |nil=>simp at hp
    |cons a l=>
     simp at hq;subst hq;exact yT ha (Rat.not_le.1 fun h=>by have:=(X 0 a rfl).1 h;omega)
   rw[R];subst h0;simp at k3;simp[aa,hG,f87,J',Z,O,hp,C,k3,-aB,ag Z9,aS,aO,aP,j0]
  ·by_cases hE:n=Q.length
   ·obtain⟨m,hm⟩:∃m,n=m+1:=⟨n-1,by omega⟩
    obtain⟨q,hq⟩:∃q,Q[m]? =some q:=⟨Q[m],List.getElem?_eq_getElem (by omega)⟩
    obtain⟨k1,k2,k3⟩:=Ca (GU hq);have R:ej Q u=q.2:=EZ ha (by omega) hq ((X m q hq).2 (by omega));rw[R];have w2:IntKind.i64.wrap ((n:Int)-1)=(m:Int):=by rw[aq];omega
    have J:m<Q.length:=by omega
    rw[←hE] at C J J' Z O j ⊢;simp[aa,hG,f87,J',Z,O,h0,J,k3,w2,-aB,ag hb1,aS,aO,aP,j1]
   ·obtain⟨m,hm⟩:∃m,n=m+1:=⟨n-1,by omega⟩
    have hE' :¬(n:Int)=Q.length:=by omega
    obtain⟨a,W⟩:∃q,Q[m]? =some q:=⟨Q[m],List.getElem?_eq_getElem (by omega)⟩
    obtain⟨b,V⟩:∃q,Q[n]? =some q:=⟨Q[n],List.getElem?_eq_getElem (by omega)⟩
    obtain⟨a1,a2,a3⟩:=Ca (GU W);obtain⟨b1,b2,b3⟩:=Ca (GU V);have I:=(X m a W).2 (by omega);have H:u<b.1:=Rat.not_le.1 fun h=>by have:=(X n b V).1 h;omega
    have R:=xS ha m a b W (by rw[←hm];exact V) I H;obtain⟨⟨⟨x1,x2⟩,⟨x3,x4⟩,G⟩,⟨x5,x6⟩,⟨x7,x8⟩,A,S⟩:=Y m a b W (by rw[←hm];exact V) I H;obtain⟨⟨f1,f2⟩,f3,f4⟩:=hQ a (List.mem_of_getElem? W);obtain⟨⟨g1,g2⟩,g3,g4⟩:=hQ b (List.mem_of_getElem? V);rw[R];have w2:IntKind.i64.wrap ((n:Int)-1)=(m:Int):=by rw[aq];omega
    have J:m<Q.length:=by omega
    have hnl:n<Q.length:=by omega
    have ka:m*2+2≤(kC (kT Q)).length:=by omega
    have kb:n*2+2≤(kC (kT Q)).length:=by omega
    obtain⟨x,hx⟩:=xE (u-a.1);obtain⟨y,hy⟩:=xE (b.1-a.1);obtain⟨z,hz⟩:=xE (b.2-a.2);rw[←hx] at x1 x2 x5 x6 A S ⊢;rw[←hy] at x3 x4 x5 x6 A S G ⊢;rw[←hz] at x7 x8 A S ⊢;obtain⟨k,hk⟩:=xE (x / y);rw[←hk] at x5 x6 A S ⊢;simp[aa,hG,f87,J',Z,O,j,h0,C,hE',J,hnl,a1,b1,ka,kb,w2,af,aj,az,ao,f1,f2,f3,f4,g1,g2,g3,g4,u1,u2,←hx,←hy,←hz,x1,x2,x3,x4,G,←hk,x5,x6,x7,x8,A,S,-aB,aF hb2,bX,ib,dH,cj,bR,gd,bef,oM,ag hb3,ag hb4,aS,aO,aP,j3,j4,Nat.testBit]
 have:=(ah ae (ar _) bj (au _) h).1;simpa [aeQ.mem] using this
def zV(n:Z3):V3:=((n.1:Rat),(n.2.1:Rat),(n.2.2:Rat))
def sgB(A:Bool):Rat:=if A then -1 else 1
def yC(n:Z3)(o:Int)(v:Z3)(A:Bool)(p:V3):V3:=if (o:Rat)≤da (zV n) p then j9 p (jR (zV v) (sgB A)) else p
def GZ(n:Z3)(K:List P2)(v:Z3)(A:Bool)(p:V3):V3:=j9 p (jR (zV v) (sgB A*ej K (da (zV n) p)))
def RX(t:Int×Int×Int×Int)(c:Z3)(A:Bool)(p:V3):V3:=j9 (DP (lJ t.1 A) (nU t.2.1 t.2.2.1 t.2.2.2) (j9 p (jR (zV c) (-1)))) (zV c)
theorem xw{a b:Rat}:0≤jQ a b↔b≤a:=by
 have h:=BQ (a:=a) (b:=b);constructor
 ·intro X
  exact Rat.not_lt.1 fun Z=>by have:=h.2 Z;omega
 ·intro X
  have:¬jQ a b<0:=fun Z=>absurd (h.1 Z) (Rat.not_lt.2 X)
  omega
open Classical in
noncomputable def dz(f:FuncId)(args:List AV):Option AV:=
 match f,args with
 |92,[.agg [.int .i64 a,.int .i64 b,.int .i64 c,.int .i64 d],.agg [.str x,.str y,.str z],.bool bck]=>match v3P x y z with
  |some v=>if (dU a∧dU b∧dU c∧dU d)∧agf (lJ a bck) (nU b c d) v then some (vA (DP (lJ a bck) (nU b c d) v)) else none
  |none=>none
 |f,args=>dR f args
theorem jj:HS prog (af dz):=bH fun f Z v h mem=>by
 unfold dz at h;split at h
 ·split at h
  ·rename_i v X
   split at h
   ·rename_i hc
    cases h;obtain⟨rfl,rfl,rfl⟩:=fE X;exact M8 _ _ _ _ _ v hc.1.1 hc.1.2.1 hc.1.2.2.1 hc.1.2.2.2 hc.2 mem
   ·cases h
  ·cases h
 ·have:=Bp.fn _ _ mem ⟨v,none,[]⟩ (by unfold af;simp only;rw[h])
  simpa [aeQ.mem] using this
theorem qB:(aC f52).map (fun o=>dB o.toList)=[[0,1,3,7,0,31,0,64,192,448,1023,2047],[0,0,2,6,0,30,63,127],[0,1,3,0,8,24,0,120,255,511,1023,1023,2047,8191],[0,0,2,6,0,0,48,126,255,511],[0,1,3,0,0,16,56,0,255,0,1023,2047]]:=by kernel_rfl
structure agz (n:Z3)(o:Int)(v:Z3)(bck:Bool)(p:V3):Prop where
 d:afg (zV n) p
 fd:aeZ (da (zV n) p)
 o:aeZ (o:Rat)
 s:Hj (zV v) (sgB bck)
 a:vF p∧vF (jR (zV v) (sgB bck))
theorem agA:aK prog 52=some f52:=by kernel_rfl
theorem wZ(nm:List UInt8)(n:Z3)(o:Int)(v:Z3)(A:Bool)(p:V3)(h:agz n o v A p)(M:Mem):
  kO prog 52 [.agg (bo nm n o v),vA p,.bool A] M (vA (yC n o v A p)) M:=by
 refine aA jj ?_ M;obtain⟨d,⟨Z,X⟩,⟨B,z⟩,s,I,K⟩:=h;obtain⟨H,m⟩:∃H,aC f52=H:=⟨_,rfl⟩
 have G:=be m qB;simp only[aC,bn,f52,lA] at m;subst m;simp only[lB] at G;obtain⟨j,J,hb2,hb3,hb4⟩:=G;have Y:ba [0,1,3,7,0,31,0,64,192,448,1023,2047] 11=true:=by decide
 have j1:ba [0,0,2,6,0,30,63,127] 7=true:=by decide
 have F:dC [49]=some 1:=rfl;have D:dC [45,49]=some (-1):=rfl;unfold yC;obtain⟨N,C⟩:=xE (zV n);obtain⟨S,u⟩:=xE (zV v);rw[←C] at d Z X ⊢;rw[←u] at s K ⊢;obtain⟨q,hq⟩:=xE (α:=Rat) (o:Rat);obtain⟨k,O⟩:=xE (sgB A);rw[←hq] at B z ⊢;rw[←O] at s K ⊢;obtain⟨dt,W⟩:=xE (da N p);obtain⟨w,R⟩:=xE (jR S k);rw[←W] at Z X ⊢;rw[←R] at K ⊢;unfold zV at C u;unfold sgB at O;by_cases V:q≤dt
 ·have c:=xw.2 V
  rw[if_pos V];cases A with
  |false=>
   rw[if_neg (by decide)] at O;rw[←O] at F;simp[aa,agA,f52,af,dz,dR,aH,aj,az,vA,bo,zS,jc,ao,←C,←u,←hq,←W,←R,F,d,Z,X,B,z,s,I,K,c,-aB,ag j,ag J,aS,aO,aP,Y,j1,Nat.testBit]
  |true=>
   rw[if_pos rfl] at O;rw[←O] at D;simp[aa,agA,f52,af,dz,dR,aH,aj,az,vA,bo,zS,jc,ao,←C,←u,←hq,←W,←R,D,d,Z,X,B,z,s,I,K,c,-aB,ag j,ag J,aS,aO,aP,Y,j1,Nat.testBit]
 ·have c:¬0≤jQ dt q:=fun h=>V (xw.1 h)
  rw[if_neg V];cases A<;>simp[aa,agA,f52,af,dz,dR,aH,aj,az,vA,bo,zS,jc,ao,←C,←hq,←W,d,Z,X,B,z,c,-aB,ag j,aS,aO,aP,Y,Nat.testBit]
theorem ni(c:Evc)(G:c.k=1∨c.k=4)(b u w H:AV)(I:b.aeS=true)(hu:u.aeS=true)(hs:w.aeS=true)(R:H.aeS=true)(A:Bool)(p:V3)(M:Mem):
  kO prog 52 [.agg (c.cells b u w H),vA p,.bool A] M (vA p) M:=by
 refine cd (al _) ?_;have Z:∀s,(AV.str s).aeS=true:=fun _=>rfl
 have X:∀k n,(AV.int k n).aeS=true:=fun _ _=>rfl
 rcases G with G | G<;>cases A<;>simp[-AV.aeS,Z,aa,agA,f52,Evc.cells,vA,G]
structure agJ (t:Int×Int×Int×Int)(c:Z3)(bck:Bool)(p:V3):Prop where
 f1:dU t.1=true
 f2:dU t.2.1=true
 f3:dU t.2.2.1=true
 f4:dU t.2.2.2=true
 s:Hj (zV c) (-1)
 a:vF p∧vF (jR (zV c) (-1))
 tk:agf (lJ t.1 bck) (nU t.2.1 t.2.2.1 t.2.2.2) (j9 p (jR (zV c) (-1)))
 b:vF (DP (lJ t.1 bck) (nU t.2.1 t.2.2.1 t.2.2.2) (j9 p (jR (zV c) (-1))))∧vF (zV c)
theorem zi(nm:List UInt8)(t:Int×Int×Int×Int)(c:Z3)(A:Bool)(p:V3)(h:agJ t c A p)(M:Mem):
  kO prog 52 [.agg (cL nm t c),vA p,.bool A] M (vA (RX t c A p)) M:=by
 refine aA jj ?_ M;obtain⟨f1,f2,f3,f4,s,⟨u,V⟩,X,Z,J⟩:=h;obtain⟨t1,t2,t3,t4⟩:=t;simp only at f1 f2 f3 f4 X Z;obtain⟨F,S⟩:∃F,aC f52=F:=⟨_,rfl⟩
 have D:=be S qB;simp only[aC,bn,f52,lA] at S;subst S;simp only[lB] at D;obtain⟨H,m,j,Y,O⟩:=D;have R:ba [0,1,3,0,0,16,56,0,255,0,1023,2047] 11=true:=by decide
 have W:dC [45,49]=some (-1):=rfl;unfold RX;simp only;obtain⟨C,K⟩:=xE (zV c);rw[←K] at s V X Z J ⊢;obtain⟨k,I⟩:=xE (α:=Rat) (-1);rw[←I] at s V X Z W ⊢;obtain⟨w,B⟩:=xE (jR C k);rw[←B] at V X Z ⊢;obtain⟨q,hq⟩:=xE (j9 p w);rw[←hq] at X Z ⊢;obtain⟨r,z⟩:=xE (DP (lJ t1 A) (nU t2 t3 t4) q);rw[←z] at Z ⊢;unfold zV at K;cases A<;>simp[aa,agA,f52,af,dz,dR,aH,vA,cL,zS,jc,←K,←B,←hq,←z,W,f1,f2,f3,f4,s,u,V,X,Z,J,-aB,ag O,aS,aO,aP,R,Nat.testBit]
abbrev I4:=Int×Int×Int×Int
def fK(t:I4)(A:Bool):I4:=if A then (t.1,-t.2.1,-t.2.2.1,-t.2.2.2) else t
def YK(t:I4):List Int:=
 [t.1*t.1+t.2.1*t.2.1-t.2.2.1*t.2.2.1-t.2.2.2*t.2.2.2,2*(t.2.1*t.2.2.1-t.1*t.2.2.2),2*(t.2.1*t.2.2.2+t.1*t.2.2.1),
  2*(t.2.1*t.2.2.1+t.1*t.2.2.2),t.1*t.1-t.2.1*t.2.1+t.2.2.1*t.2.2.1-t.2.2.2*t.2.2.2,2*(t.2.2.1*t.2.2.2-t.1*t.2.1),
  2*(t.2.1*t.2.2.2-t.1*t.2.2.1),2*(t.2.2.1*t.2.2.2+t.1*t.2.1),t.1*t.1-t.2.1*t.2.1-t.2.2.1*t.2.2.1+t.2.2.2*t.2.2.2]
def yQ(t:I4):Nat:=(t.1*t.1+t.2.1*t.2.1+t.2.2.1*t.2.2.1+t.2.2.2*t.2.2.2).toNat
def ZW(t:I4):List Rat:=(YK t).map fun n=>mkRat n (yQ t)
def dmB(n:Int)(g:Nat):Bool:=(g==2&&n%2==0&&decide (-142≤n)&&decide (n≤142))||(g==4&&n%4==0&&decide (-142≤n)&&decide (n≤142))||(g==5&&(n==0||n==5))||(g==10&&(n==0||n==10))
variable{n:Int}
theorem Xn{g:Nat}(h:dmB n g=true):So n g:=by
 unfold dmB at h;simp only[Bool.or_eq_true,Bool.and_eq_true,beq_iff_eq,decide_eq_true_eq] at h;unfold So;rcases h with ((h | h) | h) | h
 ·exact .inl ⟨h.1.1.1,h.1.1.2,h.1.2,h.2⟩
 ·exact .inr (.inl ⟨h.1.1.1,h.1.1.2,h.1.2,h.2⟩)
 ·exact .inr (.inr (.inl h))
 ·exact .inr (.inr (.inr h))
def ofB(n:Int)(d:Nat):Bool:=decide (0<d)&&decide (n.natAbs≤1000)&&decide (d≤1000)&&(n.natAbs.gcd d==1||(dmB n (n.natAbs.gcd d)&&dmB d (n.natAbs.gcd d)))
theorem Sz{d:Nat}(h:ofB n d=true)(M:Mem):kO prog 56 [.int .i64 n,.int .i64 d] M (.tuple [.str (ak (mkRat n d)),.int .i64 0]) M:=by unfold ofB at h;simp only[Bool.or_eq_true,Bool.and_eq_true,beq_iff_eq,decide_eq_true_eq] at h;obtain⟨⟨⟨Z,X⟩,h3⟩,W⟩:=h;exact Ia n d Z X h3 (W.imp id fun h=>⟨Xn h.1,Xn h.2⟩) M
noncomputable def Gm(f:FuncId)(args:List AV):Option AV:=
 match f,args with
 |56,[.int .i64 n,.int .i64 d]=>if decide (0≤d)&&ofB n d.toNat then some (.tuple [.str (ak (mkRat n d.toNat)),.int .i64 0]) else none
 |_,_=>none
theorem Om:HS prog (af Gm):=bH fun f Z v h mem=>by
 unfold Gm at h;split at h
 ·rename_i n d
  split at h
  ·rename_i hc
   cases h;simp only[Bool.and_eq_true,decide_eq_true_eq] at hc;have:=Sz hc.2 mem;rw[Int.toNat_of_nonneg hc.1] at this;exact this
  ·cases h
 ·cases h
def tA(t:I4):AV:=.agg [.int .i64 t.1,.int .i64 t.2.1,.int .i64 t.2.2.1,.int .i64 t.2.2.2]
def US(q:List (List UInt8))(r:aeQ):Bool:=match r.v with
 |.agg l=>(match nS l with
  |some L=>L==q
  |none=>false)&&(match r.pre with | some p=>p.isEmpty | none=>true)&&r.new.isEmpty
 |_=>false
variable{r:aeQ}
theorem O0{q:List (List UInt8)}(h:US q r=true):r.v=.agg (sC q)∧r.mem []=[]:=by
 obtain⟨v,X,V⟩:=r;unfold US at h;simp only at h;split at h
 ·rename_i l
  simp only[Bool.and_eq_true,List.isEmpty_iff] at h;obtain⟨⟨Z,W⟩,rfl⟩:=h;split at Z
  ·rename_i L S
   rw[beq_iff_eq] at Z;subst Z;refine⟨by rw[uR S],?_⟩;cases X with
   |none=>rfl
   |some p=>
    simp only[List.isEmpty_iff] at W;subst W;rfl
  ·cases Z
 ·cases h
noncomputable def mE(t:I4):Bool:=match sN (aN prog) ab (aK prog) (af Gm) 60 30 (.fn 177) [tA t] [] with
 |some r=>US ((ZW t).map ak) r
 |none=>false
theorem Gl:(List.range 6).all (fun i=>mE (fK (bC i) false)&&mE (fK (bC i) true))=true:=by kernel_rfl
theorem QH(i:Nat)(G:i≤5)(A:Bool)(M:Mem):kO prog 177 [tA (fK (bC i) A)] M (.agg (sC ((ZW (fK (bC i) A)).map ak))) M:=by
 have h:=List.all_eq_true.1 Gl i (List.mem_range.2 (by omega));rw[Bool.and_eq_true] at h;have h:mE (fK (bC i) A)=true:=by
  cases A
  ·exact h.1
  ·exact h.2
 unfold mE at h;split at h
 ·rename_i r Z
  obtain⟨X,W⟩:=O0 h;have:=(gG ae (ar _) (au _) Om 30).fn _ _ _ _ Z;rw[X,W] at this;exact kO.lift rfl (by simp[AV.closed,CG]) this M
 ·cases h
abbrev M3:=V3×V3×V3
def mC(r:M3):List AV:=[.str (ak r.1.1),.str (ak r.1.2.1),.str (ak r.1.2.2),.str (ak r.2.1.1),.str (ak r.2.1.2.1),.str (ak r.2.1.2.2),.str (ak r.2.2.1),.str (ak r.2.2.2.1),.str (ak r.2.2.2.2)]
def vL(v:V3):List AV:=[.str (ak v.1),.str (ak v.2.1),.str (ak v.2.2)]
def po(r:M3)(v:V3):V3:=(da r.1 v,da r.2.1 v,da r.2.2 v)
def Pj(a b:V3):V3:=(a.1-b.1,a.2.1-b.2.1,a.2.2-b.2.2)
def CF(t:I4):M3:=
 ((mkRat (t.1*t.1+t.2.1*t.2.1-t.2.2.1*t.2.2.1-t.2.2.2*t.2.2.2) (yQ t),mkRat (2*(t.2.1*t.2.2.1-t.1*t.2.2.2)) (yQ t),mkRat (2*(t.2.1*t.2.2.2+t.1*t.2.2.1)) (yQ t)),
  (mkRat (2*(t.2.1*t.2.2.1+t.1*t.2.2.2)) (yQ t),mkRat (t.1*t.1-t.2.1*t.2.1+t.2.2.1*t.2.2.1-t.2.2.2*t.2.2.2) (yQ t),mkRat (2*(t.2.2.1*t.2.2.2-t.1*t.2.1)) (yQ t)),
  (mkRat (2*(t.2.1*t.2.2.2-t.1*t.2.2.1)) (yQ t),mkRat (2*(t.2.2.1*t.2.2.2+t.1*t.2.1)) (yQ t),mkRat (t.1*t.1-t.2.1*t.2.1-t.2.2.1*t.2.2.1+t.2.2.2*t.2.2.2) (yQ t)))
theorem Np(i:Nat)(G:i≤5)(A:Bool)(M:Mem):kO prog 177 [tA (fK (bC i) A)] M (.agg (mC (CF (fK (bC i) A)))) M:=QH i G A M
def mOk(r:M3)(v:V3):Prop:=afg r.1 v∧afg r.2.1 v∧afg r.2.2 v
theorem Il(t:I4)(r:M3)(A:∀M,kO prog 177 [tA t] M (.agg (mC r)) M)(v:V3)(h:mOk r v)(M:Mem):kO prog 175 [tA t,vA v] M (vA (po r v)) M:=by
 have D:aK prog 175=some f175:=by kernel_rfl
 have W:HS prog (aeT.or (af (bY [(177,[tA t],.agg (mC r))])) (af aH)):=HS.or (du fun e he M=>by simp only[lM] at he;rw[he];exact A M) cQ
 refine aA W ?_ M;clear W A;obtain⟨V,S,h3⟩:=h;obtain⟨t1,t2,t3,t4⟩:=t;obtain⟨r1,r2,C⟩:=r;simp only at V S h3;obtain⟨O,Z⟩:∃O,aC f175=[O]:=⟨_,rfl⟩
 obtain⟨X,B⟩:=dj Z (l:=[0,1,0,7,0,16,0,127,0,256,0,2047,4095,8191]) (j:=13) (by kernel_rfl) (by decide);simp[aC,bn,f175] at Z;subst Z;unfold po;simp only;obtain⟨x,K⟩:=xE (da r1 v);obtain⟨y,J⟩:=xE (da r2 v);obtain⟨z,F⟩:=xE (da C v);rw[←K,←J,←F];simp[aa,D,f175,aeT.or,bY,af,aH,tA,mC,vA,jc,V,S,h3,←K,←J,←F,bW,aE,-aB,ag X,aS,aO,aP,B,Nat.testBit]
def UW(r:aeQ):Bool:=match r.v with
 |.int .i64 0=>(match r.pre with | some p=>p.isEmpty | none=>true)&&r.new.isEmpty
 |_=>false
theorem O3(h:UW r=true):r.v=.int .i64 0∧r.mem []=[]:=by
 obtain⟨v,Z,W⟩:=r;unfold UW at h;simp only at h;split at h
 ·simp only[Bool.and_eq_true,List.isEmpty_iff] at h
  obtain⟨X,rfl⟩:=h;refine⟨rfl,?_⟩;cases Z with
  |none=>rfl
  |some p=>
   simp only[List.isEmpty_iff] at X;subst X;rfl
 ·cases h
noncomputable def nZ(t:I4):Bool:=match sN (aN prog) ab (aK prog) bM 8 6 (.fn 245) [tA t] [] with
 |some r=>UW r
 |none=>false
theorem TC:(List.range 6).all (fun i=>nZ (fK (bC i) false)&&nZ (fK (bC i) true))=true:=by kernel_rfl
theorem Ih(i:Nat)(G:i≤5)(A:Bool)(M:Mem):kO prog 245 [tA (fK (bC i) A)] M (.int .i64 0) M:=by
 have h:=List.all_eq_true.1 TC i (List.mem_range.2 (by omega));rw[Bool.and_eq_true] at h;have h:nZ (fK (bC i) A)=true:=by
  cases A
  ·exact h.1
  ·exact h.2
 unfold nZ at h;split at h
 ·rename_i r Z
  obtain⟨X,W⟩:=O3 h;have:=(gG ae (ar _) (au _) (al _) 6).fn _ _ _ _ Z;rw[X,W] at this;exact kO.lift rfl rfl this M
 ·cases h
variable{v:V3}
theorem vf(h:vC v)(M:Mem):kO prog 14 [vA v] M (.int .i64 0) M:=by have:=lT (ak v.1) (ak v.2.1) (ak v.2.2) h.2.1 h.2.2.1 h.2.2.2 M;rw[h.1] at this;exact this
theorem xV(h:vC v)(M:Mem):kO prog 70 [vA v] M (.tuple [vA v,.int .i64 0]) M:=by
 have Z:aK prog 70=some f70:=by kernel_rfl
 refine aA cQ ?_ M;obtain⟨X,W,h3,V⟩:=h;simp[aa,Z,f70,af,aH,vA,X,W,h3,V]
theorem Fp(h:vC v)(M:Mem):kO prog 176 [vA v] M (.tuple [vA v,.int .i64 0]) M:=by
 have Z:aK prog 176=some f176:=by kernel_rfl
 refine aA cQ ?_ M;obtain⟨X,W,h3,V⟩:=h;simp[aa,Z,f176,af,aH,vA,X,W,h3,V]
theorem No{t:I4}(A:∀M,kO prog 245 [tA t] M (.int .i64 0) M)(h:vC v)(M:Mem):kO prog 174 [tA t,vA v] M (.int .i64 0) M:=by
 have Z:aK prog 174=some f174:=by kernel_rfl
 have X:HS prog (af (bY [(245,[tA t],.int .i64 0),(14,[vA v],.int .i64 0)])):=du fun e he M=>by
  simp only[lM] at he;rcases he with rfl | rfl
  ·exact A M
  ·exact vf h M
 refine aA X ?_ M;simp[aa,Z,f174,bY,af,tA,vA]
structure af0 (r:M3)(c:V3):Prop where
 ck:vC c
 m:mOk r c
 f:vF c∧vF (po r c)
 s:vC (Pj c (po r c))
theorem MQ(t:I4)(r:M3)(G:∀M,kO prog 245 [tA t] M (.int .i64 0) M)(A:∀M,kO prog 177 [tA t] M (.agg (mC r)) M)(c:V3)(h:af0 r c)(M:Mem):
  kO prog 120 [tA t,vA c] M (.tuple [.agg (mC r++vL (Pj c (po r c))),.int .i64 0]) M:=by
 have J:aK prog 120=some f120:=by kernel_rfl
 obtain⟨hc,F,⟨⟨⟨D,C⟩,⟨B,z⟩,u,m⟩,⟨d1,d2⟩,⟨d3,d4⟩,d5,d6⟩,j⟩:=h;have S:HS prog (aeT.or (af (bY [(174,[tA t,vA c],.int .i64 0),(175,[tA t,vA c],vA (po r c)),(176,[vA (Pj c (po r c))],.tuple [vA (Pj c (po r c)),.int .i64 0]),(177,[tA t],.agg (mC r))])) (af aH)):=HS.or (du fun e he M=>by
  simp only[lM] at he;rcases he with rfl | rfl | rfl | rfl
  ·exact No G hc M
  ·exact Il t r A c F M
  ·exact Fp j M
  ·exact A M) cQ
 refine aA S ?_ M;clear S A G;obtain⟨O,X⟩:∃O,aC f120=O:=⟨_,rfl⟩
 have K:=be X (ls:=[[0,1,0,4,15,0,32,0,128,511,0,1024,0,4096,16383,32767,65535,131071,262143,262143,0,1572863,4194303],[0,1,0,7,15,31]]) (by kernel_rfl);simp only[aC,bn,f120,lA] at X;subst X;simp only[lB] at K;obtain⟨Y,W⟩:=K;have j1:ba [0,1,0,7,15,31] 4=true:=by decide
 obtain⟨t1,t2,t3,t4⟩:=t;obtain⟨w,R⟩:=xE (po r c);rw[←R] at d1 d2 d3 d4 d5 d6 ⊢;have Z :Pj c w=(c.1-w.1,c.2.1-w.2.1,c.2.2-w.2.2):=rfl;obtain⟨s,V⟩:=xE (Pj c w);rw[←V] at Z ⊢;have I:c.1-w.1=s.1:=by rw[Z]
 have H:c.2.1-w.2.1=s.2.1:=by rw[Z]
 have e3:c.2.2-w.2.2=s.2.2:=by rw[Z]
 clear Z;simp[aa,J,f120,aeT.or,bY,af,aH,aj,ao,tA,mC,vL,vA,D,C,B,z,u,m,d1,d2,d3,d4,d5,d6,I,H,e3,bW,aE,-aB,aF Y,bX,ib,dH,cj,bR,gd,bef,oM,aF W,Nat.testBit]
end Go.Proofs
