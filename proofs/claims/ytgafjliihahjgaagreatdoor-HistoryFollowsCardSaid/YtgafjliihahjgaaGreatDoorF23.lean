/- See F54. -/
import Derived.Test.YtgafjliihahjgaaGreatDoorF17
set_option linter.all false
set_option maxRecDepth 100000
set_option maxHeartbeats 40000000
namespace Go.Proofs
open Go.Eng
open Tryz
def kC:List (List UInt8×List UInt8)→List AV
 | []=>[]
 |k::l=>.str k.1::.str k.2::kC l
theorem fB:∀l:List (List UInt8×List UInt8),(kC l).length=2*l.length
 | []=>rfl
 |_::l=>by simp only[kC,List.length_cons,fB l];omega
theorem Uy:∀(l:List (List UInt8×List UInt8)) (i:Nat),(kC l).drop (i*2)=kC (l.drop i)
 |l,0=>by simp
 | [],i+1=>by simp[kC]
 |k::l,i+1=>by
  have:(i+1)*2=i*2+1+1:=by omega
  rw[this];simp only[kC,List.drop_succ_cons];exact Uy l i
variable{i:Nat}
theorem Ca{l:List (List UInt8×List UInt8)}{k:List UInt8×List UInt8}(h:l[i]? =some k):
  ((kC l).drop (i*2)).take 2=[.str k.1,.str k.2]∧(kC l)[i*2]? =some (.str k.1)∧(kC l)[i*2+1]? =some (.str k.2):=by
 have Z:l.drop i=k::l.drop (i+1):=by rw[List.getElem?_eq_some_iff] at h;obtain⟨X,W⟩:=h;rw[←W];exact List.drop_eq_getElem_cons X
 have e:=Uy l i;rw[Z] at e;refine⟨by rw[e];rfl,?_,?_⟩
 ·have:(kC l)[i*2]? =((kC l).drop (i*2))[0]? :=by rw[List.getElem?_drop];rfl
  rw[this,e];rfl
 ·have:(kC l)[i*2+1]? =((kC l).drop (i*2))[1]? :=by rw[List.getElem?_drop]
  rw[this,e];rfl
theorem xD(n:Nat):∀l:List (List UInt8×List UInt8),AV.afc n (kC l)=[]
 | []=>by simp[kC,AV.afc]
 |k::l=>by simp[kC,AV.afc,AV.refs,xD n l]
def kT(Q:List (Rat×Rat)):List (List UInt8×List UInt8):=Q.map fun q=>(ak q.1,ak q.2)
theorem cM(Q:List (Rat×Rat)):(kT Q).length=Q.length:=by simp[kT]
variable{Q:List (Rat×Rat)}
theorem GU{q:Rat×Rat}(h:Q[i]? =some q):(kT Q)[i]? =some (ak q.1,ak q.2):=by simp[kT,h]
theorem Ml{u:Rat}:∀{i:Nat} {q:Rat×Rat},Q[i]? =some q→bc (Q.take (i+1)) u=bc (Q.take i) u+if q.1≤u then 1 else 0:=by
 induction Q with
 |nil=>intro i q h;simp at h
 |cons a Q ih=>
  intro i q h;cases i with
  |zero=>simp at h;subst h;simp[bc]
  |succ i=>
   simp at h;have:=ih h;simp only[List.take_succ_cons,bc] at this ⊢;omega
def OG(Q:List (Rat×Rat)):Prop:=∀q∈Q,aeZ q.1∧aeZ q.2
variable{K:Nat}{b:Code}
theorem zx(Q:List (Rat×Rat))(u:Rat)(hQ:OG Q)(hu:aeZ u)(G:Q.length≤1000000000)(H:Q.length<K)(A:ai f113=[b]):
  ∃F:Env→Bool→Env,∀Z d,(ad Z 1=.str (ak u)∧ad Z 5=.int .i64 0∧ad Z 8=.slice 0 0 Q.length none∧ad Z 9=.int .i64 Q.length∧ad Z 10=.int .i64 0)→
   aM (aN prog) (fun _=>[5,10]) (af az) K 23 1 true (.loop b) ⟨Z,[.cells false 2 (kC (kT Q))],d⟩=some (.exit 0,⟨F Z d,[.cells false 2 (kC (kT Q))],d⟩)∧
    ad (F Z d) 5=.int .i64 (bc Q u):=by
 refine cD rfl (fun Z=>ad Z 1=.str (ak u)∧ad Z 5=.int .i64 0∧ad Z 8=.slice 0 0 Q.length none∧ad Z 9=.int .i64 Q.length∧ad Z 10=.int .i64 0) (fun _ B =>ad B 5=.int .i64 (bc Q u)) ?_;rintro Z d ⟨h1,h5,h8,h9,h10⟩;simp[ai,aG,f113] at A;have O:aD [5,10] (ab b) Z ((5,.int .i64 ((0:Nat):Int))::(10,.int .i64 ((0:Nat):Int))::Z)=aD [5,10] (ab b) Z Z:=by simp[aD,h5,h10]
 rw[←O];have I:(kC (kT Q)).length=2*Q.length:=by rw[fB,cM]
 refine dh (α:=Nat) (fun n=>⟨aD [5,10] (ab b) Z ((5,.int .i64 ((bc (Q.take n) u:Nat):Int))::(10,.int .i64 (n:Int))::Z),[.cells false 2 (kC (kT Q))],d⟩) (fun n=>Q.length-n) (fun n=>n≤Q.length) (.exit 0) _ d _ (by simp) ?_ K 0 (by omega) (by omega);intro n z;clear O;subst A;by_cases S:n<Q.length
 ·left
  obtain⟨q,hq⟩:∃q,Q[n]? =some q:=⟨Q[n],List.getElem?_eq_getElem S⟩
  obtain⟨M,k2,k3⟩:=Ca (GU hq);have W:=Ml (u:=u) hq;have V:=gl (Q.take n) u;rw[List.length_take] at V;obtain⟨P,j⟩:∃P,bc (Q.take n) u=P:=⟨_,rfl⟩
  rw[j] at W V ⊢;have w1:IntKind.i64.wrap ((n:Int)+1)=((n+1:Nat):Int):=by rw[aq];omega
  have w2:IntKind.i64.wrap ((P:Int)+1)=((P+1:Nat):Int):=by rw[aq];omega
  obtain⟨m,Y⟩:=xE (n+1);rw[←Y] at w1 W;obtain⟨⟨f1,f2⟩,_⟩:=hQ q (List.mem_of_getElem? hq);obtain⟨J,D⟩:=hu;have C:n*2+2≤(kC (kT Q)).length:=by omega
  by_cases X:q.1≤u
  ·have c:=oI.2 X
   rw[if_pos X] at W;rw[←W] at w2;refine⟨m,?_⟩;simp[h1,h8,h9,S,af,az,ao,f1,f2,J,D,M,C,c,w1,w2,xD];omega
  ·have c:¬jQ q.1 u≤0:=fun h=>X (oI.1 h)
   rw[if_neg X,Nat.add_zero] at W;refine⟨m,?_⟩;simp[h1,h8,h9,S,af,az,ao,f1,f2,J,D,M,C,c,w1,W,xD];omega
 ·right
  have e:Q.take n=Q:=List.take_of_length_le (by omega);rw[e];have R :¬(n:Int)<Q.length:=by omega
  simp[h9,S]
theorem Uz(f:Nat→Option Nat):∀l:List (List UInt8×List UInt8),AV.ae3 f (kC l)=kC l
 | []=>by simp[kC,AV.ae3]
 |k::l=>by simp[kC,AV.ae3,AV.ren,Uz f l]
theorem uZ(Q:List (Rat×Rat))(u:Rat)(hQ:OG Q)(hu:aeZ u)(A:Q.length≤1000000000):
  kO prog 113 [.slice 0 0 Q.length none,.str (ak u)] [.cells false 2 (kC (kT Q))] (.int .i64 (bc Q u)) [.cells false 2 (kC (kT Q))]:=by
 have X:aK prog 113=some f113:=by kernel_rfl
 obtain⟨b,Z⟩:∃b,ai f113=[b]:=⟨_,rfl⟩
 obtain⟨F,W⟩:=zx (K:=Q.length+1) Q u hQ hu A (by omega) Z;simp[ai,aG,f113] at Z;subst Z;refine cR (lv:=(fun _=>[5,10])) (K:=(Q.length+1)) jJ ?_;simp[aa,X,f113,W]
def EL(p:Option Rat)(q:Rat):Bool:=match p with
 |some r=>decide (r<q)
 |none=>true
def ckE(p:Option Rat):List (List UInt8×List UInt8)→Int
 | []=>0
 |k::l=>if xv k.1=0∧xv k.2=0 then (if EL p ((dC k.1).getD 0) then ckE (dC k.1) l else 6) else 2
def T0(L:List (List UInt8×List UInt8))(n:Nat)(p:Option Rat):Prop:=
 (n=0∧p=none)∨(∃m q k,n=m+1∧p=some q∧L[m]? =some k∧k.1=ak q∧(aR q.num.natAbs).length≤200∧(aR q.den).length≤200)
theorem Mr(q:Rat):(aR q.num.natAbs).length≤(ak q).length∧(aR q.den).length≤(ak q).length:=by
 have h:=yH q.num;unfold ak;split
 ·rename_i Z
  have X:=wh q.num.natAbs;rw[Z];exact⟨h,by have:(aR 1).length=1:=rfl;omega⟩
 ·simp only[List.length_append,List.length_cons]
  exact⟨by omega,by omega⟩
theorem pU(L:List (List UInt8×List UInt8))(hL:∀k∈L,k.1.length≤9∧k.2.length≤9)(hl:L.length≤1000000000)(hK:L.length<K)(hb:ai f256=[b]):
  ∃F:Env→Bool→Env×Mem×(List UInt8×List UInt8),∀Z d,(ad Z 0=.slice 0 0 L.length none∧ad Z 8=.slice 0 0 L.length none∧ad Z 9=.int .i64 L.length∧ad Z 10=.int .i64 0)→
   aM (aN prog) (fun _=>[10]) (af aj) K 40 1 true (.loop b) ⟨Z,[.cells false 2 (kC L)],d⟩=some (if ckE none L=0 then .exit 0 else .ret,⟨(F Z d).1,(F Z d).2.1,d⟩)∧
    ((ckE none L=0→(F Z d).2.1=[.cells false 2 (kC L)])∧(ckE none L≠0→(F Z d).2.1=[.cells false 2 (kC L),.cells true 0 [.str (F Z d).2.2.1,.str (F Z d).2.2.2]]∧ad (F Z d).1 2=.int .i64 (ckE none L))):=by
 refine kV (β:=List UInt8×List UInt8) rfl (fun Z=>(ad Z 0=.slice 0 0 L.length none∧ad Z 8=.slice 0 0 L.length none∧ad Z 9=.int .i64 L.length∧ad Z 10=.int .i64 0)) (fun _ AC X x=>(ckE none L=0→X =[.cells false 2 (kC L)])∧(ckE none L≠0→X =[.cells false 2 (kC L),.cells true 0 [.str x.1,.str x.2]]∧ad AC 2=.int .i64 (ckE none L))) ?_;rintro Z d ⟨h0,h8,h9,h10⟩;simp[ai,aG,f256] at hb;have A:aD [10] (ab b) Z ((10,.int .i64 ((0:Nat):Int))::Z)=aD [10] (ab b) Z Z:=by simp[aD,h10]
 rw[←A];have kl:(kC L).length=2*L.length:=fB L;refine kG (α:=Nat) (fun n=>⟨aD [10] (ab b) Z ((10,.int .i64 (n:Int))::Z),[.cells false 2 (kC L)],d⟩) (fun n=>L.length-n) (fun n=>n≤L.length∧∃p,T0 L n p∧ckE none L=ckE p (L.drop n)) (if ckE none L=0 then .exit 0 else .ret) d (fun AC X =>∃x:List UInt8×List UInt8,(ckE none L=0→X =[.cells false 2 (kC L)])∧(ckE none L≠0→X =[.cells false 2 (kC L),.cells true 0 [.str x.1,.str x.2]]∧ad AC 2=.int .i64 (ckE none L))) (by split<;>simp) ?_ K 0 ⟨by omega,none,.inl ⟨rfl,rfl⟩,by rw[List.drop_zero]⟩ (by omega);rintro n ⟨hn1,p,hp,he⟩;clear A;subst hb;by_cases V:n<L.length
 ·obtain⟨k,D⟩:∃k,L[n]? =some k:=⟨L[n],List.getElem?_eq_getElem V⟩
  obtain⟨J,k2,k3⟩:=Ca D;obtain⟨l1,l2⟩:=hL k (List.mem_of_getElem? D);have W :k.1.length≤18:=by omega
  have S :k.2.length≤18:=by omega
  have hd:L.drop n=k::L.drop (n+1):=by rw[List.getElem?_eq_some_iff] at D;obtain⟨h1,h2⟩:=D;rw[←h2];exact List.drop_eq_getElem_cons h1
  rw[hd,ckE] at he;have w1:IntKind.i64.wrap ((n:Int)+1)=((n+1:Nat):Int):=by rw[aq];omega
  have C:n*2+2≤(kC L).length:=by omega
  by_cases O:xv k.1=0
  ·by_cases B:xv k.2=0
   ·rw[if_pos ⟨O,B⟩] at he
    obtain⟨q,hq,M,q1,q2⟩:=Ww O;rw[hq] at he;have ql:=Mr q;rw[←M] at ql;have z :(aR q.num.natAbs).length≤9:=by omega
    have u :(aR q.den).length≤9:=by omega
    clear ql;simp only[Option.getD_some] at he;rcases hp with⟨rfl,rfl⟩ | ⟨m,r,j,rfl,rfl,hj,Y,r1,r2⟩
    ·rw[if_pos (by rfl)] at he
     left;refine⟨1,?_⟩;have hz:(0:Int)<L.length:=by omega
     have b1:T0 L 1 (some q):=.inr ⟨0,q,k,rfl,rfl,D,M,q1,q2⟩;have w3:IntKind.i64.wrap 1=1:=rfl;simp at J C V;simp[h0,h8,h9,V,af,aj,W,S,O,B,J,C,w3,xD,Nat.testBit];exact⟨⟨by omega,_,b1,by simpa using he⟩,by omega⟩
    ·obtain⟨j1,j2,j3⟩:=Ca hj
     have w2:IntKind.i64.wrap (((m+1:Nat):Int)-1)=(m:Int):=by rw[aq];omega
     have rl:=Mr r;have rl2:=(hL j (List.mem_of_getElem? hj)).1;rw[←Y] at rl;have R :(aR r.num.natAbs).length≤9:=by omega
     have I :(aR r.den).length≤9:=by omega
     clear rl rl2;obtain⟨n,A⟩:=xE (m+1);rw[←A] at D J k2 k3 C w1 w2 V hn1 he hd ⊢;have n0:(0:Int)<n:=by omega
     have H :0<n:=by omega
     have hm:m<L.length:=by omega
     rw[M] at l1 W O J;rw[Y] at j2;have b1:T0 L (n+1) (some q):=.inr ⟨n,q,k,rfl,rfl,D,M,q1,q2⟩;obtain⟨v,hv⟩:=xE (n+1);rw[←hv] at w1 b1 he;by_cases G:r<q
     ·have c:¬jQ q r≤0:=fun h=>by have:=oI.1 h;grind
      rw[if_pos (by simp[EL,G])] at he;left;refine⟨v,?_⟩;simp[h0,h8,h9,V,hm,H,af,aj,az,ao,W,S,O,B,J,C,j2,w1,w2,z,u,R,I,c,xD,Nat.testBit];exact⟨⟨by omega,_,b1,he⟩,by omega⟩
     ·have c:jQ q r≤0:=oI.2 (by grind)
      rw[if_neg (by simp[EL,G])] at he;right;rw[he];simp[h0,h8,h9,V,hm,H,af,aj,az,ao,W,S,O,B,J,C,j2,w2,z,u,R,I,c,Nat.testBit];exact⟨_,_,⟨rfl,rfl⟩,⟨_,_,rfl⟩,rfl⟩
   ·rw[if_neg (fun h=>B h.2)] at he
    right;rw[he];simp[h8,h9,V,af,aj,W,S,O,B,J,C];exact⟨_,_,⟨rfl,rfl⟩,⟨k.1,k.2,rfl⟩,rfl⟩
  ·rw[if_neg (fun h=>O h.1)] at he
   right;rw[he];simp[h8,h9,V,af,aj,W,O,J,C];exact⟨_,_,⟨rfl,rfl⟩,⟨k.1,k.2,rfl⟩,rfl⟩
 ·right
  have e:L.drop n=[]:=List.drop_of_length_le (by omega);rw[e,ckE] at he;rw[he];simp[h9,V]
def knE(L:List (List UInt8×List UInt8)):Int:=if 20<L.length then 4 else ckE none L
theorem wO(L:List (List UInt8×List UInt8))(A:∀k∈L,k.1.length≤9∧k.2.length≤9)(G:L.length≤1000000000):
  kO prog 256 [.slice 0 0 L.length none] [.cells false 2 (kC L)] (.int .i64 (knE L)) [.cells false 2 (kC L)]:=by
 have S:aK prog 256=some f256:=by kernel_rfl
 obtain⟨b,O⟩:∃b,ai f256=[b]:=⟨_,rfl⟩
 obtain⟨F,Z⟩:=pU (K:=L.length+1) L A G (by omega) O;simp[ai,aG,f256] at O;subst O;refine cR (lv:=(fun _=>[10])) (K:=(L.length+1)) bj ?_;unfold knE;by_cases V:20<L.length
 ·rw[if_pos V]
  have X:(20:Int)<L.length:=by omega
  simp[aa,S,f256,X]
 ·rw[if_neg V]
  have X:¬(20:Int)<L.length:=by omega
  by_cases hc:ckE none L=0
  ·rw[if_pos hc] at Z
   have M:=fun W d h=>(Z W d h).1
   have J:=fun W d h=>(Z W d h).2.1 hc
   clear Z;simp[aa,S,f256,X,M,J,hc]
  ·rw[if_neg hc] at Z
   have M:=fun W d h=>(Z W d h).1
   have J:=fun W d h=>((Z W d h).2.2 hc).1
   have D:=fun W d h=>((Z W d h).2.2 hc).2
   clear Z;simp[aa,S,f256,X,M,J,D]
def uI(d:ae6)(j:Nat):P2:=(((d.N.tmod 3+2*j:Int):Rat),mkRat ((Mf d.K j%4:Nat)-1:Int) (1+d.K.2.2.2%2))
def bQ(d:ae6)(c:Nat):List P2:=(List.range c).map (uI d)
theorem OR(d:ae6)(c:Nat):bQ d (c+1)=bQ d c++[uI d c]:=by simp[bQ,List.range_succ]
theorem bP(d:ae6)(c:Nat):(bQ d c).length=c:=by simp[bQ]
def MN:List AV:=[.int .i64 0,.str [],.y9,.y9,.y9,.str [],.str [],.str [],.str [],.str [],.str [],.str [],.str [],.str [],.str [],.y9,.str [],.str [],.str [],.str [],.str [],.str [],.str [],.str [],.str [],.int .i64 0,.int .i64 0,.int .i64 0,.int .i64 0,.str [],.str [],.str []]
def LP(d:ae6)(n k:Nat)(nm:List UInt8)(v:Z3)(o:Int)(s:Z3)(x:AV):Mem:=
 [.aeP,.aeP,.cells true 0 [.slice 0 0 n none,.slice 1 0 k none],.cells true 0 d.cells,.cells true 0 MN,.cells true 0 [.str (zS v.1),.str (zS v.2.1),.str (zS v.2.2)],.cells true 0 [.str (zS v.1),.str (zS v.2.1),.str (zS v.2.2),.str (zS o)],.cells true 0 (bw nm v x s)]
def B0(d:ae6)(n k:Nat)(nm:List UInt8)(v:Z3)(o:Int)(s:Z3)(j:Nat):Mem:=if j=0 then LP d n k nm v o s .y9 else LP d n k nm v o s (.slice 8 0 j none)++[.cells true 2 (pC (bQ d j))]
theorem xy{d:ae6}{n k:Nat}{nm:List UInt8}{v:Z3}{o:Int}{s:Z3}{j:Nat}(h:0<j):B0 d n k nm v o s j=LP d n k nm v o s (.slice 8 0 j none)++[.cells true 2 (pC (bQ d j))]:=if_neg (by omega)
theorem Qf(n:Nat):AV.afc n MN=[]:=rfl
theorem Vw(f:Nat→Option Nat):AV.ae3 f MN=MN:=rfl
theorem Dj(d:ae6)(hd:d.Ok)(n k:Nat)(nm:List UInt8)(v:Z3)(o:Int)(s:Z3)(c:Nat)(hc:c≤3)(hK:c<K)(hb:ai f28=[b]):
  ∃F:Env→Env,∀W,(ad W 4=.ptr 3 0∧ad W 9=.ptr 7 0∧ad W 121=.int .i64 c∧ad W 122=.int .i64 0∧ad W 6=.ptr 4 0)→
   aM (aN prog) (fun _=>[122,122]) (dQ d) K 172 2 true (.loop b) ⟨W,B0 d n k nm v o s 0,false⟩=some (.exit 1,⟨F W,B0 d n k nm v o s c,decide (0<c)⟩)∧ad (F W) 9=.ptr 7 0∧ad (F W) 6=.ptr 4 0:=by
 refine uJ (L:=[122,122]) rfl false _ (fun W=>ad W 4=.ptr 3 0∧ad W 9=.ptr 7 0∧ad W 121=.int .i64 c∧ad W 122=.int .i64 0∧ad W 6=.ptr 4 0) (fun W AC =>ad AC 9=.ptr 7 0∧ad AC 6=.ptr 4 0) ?_;rintro W ⟨h4,h9,acG,aeq,h6⟩;obtain⟨os,Do⟩:∃os,aC f28=os:=⟨_,rfl⟩
 have I':=be Do (ls:=[[0,0,2,6,14,30,63,0,255],[0,1,3,7,15,0,32,96,255,0,1023],[0,0,0,4,12,28,60,0,128,384,896,1920,0,4096,12288,28672,61440,131068,262142,524287,1048575,2097151],[0,0,0,4,12,28,60,0,128,384,896,1920,0,4096,12288,28672,61440,131068,262142,524287,1048575,2097151],[0,1,3,0,8,24,56,0,128,504,1016,0,0,6144,14336,30720,63488,129024,0,262144,786432,1835008,3932160,8126464,16777208,33554424,67108856,134217727,268435455,536870911,1073741823],[0,0,2,6,14,30,62,126,0,510,1022,2047,4095,8191],[0,0,0,0,0,0,63,0,128,384,896,2047,4095,0,8192,24576,57344,122880,0,262144,786432,1835008,3932160,0,8388608,25165824,58720256,125829120,268427264,536870911,1073741823,2147483647]]) (by kernel_rfl);simp only[aC,bn,f28,lA] at Do;subst Do;simp only[lB] at I';obtain⟨-,-,-,-,z,-,-⟩:=I';have u:qQ [0,1,3,0,8,24,56,0,128,504,1016,0,0,6144,14336,30720,63488,129024,0,262144,786432,1835008,3932160,8126464,16777208,33554424,67108856,134217727,268435455,536870911,1073741823] 31 26=true:=by decide
 have R:qQ [0,1,3,0,8,24,56,0,128,504,1016,0,0,6144,14336,30720,63488,129024,0,262144,786432,1835008,3932160,8126464,16777208,33554424,67108856,134217727,268435455,536870911,1073741823] 31 27=true:=by decide
 have I:qQ [0,1,3,0,8,24,56,0,128,504,1016,0,0,6144,14336,30720,63488,129024,0,262144,786432,1835008,3932160,8126464,16777208,33554424,67108856,134217727,268435455,536870911,1073741823] 31 30=true:=by decide
 have H:ba [0,1,3,0,8,24,56,0,128,504,1016,0,0,6144,14336,30720,63488,129024,0,262144,786432,1835008,3932160,8126464,16777208,33554424,67108856,134217727,268435455,536870911,1073741823] 27=true:=by decide
 have G:ba [0,1,3,0,8,24,56,0,128,504,1016,0,0,6144,14336,30720,63488,129024,0,262144,786432,1835008,3932160,8126464,16777208,33554424,67108856,134217727,268435455,536870911,1073741823] 30=true:=by decide
 simp[ai,aG,f28] at hb;have A:aD [122,122] (ab b) W ((122,.int .i64 ((0:Nat):Int))::W)=aD [122,122] (ab b) W W:=by simp[aD,aeq]
 rw[←A];have hm1:(B0 d n k nm v o s 0).length=8:=rfl;refine dh (α:=Nat) (fun j=>⟨aD [122,122] (ab b) W ((122,.int .i64 (j:Int))::W),B0 d n k nm v o s j,decide (0<j)⟩) (fun j=>c-j) (fun j=>j≤c) (.exit 1) _ _ _ (by simp) ?_ K 0 (by omega) (by omega);intro j hn1;clear A;subst hb;by_cases FS:j<c
 ·left
  have hk1:=OR d j;have V:uI d j=(((d.N.tmod 3+2*j:Int):Rat),mkRat ((Mf d.K j%4:Nat)-1:Int) (1+d.K.2.2.2%2)):=rfl;have q1:=xI d j (by omega);have q2:=OY hd.K j;have q3:=nT d.N 3 (by decide);simp only[Int.cast_ofNat_Int] at q3;have hN:=hd.N;unfold Ak at hN;have hN7:=Wy d;have h11:d.cells[11]? =some (.int .u8 (d.K.2.2.2:Nat)):=rfl;have wN:IntKind.i64.wrap d.N=d.N:=bV (by omega) (by omega);obtain⟨y,hy⟩:=xE (d.N.tmod 3);rw[←hy] at q3 V;have l0:=yu d;have r0:=ia d;have o0:=LD d;have n0:=Eh d;have hdO:∀c a M,dQ d c a M=dQ d c a M:=fun _ _ _=>rfl
  obtain⟨C,hC⟩:=xE d.cells;have hC' :d.cells=C:=hC.symm;rw[←hC] at q1 hN7 h11 l0;simp only[←hC] at r0 o0 n0;obtain⟨X,hX⟩:=xE (Mf d.K j);rw[←hX] at q1 q2 V;have j7:∀h,C[7]'h=_:=gE hN7
  have j11:∀h,C[11]'h=_:=gE h11
  have j8:∀h,C[8+j]'h=_:=gE q1
  have t4:((X:Nat):Int).tmod 4=((X%4:Nat):Int):=rfl;have x4:X%4<4:=Nat.mod_lt _ (by decide);obtain⟨x,hx⟩:=xE (X%4);rw[←hx] at t4 x4 V;have wX:IntKind.i64.wrap (X:Int)=(X:Int):=bV (by omega) (by omega);have wx:IntKind.i64.wrap ((x:Int)-1)=(x:Int)-1:=bV (by omega) (by omega);have t2:((d.K.2.2.2:Nat):Int).tmod 2=((d.K.2.2.2%2:Nat):Int):=rfl;have x2:d.K.2.2.2%2<2:=Nat.mod_lt _ (by decide);obtain⟨w,hw⟩:=xE (d.K.2.2.2%2);rw[←hw] at t2 x2 V;have ww:IntKind.i64.wrap (w:Int)=(w:Int):=bV (by omega) (by omega);have S:IntKind.i64.wrap (1+(w:Int))=((1+w:Nat):Int):=by rw[bV (by omega) (by omega)];omega
  obtain⟨D,hD⟩:=xE (1+w);rw[←hD] at S V;have hDp:0<D:=by omega
  have hDl:D<100000000:=by omega
  have w2j:IntKind.i64.wrap (2*(j:Int))=2*(j:Int):=bV (by omega) (by omega);have O:IntKind.i64.wrap (y+2*(j:Int))=y+2*(j:Int):=bV (by omega) (by omega);obtain⟨Y,hY⟩:=xE (y+2*(j:Int));rw[←hY] at O V;have gY:Y.natAbs<100000000:=by omega
  obtain⟨Z,hZ⟩:=xE ((x:Int)-1);rw[←hZ] at wx V;have gZ:Z.natAbs<100000000:=by omega
  have hpc:pC [uI d j]=[.str (zS Y),.str (ak (mkRat Z D))]:=by rw[V];rfl
  have w1:IntKind.i64.wrap ((j:Int)+1)=((j+1:Nat):Int):=by rw[aq];omega
  obtain⟨m,hm⟩:=xE (j+1);rw[←hm] at w1 hk1;have J:0<m:=by omega
  have hKm:pC (bQ d m)=pC (bQ d j)++[.str (zS Y),.str (ak (mkRat Z D))]:=by rw[hk1,Cu,hpc]
  have hj3:(j:Int)<4:=by omega
  have adl :j<4:=by omega
  have hjc:(j:Int)<c:=by omega
  refine⟨m,?_⟩;rw[xy J,hKm];by_cases B:j=0
  ·have e0:B0 d n k nm v o s j=LP d n k nm v o s .y9:=if_pos B
   have e1:bQ d j=[]:=by rw[B];rfl
   have hd0:decide (0<j)=false:=by simp[B]
   have hmd:decide (0<m)=true:=by simpa using J
   have hm0:m=1:=by omega
   rw[e0,hd0,e1,hm0];rw[hm0] at w1;have e2:pC []++[.str (zS Y),.str (ak (mkRat Z D))]=[.str (zS Y),.str (ak (mkRat Z D))]:=rfl;rw[e2];simp[LP,bw,hC',h4,h9,acG,hjc,l0,r0,n0,q1,j7,j11,hj3,Qf,Vw,wN,←hy,t4,t2,wX,wx,ww,S,w2j,O,←hY,←hZ,gY,gZ,hDp,hDl,w1,hm1,dQ,af,dm,-aB,jv z,ky,rn,yD,bR,u,R,I,H,G,bW,aE,Nat.testBit];omega
  ·have Z6:0<j:=by omega
   have hd1:decide (0<j)=true:=by simpa using Z6
   have hmd:decide (0<m)=true:=by simpa using J
   rw[xy Z6,hd1];have hPl:(pC (bQ d j)).length=j*2:=by rw[wo,bP]
   obtain⟨P,hP⟩:=xE (bQ d j);rw[←hP] at hPl ⊢;have g3:(pC P).take (j*2)=pC P:=List.take_of_length_le (by omega);have g4:m*32≤140737488355328:=by omega
   have g5:m≤140737488355328:=by omega
   simp[LP,bw,hC',h4,h9,acG,hjc,l0,r0,n0,q1,j7,j11,hj3,Qf,Vw,wN,←hy,t4,t2,wX,wx,ww,S,w2j,O,←hY,←hZ,gY,gZ,hDp,hDl,w1,hm1,hPl,←hm,hmd,g3,g4,g5,ef,Cv,gx,dQ,af,dm,-aB,jv z,ky,rn,yD,bR,u,R,I,H,G,bW,aE,Nat.testBit];omega
 ·right
  have e:j=c:=by omega
  subst e;simp[h9,h6,acG]
theorem aht:ba [0,0,0,4,12,28,60,0,128,384,896,1920,0,4096,12288,28672,61440,131068,262142,524287,1048575,2097151] 21=true:=by decide
theorem Az(d:ae6)(G:d.Ok)(n k i:Nat)(hi:i<6)(hn:0<n)(hl:n≤1000)(hk:d.kind%5=2):
  kO prog 28 [.agg [.slice 0 0 n none,.slice 1 0 k none],.agg d.cells,.int .i64 i] [.aeP,.aeP] (.agg (bw (bO i) (bN d.A) (.slice 2 0 (1+d.K.1%3) none) (eJ (bN d.A) (tz d.B)))) ([.aeP,.aeP]++[.cells true 2 (pC (bQ d (1+d.K.1%3)))]):=by
 have hG:aK prog 28=some f28:=by kernel_rfl
 obtain⟨os,Do⟩:∃os,aC f28=os:=⟨_,rfl⟩
 have I':=be Do (ls:=[[0,0,2,6,14,30,63,0,255],[0,1,3,7,15,0,32,96,255,0,1023],[0,0,0,4,12,28,60,0,128,384,896,1920,0,4096,12288,28672,61440,131068,262142,524287,1048575,2097151],[0,0,0,4,12,28,60,0,128,384,896,1920,0,4096,12288,28672,61440,131068,262142,524287,1048575,2097151],[0,1,3,0,8,24,56,0,128,504,1016,0,0,6144,14336,30720,63488,129024,0,262144,786432,1835008,3932160,8126464,16777208,33554424,67108856,134217727,268435455,536870911,1073741823],[0,0,2,6,14,30,62,126,0,510,1022,2047,4095,8191],[0,0,0,0,0,0,63,0,128,384,896,2047,4095,0,8192,24576,57344,122880,0,262144,786432,1835008,3932160,0,8388608,25165824,58720256,125829120,268427264,536870911,1073741823,2147483647]]) (by kernel_rfl);simp only[aC,bn,f28,lA] at Do;subst Do;simp only[lB] at I';obtain⟨Z9,hb1,hb2,hb3,hb4,hb5,hb6⟩:=I';have a08:ba [0,0,2,6,14,30,63,0,255] 8=true:=by decide
 have acF:ba [0,1,3,7,15,0,32,96,255,0,1023] 10=true:=by decide
 have ad0:ba [0,0,2,6,14,30,62,126,0,510,1022,2047,4095,8191] 13=true:=by decide
 have ad1:ba [0,0,0,0,0,0,63,0,128,384,896,2047,4095,0,8192,24576,57344,122880,0,262144,786432,1835008,3932160,0,8388608,25165824,58720256,125829120,268427264,536870911,1073741823,2147483647] 31=true:=by decide
 obtain⟨b,hb⟩:∃b,ai f28=[b]:=⟨_,rfl⟩
 have c3:d.K.1%3<3:=Nat.mod_lt _ (by decide);obtain⟨F,Z⟩:=Dj (K:=9) d G n k (bO i) (bN d.A) (d.N.tmod 5) (eJ (bN d.A) (tz d.B)) (1+d.K.1%3) (by omega) (by omega) hb;have j:0<1+d.K.1%3:=by omega
 have hcd:decide (0<1+d.K.1%3)=true:=by simpa using j
 rw[xy j,hcd] at Z;have hF0:B0 d n k (bO i) (bN d.A) (d.N.tmod 5) (eJ (bN d.A) (tz d.B)) 0=LP d n k (bO i) (bN d.A) (d.N.tmod 5) (eJ (bN d.A) (tz d.B)) .y9:=rfl;rw[hF0] at Z;simp[ai,aG,f28] at hb;subst hb;have hN:=G.N;have hB:=vP G.B;have hA:=vP G.A;have n1:=cw d.A;have m1:=gp d.B;have q3:=nT d.N 5 (by decide);have h8:=XZ d;have h0:=XV d;have h4:=XW d;have h5:=XX d;have h6:=XY d;have h7:=Wy d;have h1:=X0 d;have l0:=yu d;have r0:=ia d;have o0:=LD d;have okd:=iB d G;clear G;obtain⟨O,⟨M,J,D⟩,⟨X,W,V⟩,N,⟨S,K2,K3,K4⟩⟩:=d;simp only at Z c3 hk hN hB hA n1 m1 q3 h8 h0 h4 h5 h6 h7 h1 ⊢;simp only[Int.cast_ofNat_Int] at q3;unfold Ak at hN;obtain⟨hB1,hB2,hB3⟩:=hB;simp only at hB1 hB2 hB3;have wN:IntKind.i64.wrap N=N:=bV (by omega) (by omega);have wB1:IntKind.i64.wrap X=X:=bV (by omega) (by omega);have wB2:IntKind.i64.wrap W=W:=bV (by omega) (by omega);have wB3:IntKind.i64.wrap V=V:=bV (by omega) (by omega);have hkt:((O:Nat):Int).tmod 5=2:=by have:((O:Nat):Int).tmod 5=((O%5:Nat):Int):=rfl;rw[this,hk];rfl
 obtain⟨⟨nx,ny,nz⟩,e1⟩:∃v,v=bN (M,J,D):=⟨_,rfl⟩
 rw[←e1] at n1;have e2:tz (X,W,V)=(X.tmod 3,W.tmod 3,V.tmod 3):=rfl;rw[e2] at m1;obtain⟨o,ho⟩:=xE (N.tmod 5);rw[←ho] at q3;have go:o.natAbs<100000000:=by omega
 have gi:i<100000000:=by omega
 obtain⟨bx,Y⟩:=xE (X.tmod 3);obtain⟨z,R⟩:=xE (W.tmod 3);obtain⟨bz,I⟩:=xE (V.tmod 3);rw[←Y,←R,←I] at m1 e2;obtain⟨g1,g2,g3⟩:=m1;simp only at g1 g2 g3;have g1' :bx.natAbs≤10000:=by omega
 have g2' :z.natAbs≤10000:=by omega
 have g3' :bz.natAbs≤10000:=by omega
 have m2:fq 2 (bx,z,bz):=⟨g1,g2,g3⟩;obtain⟨C,hC⟩:=xE (ae6.cells ⟨O,(M,J,D),(X,W,V),N,(S,K2,K3,K4)⟩);rw[←hC] at h8 h0 h4 h5 h6 h7 h1 l0 r0 o0;have hC' :ae6.cells ⟨O,(M,J,D),(X,W,V),N,(S,K2,K3,K4)⟩=C:=hC.symm;have tk:C.take 12=C:=List.take_of_length_le (by omega);have j8:∀h,C[8]'h=_:=gE h8
 have j0:∀h,C[0]'h=_:=gE h0
 have j4:∀h,C[4]'h=_:=gE h4
 have j5:∀h,C[5]'h=_:=gE h5
 have j6:∀h,C[6]'h=_:=gE h6
 have j7:∀h,C[7]'h=_:=gE h7
 have hp:=ij;rw[e2,←e1,←ho] at Z;obtain⟨⟨sx,sy,sz⟩,hs⟩:∃v,v=eJ (nx,ny,nz) (bx,z,bz):=⟨_,rfl⟩
 rw[←hs] at Z;simp only[LP,bw,bO,MN,←hC,List.cons_append,List.nil_append] at Z;have J':=fun H h=>(Z H h).1
 have u:=fun H h=>(Z H h).2.1
 have m:=fun H h=>(Z H h).2.2
 clear Z;have t3:((S:Nat):Int).tmod 3=((S%3:Nat):Int):=rfl;obtain⟨x,hx⟩:=xE (S%3);rw[←hx] at t3 c3 J' u m;have w13:IntKind.i64.wrap (x:Int)=(x:Int):=bV (by omega) (by omega);have w14:IntKind.i64.wrap (1+(x:Int))=((1+x:Nat):Int):=by rw[bV (by omega) (by omega)];omega
 obtain⟨c,hc⟩:=xE (1+x);rw[←hc] at w14 J' u m;have c1:=w14;have u12:IntKind.i64.wrap (1+1)=2:=rfl;have u13:IntKind.i64.wrap (1+2)=3:=rfl;have u14:IntKind.i64.wrap (1+3)=4:=rfl;have u15:IntKind.i64.wrap (1+4)=5:=rfl;have hip:=fX (n:=(i:Int)) (by omega);have abx :(zS (i:Int)).length+1≤9223372036854775807:=by unfold zS;omega
 have aaH:1+(zS (i:Int)).length≤9223372036854775807:=by omega
 have h:aa (aN prog) (fun _=>[122,122]) (aK prog) (dQ ⟨O,(M,J,D),(X,W,V),N,(S,K2,K3,K4)⟩) 9 28 [.agg [.slice 0 0 n none,.slice 1 0 k none],.agg C,.int .i64 i] [.aeP,.aeP]=some ⟨(.agg (bw (bO i) (bN (M,J,D)) (.slice 2 0 (1+S%3) none) (eJ (bN (M,J,D)) (tz (X,W,V))))),some [.aeP,.aeP],[.cells true 2 (pC (bQ ⟨O,(M,J,D),(X,W,V),N,(S,K2,K3,K4)⟩ (1+S%3)))]⟩:=by rw[e2,←e1,←hs,←hx,←hc];simp[aa,hG,f28,dQ,af,dm,zA,l0,j8,j0,j4,j5,j6,j7,h1,hA,←e1,hkt,wN,wB1,wB2,wB3,←ho,←Y,←R,←I,go,gi,g1',g2',g3',hp,n1,m2,w2,w3,aaH,gv,bW,aE,-aB,cK Z9,cK hb1,cK hb3,jD,pr,CL,mK,bR,oM,bef,a08,acF,aht,Nat.testBit,J',u,m,←hs,c1,t3,w13,bw,bO,ef,gx]
 have:=(ah ae (ar _) okd (au _) h).1;rw[←hC];simpa [aeQ.mem] using this
end Go.Proofs
