/- See B54. -/
import Derived.Test.YtffdedmakncfmaaGreatDoorB30
set_option linter.all false
set_option maxRecDepth 100000
set_option maxHeartbeats 40000000
namespace Go.Proofs
open Go.Eng
open Tryz
def kC:List (List UInt8×List UInt8)→List AV
 | []=>[]
 |k::l=>.str k.1::.str k.2::kC l
theorem fR:∀l:List (List UInt8×List UInt8),(kC l).length=2*l.length
 | []=>rfl
 |_::l=>by simp only[kC,List.length_cons,fR l];omega
theorem SU:∀(l:List (List UInt8×List UInt8)) (i:Nat),(kC l).drop (i*2)=kC (l.drop i)
 |l,0=>by simp
 | [],i+1=>by simp[kC]
 |k::l,i+1=>by
  have:(i+1)*2=i*2+1+1:=by omega
  rw[this];simp only[kC,List.drop_succ_cons];exact SU l i
variable{i:Nat}
theorem Cf{l:List (List UInt8×List UInt8)}{k:List UInt8×List UInt8}(h:l[i]? =some k):
  ((kC l).drop (i*2)).take 2=[.str k.1,.str k.2]∧(kC l)[i*2]? =some (.str k.1)∧(kC l)[i*2+1]? =some (.str k.2):=by
 have Z:l.drop i=k::l.drop (i+1):=by rw[List.getElem?_eq_some_iff] at h;obtain⟨X,V⟩:=h;rw[←V];exact List.drop_eq_getElem_cons X
 have e:=SU l i;rw[Z] at e;refine⟨by rw[e];rfl,?_,?_⟩
 ·have:(kC l)[i*2]? =((kC l).drop (i*2))[0]? :=by rw[List.getElem?_drop];rfl
  rw[this,e];rfl
 ·have:(kC l)[i*2+1]? =((kC l).drop (i*2))[1]? :=by rw[List.getElem?_drop]
  rw[this,e];rfl
theorem xY(n:Nat):∀l:List (List UInt8×List UInt8),AV.afm n (kC l)=[]
 | []=>by simp[kC,AV.afm]
 |k::l=>by simp[kC,AV.afm,AV.refs,xY n l]
def kT(Q:List (Rat×Rat)):List (List UInt8×List UInt8):=Q.map fun q=>(aB q.1,aB q.2)
theorem eh(Q:List (Rat×Rat)):(kT Q).length=Q.length:=by simp[kT]
variable{Q:List (Rat×Rat)}
theorem Lc{q:Rat×Rat}(h:Q[i]? =some q):(kT Q)[i]? =some (aB q.1,aB q.2):=by simp[kT,h]
theorem LA{u:Rat}:∀{i:Nat} {q:Rat×Rat},Q[i]? =some q→dm (Q.take (i+1)) u=dm (Q.take i) u+if q.1≤u then 1 else 0:=by
 induction Q with
 |nil=>intro i q h;simp at h
 |cons a Q ih=>
  intro i q h;cases i with
  |zero=>simp at h;subst h;simp[dm]
  |succ i=>
   simp at h;have:=ih h;simp only[List.take_succ_cons,dm] at this ⊢;omega
def Wf(Q:List (Rat×Rat)):Prop:=∀q∈Q,iK q.1∧iK q.2
variable{K:Nat}{b:Code}
theorem zI(Q:List (Rat×Rat))(u:Rat)(hQ:Wf Q)(H:iK u)(I:Q.length≤1000000000)(J:Q.length<K)(y:ah f112=[b]):
  ∃F:Env→Bool→Env,∀Z d,(ab Z 1=.str (aB u)∧ab Z 5=.int .i64 0∧ab Z 8=.slice 0 0 Q.length none∧ab Z 9=.int .i64 Q.length∧ab Z 10=.int .i64 0)→
   bh (ba prog) (fun _=>[5,10]) (af bd) K 23 1 true (.loop b) ⟨Z,[.cells false 2 (kC (kT Q))],d⟩=some (.exit 0,⟨F Z d,[.cells false 2 (kC (kT Q))],d⟩)∧
    ab (F Z d) 5=.int .i64 (dm Q u):=by
 refine bj rfl (fun Z=>ab Z 1=.str (aB u)∧ab Z 5=.int .i64 0∧ab Z 8=.slice 0 0 Q.length none∧ab Z 9=.int .i64 Q.length∧ab Z 10=.int .i64 0) (fun _ D =>ab D 5=.int .i64 (dm Q u)) ?_;rintro Z d ⟨h1,h5,h8,h9,YT⟩;simp[ah,aE,f112] at y;have R:ay [5,10] (ad b) Z ((5,.int .i64 ((0:Nat):Int))::(10,.int .i64 ((0:Nat):Int))::Z)=ay [5,10] (ad b) Z Z:=by simp[ay,h5,YT]
 rw[←R];have o:(kC (kT Q)).length=2*Q.length:=by rw[fR,eh]
 refine bx (α:=Nat) (fun n=>⟨ay [5,10] (ad b) Z ((5,.int .i64 ((dm (Q.take n) u:Nat):Int))::(10,.int .i64 (n:Int))::Z),[.cells false 2 (kC (kT Q))],d⟩) (fun n=>Q.length-n) (fun n=>n≤Q.length) (.exit 0) _ d _ (by simp) ?_ K 0 (by omega) (by omega);intro n j;clear R;subst y;by_cases V:n<Q.length
 ·left
  obtain⟨q,S⟩:∃q,Q[n]? =some q:=⟨Q[n],List.getElem?_eq_getElem V⟩
  obtain⟨O,Y,W⟩:=Cf (Lc S);have X:=LA (u:=u) S;have N:=yf (Q.take n) u;rw[List.length_take] at N;obtain⟨P,C⟩:∃P,dm (Q.take n) u=P:=⟨_,rfl⟩
  rw[C] at X N ⊢;have w1:IntKind.i64.wrap ((n:Int)+1)=((n+1:Nat):Int):=by rw[ae];omega
  have w2:IntKind.i64.wrap ((P:Int)+1)=((P+1:Nat):Int):=by rw[ae];omega
  obtain⟨m,B⟩:=xE (n+1);rw[←B] at w1 X;obtain⟨⟨f1,f2⟩,_⟩:=hQ q (List.mem_of_getElem? S);obtain⟨M,L⟩:=H;have G:n*2+2≤(kC (kT Q)).length:=by omega
  by_cases U:q.1≤u
  ·have c:=BZ.2 U
   rw[if_pos U] at X;rw[←X] at w2;refine⟨m,?_⟩;simp[h1,h8,h9,V,af,bd,az,f1,f2,M,L,O,G,c,w1,w2,xY];omega
  ·have c:¬we q.1 u≤0:=fun h=>U (BZ.1 h)
   rw[if_neg U,Nat.add_zero] at X;refine⟨m,?_⟩;simp[h1,h8,h9,V,af,bd,az,f1,f2,M,L,O,G,c,w1,X,xY];omega
 ·right
  have e:Q.take n=Q:=List.take_of_length_le (by omega);rw[e];have T' :¬(n:Int)<Q.length:=by omega
  simp[h9,V]
theorem SV(f:Nat→Option Nat):∀l:List (List UInt8×List UInt8),AV.afp f (kC l)=kC l
 | []=>by simp[kC,AV.afp]
 |k::l=>by simp[kC,AV.afp,AV.ren,SV f l]
theorem Ff(Q:List (Rat×Rat))(u:Rat)(hQ:Wf Q)(y:iK u)(H:Q.length≤1000000000):
  kO prog 112 [.slice 0 0 Q.length none,.str (aB u)] [.cells false 2 (kC (kT Q))] (.int .i64 (dm Q u)) [.cells false 2 (kC (kT Q))]:=by
 have X:aT prog 112=some f112:=by kernel_rfl
 obtain⟨b,Z⟩:∃b,ah f112=[b]:=⟨_,rfl⟩
 obtain⟨F,V⟩:=zI (K:=Q.length+1) Q u hQ y H (by omega) Z;simp[ah,aE,f112] at Z;subst Z;refine cv (lv:=(fun _=>[5,10])) (K:=(Q.length+1)) jQ ?_;simp[aa,X,f112,V]
def EZ(p:Option Rat)(q:Rat):Bool:=match p with
 |some r=>decide (r<q)
 |none=>true
def ckE(p:Option Rat):List (List UInt8×List UInt8)→Int
 | []=>0
 |k::l=>if Ay k.1=0∧Ay k.2=0 then (if EZ p ((ef k.1).getD 0) then ckE (ef k.1) l else 6) else 2
def Sa(L:List (List UInt8×List UInt8))(n:Nat)(p:Option Rat):Prop:=
 (n=0∧p=none)∨(∃m q k,n=m+1∧p=some q∧L[m]? =some k∧k.1=aB q∧(ai q.num.natAbs).length≤200∧(ai q.den).length≤200)
theorem qv(L:List (List UInt8×List UInt8))(hL:∀k∈L,k.1.length≤1000000000∧k.2.length≤1000000000)(hl:L.length≤1000000000)(hK:L.length<K)(hb:ah f64=[b]):
  ∃F:Env→Bool→Env×Mem×(List UInt8×List UInt8),∀Z d,(ab Z 0=.slice 0 0 L.length none∧ab Z 8=.slice 0 0 L.length none∧ab Z 9=.int .i64 L.length∧ab Z 10=.int .i64 0)→
   bh (ba prog) (fun _=>[10]) (af be) K 40 1 true (.loop b) ⟨Z,[.cells false 2 (kC L)],d⟩=some (if ckE none L=0 then .exit 0 else .ret,⟨(F Z d).1,(F Z d).2.1,d⟩)∧
    ((ckE none L=0→(F Z d).2.1=[.cells false 2 (kC L)])∧(ckE none L≠0→(F Z d).2.1=[.cells false 2 (kC L),.cells true 0 [.str (F Z d).2.2.1,.str (F Z d).2.2.2]]∧ab (F Z d).1 2=.int .i64 (ckE none L))):=by
 refine uJ (β:=List UInt8×List UInt8) rfl (fun Z=>(ab Z 0=.slice 0 0 L.length none∧ab Z 8=.slice 0 0 L.length none∧ab Z 9=.int .i64 L.length∧ab Z 10=.int .i64 0)) (fun _ H X x=>(ckE none L=0→X =[.cells false 2 (kC L)])∧(ckE none L≠0→X =[.cells false 2 (kC L),.cells true 0 [.str x.1,.str x.2]]∧ab H 2=.int .i64 (ckE none L))) ?_;rintro Z d ⟨h0,h8,h9,YT⟩;simp[ah,aE,f64] at hb;have W:ay [10] (ad b) Z ((10,.int .i64 ((0:Nat):Int))::Z)=ay [10] (ad b) Z Z:=by simp[ay,YT]
 rw[←W];have kl:(kC L).length=2*L.length:=fR L;refine sG (α:=Nat) (fun n=>⟨ay [10] (ad b) Z ((10,.int .i64 (n:Int))::Z),[.cells false 2 (kC L)],d⟩) (fun n=>L.length-n) (fun n=>n≤L.length∧∃p,Sa L n p∧ckE none L=ckE p (L.drop n)) (if ckE none L=0 then .exit 0 else .ret) d (fun H X =>∃x:List UInt8×List UInt8,(ckE none L=0→X =[.cells false 2 (kC L)])∧(ckE none L≠0→X =[.cells false 2 (kC L),.cells true 0 [.str x.1,.str x.2]]∧ab H 2=.int .i64 (ckE none L))) (by split<;>simp) ?_ K 0 ⟨by omega,none,.inl ⟨rfl,rfl⟩,by rw[List.drop_zero]⟩ (by omega);rintro n ⟨Zg,p,hp,he⟩;clear W;subst hb;by_cases V:n<L.length
 ·obtain⟨k,R⟩:∃k,L[n]? =some k:=⟨L[n],List.getElem?_eq_getElem V⟩
  obtain⟨S,k2,k3⟩:=Cf R;obtain⟨M,J⟩:=hL k (List.mem_of_getElem? R);have hd:L.drop n=k::L.drop (n+1):=by rw[List.getElem?_eq_some_iff] at R;obtain⟨h1,h2⟩:=R;rw[←h2];exact List.drop_eq_getElem_cons h1
  rw[hd,ckE] at he;have w1:IntKind.i64.wrap ((n:Int)+1)=((n+1:Nat):Int):=by rw[ae];omega
  have O:n*2+2≤(kC L).length:=by omega
  by_cases U:Ay k.1=0
  ·by_cases G:Ay k.2=0
   ·rw[if_pos ⟨U,G⟩] at he
    obtain⟨q,hq,N,q1,q2⟩:=UY U;rw[hq] at he;have D :(ai q.num.natAbs).length≤40000:=by omega
    have C :(ai q.den).length≤40000:=by omega
    simp only[Option.getD_some] at he;rcases hp with⟨rfl,rfl⟩ | ⟨m,r,j,rfl,rfl,hj,y,r1,r2⟩
    ·rw[if_pos (by rfl)] at he
     left;refine⟨1,?_⟩;have hz:(0:Int)<L.length:=by omega
     have I:Sa L 1 (some q):=.inr ⟨0,q,k,rfl,rfl,R,N,q1,q2⟩;have w3:IntKind.i64.wrap 1=1:=rfl;simp at S O V;simp[h0,h8,h9,V,af,be,M,J,U,G,S,O,w3,xY,Nat.testBit];exact⟨⟨by omega,_,I,by simpa using he⟩,by omega⟩
    ·obtain⟨j1,j2,j3⟩:=Cf hj
     have w2:IntKind.i64.wrap (((m+1:Nat):Int)-1)=(m:Int):=by rw[ae];omega
     have B :(ai r.num.natAbs).length≤40000:=by omega
     have u :(ai r.den).length≤40000:=by omega
     obtain⟨n,W⟩:=xE (m+1);rw[←W] at R S k2 k3 O w1 w2 V Zg he hd ⊢;have n0:(0:Int)<n:=by omega
     have o :0<n:=by omega
     have hm:m<L.length:=by omega
     rw[N] at M U S;rw[y] at j2;have I:Sa L (n+1) (some q):=.inr ⟨n,q,k,rfl,rfl,R,N,q1,q2⟩;obtain⟨v,hv⟩:=xE (n+1);rw[←hv] at w1 I he;by_cases Y:r<q
     ·have c:¬we q r≤0:=fun h=>by have:=BZ.1 h;grind
      rw[if_pos (by simp[EZ,Y])] at he;left;refine⟨v,?_⟩;simp[h0,h8,h9,V,hm,o,af,be,bd,az,M,J,U,G,S,O,j2,w1,w2,D,C,B,u,c,xY,Nat.testBit];exact⟨⟨by omega,_,I,he⟩,by omega⟩
     ·have c:we q r≤0:=BZ.2 (by grind)
      rw[if_neg (by simp[EZ,Y])] at he;right;rw[he];simp[h0,h8,h9,V,hm,o,af,be,bd,az,M,J,U,G,S,O,j2,w2,D,C,B,u,c,Nat.testBit];exact⟨_,_,⟨rfl,rfl⟩,⟨_,_,rfl⟩,rfl⟩
   ·rw[if_neg (fun h=>G h.2)] at he
    right;rw[he];simp[h8,h9,V,af,be,M,J,U,G,S,O];exact⟨_,_,⟨rfl,rfl⟩,⟨k.1,k.2,rfl⟩,rfl⟩
  ·rw[if_neg (fun h=>U h.1)] at he
   right;rw[he];simp[h8,h9,V,af,be,M,U,S,O];exact⟨_,_,⟨rfl,rfl⟩,⟨k.1,k.2,rfl⟩,rfl⟩
 ·right
  have e:L.drop n=[]:=List.drop_of_length_le (by omega);rw[e,ckE] at he;rw[he];simp[h9,V]
def knE(L:List (List UInt8×List UInt8)):Int:=if 20<L.length then 4 else ckE none L
theorem w9(L:List (List UInt8×List UInt8))(y:∀k∈L,k.1.length≤1000000000∧k.2.length≤1000000000)(H:L.length≤1000000000):
  kO prog 64 [.slice 0 0 L.length none] [.cells false 2 (kC L)] (.int .i64 (knE L)) [.cells false 2 (kC L)]:=by
 have R:aT prog 64=some f64:=by kernel_rfl
 obtain⟨b,O⟩:∃b,ah f64=[b]:=⟨_,rfl⟩
 obtain⟨F,Z⟩:=qv (K:=L.length+1) L y H (by omega) O;simp[ah,aE,f64] at O;subst O;refine cv (lv:=(fun _=>[10])) (K:=(L.length+1)) cO ?_;unfold knE;by_cases S:20<L.length
 ·rw[if_pos S]
  have X:(20:Int)<L.length:=by omega
  simp[aa,R,f64,X]
 ·rw[if_neg S]
  have X:¬(20:Int)<L.length:=by omega
  by_cases U:ckE none L=0
  ·rw[if_pos U] at Z
   have N:=fun V d h=>(Z V d h).1
   have M:=fun V d h=>(Z V d h).2.1 U
   clear Z;simp[aa,R,f64,X,N,M,U]
  ·rw[if_neg U] at Z
   have N:=fun V d h=>(Z V d h).1
   have M:=fun V d h=>((Z V d h).2.2 U).1
   have G:=fun V d h=>((Z V d h).2.2 U).2
   clear Z;simp[aa,R,f64,X,N,M,G]
end Go.Proofs
namespace Go.Proofs
open Go.Eng
end Go.Proofs
