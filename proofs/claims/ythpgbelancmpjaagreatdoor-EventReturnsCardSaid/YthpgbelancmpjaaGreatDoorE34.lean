/- See E54. -/
import Derived.Test.YthpgbelancmpjaaGreatDoorE29
set_option linter.all false
set_option maxRecDepth 100000
set_option maxHeartbeats 40000000
namespace Go.Proofs
open Go.Eng
open Tryz
def kC:List (List UInt8×List UInt8)→List AV
 | []=>[]
 |k::l=>.str k.1::.str k.2::kC l
theorem gp:∀l:List (List UInt8×List UInt8),(kC l).length=2*l.length
 | []=>rfl
 |_::l=>by simp only[kC,List.length_cons,gp l];omega
theorem R4:∀(l:List (List UInt8×List UInt8)) (i:Nat),(kC l).drop (i*2)=kC (l.drop i)
 |l,0=>by simp
 | [],i+1=>by simp[kC]
 |k::l,i+1=>by
  have:(i+1)*2=i*2+1+1:=by omega
  rw[this];simp only[kC,List.drop_succ_cons];exact R4 l i
variable{i:Nat}
theorem M1{l:List (List UInt8×List UInt8)}{k:List UInt8×List UInt8}(h:l[i]? =some k):
  ((kC l).drop (i*2)).take 2=[.str k.1,.str k.2]∧(kC l)[i*2]? =some (.str k.1)∧(kC l)[i*2+1]? =some (.str k.2):=by
 have Z:l.drop i=k::l.drop (i+1):=by rw[List.getElem?_eq_some_iff] at h;obtain⟨X,V⟩:=h;rw[←V];exact List.drop_eq_getElem_cons X
 have e:=R4 l i;rw[Z] at e;refine⟨by rw[e];rfl,?_,?_⟩
 ·have:(kC l)[i*2]? =((kC l).drop (i*2))[0]? :=by rw[List.getElem?_drop];rfl
  rw[this,e];rfl
 ·have:(kC l)[i*2+1]? =((kC l).drop (i*2))[1]? :=by rw[List.getElem?_drop]
  rw[this,e];rfl
theorem xG(n:Nat):∀l:List (List UInt8×List UInt8),AV.aew n (kC l)=[]
 | []=>by simp[kC,AV.aew]
 |k::l=>by simp[kC,AV.aew,AV.refs,xG n l]
def kT(Q:List (Rat×Rat)):List (List UInt8×List UInt8):=Q.map fun q=>(aj q.1,aj q.2)
theorem eh(Q:List (Rat×Rat)):(kT Q).length=Q.length:=by simp[kT]
variable{Q:List (Rat×Rat)}
theorem UA{q:Rat×Rat}(h:Q[i]? =some q):(kT Q)[i]? =some (aj q.1,aj q.2):=by simp[kT,h]
theorem KC{u:Rat}:∀{i:Nat} {q:Rat×Rat},Q[i]? =some q→dV (Q.take (i+1)) u=dV (Q.take i) u+if q.1≤u then 1 else 0:=by
 induction Q with
 |nil=>intro i q h;simp at h
 |cons a Q ih=>
  intro i q h;cases i with
  |zero=>simp at h;subst h;simp[dV]
  |succ i=>
   simp at h;have:=ih h;simp only[List.take_succ_cons,dV] at this ⊢;omega
def PT(Q:List (Rat×Rat)):Prop:=∀q∈Q,dc q.1∧dc q.2
variable{K:Nat}{b:Code}
theorem zj(Q:List (Rat×Rat))(u:Rat)(hQ:PT Q)(I:dc u)(J:Q.length≤1000000000)(W:Q.length<K)(H:ah f141=[b]):
  ∃F:Env→Bool→Env,∀Z d,(ad Z 1=.str (aj u)∧ad Z 5=.int .i64 0∧ad Z 8=.slice 0 0 Q.length none∧ad Z 9=.int .i64 Q.length∧ad Z 10=.int .i64 0)→
   aS (aV prog) (fun _=>[5,10]) (ag aH) K 23 1 true (.loop b) ⟨Z,[.cells false 2 (kC (kT Q))],d⟩=some (.exit 0,⟨F Z d,[.cells false 2 (kC (kT Q))],d⟩)∧
    ad (F Z d) 5=.int .i64 (dV Q u):=by
 refine bw rfl (fun Z=>ad Z 1=.str (aj u)∧ad Z 5=.int .i64 0∧ad Z 8=.slice 0 0 Q.length none∧ad Z 9=.int .i64 Q.length∧ad Z 10=.int .i64 0) (fun _ D =>ad D 5=.int .i64 (dV Q u)) ?_;rintro Z d ⟨h1,h5,h8,h9,YK⟩;simp[ah,aG,f141] at H;have R:aw [5,10] (ae b) Z ((5,.int .i64 ((0:Nat):Int))::(10,.int .i64 ((0:Nat):Int))::Z)=aw [5,10] (ae b) Z Z:=by simp[aw,h5,YK]
 rw[←R];have A:(kC (kT Q)).length=2*Q.length:=by rw[gp,eh]
 refine bO (α:=Nat) (fun n=>⟨aw [5,10] (ae b) Z ((5,.int .i64 ((dV (Q.take n) u:Nat):Int))::(10,.int .i64 (n:Int))::Z),[.cells false 2 (kC (kT Q))],d⟩) (fun n=>Q.length-n) (fun n=>n≤Q.length) (.exit 0) _ d _ (by simp) ?_ K 0 (by omega) (by omega);intro n o;clear R;subst H;by_cases V:n<Q.length
 ·left
  obtain⟨q,S⟩:∃q,Q[n]? =some q:=⟨Q[n],List.getElem?_eq_getElem V⟩
  obtain⟨O,j,Y⟩:=M1 (UA S);have X:=KC (u:=u) S;have N:=xM (Q.take n) u;rw[List.length_take] at N;obtain⟨P,C⟩:∃P,dV (Q.take n) u=P:=⟨_,rfl⟩
  rw[C] at X N ⊢;have w1:IntKind.i64.wrap ((n:Int)+1)=((n+1:Nat):Int):=by rw[af];omega
  have w2:IntKind.i64.wrap ((P:Int)+1)=((P+1:Nat):Int):=by rw[af];omega
  obtain⟨m,B⟩:=xE (n+1);rw[←B] at w1 X;obtain⟨⟨f1,f2⟩,_⟩:=hQ q (List.mem_of_getElem? S);obtain⟨M,L⟩:=I;have G:n*2+2≤(kC (kT Q)).length:=by omega
  by_cases U:q.1≤u
  ·have c:=Bl.2 U
   rw[if_pos U] at X;rw[←X] at w2;refine⟨m,?_⟩;simp[h1,h8,h9,V,ag,aH,ar,f1,f2,M,L,O,G,c,w1,w2,xG];omega
  ·have c:¬pU q.1 u≤0:=fun h=>U (Bl.1 h)
   rw[if_neg U,Nat.add_zero] at X;refine⟨m,?_⟩;simp[h1,h8,h9,V,ag,aH,ar,f1,f2,M,L,O,G,c,w1,X,xG];omega
 ·right
  have e:Q.take n=Q:=List.take_of_length_le (by omega);rw[e];have XM :¬(n:Int)<Q.length:=by omega
  simp[h9,V]
theorem R5(f:Nat→Option Nat):∀l:List (List UInt8×List UInt8),AV.aez f (kC l)=kC l
 | []=>by simp[kC,AV.aez]
 |k::l=>by simp[kC,AV.aez,AV.ren,R5 f l]
theorem uO(Q:List (Rat×Rat))(u:Rat)(hQ:PT Q)(H:dc u)(I:Q.length≤1000000000):
  kO prog 141 [.slice 0 0 Q.length none,.str (aj u)] [.cells false 2 (kC (kT Q))] (.int .i64 (dV Q u)) [.cells false 2 (kC (kT Q))]:=by
 have X:aT prog 141=some f141:=by kernel_rfl
 obtain⟨b,Z⟩:∃b,ah f141=[b]:=⟨_,rfl⟩
 obtain⟨F,V⟩:=zj (K:=Q.length+1) Q u hQ H I (by omega) Z;simp[ah,aG,f141] at Z;subst Z;refine ca (lv:=(fun _=>[5,10])) (K:=(Q.length+1)) jC ?_;simp[aa,X,f141,V]
def D8(p:Option Rat)(q:Rat):Bool:=match p with
 |some r=>decide (r<q)
 |none=>true
def ckE(p:Option Rat):List (List UInt8×List UInt8)→Int
 | []=>0
 |k::l=>if zV k.1=0∧zV k.2=0 then (if D8 p ((ek k.1).getD 0) then ckE (ek k.1) l else 6) else 2
def Rj(L:List (List UInt8×List UInt8))(n:Nat)(p:Option Rat):Prop:=
 (n=0∧p=none)∨(∃m q k,n=m+1∧p=some q∧L[m]? =some k∧k.1=aj q∧(au q.num.natAbs).length≤200∧(au q.den).length≤200)
theorem qi(L:List (List UInt8×List UInt8))(hL:∀k∈L,k.1.length≤1000000000∧k.2.length≤1000000000)(hl:L.length≤1000000000)(hK:L.length<K)(hb:ah f85=[b]):
  ∃F:Env→Bool→Env×Mem×(List UInt8×List UInt8),∀Z d,(ad Z 0=.slice 0 0 L.length none∧ad Z 8=.slice 0 0 L.length none∧ad Z 9=.int .i64 L.length∧ad Z 10=.int .i64 0)→
   aS (aV prog) (fun _=>[10]) (ag aE) K 40 1 true (.loop b) ⟨Z,[.cells false 2 (kC L)],d⟩=some (if ckE none L=0 then .exit 0 else .ret,⟨(F Z d).1,(F Z d).2.1,d⟩)∧
    ((ckE none L=0→(F Z d).2.1=[.cells false 2 (kC L)])∧(ckE none L≠0→(F Z d).2.1=[.cells false 2 (kC L),.cells true 0 [.str (F Z d).2.2.1,.str (F Z d).2.2.2]]∧ad (F Z d).1 2=.int .i64 (ckE none L))):=by
 refine BD (β:=List UInt8×List UInt8) rfl (fun Z=>(ad Z 0=.slice 0 0 L.length none∧ad Z 8=.slice 0 0 L.length none∧ad Z 9=.int .i64 L.length∧ad Z 10=.int .i64 0)) (fun _ I X x=>(ckE none L=0→X =[.cells false 2 (kC L)])∧(ckE none L≠0→X =[.cells false 2 (kC L),.cells true 0 [.str x.1,.str x.2]]∧ad I 2=.int .i64 (ckE none L))) ?_;rintro Z d ⟨h0,h8,h9,YK⟩;simp[ah,aG,f85] at hb;have Y:aw [10] (ae b) Z ((10,.int .i64 ((0:Nat):Int))::Z)=aw [10] (ae b) Z Z:=by simp[aw,YK]
 rw[←Y];have kl:(kC L).length=2*L.length:=gp L;refine xD (α:=Nat) (fun n=>⟨aw [10] (ae b) Z ((10,.int .i64 (n:Int))::Z),[.cells false 2 (kC L)],d⟩) (fun n=>L.length-n) (fun n=>n≤L.length∧∃p,Rj L n p∧ckE none L=ckE p (L.drop n)) (if ckE none L=0 then .exit 0 else .ret) d (fun I X =>∃x:List UInt8×List UInt8,(ckE none L=0→X =[.cells false 2 (kC L)])∧(ckE none L≠0→X =[.cells false 2 (kC L),.cells true 0 [.str x.1,.str x.2]]∧ad I 2=.int .i64 (ckE none L))) (by split<;>simp) ?_ K 0 ⟨by omega,none,.inl ⟨rfl,rfl⟩,by rw[List.drop_zero]⟩ (by omega);rintro n ⟨Y9,p,hp,he⟩;clear Y;subst hb;by_cases V:n<L.length
 ·obtain⟨k,R⟩:∃k,L[n]? =some k:=⟨L[n],List.getElem?_eq_getElem V⟩
  obtain⟨S,k2,k3⟩:=M1 R;obtain⟨M,W⟩:=hL k (List.mem_of_getElem? R);have hd:L.drop n=k::L.drop (n+1):=by rw[List.getElem?_eq_some_iff] at R;obtain⟨h1,h2⟩:=R;rw[←h2];exact List.drop_eq_getElem_cons h1
  rw[hd,ckE] at he;have w1:IntKind.i64.wrap ((n:Int)+1)=((n+1:Nat):Int):=by rw[af];omega
  have O:n*2+2≤(kC L).length:=by omega
  by_cases U:zV k.1=0
  ·by_cases G:zV k.2=0
   ·rw[if_pos ⟨U,G⟩] at he
    obtain⟨q,hq,N,q1,q2⟩:=Ui U;rw[hq] at he;have D :(au q.num.natAbs).length≤40000:=by omega
    have C :(au q.den).length≤40000:=by omega
    simp only[Option.getD_some] at he;rcases hp with⟨rfl,rfl⟩ | ⟨m,r,j,rfl,rfl,hj,H,r1,r2⟩
    ·rw[if_pos (by rfl)] at he
     left;refine⟨1,?_⟩;have hz:(0:Int)<L.length:=by omega
     have J:Rj L 1 (some q):=.inr ⟨0,q,k,rfl,rfl,R,N,q1,q2⟩;have w3:IntKind.i64.wrap 1=1:=rfl;simp at S O V;simp[h0,h8,h9,V,ag,aE,M,W,U,G,S,O,w3,xG,Nat.testBit];exact⟨⟨by omega,_,J,by simpa using he⟩,by omega⟩
    ·obtain⟨j1,j2,j3⟩:=M1 hj
     have w2:IntKind.i64.wrap (((m+1:Nat):Int)-1)=(m:Int):=by rw[af];omega
     have B :(au r.num.natAbs).length≤40000:=by omega
     have A :(au r.den).length≤40000:=by omega
     obtain⟨n,Y⟩:=xE (m+1);rw[←Y] at R S k2 k3 O w1 w2 V Y9 he hd ⊢;have n0:(0:Int)<n:=by omega
     have u :0<n:=by omega
     have hm:m<L.length:=by omega
     rw[N] at M U S;rw[H] at j2;have J:Rj L (n+1) (some q):=.inr ⟨n,q,k,rfl,rfl,R,N,q1,q2⟩;obtain⟨v,hv⟩:=xE (n+1);rw[←hv] at w1 J he;by_cases o:r<q
     ·have c:¬pU q r≤0:=fun h=>by have:=Bl.1 h;grind
      rw[if_pos (by simp[D8,o])] at he;left;refine⟨v,?_⟩;simp[h0,h8,h9,V,hm,u,ag,aE,aH,ar,M,W,U,G,S,O,j2,w1,w2,D,C,B,A,c,xG,Nat.testBit];exact⟨⟨by omega,_,J,he⟩,by omega⟩
     ·have c:pU q r≤0:=Bl.2 (by grind)
      rw[if_neg (by simp[D8,o])] at he;right;rw[he];simp[h0,h8,h9,V,hm,u,ag,aE,aH,ar,M,W,U,G,S,O,j2,w2,D,C,B,A,c,Nat.testBit];exact⟨_,_,⟨rfl,rfl⟩,⟨_,_,rfl⟩,rfl⟩
   ·rw[if_neg (fun h=>G h.2)] at he
    right;rw[he];simp[h8,h9,V,ag,aE,M,W,U,G,S,O];exact⟨_,_,⟨rfl,rfl⟩,⟨k.1,k.2,rfl⟩,rfl⟩
  ·rw[if_neg (fun h=>U h.1)] at he
   right;rw[he];simp[h8,h9,V,ag,aE,M,U,S,O];exact⟨_,_,⟨rfl,rfl⟩,⟨k.1,k.2,rfl⟩,rfl⟩
 ·right
  have e:L.drop n=[]:=List.drop_of_length_le (by omega);rw[e,ckE] at he;rw[he];simp[h9,V]
def knE(L:List (List UInt8×List UInt8)):Int:=if 20<L.length then 4 else ckE none L
theorem wM(L:List (List UInt8×List UInt8))(H:∀k∈L,k.1.length≤1000000000∧k.2.length≤1000000000)(I:L.length≤1000000000):
  kO prog 85 [.slice 0 0 L.length none] [.cells false 2 (kC L)] (.int .i64 (knE L)) [.cells false 2 (kC L)]:=by
 have S:aT prog 85=some f85:=by kernel_rfl
 obtain⟨b,R⟩:∃b,ah f85=[b]:=⟨_,rfl⟩
 obtain⟨F,Z⟩:=qi (K:=L.length+1) L H I (by omega) R;simp[ah,aG,f85] at R;subst R;refine ca (lv:=(fun _=>[10])) (K:=(L.length+1)) bK ?_;unfold knE;by_cases G:20<L.length
 ·rw[if_pos G]
  have X:(20:Int)<L.length:=by omega
  simp[aa,S,f85,X]
 ·rw[if_neg G]
  have X:¬(20:Int)<L.length:=by omega
  by_cases U:ckE none L=0
  ·rw[if_pos U] at Z
   have O:=fun V d h=>(Z V d h).1
   have N:=fun V d h=>(Z V d h).2.1 U
   clear Z;simp[aa,S,f85,X,O,N,U]
  ·rw[if_neg U] at Z
   have O:=fun V d h=>(Z V d h).1
   have N:=fun V d h=>((Z V d h).2.2 U).1
   have M:=fun V d h=>((Z V d h).2.2 U).2
   clear Z;simp[aa,S,f85,X,O,N,M]
end Go.Proofs
namespace Go.Proofs
open Go.Eng
end Go.Proofs
