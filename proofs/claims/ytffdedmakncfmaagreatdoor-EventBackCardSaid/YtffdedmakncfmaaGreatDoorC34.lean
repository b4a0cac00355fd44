/- See C54. -/
import Derived.Test.YtffdedmakncfmaaGreatDoorC29
set_option linter.all false
set_option maxRecDepth 100000
set_option maxHeartbeats 40000000
namespace Go.Proofs
open Go.Eng
open Tryz
def kC:List (List UInt8×List UInt8)→List AV
 | []=>[]
 |k::l=>.str k.1::.str k.2::kC l
theorem oQ:∀l:List (List UInt8×List UInt8),(kC l).length=2*l.length
 | []=>rfl
 |_::l=>by simp only[kC,List.length_cons,oQ l];omega
theorem Ux:∀(l:List (List UInt8×List UInt8)) (i:Nat),(kC l).drop (i*2)=kC (l.drop i)
 |l,0=>by simp
 | [],i+1=>by simp[kC]
 |k::l,i+1=>by
  have:(i+1)*2=i*2+1+1:=by omega
  rw[this];simp only[kC,List.drop_succ_cons];exact Ux l i
variable{i:Nat}
theorem EV{l:List (List UInt8×List UInt8)}{k:List UInt8×List UInt8}(h:l[i]? =some k):
  ((kC l).drop (i*2)).take 2=[.str k.1,.str k.2]∧(kC l)[i*2]? =some (.str k.1)∧(kC l)[i*2+1]? =some (.str k.2):=by
 have Z:l.drop i=k::l.drop (i+1):=by rw[List.getElem?_eq_some_iff] at h;obtain⟨X,V⟩:=h;rw[←V];exact List.drop_eq_getElem_cons X
 have e:=Ux l i;rw[Z] at e;refine⟨by rw[e];rfl,?_,?_⟩
 ·have:(kC l)[i*2]? =((kC l).drop (i*2))[0]? :=by rw[List.getElem?_drop];rfl
  rw[this,e];rfl
 ·have:(kC l)[i*2+1]? =((kC l).drop (i*2))[1]? :=by rw[List.getElem?_drop]
  rw[this,e];rfl
theorem Pa(n:Nat):∀l:List (List UInt8×List UInt8),AV.af6 n (kC l)=[]
 | []=>by simp[kC,AV.af6]
 |k::l=>by simp[kC,AV.af6,AV.refs,Pa n l]
def kT(Q:List (Rat×Rat)):List (List UInt8×List UInt8):=Q.map fun q=>(ax q.1,ax q.2)
theorem kL(Q:List (Rat×Rat)):(kT Q).length=Q.length:=by simp[kT]
theorem Pb{Q:List (Rat×Rat)}{q:Rat×Rat}(h:Q[i]? =some q):(kT Q)[i]? =some (ax q.1,ax q.2):=by simp[kT,h]
def FR(p:Option Rat)(q:Rat):Bool:=match p with
 |some r=>decide (r<q)
 |none=>true
def ckE(p:Option Rat):List (List UInt8×List UInt8)→Int
 | []=>0
 |k::l=>if AW k.1=0∧AW k.2=0 then (if FR p ((dY k.1).getD 0) then ckE (dY k.1) l else 6) else 2
def TQ(L:List (List UInt8×List UInt8))(n:Nat)(p:Option Rat):Prop:=
 (n=0∧p=none)∨(∃m q k,n=m+1∧p=some q∧L[m]? =some k∧k.1=ax q∧(ai q.num.natAbs).length≤200∧(ai q.den).length≤200)
theorem rF{K:Nat}(L:List (List UInt8×List UInt8))(hL:∀k∈L,k.1.length≤1000000000∧k.2.length≤1000000000)(hl:L.length≤1000000000)(hK:L.length<K){b:Code}(hb:ah f64=[b]):
  ∃F:Env→Bool→Env×Mem×(List UInt8×List UInt8),∀Z d,(ad Z 0=.slice 0 0 L.length none∧ad Z 8=.slice 0 0 L.length none∧ad Z 9=.int .i64 L.length∧ad Z 10=.int .i64 0)→
   aW (bh prog) (fun _=>[10]) (ag bn) K 40 1 true (.loop b) ⟨Z,[.cells false 2 (kC L)],d⟩=some (if ckE none L=0 then .exit 0 else .ret,⟨(F Z d).1,(F Z d).2.1,d⟩)∧
    ((ckE none L=0→(F Z d).2.1=[.cells false 2 (kC L)])∧(ckE none L≠0→(F Z d).2.1=[.cells false 2 (kC L),.cells true 0 [.str (F Z d).2.2.1,.str (F Z d).2.2.2]]∧ad (F Z d).1 2=.int .i64 (ckE none L))):=by
 refine qu (β:=List UInt8×List UInt8) rfl (fun Z=>(ad Z 0=.slice 0 0 L.length none∧ad Z 8=.slice 0 0 L.length none∧ad Z 9=.int .i64 L.length∧ad Z 10=.int .i64 0)) (fun _ I X x=>(ckE none L=0→X =[.cells false 2 (kC L)])∧(ckE none L≠0→X =[.cells false 2 (kC L),.cells true 0 [.str x.1,.str x.2]]∧ad I 2=.int .i64 (ckE none L))) ?_;rintro Z d ⟨h0,h8,h9,h10⟩;simp[ah,aE,f64] at hb;have Y:aA [10] (ae b) Z ((10,.int .i64 ((0:Nat):Int))::Z)=aA [10] (ae b) Z Z:=by simp[aA,h10]
 rw[←Y];have kl:(kC L).length=2*L.length:=oQ L;refine oP (α:=Nat) (fun n=>⟨aA [10] (ae b) Z ((10,.int .i64 (n:Int))::Z),[.cells false 2 (kC L)],d⟩) (fun n=>L.length-n) (fun n=>n≤L.length∧∃p,TQ L n p∧ckE none L=ckE p (L.drop n)) (if ckE none L=0 then .exit 0 else .ret) d (fun I X =>∃x:List UInt8×List UInt8,(ckE none L=0→X =[.cells false 2 (kC L)])∧(ckE none L≠0→X =[.cells false 2 (kC L),.cells true 0 [.str x.1,.str x.2]]∧ad I 2=.int .i64 (ckE none L))) (by split<;>simp) ?_ K 0 ⟨by omega,none,.inl ⟨rfl,rfl⟩,by rw[List.drop_zero]⟩ (by omega);rintro n ⟨hn1,p,hp,he⟩;clear Y;subst hb;by_cases V:n<L.length
 ·obtain⟨k,R⟩:∃k,L[n]? =some k:=⟨L[n],List.getElem?_eq_getElem V⟩
  obtain⟨S,k2,k3⟩:=EV R;obtain⟨N,W⟩:=hL k (List.mem_of_getElem? R);have hd:L.drop n=k::L.drop (n+1):=by rw[List.getElem?_eq_some_iff] at R;obtain⟨h1,h2⟩:=R;rw[←h2];exact List.drop_eq_getElem_cons h1
  rw[hd,ckE] at he;have w1:IntKind.i64.wrap ((n:Int)+1)=((n+1:Nat):Int):=by rw[af];omega
  have Q:n*2+2≤(kC L).length:=by omega
  by_cases U:AW k.1=0
  ·by_cases M:AW k.2=0
   ·rw[if_pos ⟨U,M⟩] at he
    obtain⟨q,hq,O,q1,q2⟩:=Wx U;rw[hq] at he;have G :(ai q.num.natAbs).length≤40000:=by omega
    have D :(ai q.den).length≤40000:=by omega
    simp only[Option.getD_some] at he;rcases hp with⟨rfl,rfl⟩ | ⟨m,r,j,rfl,rfl,hj,H,r1,r2⟩
    ·rw[if_pos (by rfl)] at he
     left;refine⟨1,?_⟩;have hz:(0:Int)<L.length:=by omega
     have J:TQ L 1 (some q):=.inr ⟨0,q,k,rfl,rfl,R,O,q1,q2⟩;have w3:IntKind.i64.wrap 1=1:=rfl;simp at S Q V;simp[h0,h8,h9,V,ag,bn,N,W,U,M,S,Q,w3,Pa,Nat.testBit];exact⟨⟨by omega,_,J,by simpa using he⟩,by omega⟩
    ·obtain⟨j1,y,j3⟩:=EV hj
     have w2:IntKind.i64.wrap (((m+1:Nat):Int)-1)=(m:Int):=by rw[af];omega
     have C :(ai r.num.natAbs).length≤40000:=by omega
     have B :(ai r.den).length≤40000:=by omega
     obtain⟨n,Y⟩:=xE (m+1);rw[←Y] at R S k2 k3 Q w1 w2 V hn1 he hd ⊢;have n0:(0:Int)<n:=by omega
     have u :0<n:=by omega
     have hm:m<L.length:=by omega
     rw[O] at N U S;rw[H] at y;have J:TQ L (n+1) (some q):=.inr ⟨n,q,k,rfl,rfl,R,O,q1,q2⟩;obtain⟨v,hv⟩:=xE (n+1);rw[←hv] at w1 J he;by_cases o:r<q
     ·have c:¬CO q r≤0:=fun h=>by have:=OZ.1 h;grind
      rw[if_pos (by simp[FR,o])] at he;left;refine⟨v,?_⟩;simp[h0,h8,h9,V,hm,u,ag,bn,bw,ay,N,W,U,M,S,Q,y,w1,w2,G,D,C,B,c,Pa,Nat.testBit];exact⟨⟨by omega,_,J,he⟩,by omega⟩
     ·have c:CO q r≤0:=OZ.2 (by grind)
      rw[if_neg (by simp[FR,o])] at he;right;rw[he];simp[h0,h8,h9,V,hm,u,ag,bn,bw,ay,N,W,U,M,S,Q,y,w2,G,D,C,B,c,Nat.testBit];exact⟨_,_,⟨rfl,rfl⟩,⟨_,_,rfl⟩,rfl⟩
   ·rw[if_neg (fun h=>M h.2)] at he
    right;rw[he];simp[h8,h9,V,ag,bn,N,W,U,M,S,Q];exact⟨_,_,⟨rfl,rfl⟩,⟨k.1,k.2,rfl⟩,rfl⟩
  ·rw[if_neg (fun h=>U h.1)] at he
   right;rw[he];simp[h8,h9,V,ag,bn,N,U,S,Q];exact⟨_,_,⟨rfl,rfl⟩,⟨k.1,k.2,rfl⟩,rfl⟩
 ·right
  have e:L.drop n=[]:=List.drop_of_length_le (by omega);rw[e,ckE] at he;rw[he];simp[h9,V]
def knE(L:List (List UInt8×List UInt8)):Int:=if 20<L.length then 4 else ckE none L
theorem ya(L:List (List UInt8×List UInt8))(y:∀k∈L,k.1.length≤1000000000∧k.2.length≤1000000000)(H:L.length≤1000000000):
  kO prog 64 [.slice 0 0 L.length none] [.cells false 2 (kC L)] (.int .i64 (knE L)) [.cells false 2 (kC L)]:=by
 have O:aS prog 64=some f64:=by kernel_rfl
 obtain⟨b,N⟩:∃b,ah f64=[b]:=⟨_,rfl⟩
 obtain⟨F,Z⟩:=rF (K:=L.length+1) L y H (by omega) N;simp[ah,aE,f64] at N;subst N;refine cE (lv:=(fun _=>[10])) (K:=(L.length+1)) cP ?_;unfold knE;by_cases Q:20<L.length
 ·rw[if_pos Q]
  have X:(20:Int)<L.length:=by omega
  simp[aa,O,f64,X]
 ·rw[if_neg Q]
  have X:¬(20:Int)<L.length:=by omega
  by_cases R:ckE none L=0
  ·rw[if_pos R] at Z
   have U:=fun V d h=>(Z V d h).1
   have S:=fun V d h=>(Z V d h).2.1 R
   clear Z;simp[aa,O,f64,X,U,S,R]
  ·rw[if_neg R] at Z
   have U:=fun V d h=>(Z V d h).1
   have S:=fun V d h=>((Z V d h).2.2 R).1
   have M:=fun V d h=>((Z V d h).2.2 R).2
   clear Z;simp[aa,O,f64,X,U,S,M]
end Go.Proofs
namespace Go.Proofs
open Go.Eng
end Go.Proofs
