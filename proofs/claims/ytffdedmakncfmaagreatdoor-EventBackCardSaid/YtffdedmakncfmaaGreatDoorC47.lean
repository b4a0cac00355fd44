/- See C54. -/
import Derived.Test.YtffdedmakncfmaaGreatDoorC42
set_option linter.all false
set_option maxRecDepth 100000
set_option maxHeartbeats 40000000
namespace Go.Proofs
open Go.Eng
open Tryz
theorem TL:∀{Q:List (Rat×Rat)},asc Q→∀i a b,Q[i]? =some a→Q[i+1]? =some b→a.1<b.1
 | [],_,i,a,b,ha,_=>by simp at ha
 | [q],_,i,a,b,_,hb=>by simp at hb
 |q::q2::Q,h,i,a,b,ha,hb=>by
  cases i with
  |zero=>simp at ha hb;subst ha hb;exact h.1
  |succ i=>exact TL h.2 i a b (by simpa using ha) (by simpa using hb)
theorem HR{a b:Rat}:fL (a-b)≤0↔a≤b:=by
 have h:fL (a-b)≤0↔(a-b).num≤0:=by
  unfold fL kf;split
  ·constructor<;>intro h<;>omega
  ·split
   ·constructor<;>intro h<;>omega
   ·constructor<;>intro h<;>omega
 rw[h];have e:a-b= -(b-a):=by grind
 have Z:0≤(b-a).num↔0≤b-a:=Rat.num_nonneg;have h3:(a-b).num= -(b-a).num:=by rw[e];exact Rat.neg_num _
 rw[h3];constructor
 ·intro X
  have:=Z.1 (by omega)
  grind
 ·intro X
  have:=Z.2 (by grind);omega
noncomputable def eS(f:FuncId)(args:List AV):Option AV:=
 match f,args with
 |51,[.str s,.str t]=>match dY s,dY t with
  |some a,some b=>if (ai a.num.natAbs).length≤2000∧(ai a.den).length≤2000∧(ai b.num.natAbs).length≤2000∧(ai b.den).length≤2000 then some (.int .i64 (fL (a-b))) else none
  |_,_=>none
 |f,args=>eR f args
theorem zz:qS prog (ag eS):=bF fun f X v h mem=>by
 unfold eS at h;split at h
 ·split at h
  ·rename_i m n V U
   split at h
   next Z=>cases h;rw[az V,az U];exact nQ m n ⟨Z.1,Z.2.1⟩ ⟨Z.2.2.1,Z.2.2.2⟩ mem
   ·cases h
  ·cases h
 ·have:=gb.fn _ _ mem ⟨v,none,[]⟩ (by unfold ag;simp only;rw[h])
  simpa [y9.mem] using this
def we(u:Rat)(l:List (Rat×Rat)):Bool:=l.any fun q=>decide (u≤q.1)
theorem Mh{u:Rat}:∀{l:List (Rat×Rat)} {a:Rat×Rat},we u l=false→Vu u a l=((a::l).getLast (by simp)).2
 | [],a,_=>rfl
 |b::l,a,h=>by simp only[we,List.any_cons,Bool.or_eq_false_iff,decide_eq_false_iff_not] at h;rw[Vu,if_neg h.1,List.getLast_cons (by simp)];exact Mh h.2
def Yy(Q:List (Rat×Rat))(u:Rat):Prop:=Xi 40 Q∧big 40 u∧asc Q∧Q.length≤1000000000
theorem Cu{K:Nat}(Q:List (Rat×Rat))(u:Rat)(h:Yy Q u)(hp:0<Q.length)(hK:Q.length<K)(H:¬u≤(Q.getD 0 (0,0)).1){b:Code}(hb:ah f37=[b]):
  ∃F:Env→Bool→Env,∀Z d,(ad Z 0=.slice 0 0 Q.length none∧ad Z 1=.str (ax u)∧ad Z 5=.int .i64 1)→
   aW (bh prog) (fun _=>[5]) (ag eS) K 84 1 true (.loop b) ⟨Z,[.cells false 2 (kC (kT Q))],d⟩=some (if we u (Q.drop 1)=true then .ret else .exit 0,⟨F Z d,[.cells false 2 (kC (kT Q))],d⟩)∧
    (we u (Q.drop 1)=true→ad (F Z d) 4=.str (ax (Qe u Q)))∧(we u (Q.drop 1)=false→ad (F Z d) 0=.slice 0 0 Q.length none):=by
 refine bj rfl (fun Z=>ad Z 0=.slice 0 0 Q.length none∧ad Z 1=.str (ax u)∧ad Z 5=.int .i64 1) (fun _ AC =>(we u (Q.drop 1)=true→ad AC 4=.str (ax (Qe u Q)))∧(we u (Q.drop 1)=false→ad AC 0=.slice 0 0 Q.length none)) ?_;rintro Z d ⟨h0,N,h5⟩;obtain⟨hQ,hu,ha,hl⟩:=h;simp[ah,aE,f37] at hb;have hn:aA [5] (ae b) Z ((5,.int .i64 ((1:Nat):Int))::Z)=aA [5] (ae b) Z Z:=by simp[aA,h5]
 rw[←hn];have kl:(kC (kT Q)).length=2*Q.length:=by rw[oQ,kL]
 obtain⟨q0,S⟩:∃q,Q[0]? =some q:=⟨Q[0],List.getElem?_eq_getElem hp⟩
 rw[sG S] at H;have J:Qe u Q=Vu u q0 (Q.drop 1):=by
  cases Q with
  |nil=>simp at hp
  |cons a l=>
   simp at S;subst S;simp only[Qe,if_neg H];rfl
 refine bz (α:=Nat) (fun n=>⟨aA [5] (ae b) Z ((5,.int .i64 (n:Int))::Z),[.cells false 2 (kC (kT Q))],d⟩) (fun n=>Q.length-n)
  (fun n=>∃m a,n=m+1∧n≤Q.length∧Q[m]? =some a∧Qe u Q=Vu u a (Q.drop n)∧we u (Q.drop 1)=we u (Q.drop n)) (if we u (Q.drop 1)=true then .ret else .exit 0) _ d _ (by split<;>simp) ?_ K 1 ⟨0,q0,rfl,by omega,S,J,rfl⟩ (by omega)
 rintro n ⟨m,a,hnm,hnl,hma,hlw,hme⟩;clear hn;obtain⟨M,L,I⟩:∃M L,aG f37=[M,L]:=⟨_,_,rfl⟩
 have PP:dm M.toList=[0,0,0,4,14,30,62,127,0,0,768,1792,3840,0,0,16384,57344,122880,253952,524287,1048575,2097151]∧dm L.toList=[0,0,2,7,15,31,0,0,0,384,896,1920,0,0,8192,28672,61440,126976,262016,524224,1048575,2097151]:=by
  have:(aG f37).map (fun o=>dm o.toList)=[[0,0,0,4,14,30,62,127,0,0,768,1792,3840,0,0,16384,57344,122880,253952,524287,1048575,2097151],[0,0,2,7,15,31,0,0,0,384,896,1920,0,0,8192,28672,61440,126976,262016,524224,1048575,2097151]]:=by kernel_rfl
  rw[I] at this;simpa using this
 obtain⟨afo,afp⟩:=PP;have afq:dH [0,0,0,4,14,30,62,127,0,0,768,1792,3840,0,0,16384,57344,122880,253952,524287,1048575,2097151] 21=true:=by decide
 have afr:dH [0,0,2,7,15,31,0,0,0,384,896,1920,0,0,8192,28672,61440,126976,262016,524224,1048575,2097151] 21=true:=by decide
 simp[aG,bQ,f37] at I;obtain⟨adv,adw⟩:=I;subst adv adw;subst hb;by_cases j:n<Q.length
 ·obtain⟨c,G⟩:∃k,Q[n]? =some k:=⟨Q[n],List.getElem?_eq_getElem j⟩
  obtain⟨a1,a2,a3⟩:=EV (Pb hma);obtain⟨k1,k2,k3⟩:=EV (Pb G);have hd:Q.drop n=c::Q.drop (n+1):=by rw[List.getElem?_eq_some_iff] at G;obtain⟨N,Y⟩:=G;rw[←Y];exact List.drop_eq_getElem_cons N
  have hac:=TL ha m a c hma (by rw[←hnm];exact G);obtain⟨W,A2⟩:=hQ a (List.mem_of_getElem? hma);obtain⟨C1,C2⟩:=hQ c (List.mem_of_getElem? G);rw[hd,Vu] at hlw;rw[hd] at hme;have hm2:we u (c::Q.drop (n+1))=(decide (u≤c.1)||we u (Q.drop (n+1))):=rfl;rw[hm2] at hme;have w1:IntKind.i64.wrap ((n:Int)+1)=((n+1:Nat):Int):=by rw[af];omega
  have w2:IntKind.i64.wrap ((n:Int)-1)=(m:Int):=by rw[af];omega
  have hml:m<Q.length:=by omega
  have f2:∀{q:Rat},big 1000 q→(ai q.num.natAbs).length≤2000∧(ai q.den).length≤2000:=fun hq=>by have N:=jF (by decide) hq.1;have Y:=jF (by decide) hq.2;exact⟨by omega,by omega⟩
  obtain⟨u1,u2⟩:=f2 (hu.mono (by decide));obtain⟨c1,c2⟩:=f2 (C1.mono (by decide));obtain⟨v,hv⟩:=xE (n+1);rw[←hv] at w1 hme hlw;by_cases X:u≤c.1
  ·right
   rw[if_pos X] at hlw;have hs:fL (u-c.1)≤0:=HR.2 X;have afs:we u (Q.drop 1)=true:=by rw[hme];simp[X]
   have D1:=sB hu W;have D2:=sB C1 W;have D3:=OS D1 D2;have D4:=sB C2 A2;have D5:=Hh D3 (D4.mono (by decide));obtain⟨p1,p2⟩:=f2 (W.mono (by decide));obtain⟨p3,p4⟩:=f2 (A2.mono (by decide));obtain⟨p5,p6⟩:=f2 (C2.mono (by decide));obtain⟨p7,p8⟩:=f2 (D1.mono (by decide));obtain⟨p9,D⟩:=f2 (D2.mono (by decide));obtain⟨R,O⟩:=f2 (D3.mono (by decide));obtain⟨C,B⟩:=f2 (D4.mono (by decide));obtain⟨V,U⟩:=f2 (D5.mono (by decide));have hy0:c.1-a.1≠0:=by grind
   have hyp:0<c.1-a.1:=by grind
   clear D1 D2 D3 D4 D5 W A2 C1 C2;obtain⟨x,hx⟩:=xE (u-a.1);obtain⟨y,hy⟩:=xE (c.1-a.1);obtain⟨z,hz⟩:=xE (c.2-a.2);rw[←hx] at p7 p8 R O V U hlw;rw[←hy] at p9 D R O V U hlw hy0 hyp;rw[←hz] at C B V U hlw;have hyn:0<y.num:=by
    have N:0≤(-y).num↔0≤ -y:=Rat.num_nonneg;have Y:(-y).num= -y.num:=Rat.neg_num _;rw[Y] at N;have h3:¬0≤ -y:=by grind
    have:=mt N.1 h3;omega
   obtain⟨k,hk⟩:=xE (x / y);rw[←hk] at R O V U hlw;obtain⟨t,ht⟩:=xE (k*z);rw[←ht] at V U hlw;rw[afs,hlw];simp[-aH,ak afo,ak afp,be,aV,aX,afq,afr,h0,N,j,hml,ag,eS,eR,fy,ay,u1,u2,c1,c2,k2,k3,a2,a3,w2,hs,←hx,←hy,←hz,←hk,←ht,p1,p2,p3,p4,p5,p6,p7,p8,p9,D,R,O,C,B,V,U,hyn,Nat.testBit]
  ·left
   rw[if_neg X] at hlw;have hs:¬fL (u-c.1)≤0:=fun h=>X (HR.1 h)
   refine⟨v,?_⟩;simp[-aH,h0,N,j,ag,eS,ay,u1,u2,c1,c2,k2,w1,hs];refine⟨⟨n,by omega,by omega,c.1,c.2,G,hlw,?_⟩,by omega⟩;rw[←List.drop_one,hme];simp[X]
 ·right
  have e:Q.drop n=[]:=List.drop_of_length_le (by omega);rw[e] at hme;have aft:we u (Q.drop 1)=false:=hme;rw[aft];simp[-aH,h0,j]
theorem Ei(Q:List (Rat×Rat))(u:Rat)(h:Yy Q u):
  kO prog 37 [.slice 0 0 Q.length none,.str (ax u)] [.cells false 2 (kC (kT Q))] (.str (ax (Qe u Q))) [.cells false 2 (kC (kT Q))]:=by
 have L:aS prog 37=some f37:=by kernel_rfl
 have z:ax 0=[48]:=rfl;have kl:(kC (kT Q)).length=2*Q.length:=by rw[oQ,kL]
 have f2:∀{q:Rat},big 1000 q→(ai q.num.natAbs).length≤2000∧(ai q.den).length≤2000:=fun J=>by have h1:=jF (by decide) J.1;have h2:=jF (by decide) J.2;exact⟨by omega,by omega⟩
 have y:aa (bh prog) (fun _=>[5]) (aS prog) (ag eS) (Q.length+1) 37 [.slice 0 0 Q.length none,.str (ax u)] [.cells false 2 (kC (kT Q))]=some ⟨.str (ax (Qe u Q)),none,[]⟩:=by
  by_cases G:Q=[]
  ·subst G
   simp[aa,L,f37,Qe,z,-aH]
  ·have M:0<Q.length:=List.length_pos_iff.2 G
   have V :¬Q.length=0:=by omega
   obtain⟨a,U⟩:∃q,Q[0]? =some q:=⟨Q[0],List.getElem?_eq_getElem M⟩
   obtain⟨k1,D,I⟩:=EV (Pb U);simp at D I;obtain⟨A1,A2⟩:=h.1 a (List.mem_of_getElem? U);obtain⟨B,o⟩:=f2 (h.2.1.mono (by decide));obtain⟨m,j⟩:=f2 (A1.mono (by decide));by_cases Z:u≤a.1
   ·have C:fL (u-a.1)≤0:=HR.2 Z
    have S:Qe u Q=a.2:=by
     cases Q with
     |nil=>exact absurd rfl G
     |cons b l=>simp at U;subst U;simp only[Qe,if_pos Z]
    rw[S];simp[aa,L,f37,-aH,M,V,ag,eS,ay,B,o,m,j,D,I,C]
   ·have C:¬fL (u-a.1)≤0:=fun h=>Z (HR.1 h)
    obtain⟨b,Y⟩:∃b,ah f37=[b]:=⟨_,rfl⟩
    obtain⟨F,X⟩:=Cu (K:=Q.length+1) Q u h M (by omega) (by rw[sG U];exact Z) Y;simp[ah,aE,f37] at Y;subst Y;cases hm:we u (Q.drop 1) with
    |true=>
     rw[hm,if_pos rfl] at X;have R:=fun O d h=>(X O d h).1
     have N:=fun O d h=>(X O d h).2.1 rfl
     clear X;simp[aa,L,f37,-aH,M,V,ag,eS,ay,B,o,m,j,D,C,R,N]
    |false=>
     rw[hm,if_neg (by simp)] at X;have R:=fun O d h=>(X O d h).1
     have N:=fun O d h=>(X O d h).2.2 rfl
     clear X;obtain⟨n,hn⟩:∃n,Q.length=n+1:=⟨Q.length-1,by omega⟩
     obtain⟨c,H⟩:∃q,Q[n]? =some q:=⟨Q[n],List.getElem?_eq_getElem (by omega)⟩
     obtain⟨c1,c2,c3⟩:=EV (Pb H);have w1:IntKind.i64.wrap ((Q.length:Int)-1)=(n:Int):=by rw[af (by have:=h.2.2.2;omega) (by have:=h.2.2.2;omega)];omega
     have W:n<Q.length:=by omega
     have S:Qe u Q=c.2:=by
      cases Q with
      |nil=>exact absurd rfl G
      |cons b l=>
       simp at U;subst U;simp only[Qe,if_neg Z];rw[Mh (by simpa using hm)];have:(b::l).getLast? =some c:=by rw[List.getLast?_eq_getElem?,hn];exact H
       rw[List.getLast?_eq_some_getLast (by simp)] at this;rw[Option.some.inj this]
     rw[S];simp[aa,L,f37,-aH,M,V,ag,eS,ay,B,o,m,j,D,C,R,N,w1,W,c3]
 have:=(ar aj (aK _) zz (aR _) y).1;simpa [y9.mem] using this
end Go.Proofs
