/- See B54. -/
import Derived.Test.YtffdedmakncfmaaGreatDoorB44
set_option linter.all false
set_option maxRecDepth 100000
set_option maxHeartbeats 40000000
namespace Go.Proofs
open Go.Eng
open Tryz
theorem R6:∀{Q:List (Rat×Rat)},asc Q→∀i a b,Q[i]? =some a→Q[i+1]? =some b→a.1<b.1
 | [],_,i,a,b,ha,_=>by simp at ha
 | [q],_,i,a,b,_,hb=>by simp at hb
 |q::q2::Q,h,i,a,b,ha,hb=>by
  cases i with
  |zero=>simp at ha hb;subst ha hb;exact h.1
  |succ i=>exact R6 h.2 i a b (by simpa using ha) (by simpa using hb)
theorem G3{a b:Rat}:nQ (a-b)≤0↔a≤b:=by
 have h:nQ (a-b)≤0↔(a-b).num≤0:=by
  unfold nQ kg;split
  ·constructor<;>intro h<;>omega
  ·split
   ·constructor<;>intro h<;>omega
   ·constructor<;>intro h<;>omega
 rw[h];have e:a-b= -(b-a):=by grind
 have Z:0≤(b-a).num↔0≤b-a:=Rat.num_nonneg;have h3:(a-b).num= -(b-a).num:=by rw[e];exact Rat.neg_num _
 rw[h3];constructor
 ·intro X
  have:=Z.1 (by omega)
  grind
 ·intro X
  have:=Z.2 (by grind);omega
noncomputable def gK(f:FuncId)(args:List AV):Option AV:=
 match f,args with
 |51,[.str s,.str t]=>match ef s,ef t with
  |some a,some b=>if (ai a.num.natAbs).length≤2000∧(ai a.den).length≤2000∧(ai b.num.natAbs).length≤2000∧(ai b.den).length≤2000 then some (.int .i64 (nQ (a-b))) else none
  |_,_=>none
 |f,args=>iD f args
theorem Kd:qS prog (af gK):=bH fun f X v h mem=>by
 unfold gK at h;split at h
 ·split at h
  ·rename_i m n V U
   split at h
   next Z=>cases h;rw[aC V,aC U];exact Ds m n ⟨Z.1,Z.2.1⟩ ⟨Z.2.2.1,Z.2.2.2⟩ mem
   ·cases h
  ·cases h
 ·have:=jS.fn _ _ mem ⟨v,none,[]⟩ (by unfold af;simp only;rw[h])
  simpa [y9.mem] using this
def uL(u:Rat)(l:List (Rat×Rat)):Bool:=l.any fun q=>decide (u≤q.1)
theorem Lg{u:Rat}:∀{l:List (Rat×Rat)} {a:Rat×Rat},uL u l=false→TX u a l=((a::l).getLast (by simp)).2
 | [],a,_=>rfl
 |b::l,a,h=>by simp only[uL,List.any_cons,Bool.or_eq_false_iff,decide_eq_false_iff_not] at h;rw[TX,if_neg h.1,List.getLast_cons (by simp)];exact Lg h.2
def WH(Q:List (Rat×Rat))(u:Rat):Prop:=VF 40 Q∧big 40 u∧asc Q∧Q.length≤1000000000
theorem BG{K:Nat}(Q:List (Rat×Rat))(u:Rat)(h:WH Q u)(hp:0<Q.length)(hK:Q.length<K)(YW:¬u≤(Q.getD 0 (0,0)).1){b:Code}(hb:ah f37=[b]):
  ∃F:Env→Bool→Env,∀Z d,(ab Z 0=.slice 0 0 Q.length none∧ab Z 1=.str (aB u)∧ab Z 5=.int .i64 1)→
   bh (ba prog) (fun _=>[5]) (af gK) K 84 1 true (.loop b) ⟨Z,[.cells false 2 (kC (kT Q))],d⟩=some (if uL u (Q.drop 1)=true then .ret else .exit 0,⟨F Z d,[.cells false 2 (kC (kT Q))],d⟩)∧
    (uL u (Q.drop 1)=true→ab (F Z d) 4=.str (aB (OW u Q)))∧(uL u (Q.drop 1)=false→ab (F Z d) 0=.slice 0 0 Q.length none):=by
 refine bj rfl (fun Z=>ab Z 0=.slice 0 0 Q.length none∧ab Z 1=.str (aB u)∧ab Z 5=.int .i64 1) (fun _ AC =>(uL u (Q.drop 1)=true→ab AC 4=.str (aB (OW u Q)))∧(uL u (Q.drop 1)=false→ab AC 0=.slice 0 0 Q.length none)) ?_;rintro Z d ⟨h0,O,h5⟩;obtain⟨hQ,hu,ha,hl⟩:=h;simp[ah,aE,f37] at hb;have hn:ay [5] (ad b) Z ((5,.int .i64 ((1:Nat):Int))::Z)=ay [5] (ad b) Z Z:=by simp[ay,h5]
 rw[←hn];have kl:(kC (kT Q)).length=2*Q.length:=by rw[fR,eh]
 obtain⟨q0,U⟩:∃q,Q[0]? =some q:=⟨Q[0],List.getElem?_eq_getElem hp⟩
 rw[kZ U] at YW;have J:OW u Q=TX u q0 (Q.drop 1):=by
  cases Q with
  |nil=>simp at hp
  |cons a l=>
   simp at U;subst U;simp only[OW,if_neg YW];rfl
 refine bx (α:=Nat) (fun n=>⟨ay [5] (ad b) Z ((5,.int .i64 (n:Int))::Z),[.cells false 2 (kC (kT Q))],d⟩) (fun n=>Q.length-n)
  (fun n=>∃m a,n=m+1∧n≤Q.length∧Q[m]? =some a∧OW u Q=TX u a (Q.drop n)∧uL u (Q.drop 1)=uL u (Q.drop n)) (if uL u (Q.drop 1)=true then .ret else .exit 0) _ d _ (by split<;>simp) ?_ K 1 ⟨0,q0,rfl,by omega,U,J,rfl⟩ (by omega)
 rintro n ⟨m,a,hnm,hnl,hma,hlw,hme⟩;clear hn;obtain⟨N,M,I⟩:∃N M,aJ f37=[N,M]:=⟨_,_,rfl⟩
 have IR:dW N.toList=[0,0,0,4,14,30,62,127,0,0,768,1792,3840,0,0,16384,57344,122880,253952,524287,1048575,2097151]∧dW M.toList=[0,0,2,7,15,31,0,0,0,384,896,1920,0,0,8192,28672,61440,126976,262016,524224,1048575,2097151]:=by
  have:(aJ f37).map (fun o=>dW o.toList)=[[0,0,0,4,14,30,62,127,0,0,768,1792,3840,0,0,16384,57344,122880,253952,524287,1048575,2097151],[0,0,2,7,15,31,0,0,0,384,896,1920,0,0,8192,28672,61440,126976,262016,524224,1048575,2097151]]:=by kernel_rfl
  rw[I] at this;simpa using this
 obtain⟨H,aeH⟩:=IR;have aeI:dS [0,0,0,4,14,30,62,127,0,0,768,1792,3840,0,0,16384,57344,122880,253952,524287,1048575,2097151] 21=true:=by decide
 have aeJ:dS [0,0,2,7,15,31,0,0,0,384,896,1920,0,0,8192,28672,61440,126976,262016,524224,1048575,2097151] 21=true:=by decide
 simp[aJ,bU,f37] at I;obtain⟨acK,acL⟩:=I;subst acK acL;subst hb;by_cases j:n<Q.length
 ·obtain⟨c,L⟩:∃k,Q[n]? =some k:=⟨Q[n],List.getElem?_eq_getElem j⟩
  obtain⟨a1,a2,a3⟩:=Cf (Lc hma);obtain⟨k1,k2,k3⟩:=Cf (Lc L);have hd:Q.drop n=c::Q.drop (n+1):=by rw[List.getElem?_eq_some_iff] at L;obtain⟨O,Y⟩:=L;rw[←Y];exact List.drop_eq_getElem_cons O
  have hac:=R6 ha m a c hma (by rw[←hnm];exact L);obtain⟨W,A2⟩:=hQ a (List.mem_of_getElem? hma);obtain⟨C1,C2⟩:=hQ c (List.mem_of_getElem? L);rw[hd,TX] at hlw;rw[hd] at hme;have Zo:uL u (c::Q.drop (n+1))=(decide (u≤c.1)||uL u (Q.drop (n+1))):=rfl;rw[Zo] at hme;have w1:IntKind.i64.wrap ((n:Int)+1)=((n+1:Nat):Int):=by rw[ae];omega
  have w2:IntKind.i64.wrap ((n:Int)-1)=(m:Int):=by rw[ae];omega
  have hml:m<Q.length:=by omega
  have f2:∀{q:Rat},big 1000 q→(ai q.num.natAbs).length≤2000∧(ai q.den).length≤2000:=fun hq=>by have O:=iY (by decide) hq.1;have Y:=iY (by decide) hq.2;exact⟨by omega,by omega⟩
  obtain⟨u1,u2⟩:=f2 (hu.mono (by decide));obtain⟨c1,c2⟩:=f2 (C1.mono (by decide));obtain⟨v,hv⟩:=xE (n+1);rw[←hv] at w1 hme hlw;by_cases G:u≤c.1
  ·right
   rw[if_pos G] at hlw;have hs:nQ (u-c.1)≤0:=G3.2 G;have aeK:uL u (Q.drop 1)=true:=by rw[hme];simp[G]
   have D1:=kU hu W;have D2:=kU C1 W;have D3:=Gr D1 D2;have D4:=kU C2 A2;have D5:=xN D3 (D4.mono (by decide));obtain⟨p1,p2⟩:=f2 (W.mono (by decide));obtain⟨p3,p4⟩:=f2 (A2.mono (by decide));obtain⟨p5,p6⟩:=f2 (C2.mono (by decide));obtain⟨p7,p8⟩:=f2 (D1.mono (by decide));obtain⟨p9,D⟩:=f2 (D2.mono (by decide));obtain⟨S,R⟩:=f2 (D3.mono (by decide));obtain⟨C,B⟩:=f2 (D4.mono (by decide));obtain⟨X,V⟩:=f2 (D5.mono (by decide));have hy0:c.1-a.1≠0:=by grind
   have hyp:0<c.1-a.1:=by grind
   clear D1 D2 D3 D4 D5 W A2 C1 C2;obtain⟨x,hx⟩:=xE (u-a.1);obtain⟨y,hy⟩:=xE (c.1-a.1);obtain⟨z,hz⟩:=xE (c.2-a.2);rw[←hx] at p7 p8 S R X V hlw;rw[←hy] at p9 D S R X V hlw hy0 hyp;rw[←hz] at C B X V hlw;have hyn:0<y.num:=by
    have O:0≤(-y).num↔0≤ -y:=Rat.num_nonneg;have Y:(-y).num= -y.num:=Rat.neg_num _;rw[Y] at O;have h3:¬0≤ -y:=by grind
    have:=mt O.1 h3;omega
   obtain⟨k,hk⟩:=xE (x / y);rw[←hk] at S R X V hlw;obtain⟨t,ht⟩:=xE (k*z);rw[←ht] at X V hlw;rw[aeK,hlw];simp[-aK,aq H,aq aeH,bm,aZ,bl,aeI,aeJ,h0,O,j,hml,af,gK,iD,fV,az,u1,u2,c1,c2,k2,k3,a2,a3,w2,hs,←hx,←hy,←hz,←hk,←ht,p1,p2,p3,p4,p5,p6,p7,p8,p9,D,S,R,C,B,X,V,hyn,Nat.testBit]
  ·left
   rw[if_neg G] at hlw;have hs:¬nQ (u-c.1)≤0:=fun h=>G (G3.1 h)
   refine⟨v,?_⟩;simp[-aK,h0,O,j,af,gK,az,u1,u2,c1,c2,k2,w1,hs];refine⟨⟨n,by omega,by omega,c.1,c.2,L,hlw,?_⟩,by omega⟩;rw[←List.drop_one,hme];simp[G]
 ·right
  have e:Q.drop n=[]:=List.drop_of_length_le (by omega);rw[e] at hme;have aeL:uL u (Q.drop 1)=false:=hme;rw[aeL];simp[-aK,h0,j]
theorem Dw(Q:List (Rat×Rat))(u:Rat)(h:WH Q u):
  kO prog 37 [.slice 0 0 Q.length none,.str (aB u)] [.cells false 2 (kC (kT Q))] (.str (aB (OW u Q))) [.cells false 2 (kC (kT Q))]:=by
 have N:aT prog 37=some f37:=by kernel_rfl
 have z:aB 0=[48]:=rfl;have kl:(kC (kT Q)).length=2*Q.length:=by rw[fR,eh]
 have f2:∀{q:Rat},big 1000 q→(ai q.num.natAbs).length≤2000∧(ai q.den).length≤2000:=fun J=>by have h1:=iY (by decide) J.1;have h2:=iY (by decide) J.2;exact⟨by omega,by omega⟩
 have y:aa (ba prog) (fun _=>[5]) (aT prog) (af gK) (Q.length+1) 37 [.slice 0 0 Q.length none,.str (aB u)] [.cells false 2 (kC (kT Q))]=some ⟨.str (aB (OW u Q)),none,[]⟩:=by
  by_cases M:Q=[]
  ·subst M
   simp[aa,N,f37,OW,z,-aK]
  ·have R:0<Q.length:=List.length_pos_iff.2 M
   have X :¬Q.length=0:=by omega
   obtain⟨a,V⟩:∃q,Q[0]? =some q:=⟨Q[0],List.getElem?_eq_getElem R⟩
   obtain⟨k1,L,I⟩:=Cf (Lc V);simp at L I;obtain⟨A1,A2⟩:=h.1 a (List.mem_of_getElem? V);obtain⟨D,C⟩:=f2 (h.2.1.mono (by decide));obtain⟨B,o⟩:=f2 (A1.mono (by decide));by_cases O:u≤a.1
   ·have G:nQ (u-a.1)≤0:=G3.2 O
    have U:OW u Q=a.2:=by
     cases Q with
     |nil=>exact absurd rfl M
     |cons b l=>simp at V;subst V;simp only[OW,if_pos O]
    rw[U];simp[aa,N,f37,-aK,R,X,af,gK,az,D,C,B,o,L,I,G]
   ·have G:¬nQ (u-a.1)≤0:=fun h=>O (G3.1 h)
    obtain⟨b,m⟩:∃b,ah f37=[b]:=⟨_,rfl⟩
    obtain⟨F,Z⟩:=BG (K:=Q.length+1) Q u h R (by omega) (by rw[kZ V];exact O) m;simp[ah,aE,f37] at m;subst m;cases hm:uL u (Q.drop 1) with
    |true=>
     rw[hm,if_pos rfl] at Z;have j:=fun S d h=>(Z S d h).1
     have Y:=fun S d h=>(Z S d h).2.1 rfl
     clear Z;simp[aa,N,f37,-aK,R,X,af,gK,az,D,C,B,o,L,G,j,Y]
    |false=>
     rw[hm,if_neg (by simp)] at Z;have j:=fun S d h=>(Z S d h).1
     have Y:=fun S d h=>(Z S d h).2.2 rfl
     clear Z;obtain⟨n,hn⟩:∃n,Q.length=n+1:=⟨Q.length-1,by omega⟩
     obtain⟨c,H⟩:∃q,Q[n]? =some q:=⟨Q[n],List.getElem?_eq_getElem (by omega)⟩
     obtain⟨c1,c2,c3⟩:=Cf (Lc H);have w1:IntKind.i64.wrap ((Q.length:Int)-1)=(n:Int):=by rw[ae (by have:=h.2.2.2;omega) (by have:=h.2.2.2;omega)];omega
     have W:n<Q.length:=by omega
     have U:OW u Q=c.2:=by
      cases Q with
      |nil=>exact absurd rfl M
      |cons b l=>
       simp at V;subst V;simp only[OW,if_neg O];rw[Lg (by simpa using hm)];have:(b::l).getLast? =some c:=by rw[List.getLast?_eq_getElem?,hn];exact H
       rw[List.getLast?_eq_some_getLast (by simp)] at this;rw[Option.some.inj this]
     rw[U];simp[aa,N,f37,-aK,R,X,af,gK,az,D,C,B,o,L,G,j,Y,w1,W,c3]
 have:=(ar aj (aI _) Kd (aP _) y).1;simpa [y9.mem] using this
end Go.Proofs
