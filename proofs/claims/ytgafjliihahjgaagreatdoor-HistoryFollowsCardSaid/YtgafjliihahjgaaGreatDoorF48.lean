/- See F54. -/
import Derived.Test.YtgafjliihahjgaaGreatDoorF47
import Derived.Test.YtgafjliihahjgaaGreatDoorF46
set_option linter.all false
set_option maxRecDepth 100000
set_option maxHeartbeats 40000000
namespace Go.Proofs
open Go.Eng
open Tryz
def GrN(es:Nat)(N:Mem)(pv:AV)(k:Nat)(L:List AV)(A:Mem):Prop:=(pv=.y9∧L=[]∧k=0∧A=N)∨∃b,pv=.slice b 0 k none∧N[b]? =some (.cells true es L)∧L.length=k*es∧A=N.set b .aeP
theorem KY:(aC f189).map (fun o=>dB o.toList)=[[0,0,0,0,8,0,56,120,248,0,512,0,3584,7680,15872,0,0,98304,229376,524280,1048572,2097150,4194302,8388607,16777215]]:=by kernel_rfl
section
variable {O:aeT}{N N1:Mem}{w:AV}{n i j bm fr pb tb fb:Nat}{oF o1 o2 o3:Bool}{F L:List AV}{P:List P2}{T:List Tr}{Q:List Rat}{t:Tr}{A:P2}{f off:Rat}{nv:V3}
theorem K5{b:Code}(G:ai f189=[b])(hm:N[bm]? =some (.cells true 0 [.slice pb 0 P.length none,.slice tb 0 T.length none]))(hF:N[fr]? =some (.cells oF 1 F))(hFl:F.length=n)(hi:F[i]? =some (.slice fb 0 Q.length none))(hn:n≤3)(hP:N[pb]? =some (.cells o1 2 (pC P)))(hT:N[tb]? =some (.cells o2 3 (tC T)))(hQ:N[fb]? =some (.cells o3 1 (qC Q)))(ht:T[j]? =some t)(hA:P[t.1]? =some A)(hf:Q[t.1]? =some f)(hg:GrN 4 N w i L N1)(rL:∀f,AV.aeW f L=true)(eN:O (.fn 253) [.agg [.slice pb 0 P.length none,.slice tb 0 T.length none],.slice fb 0 Q.length none,.int .i64 (j:Int)] N=some ⟨.tuple [vA nv,.int .i64 0],none,[]⟩)(eD:∀X,O (.fn 73) [vA nv,.agg [.str (ak A.1),.str (ak A.2),.str (ak f)]] (N++X)=some ⟨.str (ak off),none,[]⟩){env:Env}(l2:ad env 2=.int .i64 (j:Int))(l3:ad env 3=.ptr bm 0)(l8:ad env 8=w)(H:ad env 21=.slice fr 0 n none)(I:ad env 22=.int .i64 (n:Int))(R:ad env 23=.int .i64 (i:Int))(m0:Nat)(d:Bool):
  ∃M,aM (aN prog) (fun _=>[23,23,23,8]) O 6 69 m0 true b ⟨env,N,d⟩=some (.normal,M)∧ad M.env 23=.int .i64 ((i+1:Nat):Int)∧ad M.env 8=.slice (N.length+2) 0 (i+1) none∧M.mem=N1++[.cells true 0 (vL nv),.cells true 4 (vL nv++[.str (ak off)]),.cells true 4 (L++(vL nv++[.str (ak off)]))]:=by
 obtain⟨W,K⟩:∃W,aC f189=W :=⟨_,rfl⟩
 have J :=be K KY;simp only[aC,bn,f189,List.nil_append,List.append_nil] at K;subst K;simp only[lB] at J;simp[ai,aG,f189] at G;subst G;have g1:=gL hm;have g2:=gL hF;have g3:=gL hP;have g4:=gL hT;have g5:=gL hQ;have z:∀Y:Mem,(N++Y)[bm]? =some (.cells true 0 [.slice pb 0 P.length none,.slice tb 0 T.length none]):=fun Y=>gU hm _
 have u:∀Y:Mem,(N++Y)[pb]? =some (.cells o1 2 (pC P)):=fun Y=>gU hP _
 have m:∀Y:Mem,(N++Y)[tb]? =some (.cells o2 3 (tC T)):=fun Y=>gU hT _
 have x5:∀Y:Mem,(N++Y)[fb]? =some (.cells o3 1 (qC Q)):=fun Y=>gU hQ _
 have y1:∀x,bm<N.length+x:=fun x=>by omega
 have y3:∀x,pb<N.length+x:=fun x=>by omega
 have y4:∀x,tb<N.length+x:=fun x=>by omega
 have y5:∀x,fb<N.length+x:=fun x=>by omega
 have V:i<n:=by have:=gL hi;omega
 obtain⟨k1,k2⟩:=Ph ht;have S:=gL ht;obtain⟨p1,p2,p3,p4⟩:=wm hA;have a1:=gL hA;have f1:=R5 hf;have b1:=gL hf;obtain⟨t1,t2,t3⟩:=t;simp only at*;have kk:(tC T)[j*3]? =some (.int .i64 (t1:Int)):=by have:=congrArg (fun l=>l[0]?) k1;simpa [List.getElem?_take,List.getElem?_drop] using this
 have D:IntKind.i64.wrap ((i:Int)+1)=((i+1:Nat):Int):=by rw[aq];omega
 obtain⟨m1,Z⟩:=xE (i+1);have q0:(i+1)*64≤140737488355328:=by omega
 have q2:i≤140737488355327:=by omega
 unfold vA vL at*;rcases hg with⟨rfl,rfl,rfl,rfl⟩ | ⟨b,rfl,G,C,rfl⟩
 ·rw[←Z] at D ⊢
  simp[-getElem?_pos,-AV.aeS,-AV.known,-AV.cells,-bL,-List.all_eq_true,vS,rS,mS,l2,l3,l8,H,I,R,V,hF,hi,hm,eN,eD,z,u,m,x5,y1,y3,y5,kk,S,p2,p3,a1,f1,b1,bW,aE,-bl,-aW,-aB,-AV.aeR,-aeY.aeR,aF J,bX,bK,dH,cj,bR,gd,bef,Nat.testBit];subst Z;exact⟨rfl,rfl⟩
 ·have B:=gL G
  rw[←Z] at D ⊢;have z0:∀x,b<N.length+x:=fun x=>by omega
  have tk:List.take (i*4) L=L:=List.take_of_length_le (by omega);have z1:∀Y:Mem,(N++Y)[b]? =some (.cells true 4 L):=fun Y=>gU G _
  have z2:∀Y:Mem,(N++Y).set b .aeP=N.set b .aeP++Y:=fun Y=>List.set_append_left _ _ B
  have z3:∀Y:Mem,(N.set b .aeP++Y)[N.length]? =Y[0]? :=fun Y=>by have:=jU (N.set b .aeP) Y;rwa [List.length_set] at this
  have z4:∀Y:Mem,(N.set b .aeP++Y)[b]? =some .aeP:=fun Y=>by rw[List.getElem?_append_left (by rw[List.length_set];exact B),List.getElem?_set_self B]
  have z5:∀(Y:Mem) k,List.drop (N.length+k) (N.set b .aeP++Y)=Y.drop k:=fun Y k=>by have:(N.set b .aeP).length=N.length:=List.length_set;rw[←this,←List.drop_drop,List.drop_left]
  simp[-getElem?_pos,-AV.aeS,-AV.known,-AV.cells,-bL,-List.all_eq_true,vS,rS,mS,l2,l3,l8,H,I,R,V,hF,hi,hm,eN,eD,D,z,u,m,x5,y1,y3,y5,z4,z5,gm,rL,z0,z1,z2,C,q0,q2,tk,kk,S,p2,p3,a1,f1,b1,bW,aE,-bl,-aW,-aB,-AV.aeR,-aeY.aeR,aF J,bX,bK,dH,cj,bR,gd,bef,Nat.testBit];exact Z.symm
end
def plC:List (V3×Rat)→List AV
 | []=>[]
 |x::l=>(vL x.1++[.str (ak x.2)])++plC l
def nO(N:Mem)(w:AV)(i:Nat)(x:V3×Rat):Mem×AV:=(LV N w++[.cells true 0 (vL x.1),.cells true 4 (vL x.1++[.str (ak x.2)]),.cells true 4 (xz N w++(vL x.1++[.str (ak x.2)]))],.slice (N.length+2) 0 (i+1) none)
def G6:List (V3×Rat)→Nat→Mem→AV→Mem×AV
 | [],_,N,w=>(N,w)
 |x::l,i,N,w=>G6 l (i+1) (nO N w i x).1 (nO N w i x).2
structure PdI (M N:Mem)(w:AV)(i:Nat)(L:List AV):Prop where
 e:∃Y,N=M++Y
 g:GrN 4 N w i L (LV N w)
 r:xz N w=L
 b:∀b n,w=.slice b 0 n none→M.length≤b
 z:w=.y9∨0<i
section
variable {M N:Mem}{w:AV}{L:List AV}{i:Nat}
theorem PdI.next(H:PdI M N w i L)(A:L.length=i*4)(x:V3×Rat):PdI M (nO N w i x).1 (nO N w i x).2 (i+1) (L++(vL x.1++[.str (ak x.2)])):=by
 have W:(LV N w).length=N.length:=by unfold LV;split<;>simp
 have V:=H.r;have row:(nO N w i x).1[N.length+2]? =some (.cells true 4 (L++(vL x.1++[.str (ak x.2)]))):=by unfold nO;simp only;rw[List.getElem?_append_right (by omega),W,Nat.add_sub_cancel_left,V];rfl
 refine⟨?_,.inr ⟨N.length+2,rfl,row,?_,rfl⟩,?_,?_,.inr (by omega)⟩
 ·obtain⟨Y,Z⟩:=H.e
  rcases H.g with⟨X,_,_⟩ | ⟨c,X,S,_⟩
  ·exact⟨Y++[.cells true 0 (vL x.1),.cells true 4 (vL x.1++[.str (ak x.2)]),.cells true 4 (xz N w++(vL x.1++[.str (ak x.2)]))],by unfold nO;simp only;rw[X];show N++_=_;rw[Z,List.append_assoc]⟩
  ·have O:=H.b c _ X
   obtain⟨k,rfl⟩:∃k,c=M.length+k:=⟨c-M.length,by omega⟩
   exact⟨Y.set k .aeP++[.cells true 0 (vL x.1),.cells true 4 (vL x.1++[.str (ak x.2)]),.cells true 4 (xz N w++(vL x.1++[.str (ak x.2)]))],by unfold nO;simp only;rw[X];show N.set (M.length+k) .aeP++_=_;rw[Z,G4,List.append_assoc]⟩
 ·rw[List.length_append,A];simp[vL];omega
 ·show xz (nO N w i x).1 (.slice (N.length+2) 0 _ none)=_
  simp only[xz,row]
 ·intro b n h
  obtain⟨Y,Z⟩:=H.e;unfold nO at h;simp only[AV.slice.injEq] at h;obtain⟨rfl,_⟩:=h;rw[Z,List.length_append];omega
theorem PW:∀(l:List (V3×Rat)) (i:Nat) (N:Mem) (w:AV) (L:List AV),L.length=i*4→PdI M N w i L→PdI M (G6 l i N w).1 (G6 l i N w).2 (i+l.length) (L++plC l)
 | [],i,N,w,L,_,H=>by show PdI M N w i (L++[]);rw[List.append_nil];exact H
 |x::l,i,N,w,L,hL,H=>by rw[G6,plC,←List.append_assoc];have:=PW l (i+1) _ _ _ (by rw[List.length_append,hL];simp[vL];omega) (H.next hL x);rw[List.length_cons,show i+(l.length+1)=i+1+l.length by omega];exact this
end
structure ahe (O:aeT)(M:Mem)(nF dF:Go.Eng.Callee)(bm fr pb tb j:Nat)(P:List P2)(T:List Tr)(t:Tr)(A:P2)(F:List AV)(X:List (V3×Rat)):Prop where
 m:M[bm]? =some (.cells true 0 [.slice pb 0 P.length none,.slice tb 0 T.length none])
 r:∃o,M[fr]? =some (.cells o 1 F)
 l:F.length=X.length∧X.length≤3
 pp:∃o,M[pb]? =some (.cells o 2 (pC P))
 tt:∃o,M[tb]? =some (.cells o 3 (tC T))
 hi:T[j]? =some t
 hA:P[t.1]? =some A
 f:∀(i:Nat) x,X[i]? =some x→∃fb o Q f,F[i]? =some (.slice fb 0 (Q:List Rat).length none)∧M[fb]? =some (.cells o 1 (qC Q))∧Q[t.1]? =some f∧
  (∀Y,O nF [.agg [.slice pb 0 P.length none,.slice tb 0 T.length none],.slice fb 0 Q.length none,.int .i64 (j:Int)] (M++Y)=some ⟨.tuple [vA x.1,.int .i64 0],none,[]⟩)∧∀Y,O dF [vA x.1,.agg [.str (ak A.1),.str (ak A.2),.str (ak f)]] (M++Y)=some ⟨.str (ak x.2),none,[]⟩
section
variable {O:aeT}{M N:Mem}{w:AV}{bm fr pb tb j:Nat}{P:List P2}{T:List Tr}{t:Tr}{A:P2}{F:List AV}{X:List (V3×Rat)}
theorem yl{b:Code}(H:ai f189=[b])(G env:Env):ad (aD [23,23,23,8] (ab b) G env) 23=ad env 23∧ad (aD [23,23,23,8] (ab b) G env) 8=ad env 8∧ad (aD [23,23,23,8] (ab b) G env) 2=ad G 2∧ad (aD [23,23,23,8] (ab b) G env) 3=ad G 3∧ad (aD [23,23,23,8] (ab b) G env) 21=ad G 21∧ad (aD [23,23,23,8] (ab b) G env) 22=ad G 22:=by simp[ai,aG,f189] at H;subst H;simp[aD]
theorem Oh{b:Code}(I:ai f189=[b]){n:Nat}{env:Env}(G:ad env 22=.int .i64 (n:Int))(H:ad env 23=.int .i64 (n:Int))(m0:Nat)(d:Bool):
  ∃Z,aM (aN prog) (fun _=>[23,23,23,8]) O 6 69 m0 true b ⟨env,N,d⟩=some (.exit 0,⟨Z,N,d⟩)∧ad Z 8=ad env 8:=by
 simp[ai,aG,f189] at I;subst I;simp[G,H]
theorem yk{b:Code}(R:ai f189=[b])(I:ahe O M (.fn 253) (.fn 73) bm fr pb tb j P T t A F X)
  {G:Env}(l2:ad G 2=.int .i64 (j:Int)) (l3:ad G 3=.ptr bm 0) (l21:ad G 21=.slice fr 0 X.length none) (l22:ad G 22=.int .i64 (X.length:Int)) (m1 m0:Nat):
  ∀(k i:Nat) (N:Mem) (w:AV) (L:List AV) (env:Env) (d:Bool) (K:Nat),i+k=X.length→k<K→L.length=i*4→(∀f,AV.aeW f L=true)→PdI M N w i L→ad env 23=.int .i64 (i:Int)→ad env 8=w→
   ∃r:Env×Bool,er [23,23,23,8] (ab b) G m1 (aM (aN prog) (fun _=>[23,23,23,8]) O 6 69 m0 true b) K ⟨aD [23,23,23,8] (ab b) G env,N,d⟩=some (.exit 0,⟨r.1,(G6 (X.drop i) i N w).1,r.2⟩)∧ad r.1 8=(G6 (X.drop i) i N w).2
 |0,i,N,w,L,env,d,K,hk,hK,hL,hRL,H,h23,h8=>by
  obtain⟨K,rfl⟩:∃k,K=k+1:=⟨K-1,by omega⟩
  obtain rfl:i=X.length:=by omega
  obtain⟨V,J,z,u,q5,D⟩:=yl R G env;obtain⟨AC,h1,h2⟩:=Oh (O:=O) (N:=N) R (env:=aD [23,23,23,8] (ab b) G env) (by rw[D];exact l22) (by rw[V];exact h23) m0 d;rw[List.drop_length];exact⟨(AC,d),by rw[er,h1];rfl,by rw[h2,J];exact h8⟩
 |k+1,i,N,w,L,env,d,K,hk,hK,hL,hRL,H,h23,h8=>by
  obtain⟨K,rfl⟩:∃k,K=k+1:=⟨K-1,by omega⟩
  obtain⟨V,J,z,u,q5,D⟩:=yl R G env;obtain⟨x,hx⟩:∃t,X[i]? =some t:=⟨_,List.getElem?_eq_getElem (by omega)⟩
  obtain⟨fb,o3,Q,f,f1,f2,f3,f4,f5⟩:=I.f i x hx;obtain⟨Y,C⟩:=H.e;have ed:X.drop i=x::X.drop (i+1):=by obtain⟨FS,e⟩:=List.getElem?_eq_some_iff.1 hx;rw[List.drop_eq_getElem_cons FS,e]
  have up:∀{b:Nat}{S:aeY},M[b]? =some S→N[b]? =some S:=fun {b S} R=>by rw[C,List.getElem?_append_left (gL R)];exact R
  obtain⟨oF,hF⟩:=I.r;obtain⟨o1,hP⟩:=I.pp;obtain⟨o2,hT⟩:=I.tt;obtain⟨hl,B⟩:=I.l;obtain⟨W,t1,t2,t3,t4⟩:=K5 (O:=O) (n:=X.length) (i:=i) (nv:=x.1) (off:=x.2) R (up I.m) (up hF) hl f1 B (up hP) (up hT) (up f2) I.hi I.hA f3 H.g hRL (by rw[C];exact f4 Y) (fun Z=>by rw[C,List.append_assoc];exact f5 (Y++Z))
   (env:=aD [23,23,23,8] (ab b) G env) (by rw[z];exact l2) (by rw[u];exact l3) (by rw[J];exact h8) (by rw[q5];exact l21) (by rw[D];exact l22) (by rw[V];exact h23) m0 d
  rw[ed,G6];rw[er,t1];simp only;have hs:ic [23,23,23,8] (ab b) G m1 W =⟨aD [23,23,23,8] (ab b) G W.env,W.mem,W.ae9⟩:=by simp[ic,jE]
  rw[hs];have hr:=H.r;have e1:W.mem=(nO N w i x).1:=by rw[t4];unfold nO;rw[hr]
  have e2:ad W.env 8=(nO N w i x).2:=by rw[t3];rfl
  rw[e1];exact yk R I l2 l3 l21 l22 m1 m0 k (i+1) _ _ _ W.env W.ae9 K (by omega) (by omega) (by rw[List.length_append,hL];simp[vL];omega) (fun f=>by rw[gm,hRL];rfl) (H.next hL x) t2 e2
end
theorem PdI.own{M N:Mem}{w:AV}{i:Nat}{L:List AV}(H:PdI M N w i L)(A:0<i):∃k,w=.slice (M.length+k) 0 i none∧N[M.length+k]? =some (.cells true 4 L):=by
 rcases H.g with⟨_,_,h3,_⟩ | ⟨b,Z,X,_⟩
 ·omega
 ·have:=H.b b i Z
  exact⟨b-M.length,by rw[show M.length+(b-M.length)=b by omega];exact Z,by rw[show M.length+(b-M.length)=b by omega];exact X⟩
section
variable {O:aeT}{M:Mem}{pb tb fr j:Nat}{P:List P2}{T:List Tr}{t:Tr}{A:P2}{F:List AV}{X:List (V3×Rat)}
theorem ym{H:Mem}{bm:Nat}(I:ahe O H (.fn 253) (.fn 73) bm fr pb tb j P T t A F X)(R:0<X.length){b:Code}(hb:ai f189=[b])(m0:Nat):
  ∃w Z,(∃k,w=.slice (H.length+k) 0 X.length none∧Z[H.length+k]? =some (.cells true 4 (plC X)))∧(∃Y,Z =H++Y)∧∃G:Env→Bool→Env×Bool,∀env d,(ad env 2=.int .i64 (j:Int)∧ad env 3=.ptr bm 0∧ad env 21=.slice fr 0 X.length none∧ad env 22=.int .i64 (X.length:Int)∧ad env 23=.int .i64 0∧ad env 8=.y9)→
   aM (aN prog) (fun _=>[23,23,23,8]) O 6 69 m0 true (.loop b) ⟨env,H,d⟩=some (.exit 0,⟨(G env d).1,Z,(G env d).2⟩)∧ad (G env d).1 8=w:=by
 have V:PdI H H .y9 0 []:=⟨⟨[],by simp⟩,.inl ⟨rfl,rfl,rfl,rfl⟩,rfl,fun b n h=>(by cases h),.inl rfl⟩;have W:=PW X 0 H .y9 [] rfl V;rw[List.nil_append,Nat.zero_add] at W;obtain⟨G,S⟩:=jW (β:=Env×Bool) (p:=fun env _=>ad env 2=.int .i64 (j:Int)∧ad env 3=.ptr bm 0∧ad env 21=.slice fr 0 X.length none∧ad env 22=.int .i64 (X.length:Int)∧ad env 23=.int .i64 0∧ad env 8=.y9)
  (q:=fun env d r=>aM (aN prog) (fun _=>[23,23,23,8]) O 6 69 m0 true (.loop b) ⟨env,H,d⟩=some (.exit 0,⟨r.1,(G6 X 0 H .y9).1,r.2⟩)∧ad r.1 8=(G6 X 0 H .y9).2) (fun env d ⟨a2,a3,a21,a22,a23,a8⟩=>by
  have K:=I.l.2;have:=yk (O:=O) (M:=H) hb I a2 a3 a21 a22 H.length m0 X.length 0 H .y9 [] env d 6 (by omega) (by omega) rfl (fun _=>rfl) V a23 a8;rw[List.drop_zero] at this;exact this)
 exact⟨_,_,W.own R,W.e,G,S⟩
variable {fb n0 cb m:Nat}{u kn:AV}{c:Evc}{vs:List AV}
theorem KZ(I:HS prog O)(hu:u.aeS=true)(hn:kn.aeS=true)(H:ahe O (M++[.cells true 0 [.slice pb 0 P.length none,.slice tb 0 T.length none],.cells true 0 (c.cells (.slice fb 0 n0 none) u .y9 kn),.aeP,.cells true 1 [.slice fb 0 n0 none]]) (.fn 253) (.fn 73) M.length (M.length+3) pb tb j P T t A [.slice fb 0 n0 none] X):
  ∃w Z,kO prog 189 [.agg [.slice pb 0 P.length none,.slice tb 0 T.length none],.agg (c.cells (.slice fb 0 n0 none) u .y9 kn),.int .i64 (j:Int)] M (.tuple [w,.int .i64 0]) (M++Z)∧∃k,w=.slice (M.length+k) 0 X.length none∧(M++Z)[M.length+k]? =some (.cells true 4 (plC X)):=by
 have J:aK prog 189=some f189:=by kernel_rfl
 obtain⟨b,V⟩:∃b,ai f189=[b]:=⟨_,rfl⟩
 have D:X.length=1:=by have:=H.l.1;simpa using this.symm
 obtain⟨w,C,⟨k,S,h3⟩,⟨Y,K⟩,G,W⟩:=ym H (by omega) V M.length;rw[D] at W;have B:=fun env d h=>(W env d h).1
 have z:=fun env d h=>(W env d h).2
 clear W;have R:∀s,(AV.str s).aeS=true:=fun _=>rfl
 have hci:∀k n,(AV.int k n).aeS=true:=fun _ _=>rfl
 have hcl:∀b o n c,(AV.slice b o n c).aeS=true:=fun _ _ _ _=>rfl
 have hcn:AV.y9.aeS=true:=rfl;have X':cB (aN prog) (fun _=>[23,23,23,8]) (aK prog) O 6 189 [.agg [.slice pb 0 P.length none,.slice tb 0 T.length none],.agg (c.cells (.slice fb 0 n0 none) u .y9 kn),.int .i64 (j:Int)] M=some (.tuple [w,.int .i64 0],C):=by simp[ai,aG,f189] at V;subst V;unfold Evc.cells at*;simp[-getElem?_pos,-AV.aeS,-AV.known,-AV.cells,-bL,-List.all_eq_true,vS,mS,cB,J,f189,B,z]
 refine⟨w,[.cells true 0 [.slice pb 0 P.length none,.slice tb 0 T.length none],.cells true 0 (c.cells (.slice fb 0 n0 none) u .y9 kn),.aeP,.cells true 1 [.slice fb 0 n0 none]]++Y,?_,?_⟩
 ·rw[←List.append_assoc,←K];exact bZ ae (ar _) I (au _) X'
 ·rw[←List.append_assoc,←K]
  rw[List.length_append,Nat.add_assoc] at S h3;exact⟨_,S,h3⟩
theorem K0{o:Bool}(hO:HS prog O)(hu:u.aeS=true)(hn:kn.aeS=true)(hc:M[cb]? =some (.cells o 1 vs))(hv:0<vs.length)(H:vs.length≤2)(I:vs.all AV.aeS=true)(R:ahe O (M++[.cells true 0 [.slice pb 0 P.length none,.slice tb 0 T.length none],.cells true 0 (c.cells (.slice fb 0 n0 none) u (.slice cb 0 vs.length none) kn),.aeP,.cells true 1 (.slice fb 0 n0 none::vs)]) (.fn 253) (.fn 73) M.length (M.length+3) pb tb j P T t A (.slice fb 0 n0 none::vs) X):
  ∃w V,kO prog 189 [.agg [.slice pb 0 P.length none,.slice tb 0 T.length none],.agg (c.cells (.slice fb 0 n0 none) u (.slice cb 0 vs.length none) kn),.int .i64 (j:Int)] M (.tuple [w,.int .i64 0]) (M++V)∧∃k,w=.slice (M.length+k) 0 X.length none∧(M++V)[M.length+k]? =some (.cells true 4 (plC X)):=by
 have hG:aK prog 189=some f189:=by kernel_rfl
 obtain⟨b,K⟩:∃b,ai f189=[b]:=⟨_,rfl⟩
 have hx:X.length=vs.length+1:=by have:=R.l.1;simpa using this.symm
 obtain⟨w,N',⟨k,D,h3⟩,⟨Y,C⟩,G,S⟩:=ym R (by omega) K M.length;rw[hx] at S;have B:=fun env d h=>(S env d h).1
 have z:=fun env d h=>(S env d h).2
 clear S;have hcs:∀s,(AV.str s).aeS=true:=fun _=>rfl
 have hci:∀k n,(AV.int k n).aeS=true:=fun _ _=>rfl
 have hcl:∀b o n c,(AV.slice b o n c).aeS=true:=fun _ _ _ _=>rfl
 have lc:=gL hc;have J:∀Z:Mem,(M++Z)[cb]? =some (.cells o 1 vs):=fun Z=>gU hc _
 obtain⟨n,W⟩:=xE vs.length;have tk:List.take n vs=vs:=List.take_of_length_le (by omega);rw[←W] at hv H;have w1:IntKind.i64.wrap ((n:Int)+1)=((n+1:Nat):Int):=by rw[aq];omega
 have q1:(n+1)*24≤140737488355328∧(1+n)*24≤140737488355328:=by omega
 have q2:1+n≤140737488355328∧n≤140737488355327:=by omega
 have q3:1+n=n+1:=by omega
 have n0' :¬n=0:=by omega
 have X':cB (aN prog) (fun _=>[23,23,23,8]) (aK prog) O 6 189 [.agg [.slice pb 0 P.length none,.slice tb 0 T.length none],.agg (c.cells (.slice fb 0 n0 none) u (.slice cb 0 vs.length none) kn),.int .i64 (j:Int)] M=some (.tuple [w,.int .i64 0],N'):=by simp[ai,aG,f189] at K;subst K;unfold Evc.cells at*;rw[←W] at B z ⊢;simp[-getElem?_pos,-AV.aeS,-AV.known,-AV.cells,-bL,-List.all_eq_true,vS,mS,cB,hG,f189,J,tk,←W,q1,q2,q3,I,B,z]
 refine⟨w,[.cells true 0 [.slice pb 0 P.length none,.slice tb 0 T.length none],.cells true 0 (c.cells (.slice fb 0 n0 none) u (.slice cb 0 vs.length none) kn),.aeP,.cells true 1 (.slice fb 0 n0 none::vs)]++Y,?_,?_⟩
 ·rw[←List.append_assoc,←C];exact bZ ae (ar _) hO (au _) X'
 ·rw[←List.append_assoc,←C]
  rw[List.length_append,Nat.add_assoc] at D h3;exact⟨_,D,h3⟩
end
end Go.Proofs
namespace Go.Eng
variable{P:Program}{args:List AV}{v:AV}
theorem kO.thin{f:FuncId}{m m1 A:Mem}(h:kO P f args m v m1)(G:A.length=m1.length)(hc:∀(b:Nat) s,A[b]? =some s→m1[b]? =some s∨s=.aeP):kO P f args m v A:=by
 refine⟨h.1,fun base μ w Vs hG hH hV=>(h.2 base μ w Vs hG hH hV).mono ?_⟩;rintro e w' ⟨V,v',m',μ',rfl,q1,q2,q3,rfl,rfl⟩;have Z:∀{b:Nat},eh A b→eh m' b:=fun {b} ⟨s,h1,h2⟩=>by
  rcases hc b s h1 with h | rfl
  ·exact⟨s,h,h2⟩
  ·cases h2
 refine⟨V,v',A,μ',rfl,by rw[G];exact q1,⟨q2.ae1,fun b s X=>?_,fun b S O X K M W=>?_⟩,⟨by rw[G];exact q3.len,q3.agree,q3.os,q3.tape,q3.output,q3.size,q3.frame,fun b X=>q3.owner b (Z X),q3.drawn⟩,rfl,rfl⟩
 ·rcases hc b s X with h | rfl
  ·rw[G];exact q2.slot b s h
  ·trivial
 ·rcases hc S O K with h | rfl
  ·exact q2.sep b S O (Z X) h M W
  ·exact absurd rfl M
def agh(n k:Nat)(s:aeY):Mem:=(List.replicate n .aeP).set k s
theorem Cr(n k:Nat)(s:aeY):(agh n k s).length=n:=by simp[agh]
variable{k n:Nat}{s:aeY}
theorem W2{x:aeY}(h:x∈agh n k s):x=.aeP∨x=s:=by
 unfold agh at h;rcases List.mem_or_eq_of_mem_set h with h | h
 ·exact .inl (List.eq_of_mem_replicate h)
 ·exact .inr h
theorem UY(A:k<n)(M:Mem):(M++agh n k s)[M.length+k]? =some s:=by rw[List.getElem?_append_right (by omega),Nat.add_sub_cancel_left];unfold agh;rw[List.getElem?_set_self (by simpa using A)]
theorem kO.agh{f:FuncId}{M new:Mem}(h:kO P f args M v (M++new))(hs:(M++new)[M.length+k]? =some s):k<new.length∧kO P f args M v (M++Go.Eng.agh new.length k s):=by
 have X:k<new.length:=by have:=gL hs;rw[List.length_append] at this;omega
 refine⟨X,h.thin (by rw[List.length_append,List.length_append,Cr]) fun b x Z=>?_⟩;by_cases W:b<M.length
 ·rw[List.getElem?_append_left W] at Z ⊢;exact .inl Z
 ·by_cases V:b=M.length+k
  ·subst V
   rw[UY X] at Z;obtain rfl:=Option.some.inj Z;exact .inl hs
  ·right
   rw[List.getElem?_append_right (by omega)] at Z;unfold Go.Eng.agh at Z;rw[List.getElem?_set_ne (by omega)] at Z;exact List.eq_of_mem_replicate (List.mem_of_getElem? Z)
end Go.Eng
namespace Go.Proofs
open Go.Eng
open Tryz
theorem W1{n k:Nat}{s:aeY}(f:Nat→Bool)(h:s.own=true)(A:s.aeR f=true):((agh n k s).all fun s=>iO s&&s.aeR f)=true:=by
 rw[List.all_eq_true];intro x Z;rcases W2 Z with rfl | rfl
 ·rfl
 ·rw[A,Bool.and_true];cases x<;>simp_all[iO,aeY.own]
variable{Z:List Int}
theorem Cz(h:∀z∈Z,z.natAbs≤14)(i:Nat):Sm 2 7 ((qH Z).getD i 0):=by
 unfold qH;by_cases W:i<Z.length
 ·obtain⟨z,X⟩:∃z,Z[i]? =some z:=⟨_,List.getElem?_eq_getElem W⟩
  simp only[List.getD,List.getElem?_map,X,Option.map_some,Option.getD_some];exact CS (by decide) (by have:=h z (List.mem_of_getElem? X);omega)
 ·simp only[List.getD,List.getElem?_map,List.getElem?_eq_none (show Z.length≤i by omega),Option.map_none,Option.getD_none]
  exact⟨by decide,⟨0,by rw[Rat.zero_mul];rfl⟩,by decide,by decide⟩
theorem W5{i:Nat}(h:i<Z.length):(qH Z)[i]? =some ((qH Z).getD i 0):=by
 unfold qH;obtain⟨z,X⟩:∃z,Z[i]? =some z:=⟨_,List.getElem?_eq_getElem h⟩
 simp[List.getD,List.getElem?_map,X]
theorem W6(Z:List Int):(qH Z).length=Z.length:=by simp[qH]
def rY(s:aeX)(pb tb j:Nat)(A B C:P2)(t:Tr)(c:Go.Eng.Callee)(a:List AV)(N:Mem)(r:aeQ):Prop:=
 (∃(X:Nat) (Z:List Int),c=.fn 253∧a=[.agg [.slice pb 0 s.P.length none,.slice tb 0 s.T.length none],.slice X 0 (qH Z).length none,.int .i64 (j:Int)]∧(∃o,N[X]? =some (.cells o 1 (qC (qH Z))))∧(∃o,N[pb]? =some (.cells o 2 (pC s.P)))∧(∃o,N[tb]? =some (.cells o 3 (tC s.T)))∧(Z.length=s.P.length∧∀z∈Z,z.natAbs≤14)∧r=⟨.tuple [vA (G8 A B C t (qH Z)).1,.int .i64 0],none,[]⟩)∨
 (∃x y:V3,c=.fn 73∧a=[vA x,vA y]∧afg x y∧r=⟨.str (ak (da x y)),none,[]⟩)
theorem YF{x y:V3}(h:vA x=vA y):x=y:=by unfold vA at h;simp only[AV.agg.injEq,List.cons.injEq,AV.str.injEq,and_true] at h;exact Prod.ext (eO h.1) (Prod.ext (eO h.2.1) (eO h.2.2))
variable{Ys:List (List Int)}{us:List (List UInt8)}
section
variable {s:aeX}{pb tb j:Nat}{A B C:P2}{t:Tr}
theorem yj{c:Go.Eng.Callee}{a:List AV}{N:Mem}{r r' :aeQ}(h:rY s pb tb j A B C t c a N r)(G :rY s pb tb j A B C t c a N r'):r' =r:=by
 rcases h with⟨O,Z,rfl,rfl,⟨o,V⟩,_,_,_,rfl⟩ | ⟨x,y,rfl,rfl,_,rfl⟩
 ·rcases G with⟨W,S,_,e,⟨M,X⟩,_,_,_,rfl⟩ | ⟨x,y,e,_⟩
  ·simp only[List.cons.injEq,AV.slice.injEq,true_and,and_true] at e
   obtain⟨rfl,_⟩:=e;rw[V] at X;simp only[Option.some.injEq,aeY.cells.injEq,true_and] at X;have:=X.2;rw[tB,tB] at this;rw[Vn this]
  ·cases e
 ·rcases G with⟨W,S,e,_⟩ | ⟨K,J,_,e,_,rfl⟩
  ·cases e
  ·simp only[List.cons.injEq,and_true] at e
   rw[YF e.1,YF e.2]
theorem Og(R:s.P.length≤1000)(Y:s.T[j]? =some t)(G:s.P[t.1]? =some A)(H:s.P[t.2.1]? =some B)(I:s.P[t.2.2]? =some C)(hS:0<bU A B C):HS prog (nb (rY s pb tb j A B C t)):=Aq fun c a N r h=>by
 rcases h with⟨F,Z,rfl,rfl,⟨o,W⟩,⟨D,V⟩,⟨u,h3⟩,⟨S,X⟩,rfl⟩ | ⟨x,y,rfl,rfl,W,rfl⟩
 ·have a1:=gL G
  have a2:=gL H;have a3:=gL I;obtain⟨O,m,m0,m1,M,K⟩:=YA (yK s) (List.mem_of_getElem? G) (List.mem_of_getElem? H) (List.mem_of_getElem? I) hS (Cz X t.1) (Cz X t.2.1) (Cz X t.2.2);have:=E6 R (fun z J=>by have:=X z J;omega) S Y G H I (W5 (by omega)) (W5 (by omega)) (W5 (by omega)) ⟨M.aeZ,K.aeZ⟩ O V h3 W;exact aI (by simpa [G8] using this)
 ·exact aU (DR x y W N)
theorem Bx{O:aeT}{M0:Mem}{bm fr:Nat}{F:List AV}(H:O=nb (rY s pb tb j A B C t))(G:(EvD.dep Z us Ys).Ok s)(I:(EvD.dep Z us Ys).Fin)(hi:s.T[j]? =some t)(hA:s.P[t.1]? =some A)(R:s.P[t.2.1]? =some B)(hC:s.P[t.2.2]? =some C)(hS:0<bU A B C)(m:M0[bm]? =some (.cells true 0 [.slice pb 0 s.P.length none,.slice tb 0 s.T.length none]))(r:∃o,M0[fr]? =some (.cells o 1 F))(p:∃o,M0[pb]? =some (.cells o 2 (pC s.P)))(tt:∃o,M0[tb]? =some (.cells o 3 (tC s.T)))(hl:F.length=Ys.length+1)(hF:∀(i:Nat) Y,(Z::Ys)[i]? =some Y→∃fb o,F[i]? =some (.slice fb 0 (qH Y).length none)∧M0[fb]? =some (.cells o 1 (qC (qH Y)))):
  ahe O M0 (.fn 253) (.fn 73) bm fr pb tb j s.P s.T t A F (((Z::Ys).map qH).map (G8 A B C t)) where
 m:=m
 r:=r
 l:=⟨by simpa using hl,by have:=G.2.2.1;simp;omega⟩
 pp:=p
 tt:=tt
 hi:=hi
 hA:=hA
 f:=fun i x J=>by
  rw[List.map_map,List.getElem?_map] at J;obtain⟨Y,z,rfl⟩:=Option.map_eq_some_iff.1 J;obtain⟨fb,o,f1,f2⟩:=hF i Y z;have W:=List.mem_of_getElem? z;have M:Y.length=s.P.length:=by
   rcases List.mem_cons.1 W with rfl | h
   ·exact G.1
   ·exact(G.2.2.2.2 Y h).1
  have X:=I.1 Y W;have a1:=gL hA;have up:∀{b:Nat}{S:aeY}(V:Mem),M0[b]? =some S→(M0++V)[b]? =some S:=fun {b S} V hb=>gU hb _
  obtain⟨u,p⟩:=p;obtain⟨o2,tt⟩:=tt;refine⟨fb,o,qH Y,(qH Y).getD t.1 0,f1,f2,W5 (by omega),fun V=>?_,fun V=>?_⟩
  ·have x:rY s pb tb j A B C t (.fn 253) [.agg [.slice pb 0 s.P.length none,.slice tb 0 s.T.length none],.slice fb 0 (qH Y).length none,.int .i64 (j:Int)] (M0++V) ⟨.tuple [vA (G8 A B C t (qH Y)).1,.int .i64 0],none,[]⟩:=.inl ⟨fb,Y,rfl,rfl,⟨o,up V f2⟩,⟨u,up V p⟩,⟨o2,up V tt⟩,⟨M,X⟩,rfl⟩
   rw[H];exact fm x fun r' K =>yj x K
  ·obtain⟨ok,m,m0,m1,n1,n2⟩:=YA (yK s) (List.mem_of_getElem? hA) (List.mem_of_getElem? R) (List.mem_of_getElem? hC) hS (Cz X t.1) (Cz X t.2.1) (Cz X t.2.2)
   obtain⟨q1,q2⟩:=(yK s).p A (List.mem_of_getElem? hA);have d:=(OX (p:=(A.1,A.2,(qH Y).getD t.1 0)) ⟨m0,m1⟩ n1 n2 (D:=2) (V:=13) ⟨q1,q2,(Cz X t.1).mono (by decide)⟩ (by decide) (by decide)).1;have x:rY s pb tb j A B C t (.fn 73) [vA (G8 A B C t (qH Y)).1,.agg [.str (ak A.1),.str (ak A.2),.str (ak ((qH Y).getD t.1 0))]] (M0++V) ⟨.str (ak (G8 A B C t (qH Y)).2),none,[]⟩:=.inr ⟨_,(A.1,A.2,(qH Y).getD t.1 0),rfl,rfl,d,rfl⟩;rw[H];exact fm x fun r' K =>yj x K
theorem C9{M:Mem}{o1 o2:Bool}{nm:List UInt8}{G:List AV}(hn:s.P.length≤1000)(I:(EvD.dep Z us Ys).Ok s)(hf:(EvD.dep Z us Ys).Fin)(hE:afv M G (xu nm (hT Z) us (Ys.map hT)))(m1:M[pb]? =some (.cells o1 2 (pC s.P)))(m2:M[tb]? =some (.cells o2 3 (tC s.T)))(hi:s.T[j]? =some t)(hA:s.P[t.1]? =some A)(hB:s.P[t.2.1]? =some B)(hC:s.P[t.2.2]? =some C)(hS:0<bU A B C):
  ∃k n,k<n∧kO prog 189 [.agg [.slice pb 0 s.P.length none,.slice tb 0 s.T.length none],.agg G,.int .i64 (j:Int)] M (.tuple [.slice (M.length+k) 0 (Ys.length+1) none,.int .i64 0]) (M++agh n k (.cells true 4 (plC (((Z::Ys).map qH).map (G8 A B C t))))):=by
 obtain⟨b,u,sv,kn,rfl,h1,h2,⟨m,O,J,hv3⟩,h4⟩:=hE;have a1:=gL hA;have eB:(xu nm (hT Z) us (Ys.map hT)).B.length=(qH Z).length:=by rw[W6];exact cS Z
 have eS:(xu nm (hT Z) us (Ys.map hT)).S.length=Ys.length:=by show(Ys.map hT).length=_;simp
 rw[eB] at h1;rw[eS] at O J;obtain⟨W,o3,rfl,hb⟩:=h1.pos (by rw[W6];have:=I.1;omega);have Z8 :M[W]? =some (.cells o3 1 (qC (qH Z))):=by rw[←LW];exact hb
 have hO:=Og (s:=s) (pb:=pb) (tb:=tb) (j:=j) (t:=t) hn hi hA hB hC hS;have H':(((Z::Ys).map qH).map (G8 A B C t)).length=Ys.length+1:=by simp
 have up:∀{b:Nat}{S:aeY}(V:Mem),M[b]? =some S→(M++V)[b]? =some S:=fun {b S} V hb=>gU hb _
 have R:∀{G:List AV}{w:AV}{X:Mem},kO prog 189 [.agg [.slice pb 0 s.P.length none,.slice tb 0 s.T.length none],.agg G,.int .i64 (j:Int)] M (.tuple [w,.int .i64 0]) (M++X)→(∃k,w=.slice (M.length+k) 0 (((Z::Ys).map qH).map (G8 A B C t)).length none∧(M++X)[M.length+k]? =some (.cells true 4 (plC (((Z::Ys).map qH).map (G8 A B C t)))))→
   ∃k n,k<n∧kO prog 189 [.agg [.slice pb 0 s.P.length none,.slice tb 0 s.T.length none],.agg G,.int .i64 (j:Int)] M (.tuple [.slice (M.length+k) 0 (Ys.length+1) none,.int .i64 0]) (M++agh n k (.cells true 4 (plC (((Z::Ys).map qH).map (G8 A B C t))))):=fun {G w X} h ⟨k,e,hk⟩=>by
  rw[e,H'] at h;obtain⟨K,D⟩:=h.agh hk;exact⟨k,X.length,K,D⟩
 by_cases hY:Ys=[]
 ·subst hY
  obtain rfl:=J.afm rfl;have H:=Bx (M0:=M++[.cells true 0 [.slice pb 0 s.P.length none,.slice tb 0 s.T.length none],.cells true 0 ((xu nm (hT Z) us ([].map hT)).cells (.slice W 0 (qH Z).length none) u .y9 kn),.aeP,.cells true 1 [.slice W 0 (qH Z).length none]]) (bm:=M.length) (fr:=M.length+3) (F:=[.slice W 0 (qH Z).length none]) rfl I hf hi hA hB hC hS (by rw[jU];rfl) ⟨true,by rw[fV];rfl⟩ ⟨o1,up _ m1⟩ ⟨o2,up _ m2⟩ rfl (fun i Y h=>by
   match i,h with
   |0,h=>simp only[List.getElem?_cons_zero,Option.some.injEq] at h;subst h;exact⟨W,o3,rfl,up _ Z8⟩
   |i+1,h=>simp at h)
  obtain⟨w,X,K,D⟩:=KZ hO h2.ck h4.ck H;exact R K D
 ·have hp:0<Ys.length:=List.length_pos_iff.2 hY
  obtain⟨cb,o4,rfl,hc⟩:=J.pos hp;have adu :∀(i:Nat) Y,Ys[i]? =some Y→∃W o,m[i]? =some (.slice W 0 (qH Y).length none)∧M[W]? =some (.cells o 1 (qC (qH Y))):=fun i Y h=>by
   have FS:=gL h;obtain⟨x,z⟩:∃x,m[i]? =some x:=⟨_,List.getElem?_eq_getElem (by omega)⟩
   have hYl:=(I.2.2.2.2 Y (List.mem_of_getElem? h)).1;have:=hv3 i x (hT Y) z (by show(Ys.map hT)[i]? =_;rw[List.getElem?_map,h];rfl);rw[cS,←W6] at this;obtain⟨f,o,rfl,hf⟩:=this.pos (by rw[W6];omega);exact⟨f,o,z,by rw[←LW];exact hf⟩
  have hva:m.all AV.aeS=true:=by
   rw[List.all_eq_true];intro x z;obtain⟨i,z⟩:=List.getElem?_of_mem z;have FS:=gL z;obtain⟨Y,hY⟩:∃Y,Ys[i]? =some Y:=⟨_,List.getElem?_eq_getElem (by omega)⟩
   obtain⟨f,o,h,_⟩:=adu i Y hY;rw[z] at h;cases h;rfl
  rw[←O] at hp;have h3:=I.2.2.1;have H:=Bx (M0:=M++[.cells true 0 [.slice pb 0 s.P.length none,.slice tb 0 s.T.length none],.cells true 0 ((xu nm (hT Z) us (Ys.map hT)).cells (.slice W 0 (qH Z).length none) u (.slice cb 0 m.length none) kn),.aeP,.cells true 1 (.slice W 0 (qH Z).length none::m)]) (bm:=M.length) (fr:=M.length+3) (F:=.slice W 0 (qH Z).length none::m) rfl I hf hi hA hB hC hS (by rw[jU];rfl) ⟨true,by rw[fV];rfl⟩ ⟨o1,up _ m1⟩ ⟨o2,up _ m2⟩ (by simp[O]) (fun i Y h=>by
   match i,h with
   |0,h=>simp only[List.getElem?_cons_zero,Option.some.injEq] at h;subst h;exact⟨W,o3,rfl,up _ Z8⟩
   |i+1,h=>
    obtain⟨f,o,K,D⟩:=adu i Y h;exact⟨f,o,K,up _ D⟩)
  rw[←O];obtain⟨w,X,K,D⟩:=K0 hO h2.ck h4.ck hc hp (by omega) hva H;rw[O] at K ⊢;exact R K D
end
end Go.Proofs
