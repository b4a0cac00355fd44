/- See F54. -/
import Derived.Test.YtgafjliihahjgaaGreatDoorF48
set_option linter.all false
set_option maxRecDepth 100000
set_option maxHeartbeats 40000000
namespace Go.Proofs
open Go.Eng
open Tryz
theorem Xy:∀{X:List (V3×Rat)} {i:Nat} {x:V3×Rat},X[i]? =some x→((plC X).drop (i*4)).take 4=vL x.1++[.str (ak x.2)]∧i*4+4≤(plC X).length
 |y::X,0,x,h=>by rw[List.getElem?_cons_zero] at h;cases h;rw[plC];exact⟨by simp[vL],by simp[vL]⟩
 |y::X,i+1,x,h=>by rw[List.getElem?_cons_succ] at h;obtain⟨Z,V⟩:=Xy h;rw[plC];have W:(vL y.1++[AV.str (ak y.2)]).length=4:=rfl;refine⟨?_,by rw[List.length_append,W];omega⟩;rw[show(i+1)*4=4+i*4 by omega,←List.drop_drop,show List.drop 4 (vL y.1++[AV.str (ak y.2)]++plC X)=plC X from rfl];exact Z
theorem yg:(aC f188).map (fun o=>dB o.toList)=[[0,0,0,4,12,31,63,127,127,255,1023],[0,1,0,7,0,16,63,127]]:=by kernel_rfl
section
variable {O:aeT}{N:Mem}{n i b5 wb:Nat}{o:Bool}{X:List (V3×Rat)}{x:V3×Rat}{p:V3}{c:Nat}{dt:Rat}
theorem KW{b:Code}(R:ai f188=[b])(hv:N[b5]? =some (.cells true 0 (vL p)))(hw:N[wb]? =some (.cells o 4 (plC X)))(hn:X.length=n)(hx:X[i]? =some x)(hn3:n≤3)(hc:c≤3)(eD:∀Z,O (.fn 73) [vA x.1,vA p] (N++Z)=some ⟨.str (ak dt),none,[]⟩)(eC:∀Z,O (.fn 85) [.str (ak dt),.str (ak x.2)] (N++Z)=some ⟨.int .i64 (jQ dt x.2),none,[]⟩){env:Env}(l5:ad env 5=.ptr b5 0)(A:ad env 12=.int .i64 (-1+(c:Int)))(G:ad env 44=.slice wb 0 n none)(H:ad env 45=.int .i64 (n:Int))(I:ad env 46=.int .i64 (i:Int))(m0:Nat)(d:Bool):
  ∃M,aM (aN prog) (fun _=>[46,46,46,12]) O 6 62 m0 true b ⟨env,N,d⟩=some (.normal,M)∧ad M.env 46=.int .i64 ((i+1:Nat):Int)∧ad M.env 12=.int .i64 (-1+((c+(if x.2≤dt then 1 else 0):Nat):Int))∧M.mem=N++[.cells true 0 (vL x.1++[.str (ak x.2)])]:=by
 obtain⟨W,K⟩:∃W,aC f188=W :=⟨_,rfl⟩
 have B :=be K yg;simp only[aC,bn,f188,lA] at K;subst K;simp only[lB] at B;obtain⟨Z9,V⟩:=B;simp[ai,aG,f188] at R;subst R;have g1:=gL hv;have z:∀Y:Mem,(N++Y)[b5]? =some (.cells true 0 (vL p)):=fun Y=>gU hv _
 have S:i<n:=by have:=gL hx;omega
 obtain⟨u,m⟩:=Xy hx;have J:IntKind.i64.wrap ((i:Int)+1)=((i+1:Nat):Int):=by rw[aq];omega
 obtain⟨m1,F⟩:=xE (i+1);rw[←F] at J ⊢;have j:IntKind.i64.wrap (-1+(c:Int)+1)= -1+((c+1:Nat):Int):=by rw[aq];omega
 have ge:0≤jQ dt x.2↔x.2≤dt:=xw;unfold vA vL at*;by_cases h:x.2≤dt
 ·have D:=ge.2 h
  rw[if_pos h];obtain⟨m2,C⟩:=xE (α:=Int) (-1+((c+1:Nat):Int));rw[←C] at j ⊢;simp[-getElem?_pos,-AV.aeS,-AV.known,-AV.cells,-bL,-List.all_eq_true,vS,rS,mS,l5,A,G,H,I,S,hw,eD,eC,J,j,z,u,m,D,-bl,-aW,-aB,-AV.aeR,-aeY.aeR,aF V,bX,bK,dH,cj,bR,gd,bef,Nat.testBit]
 ·have D:¬0≤jQ dt x.2:=fun k=>h (ge.1 k)
  rw[if_neg h];simp[-getElem?_pos,-AV.aeS,-AV.known,-AV.cells,-bL,-List.all_eq_true,vS,rS,mS,l5,A,G,H,I,S,hw,eD,eC,J,z,u,m,D,-bl,-aW,-aB,-AV.aeR,-aeY.aeR,aF V,bX,bK,dH,cj,bR,gd,bef,Nat.testBit]
end
def Yi(X:List (V3×Rat)):Mem:=X.map fun x=>.cells true 0 (vL x.1++[.str (ak x.2)])
structure ahj (O:aeT)(N:Mem)(dF cF:Go.Eng.Callee)(b5 wb:Nat)(p:V3)(X:List (V3×Rat)):Prop where
 v:N[b5]? =some (.cells true 0 (vL p))
 w:∃o,N[wb]? =some (.cells o 4 (plC X))
 l:X.length≤3
 d:∀x∈X,(∀Z,O dF [vA x.1,vA p] (N++Z)=some ⟨.str (ak (da x.1 p)),none,[]⟩)∧∀Z,O cF [.str (ak (da x.1 p)),.str (ak x.2)] (N++Z)=some ⟨.int .i64 (jQ (da x.1 p) x.2),none,[]⟩
variable{b:Code}
section
variable {O:aeT}{N:Mem}{b5 wb:Nat}{p:V3}{X:List (V3×Rat)}
theorem yi(G:ai f188=[b])(A env:Env):ad (aD [46,46,46,12] (ab b) A env) 46=ad env 46∧ad (aD [46,46,46,12] (ab b) A env) 12=ad env 12∧ad (aD [46,46,46,12] (ab b) A env) 5=ad A 5∧ad (aD [46,46,46,12] (ab b) A env) 44=ad A 44∧ad (aD [46,46,46,12] (ab b) A env) 45=ad A 45:=by simp[ai,aG,f188] at G;subst G;simp[aD]
theorem Od(H:ai f188=[b]){n:Nat}{env:Env}(A:ad env 45=.int .i64 (n:Int))(G:ad env 46=.int .i64 (n:Int))(m0:Nat)(d:Bool):
  ∃Z,aM (aN prog) (fun _=>[46,46,46,12]) O 6 62 m0 true b ⟨env,N,d⟩=some (.exit 0,⟨Z,N,d⟩)∧ad Z 12=ad env 12:=by
 simp[ai,aG,f188] at H;subst H;simp[A,G]
theorem yh{b:Code}(G:ai f188=[b])(I:ahj O N (.fn 73) (.fn 85) b5 wb p X)
  {A:Env}(l5:ad A 5=.ptr b5 0) (R:ad A 44=.slice wb 0 X.length none) (H:ad A 45=.int .i64 (X.length:Int)) (m1 m0:Nat):
  ∀(k i c:Nat) (Z:Mem) (env:Env) (d:Bool) (K:Nat),i+k=X.length→k<K→c≤i→ad env 46=.int .i64 (i:Int)→ad env 12=.int .i64 (-1+(c:Int))→
   ∃r:Env×Bool,er [46,46,46,12] (ab b) A m1 (aM (aN prog) (fun _=>[46,46,46,12]) O 6 62 m0 true b) K ⟨aD [46,46,46,12] (ab b) A env,N++Z,d⟩=some (.exit 0,⟨r.1,N++(Z++Yi (X.drop i)),r.2⟩)∧ad r.1 12=.int .i64 (-1+((c+Vy p (X.drop i):Nat):Int))
 |0,i,c,Z,env,d,K,hk,hK,hc,h46,h12=>by
  obtain⟨K,rfl⟩:∃k,K=k+1:=⟨K-1,by omega⟩
  obtain rfl:i=X.length:=by omega
  obtain⟨V,M,D,C,J⟩:=yi G A env;obtain⟨B,z,u⟩:=Od (O:=O) (N:=N++Z) G (env:=aD [46,46,46,12] (ab b) A env) (by rw[J];exact H) (by rw[V];exact h46) m0 d;rw[List.drop_length,show Yi []=[] from rfl,List.append_nil];exact⟨(B,d),by rw[er,z],by rw[u,M];exact h12⟩
 |k+1,i,c,Z,env,d,K,hk,hK,hc,h46,h12=>by
  obtain⟨K,rfl⟩:∃k,K=k+1:=⟨K-1,by omega⟩
  obtain⟨V,M,D,C,J⟩:=yi G A env;obtain⟨x,F⟩:∃t,X[i]? =some t:=⟨_,List.getElem?_eq_getElem (by omega)⟩
  obtain⟨d1,d2⟩:=I.d x (List.mem_of_getElem? F);obtain⟨o,m⟩:=I.w;have j:X.drop i=x::X.drop (i+1):=by obtain⟨FS,e⟩:=List.getElem?_eq_some_iff.1 F;rw[List.drop_eq_getElem_cons FS,e]
  have up:∀{b:Nat}{S:aeY},N[b]? =some S→(N++Z)[b]? =some S:=fun {b S} G=>gU G _
  have hl:=I.l;obtain⟨W,t1,t2,t3,t4⟩:=KW (O:=O) (n:=X.length) (i:=i) (c:=c) (dt:=da x.1 p) G (up I.v) (up m) rfl F hl (by omega) (fun Y=>by rw[List.append_assoc];exact d1 _) (fun Y=>by rw[List.append_assoc];exact d2 _)
   (env:=aD [46,46,46,12] (ab b) A env) (by rw[D];exact l5) (by rw[M];exact h12) (by rw[C];exact R) (by rw[J];exact H) (by rw[V];exact h46) m0 d
  rw[j,Vy];rw[er,t1];simp only;have hs:ic [46,46,46,12] (ab b) A m1 W =⟨aD [46,46,46,12] (ab b) A W.env,W.mem,W.ae9⟩:=by simp[ic,jE]
  rw[hs,t4,List.append_assoc];obtain⟨r,r1,r2⟩:=yh G I l5 R H m1 m0 k (i+1) (c+if x.2≤da x.1 p then 1 else 0) (Z++[.cells true 0 (vL x.1++[.str (ak x.2)])]) W.env W.ae9 K (by omega) (by omega) (by split<;>omega) t2 t3;refine⟨r,?_,?_⟩
  ·rw[r1]
   simp[Yi]
  ·rw[r2,Nat.add_assoc]
theorem KT(A:ahj O N (.fn 73) (.fn 85) b5 wb p X)(H:ai f188=[b])(m0:Nat):
  ∃G:Env→Bool→Env×Bool,∀env d,(ad env 5=.ptr b5 0∧ad env 44=.slice wb 0 X.length none∧ad env 45=.int .i64 (X.length:Int)∧ad env 46=.int .i64 0∧ad env 12=.int .i64 (-1))→
   aM (aN prog) (fun _=>[46,46,46,12]) O 6 62 m0 true (.loop b) ⟨env,N,d⟩=some (.exit 0,⟨(G env d).1,N++Yi X,(G env d).2⟩)∧ad (G env d).1 12=.int .i64 (-1+(Vy p X:Int)):=by
 obtain⟨G,Z⟩:=jW (β:=Env×Bool) (p:=fun env _=>ad env 5=.ptr b5 0∧ad env 44=.slice wb 0 X.length none∧ad env 45=.int .i64 (X.length:Int)∧ad env 46=.int .i64 0∧ad env 12=.int .i64 (-1))
  (q:=fun env d r=>aM (aN prog) (fun _=>[46,46,46,12]) O 6 62 m0 true (.loop b) ⟨env,N,d⟩=some (.exit 0,⟨r.1,N++Yi X,r.2⟩)∧ad r.1 12=.int .i64 (-1+(Vy p X:Int))) (fun env d ⟨a5,a44,a45,a46,a12⟩=>by
  have W:=A.l;have:=yh (O:=O) (N:=N) H A a5 a44 a45 N.length m0 X.length 0 0 [] env d 6 (by omega) (by omega) (by omega) a46 a12;rw[List.drop_zero,List.append_nil,List.nil_append,Nat.zero_add] at this;exact this)
 exact⟨G,Z⟩
end
end Go.Proofs
namespace Go.Proofs
open Go.Eng
open Tryz
section
variable {O:aeT}{M Z1 V:Mem}{ev L:List AV}{pv tv w:AV}{p:V3}{X:List (V3×Rat)}{lb wb nL j:Nat}{o:Bool}
def ndB(pv tv:AV)(ev:List AV)(p:V3):Mem:=[.cells true 0 [pv,tv],.cells true 0 ev,.cells true 0 (vL p),.cells true 0 [.str (ak p.1),.str (ak p.2.1)]]
section
variable (hO:HS prog O)(cp:pv.aeS=true∧tv.aeS=true)
include hO cp
theorem KU(A:ev.length=32)(G:ev.all AV.aeS=true)(H:O (.fn 252) [.agg [pv,tv],pA (p.1,p.2.1)] (M++ndB pv tv ev p)=some ⟨.tuple [.y9,.int .i64 0],none,Z1⟩):
  kO prog 188 [.agg [pv,tv],.agg ev,vA p] M (.tuple [.int .i64 (-2),.int .i64 0]) (M++(ndB pv tv ev p++Z1)):=by
 have Z:aK prog 188=some f188:=by kernel_rfl
 have t0:ev.take 32=ev:=List.take_of_length_le (by omega);have w2:IntKind.i64.wrap (-2)= -2:=rfl;obtain⟨S,K⟩:=cp;have W:cB (aN prog) (fun _=>[46,46,46,12]) (aK prog) O 6 188 [.agg [pv,tv],.agg ev,vA p] M=some (.tuple [.int .i64 (-2),.int .i64 0],M++(ndB pv tv ev p++Z1)):=by unfold ndB vL pA vA at*;simp[-getElem?_pos,-AV.aeS,-AV.known,-AV.cells,-bL,-List.all_eq_true,vS,mS,cB,Z,f188,H,bW,aE]
 exact bZ ae (ar _) hO (au _) W
theorem KV(kn:pv.known=true∧tv.known=true)(rp:∀x,pv.aeR (fun b=>decide (b<M.length+x))=true)(rt:∀x,tv.aeR (fun b=>decide (b<M.length+x))=true)(H:ev.length=32)(hec:ev.all AV.aeS=true)(I:∀x,AV.aeW (fun b=>decide (b<M.length+x)) ev=true)(eL:O (.fn 252) [.agg [pv,tv],pA (p.1,p.2.1)] (M++ndB pv tv ev p)=some ⟨.tuple [.slice lb 0 nL none,.int .i64 0],none,Z1⟩)(R:0<nL∧nL≤1000)(A:(M++(ndB pv tv ev p++Z1))[lb]? =some (.cells o 1 (.int .i64 (j:Int)::L)))(eP:O (.fn 189) [.agg [pv,tv],.agg ev,.int .i64 (j:Int)] (M++(ndB pv tv ev p++Z1))=some ⟨.tuple [.slice wb 0 X.length none,.int .i64 0],none,V⟩)(hV:∀f,(V.all fun s=>iO s&&s.aeR f)=true)(hwb:wb<M.length+(4+Z1.length)+V.length)(H0:ahj O (M++(ndB pv tv ev p++(Z1++V))) (.fn 73) (.fn 85) (M.length+2) wb p X):
  ∃K,kO prog 188 [.agg [pv,tv],.agg ev,vA p] M (.tuple [.int .i64 (-1+(Vy p X:Int)),.int .i64 0]) (M++K):=by
 have m:aK prog 188=some f188:=by kernel_rfl
 have t0:ev.take 32=ev:=List.take_of_length_le (by omega);have w2:IntKind.i64.wrap (-2)= -2:=rfl;have w1:IntKind.i64.wrap (-1)= -1:=rfl;obtain⟨c1,c2⟩:=cp;obtain⟨k1,k2⟩:=kn;obtain⟨J,nL1⟩:=R;have F:¬nL=0:=by omega
 obtain⟨b,D⟩:∃b,ai f188=[b]:=⟨_,rfl⟩
 obtain⟨G,Z⟩:=KT H0 D M.length;have C:=fun env d h=>(Z env d h).1
 have S:=fun env d h=>(Z env d h).2
 clear Z H0;obtain⟨W,B⟩:∃W,aC f188=W :=⟨_,rfl⟩
 have u :=be B yg;simp only[aC,bn,f188,lA] at B;subst B;simp only[lB] at u;obtain⟨Z9,hb1⟩:=u;have ll:lb<M.length+(Z1.length+4):=by have:=gL A;simp[ndB] at this;omega
 have lw:wb<M.length+(Z1.length+V.length+1+1+1+1):=by omega
 obtain⟨n,hn⟩:=xE X.length;rw[←hn] at C S eP;obtain⟨cn,z⟩:=xE (α:=Int) (-1+(Vy p X:Int));rw[←z] at S ⊢;refine⟨ndB pv tv ev p++(Z1++(V++Yi X)),?_⟩;have X':cB (aN prog) (fun _=>[46,46,46,12]) (aK prog) O 6 188 [.agg [pv,tv],.agg ev,vA p] M=some (.tuple [.int .i64 cn,.int .i64 0],M++(ndB pv tv ev p++(Z1++(V++Yi X)))):=by
  simp[ai,aG,f188] at D;subst D;unfold ndB vL pA vA at*;simp only[List.cons_append,List.nil_append,List.append_assoc] at A eP C S eL;have z5:∀a b c d (Y:Mem),List.drop (M.length+(Z1.length+4)) (M++a::b::c::d::(Z1++Y))=Y:=fun a b c d Y=>by
   rw[←List.drop_drop,List.drop_left,show Z1.length+4=4+Z1.length by omega,←List.drop_drop];show List.drop Z1.length (Z1++Y)=Y
   rw[List.drop_left]
  simp[-getElem?_pos,-AV.aeS,-AV.known,-AV.cells,-bL,-List.all_eq_true,vS,rS,mS,cB,m,f188,rp,rt,I,H,t0,eL,eP,hV,A,ll,lw,z5,J,F,bW,aE,C,S,-bl,-aW,-aB,-AV.aeR,-aeY.aeR,aF Z9,bX,bK,dH,cj,bR,gd,bef,Nat.testBit]
 exact bZ ae (ar _) hO (au _) X'
end
end
theorem Eu{P:List P2}{q:P2}:∀{T:List Tr} {k:Nat},(pj P q T k).length≤T.length
 | [],k=>Nat.le_refl 0
 |t::r,k=>by
  rw[pj];have:=Eu (P:=P) (q:=q) (T:=r) (k:=k+1);split
  ·rw[List.length_cons,List.length_cons];omega
  ·rw[List.length_cons];omega
section
variable {f g:FuncId}{a b:List AV}{p:Mem→Prop}{r:aeQ}{m:Mem}{L:List (FuncId×List AV×(Mem→Prop)×aeQ)}{O:aeT}
theorem Xx(h:p m):aeT.or (ei ((f,a,p,r)::L)) O (.fn f) a m=some r:=by unfold aeT.or;rw[db h]
theorem Mg(h:f≠g∨¬p m):aeT.or (ei ((f,a,p,r)::L)) O (.fn g) b m=aeT.or (ei L) O (.fn g) b m:=by unfold aeT.or;rw[de h]
theorem U2{c:Go.Eng.Callee}:aeT.or (ei []) O c a m=O c a m:=rfl
end
theorem PX(f:Nat→Bool):∀X:List (V3×Rat),AV.aeW f (plC X)=true
 | []=>rfl
 |x::l=>by rw[plC,gm,PX f l];rfl
theorem Oc{x y:V3}(h:afg x y)(N:Mem):af aH (.fn 73) [vA x,vA y] N=some ⟨.str (ak (da x y)),none,[]⟩:=by obtain⟨d,Z⟩:=xE (da x y);rw[←Z];simp[af,aH,vA,jc,h,←Z]
theorem Ob{x y:Rat}(A:aeZ x)(G:aeZ y)(N:Mem):af aH (.fn 85) [.str (ak x),.str (ak y)] N=some ⟨.int .i64 (jQ x y),none,[]⟩:=by obtain⟨Z,X⟩:=A;obtain⟨W,y2⟩:=G;simp[af,aH,aj,az,ao,Z,X,W,y2]
section
variable {s:aeX}{M:Mem}{pb tb D:Nat}{o1 o2:Bool}{Z:List Int}{us:List (List UInt8)}{Ys:List (List Int)}{nm:List UInt8}{ev:List AV}{v:V3}
theorem MU(hn:s.P.length≤1000)(hw:(EvD.dep Z us Ys).Ok s)(hf:(EvD.dep Z us Ys).Fin)(hE:afv M ev (xu nm (hT Z) us (Ys.map hT)))(m1:M[pb]? =some (.cells o1 2 (pC s.P)))(m2:M[tb]? =some (.cells o2 3 (tC s.T)))(G:vSm D 344 v)(hD:D≤100):
  kO prog 188 [.agg [.slice pb 0 s.P.length none,.slice tb 0 s.T.length none],.agg ev,vA v] M (.tuple [.int .i64 (OE s Z Ys v),.int .i64 0]) M:=by
 obtain⟨O,z⟩:=xE (AV.slice pb 0 s.P.length none);obtain⟨K,u⟩:=xE (AV.slice tb 0 s.T.length none);have l1:=gL m1;have l2:=gL m2;have d0:=G.1.1;have H0:=GW s (G.mono (W:=800) (by decide)) (by omega);have hck:∀N:Mem,(∃o,N[pb]? =some (.cells o 2 (pC s.P)))→(∃o,N[tb]? =some (.cells o 3 (tC s.T)))→kO prog 59 [.agg [.slice pb 0 s.P.length none,.slice tb 0 s.T.length none]] N (.int .i64 0) N:=fun N ⟨o,h1⟩ ⟨o',h2⟩=>dP s N pb tb o o' h1 h2
 have c1:=Nm.chk G.1.nm (by omega) (by omega);have c2:=Nm.chk G.2.1.nm (by omega) (by omega);have hq:sw [ak v.1,ak v.2.1]=0∧(ak v.1).length≤18∧(ak v.2.1).length≤18:=⟨by simp[sw,c1.1,c2.1],c1.2,c2.2⟩;have up:∀{b:Nat}{S:aeY}(V:Mem),M[b]? =some S→(M++V)[b]? =some S:=fun {b S} V hb=>gU hb _
 obtain⟨w,F,hL,R⟩:=Fi H0 hck hq (up (ndB O K ev v) m1) (up (ndB O K ev v) m2);rw[←z,←u] at hL ⊢;have J:=Ev (P:=s.P) (q:=(v.1,v.2.1)) (T:=s.T) (k:=0);have cp:O.aeS=true∧K.aeS=true:=by rw[z,u];exact⟨rfl,rfl⟩
 have H:=hE.l32;have hec:ev.all AV.aeS=true:=List.all_eq_true.2 hE.cok;cases hl:MO s.P (v.1,v.2.1) s.T 0 with
 |none=>
  rw[hl] at J;simp only at J;rw[J] at R;obtain rfl:=R.afm rfl;have hO:HS prog (ei [(252,[.agg [O,K],pA (v.1,v.2.1)],(fun N=>N=M++ndB O K ev v),⟨.tuple [.y9,.int .i64 0],none,F⟩)]):=ja fun y hy N hp=>by rw[List.mem_singleton] at hy;subst hy;subst hp;exact aI hL
  have:=KU (p:=v) hO cp H hec (db rfl);rw[show OE s Z Ys v= -2 by unfold OE;rw[hl]];exact kO.forget rfl this
 |some jw=>
  obtain⟨j,w'⟩:=jw;rw[hl] at J;obtain⟨l,J⟩:=J;rw[J,List.map_cons] at R;obtain⟨i,t,hji,hi,hin,hw',_⟩:=nK hl;obtain rfl:i=j:=by omega
  obtain⟨A,B,C,hA,hB,hC,hS⟩:=wB s hi;obtain⟨lb,o,rfl,hlb⟩:=R.pos (by simp);have H':((i:Int)::l).length≤1000:=by have:=Eu (P:=s.P) (q:=(v.1,v.2.1)) (T:=s.T) (k:=0);rw[J] at this;have:=H0.hl.2;omega
  have hE1:=hE.more (ndB O K ev v++F);obtain⟨k,n,hk,hP⟩:=C9 hn hw hf hE1 (up _ m1) (up _ m2) hi hA hB hC hS;rw[←z,←u] at hP;obtain⟨X,hX⟩:=xE (((Z::Ys).map qH).map (G8 A B C t));have hXl:X.length=Ys.length+1:=by rw[hX];simp
  rw[←hX,←hXl] at hP;have hL' :kO prog 252 [.agg [O,K],pA (v.1,v.2.1)] (M++ndB O K ev v) (.tuple [.slice lb 0 ((i:Int)::l).length none,.int .i64 0]) (M++ndB O K ev v++F):=hL;obtain⟨V,hV⟩:=xE (agh n k (.cells true 4 (plC X)));rw[←hV] at hP;have hVl:V.length=n:=by rw[hV,Cr]
  have aaP:(M++(ndB O K ev v++F)++V)[(M++(ndB O K ev v++F)).length+k]? =some (.cells true 4 (plC X)):=by rw[hV];exact UY hk _
  have hO:HS prog (aeT.or (ei [(252,[.agg [O,K],pA (v.1,v.2.1)],(fun N=>N=M++ndB O K ev v),⟨.tuple [.slice lb 0 ((i:Int)::l).length none,.int .i64 0],none,F⟩),(189,[.agg [O,K],.agg ev,.int .i64 (i:Int)],(fun N=>N=M++(ndB O K ev v++F)),⟨.tuple [.slice ((M++(ndB O K ev v++F)).length+k) 0 X.length none,.int .i64 0],none,V⟩)]) (af aH)):=HS.or (ja fun y hy N hp=>by
   simp only[lM] at hy;rcases hy with rfl | rfl
   ·subst hp;exact aI hL'
   ·subst hp;exact aI hP) cQ
  have aag:M.length+(4+F.length)+V.length=(M++(ndB O K ev v++F)).length+n:=by rw[hVl];simp[ndB];omega
  have ab6:∀x∈X,afg x.1 v∧aeZ (da x.1 v)∧aeZ x.2:=fun x hx=>by rw[hX,List.map_map] at hx;obtain⟨Y,hY,rfl⟩:=List.mem_map.1 hx;have I:=hf.1 Y hY;obtain⟨ok,m,m0,m1,n1,n2⟩:=YA (yK s) (List.mem_of_getElem? hA) (List.mem_of_getElem? hB) (List.mem_of_getElem? hC) hS (Cz I t.1) (Cz I t.2.1) (Cz I t.2.2);obtain⟨q1,q2⟩:=(yK s).p A (List.mem_of_getElem? hA);have d1:=OX ⟨m0,m1⟩ n1 n2 G hD (Nat.le_refl 344);exact⟨d1.1,d1.2,(OX (p:=(A.1,A.2,(qH Y).getD t.1 0)) ⟨m0,m1⟩ n1 n2 (D:=2) (V:=13) ⟨q1,q2,(Cz I t.1).mono (by decide)⟩ (by decide) (by decide)).2⟩
  have hN:ahj (aeT.or (ei [(252,[.agg [O,K],pA (v.1,v.2.1)],(fun N=>N=M++ndB O K ev v),⟨.tuple [.slice lb 0 ((i:Int)::l).length none,.int .i64 0],none,F⟩),(189,[.agg [O,K],.agg ev,.int .i64 (i:Int)],(fun N=>N=M++(ndB O K ev v++F)),⟨.tuple [.slice ((M++(ndB O K ev v++F)).length+k) 0 X.length none,.int .i64 0],none,V⟩)]) (af aH)) (M++(ndB O K ev v++(F++V))) (.fn 73) (.fn 85) (M.length+2) ((M++(ndB O K ev v++F)).length+k) v X:=by
   refine⟨by rw[fV];rfl,⟨true,?_⟩,by have:=hw.2.2.1;omega,fun x hx=>⟨fun Y=>?_,fun Y=>?_⟩⟩
   ·rw[←List.append_assoc (ndB O K ev v),←List.append_assoc];exact aaP
   ·obtain⟨h1,h2,h3⟩:=ab6 x hx
    rw[Mg (.inl (by decide)),Mg (.inl (by decide)),U2];exact Oc h1 _
   ·obtain⟨h1,h2,h3⟩:=ab6 x hx
    rw[Mg (.inl (by decide)),Mg (.inl (by decide)),U2];exact Ob h2 h3 _
  have adv:=WA (p:=v) hw hf hl hi hA hB hC hS;rw[←hX] at adv;obtain⟨new,h⟩:=KV (p:=v) (j:=i) (L:=l.map fun n=>.int .i64 n) hO cp (by rw[z,u];exact⟨rfl,rfl⟩) (fun x=>by rw[z];simp only[AV.aeR,decide_eq_true_eq];omega) (fun x=>by rw[u];simp only[AV.aeR,decide_eq_true_eq];omega) H hec (fun x=>hE.refs x) (Xx rfl) ⟨by simp,H'⟩ (by rw[←List.append_assoc];exact hlb) (by rw[Mg (.inl (by decide))];exact Xx rfl) (fun f=>by rw[hV];exact W1 f rfl (by show AV.aeW f (plC X)=true;exact PX f X)) (by rw[aag];omega) hN
  rw[adv];exact kO.forget rfl h
end
variable{L:List P2}{M:Mem}
theorem C8{b:Nat}{o:Bool}{u:Rat}(G:L.length≤1000)(A:M[b]? =some (.cells o 2 (kC (Go.Proofs.kT L))))(hQ:OG L)(hu:aeZ u):
  kO prog 113 [.slice b 0 L.length none,.str (ak u)] M (.int .i64 (bc L u)) M:=by
 have X:=cM L;have e:∀b,AV.slice b 0 L.length none=.slice b 0 (Go.Proofs.kT L).length none:=fun b=>by rw[X]
 have Z:=uZ L u hQ hu (by omega);rw[e 0] at Z;rw[e b];exact P7 rfl rfl Z ⟨b,o,_,rfl,A,List.take_of_length_le (by rw[fB];omega)⟩
theorem NQ{f:FuncId}{A B v:AV}{a b pb tb:Nat}(G:A.closed=true)(H:B.closed=true)(I:v.closed=true)(R:pb<M.length)(Y:tb<M.length)(h:kO prog f [.agg [.slice 0 0 a none,.slice 1 0 b none],A,B] [.aeP,.aeP] v [.aeP,.aeP]):
  kO prog f [.agg [.slice pb 0 a none,.slice tb 0 b none],A,B] M v M:=by
 have X:AV.ae0 [A,B]=true:=by simp[AV.ae0,G,H]
 have:=kO.frame (f:=f) (args:=[.agg [.slice 0 0 a none,.slice 1 0 b none],A,B]) (v:=v) (M:=M) (m:=[.aeP,.aeP]) (new:=[]) [pb,tb] rfl (by simp[R,Y]) (by have:=cI (n:=2) X;simpa [AV.afa,AV.under] using this) (fun i t Z=>by
  match i with
  |0=>simp at Z;subst Z;trivial
  |1=>simp at Z;subst Z;trivial
  |i+2=>simp at Z) rfl (by rw[List.append_nil];exact h)
 simpa [AV.ae3,AV.ren,dL,dG _ _ G,dG _ _ H,dG _ _ I] using this
variable{n:Z3}
section
variable {a b:Nat}{nm:List UInt8}{p:V3}
theorem AH{o w:Int}{u:List UInt8}(d:afg (zV n) p)(fd:aeZ (da (zV n) p))(fo:aeZ (o:Rat))(fw:aeZ (hQ w))(fs:aeZ (da (zV n) p-(o:Rat))):
  kO prog 202 [.agg [.slice 0 0 a none,.slice 1 0 b none],.agg (cX nm n o w u),vA p] [.aeP,.aeP] (.tuple [.int .i64 (if da (zV n) p-(o:Rat)<0 then 0 else if da (zV n) p-(o:Rat)<hQ w then 1 else 2),.int .i64 0]) [.aeP,.aeP]:=by
 have Y:aK prog 202=some f202:=by kernel_rfl
 obtain⟨Z,X⟩:=fd;obtain⟨S,C⟩:=fo;obtain⟨w1,w2⟩:=fw;obtain⟨O,K⟩:=fs;obtain⟨ops,R⟩:∃S,aC f202=[S]:=⟨_,rfl⟩
 obtain⟨V,I⟩:=dj R (l:=[0,1,3,7,0,31,0,64,192,448,1023,2047]) (j:=11) (by kernel_rfl) (by decide);simp[aC,bn,f202] at R;subst R;obtain⟨N,J⟩:=xE (zV n);rw[←J] at d Z X O K ⊢;obtain⟨q,hq⟩:=xE (α:=Rat) (o:Rat);rw[←hq] at S C O K ⊢;obtain⟨dt,W⟩:=xE (da N p);rw[←W] at Z X O K ⊢;obtain⟨y,B⟩:=xE (hQ w);rw[←B] at w1 w2 ⊢;obtain⟨x,z⟩:=xE (dt-q);rw[←z] at O K ⊢;have G:=P8 (a:=x);have A:=BQ (a:=x) (b:=y);unfold zV at J;have h:aa (aN prog) (fun _=>[]) (aK prog) (af aH) 1 202 [.agg [.slice 0 0 a none,.slice 1 0 b none],.agg (cX nm n o w u),vA p] [.aeP,.aeP]=some ⟨.tuple [.int .i64 (if x<0 then 0 else if x<y then 1 else 2),.int .i64 0],none,[]⟩:=by
  by_cases F:x<0
  ·have:=G.2 F
   simp[aa,Y,f202,af,aH,aj,az,bB,aX,vA,cX,zS,jc,ao,←J,←hq,←W,←z,←B,d,Z,X,S,C,this,F,-aB,ag V,aS,aO,aP,I,Nat.testBit]
  ·have D :¬jV x<0:=fun h=>F (G.1 h)
   by_cases m:x<y
   ·have:=A.2 m
    simp[aa,Y,f202,af,aH,aj,az,bB,aX,vA,cX,zS,jc,ao,←J,←hq,←W,←z,←B,d,Z,X,S,C,O,K,w1,w2,this,F,D,m,-aB,ag V,aS,aO,aP,I,Nat.testBit]
   ·have H :¬jQ x y<0:=fun h=>m (A.1 h)
    simp[aa,Y,f202,af,aH,aj,az,bB,aX,vA,cX,zS,jc,ao,←J,←hq,←W,←z,←B,d,Z,X,S,C,O,K,w1,w2,F,D,m,H,-aB,ag V,aS,aO,aP,I,Nat.testBit]
 have:=(ah ae (ar _) cQ (au _) h).1;simpa [aeQ.mem] using this
theorem AJ{v:Z3}(d:afg (zV n) p)(A:OG L)(G:aeZ (da (zV n) p))(H:L.length≤1000):
  kO prog 197 [.agg [.slice 0 0 a none,.slice 1 0 b none],.agg (bw nm n (.slice 2 0 L.length none) v),vA p] [.aeP,.aeP,.cells false 2 (kC (Go.Proofs.kT L))] (.tuple [.int .i64 (bc L (da (zV n) p):Int),.int .i64 0]) [.aeP,.aeP,.cells false 2 (kC (Go.Proofs.kT L))]:=by
 have J:aK prog 197=some f197:=by kernel_rfl
 have X:HS prog (aeT.or (bT 113 [.slice 2 0 L.length none,.str (ak (da (zV n) p))] (.int .i64 (bc L (da (zV n) p):Int)) (fun N=>∃Z,N=aeY.aeP::.aeP::.cells false 2 (kC (Go.Proofs.kT L))::Z)) (af aH)):=
  HS.or (cf fun N ⟨Z,hZ⟩=>by subst hZ;exact C8 H (b:=2) (o:=false) rfl A G) cQ
 obtain⟨F,W⟩:∃D,aC f197=[D]:=⟨_,rfl⟩
 obtain⟨V,C⟩:=dj W (l:=[0,1,3,0,8,24,0,120,255,511,1023]) (j:=10) (by kernel_rfl) (by decide);simp[aC,bn,f197] at W;subst W;obtain⟨N,S⟩:=xE (zV n);rw[←S] at d X ⊢;obtain⟨u,hu⟩:=xE (da N p);rw[←hu] at X ⊢;obtain⟨K,O⟩:=xE (bc L u);rw[←O] at X ⊢;unfold zV at S;have h:aa (aN prog) (fun _=>[]) (aK prog) (aeT.or (bT 113 [.slice 2 0 L.length none,.str (ak u)] (.int .i64 (K:Int)) (fun N=>∃Z,N=aeY.aeP::.aeP::.cells false 2 (kC (Go.Proofs.kT L))::Z)) (af aH)) 1 197 [.agg [.slice 0 0 a none,.slice 1 0 b none],.agg (bw nm n (.slice 2 0 L.length none) v),vA p] [.aeP,.aeP,.cells false 2 (kC (Go.Proofs.kT L))]=some ⟨.tuple [.int .i64 (K:Int),.int .i64 0],none,[]⟩:=by clear X;simp[aa,J,f197,aeT.or,bT,af,aH,vA,bw,zS,jc,←S,←hu,d,-aB,ag V,aS,aO,aP,C,Nat.testBit]
 have:=(ah ae (ar _) X (au _) h).1;simpa [aeQ.mem] using this
end
theorem C7{pv tv:AV}(A:pv.aeS=true)(G:tv.aeS=true)(nm:List UInt8)(t:Int×Int×Int×Int)(c:Z3)(p:V3)(M:Mem):
  kO prog 207 [.agg [pv,tv],.agg (cL nm t c),vA p] M (.tuple [.int .i64 0,.int .i64 0]) M:=by
 have Z:aK prog 207=some f207:=by kernel_rfl
 refine cd (al _) ?_;have X:∀s,(AV.str s).aeS=true:=fun _=>rfl
 have W:∀k n,(AV.int k n).aeS=true:=fun _ _=>rfl
 simp[-AV.aeS,aa,Z,f207,cL,vA]
def kg:EvD→FuncId
 |.dep ..=>188
 |.fault ..=>69
 |.fold ..=>197
 |.afW ..=>202
 |.afZ ..=>207
section
variable {s:aeX}{w:EvD}{D:Nat}{p:V3}
theorem MV{pb tb:Nat}{o1 o2:Bool}{H:List AV}{nm:List UInt8}(R:s.P.length≤1000)(h:afv M H (w.con nm))(A:w.Ok s)(Y:w.Fin)(G:vSm D 344 p)(hD:D≤100)(m1:M[pb]? =some (.cells o1 2 (pC s.P)))(I:M[tb]? =some (.cells o2 3 (tC s.T))):
  kO prog (kg w) [.agg [.slice pb 0 s.P.length none,.slice tb 0 s.T.length none],.agg H,vA p] M (.tuple [.int .i64 (nuE s w p),.int .i64 0]) M:=by
 have F:=gL m1;have C:=gL I;have d0:=G.1.1;have X:=G.mono (W:=800) (by decide);have S:D≤500:=by omega
 cases w with
 |dep Z us Ys=>exact MU R A Y h m1 I G hD
 |afW n o w u=>
  obtain rfl:=h.flat rfl rfl rfl rfl;have J:Sm D 4 (o:Rat):=(Sm.int (V:=4) A.2.2.1).to (Nat.one_dvd _) d0 (Nat.le_refl _);exact NQ (by rfl) (by rfl) (by rfl) F C (AH (mH A.1 X S) ((tq A.1 X).aeZ) (J.aeZ) ((Yb (z:=w) (by have:=A.2.2.2;omega)).aeZ) (((tq A.1 X).sub J).aeZ))
 |fault n o v=>
  obtain rfl:=h.flat rfl rfl rfl rfl;have J:Sm D 4 (o:Rat):=(Sm.int (V:=4) A.2.2.1).to (Nat.one_dvd _) d0 (Nat.le_refl _);exact AI F C nm n o v p (mH A.1 X S) ((tq A.1 X).aeZ) (J.aeZ)
 |afZ i c=>
  obtain rfl:=h.flat rfl rfl rfl rfl;exact C7 rfl rfl nm (bC i) c p M
 |fold n d c v=>
  obtain⟨b,u,sv,kn,rfl,k1,k2,k3,B⟩:=h;obtain rfl:=k1.afm rfl;obtain rfl:=k2.afm rfl;obtain rfl:=k3.afm rfl;have e:(EvD.con nm (.fold n d c v)).K.length=(bQ d c).length:=cM _;have hl:0<(bQ d c).length:=by rw[bP];exact A.2.2.1
  rw[e] at B;obtain⟨kb,q,rfl,m⟩:=B.pos hl;have lb:=gL m;have j:=OQ (re d c A.2.2.2.1) (tq A.1 X) S;have h0:=AJ (a:=s.P.length) (b:=s.T.length) (nm:=nm) (v:=v) (mH A.1 X S) j.1 j.2.1 (by rw[bP];have:=A.2.2.2.1;omega);have:=kO.frame (M:=M) (new:=[]) [pb,tb,kb] rfl (by simp[F,C,lb]) (by rfl) (fun i t O=>by
   match i with
   |0=>simp at O;subst O;trivial
   |1=>simp at O;subst O;trivial
   |2=>simp at O;subst O;exact rK (o:=q) m (List.take_of_length_le (by rw[fB,cM];omega))
   |i+3=>simp at O) rfl h0
  simpa [nuE,kg,bw,vA,AV.ae3,AV.ren,dL,Evc.cells,EvD.con,zP] using this
end
end Go.Proofs
