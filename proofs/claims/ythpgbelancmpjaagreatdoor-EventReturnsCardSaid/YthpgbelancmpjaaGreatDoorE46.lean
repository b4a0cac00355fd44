/- See E54. -/
import Derived.Test.YthpgbelancmpjaaGreatDoorE40
import Derived.Test.YthpgbelancmpjaaGreatDoorE45
set_option linter.all false
set_option maxRecDepth 100000
set_option maxHeartbeats 40000000
namespace Go.Proofs
open Go.Eng
open Tryz
theorem Vj:∀{X:List (V3×Rat)} {i:Nat} {x:V3×Rat},X[i]? =some x→((pnC X).drop (i*4)).take 4=vL x.1++[.str (aj x.2)]∧i*4+4≤(pnC X).length
 |y::X,0,x,h=>by rw[List.getElem?_cons_zero] at h;cases h;rw[pnC];exact⟨by simp[vL],by simp[vL]⟩
 |y::X,i+1,x,h=>by rw[List.getElem?_cons_succ] at h;obtain⟨Z,U⟩:=Vj h;rw[pnC];have V:(vL y.1++[AV.str (aj y.2)]).length=4:=rfl;refine⟨?_,by rw[List.length_append,V];omega⟩;rw[show(i+1)*4=4+i*4 by omega,←List.drop_drop,show List.drop 4 (vL y.1++[AV.str (aj y.2)]++pnC X)=pnC X from rfl];exact Z
theorem yn:(aJ f157).map (fun o=>dT o.toList)=[[0,0,0,4,12,31,63,127,127,255,1023],[0,1,0,7,0,16,63,127]]:=by kernel_rfl
section
variable {O:y9}{N:Mem}{n i b5 wb:Nat}{o:Bool}{X:List (V3×Rat)}{x:V3×Rat}{p:V3}{c:Nat}{dt:Rat}
theorem Jl{b:Code}(hb:ah f157=[b])(hv:N[b5]? =some (.cells true 0 (vL p)))(hw:N[wb]? =some (.cells o 4 (pnC X)))(hn:X.length=n)(hx:X[i]? =some x)(hn3:n≤3)(hc:c≤3)(eD:∀Z,O (.fn 113) [vA x.1,vA p] (N++Z)=some ⟨.str (aj dt),none,[]⟩)(eC:∀Z,O (.fn 136) [.str (aj dt),.str (aj x.2)] (N++Z)=some ⟨.int .i64 (pU dt x.2),none,[]⟩){env:Env}(l5:ad env 5=.ptr b5 0)(H:ad env 12=.int .i64 (-1+(c:Int)))(I:ad env 44=.slice wb 0 n none)(J:ad env 45=.int .i64 (n:Int))(W:ad env 46=.int .i64 (i:Int))(m0:Nat)(d:Bool):
  ∃U,aS (aV prog) (fun _=>[46,46,46,12]) O 6 62 m0 true b ⟨env,N,d⟩=some (.normal,U)∧ad U.env 46=.int .i64 ((i+1:Nat):Int)∧ad U.env 12=.int .i64 (-1+((c+(if x.2≤dt then 1 else 0):Nat):Int))∧U.mem=N++[.cells true 0 (vL x.1++[.str (aj x.2)])]:=by
 obtain⟨K,S⟩:∃K,aJ f157=K :=⟨_,rfl⟩
 have G :=cc S yn;simp only[aJ,bR,f157,lA] at S;subst S;simp only[lB] at G;obtain⟨j,V⟩:=G;simp[ah,aG,f157] at hb;subst hb;have g1:=gL hv;have F:∀Y:Mem,(N++Y)[b5]? =some (.cells true 0 (vL p)):=fun Y=>gU hv _
 have D:i<n:=by have:=gL hx;omega
 obtain⟨C,B⟩:=Vj hx;have R:IntKind.i64.wrap ((i:Int)+1)=((i+1:Nat):Int):=by rw[af];omega
 obtain⟨m1,m⟩:=xE (i+1);rw[←m] at R ⊢;have A:IntKind.i64.wrap (-1+(c:Int)+1)= -1+((c+1:Nat):Int):=by rw[af];omega
 have u:0≤pU dt x.2↔x.2≤dt:=FM;unfold vA vL at*;by_cases h:x.2≤dt
 ·have M:=u.2 h
  rw[if_pos h];obtain⟨m2,L⟩:=xE (α:=Int) (-1+((c+1:Nat):Int));rw[←L] at A ⊢;simp[-getElem?_pos,-AV.aei,-AV.known,-AV.cells,-ee,-List.all_eq_true,vS,rS,mS,l5,H,I,J,W,D,hw,eD,eC,R,A,F,C,B,M,-bG,-bn,-aK,-AV.aef,-aek.aef,bd V,bZ,du,ef,cw,cM,gQ,bef,Nat.testBit]
 ·have M:¬0≤pU dt x.2:=fun k=>h (u.1 k)
  rw[if_neg h];simp[-getElem?_pos,-AV.aei,-AV.known,-AV.cells,-ee,-List.all_eq_true,vS,rS,mS,l5,H,I,J,W,D,hw,eD,eC,R,F,C,B,M,-bG,-bn,-aK,-AV.aef,-aek.aef,bd V,bZ,du,ef,cw,cM,gQ,bef,Nat.testBit]
end
def VP(X:List (V3×Rat)):Mem:=X.map fun x=>.cells true 0 (vL x.1++[.str (aj x.2)])
structure agF (O:y9)(N:Mem)(dF cF:Go.Eng.Callee)(b5 wb:Nat)(p:V3)(X:List (V3×Rat)):Prop where
 v:N[b5]? =some (.cells true 0 (vL p))
 w:∃o,N[wb]? =some (.cells o 4 (pnC X))
 l:X.length≤3
 d:∀x∈X,(∀Z,O dF [vA x.1,vA p] (N++Z)=some ⟨.str (aj (dj x.1 p)),none,[]⟩)∧∀Z,O cF [.str (aj (dj x.1 p)),.str (aj x.2)] (N++Z)=some ⟨.int .i64 (pU (dj x.1 p) x.2),none,[]⟩
variable{b:Code}
section
variable {O:y9}{N:Mem}{b5 wb:Nat}{p:V3}{X:List (V3×Rat)}
theorem yp(I:ah f157=[b])(H env:Env):ad (aw [46,46,46,12] (ae b) H env) 46=ad env 46∧ad (aw [46,46,46,12] (ae b) H env) 12=ad env 12∧ad (aw [46,46,46,12] (ae b) H env) 5=ad H 5∧ad (aw [46,46,46,12] (ae b) H env) 44=ad H 44∧ad (aw [46,46,46,12] (ae b) H env) 45=ad H 45:=by simp[ah,aG,f157] at I;subst I;simp[aw]
theorem Mr(J:ah f157=[b]){n:Nat}{env:Env}(H:ad env 45=.int .i64 (n:Int))(I:ad env 46=.int .i64 (n:Int))(m0:Nat)(d:Bool):
  ∃Z,aS (aV prog) (fun _=>[46,46,46,12]) O 6 62 m0 true b ⟨env,N,d⟩=some (.exit 0,⟨Z,N,d⟩)∧ad Z 12=ad env 12:=by
 simp[ah,aG,f157] at J;subst J;simp[H,I]
theorem yo{b:Code}(I:ah f157=[b])(W:agF O N (.fn 113) (.fn 136) b5 wb p X)
  {H:Env}(l5:ad H 5=.ptr b5 0) (l44:ad H 44=.slice wb 0 X.length none) (J:ad H 45=.int .i64 (X.length:Int)) (m1 m0:Nat):
  ∀(k i c:Nat) (Z:Mem) (env:Env) (d:Bool) (K:Nat),i+k=X.length→k<K→c≤i→ad env 46=.int .i64 (i:Int)→ad env 12=.int .i64 (-1+(c:Int))→
   ∃r:Env×Bool,fy [46,46,46,12] (ae b) H m1 (aS (aV prog) (fun _=>[46,46,46,12]) O 6 62 m0 true b) K ⟨aw [46,46,46,12] (ae b) H env,N++Z,d⟩=some (.exit 0,⟨r.1,N++(Z++VP (X.drop i)),r.2⟩)∧ad r.1 12=.int .i64 (-1+((c+Tg p (X.drop i):Nat):Int))
 |0,i,c,Z,env,d,K,hk,hK,hc,h46,h12=>by
  obtain⟨K,rfl⟩:∃k,K=k+1:=⟨K-1,by omega⟩
  obtain rfl:i=X.length:=by omega
  obtain⟨U,R,G,F,M⟩:=yp I H env;obtain⟨C,B,A⟩:=Mr (O:=O) (N:=N++Z) I (env:=aw [46,46,46,12] (ae b) H env) (by rw[M];exact J) (by rw[U];exact h46) m0 d;rw[List.drop_length,show VP []=[] from rfl,List.append_nil];exact⟨(C,d),by rw[fy,B],by rw[A,R];exact h12⟩
 |k+1,i,c,Z,env,d,K,hk,hK,hc,h46,h12=>by
  obtain⟨K,rfl⟩:∃k,K=k+1:=⟨K-1,by omega⟩
  obtain⟨U,R,G,F,M⟩:=yp I H env;obtain⟨x,L⟩:∃t,X[i]? =some t:=⟨_,List.getElem?_eq_getElem (by omega)⟩
  obtain⟨d1,d2⟩:=W.d x (List.mem_of_getElem? L);obtain⟨o,u⟩:=W.w;have m:X.drop i=x::X.drop (i+1):=by obtain⟨j,e⟩:=List.getElem?_eq_some_iff.1 L;rw[List.drop_eq_getElem_cons j,e]
  have D:∀{b:Nat}{S:aek},N[b]? =some S→(N++Z)[b]? =some S:=fun {b S} I=>gU I _
  have hl:=W.l;obtain⟨V,t1,t2,t3,t4⟩:=Jl (O:=O) (n:=X.length) (i:=i) (c:=c) (dt:=dj x.1 p) I (D W.v) (D u) rfl L hl (by omega) (fun Y=>by rw[List.append_assoc];exact d1 _) (fun Y=>by rw[List.append_assoc];exact d2 _)
   (env:=aw [46,46,46,12] (ae b) H env) (by rw[G];exact l5) (by rw[R];exact h12) (by rw[F];exact l44) (by rw[M];exact J) (by rw[U];exact h46) m0 d
  rw[m,Tg];rw[fy,t1];simp only;have hs:mD [46,46,46,12] (ae b) H m1 V =⟨aw [46,46,46,12] (ae b) H V.env,V.mem,V.aeC⟩:=by simp[mD,wB]
  rw[hs,t4,List.append_assoc];obtain⟨r,r1,r2⟩:=yo I W l5 l44 J m1 m0 k (i+1) (c+if x.2≤dj x.1 p then 1 else 0) (Z++[.cells true 0 (vL x.1++[.str (aj x.2)])]) V.env V.aeC K (by omega) (by omega) (by split<;>omega) t2 t3;refine⟨r,?_,?_⟩
  ·rw[r1]
   simp[VP]
  ·rw[r2,Nat.add_assoc]
theorem Ji(H:agF O N (.fn 113) (.fn 136) b5 wb p X)(I:ah f157=[b])(m0:Nat):
  ∃G:Env→Bool→Env×Bool,∀env d,(ad env 5=.ptr b5 0∧ad env 44=.slice wb 0 X.length none∧ad env 45=.int .i64 (X.length:Int)∧ad env 46=.int .i64 0∧ad env 12=.int .i64 (-1))→
   aS (aV prog) (fun _=>[46,46,46,12]) O 6 62 m0 true (.loop b) ⟨env,N,d⟩=some (.exit 0,⟨(G env d).1,N++VP X,(G env d).2⟩)∧ad (G env d).1 12=.int .i64 (-1+(Tg p X:Int)):=by
 obtain⟨G,Z⟩:=Ck (β:=Env×Bool) (p:=fun env _=>ad env 5=.ptr b5 0∧ad env 44=.slice wb 0 X.length none∧ad env 45=.int .i64 (X.length:Int)∧ad env 46=.int .i64 0∧ad env 12=.int .i64 (-1))
  (q:=fun env d r=>aS (aV prog) (fun _=>[46,46,46,12]) O 6 62 m0 true (.loop b) ⟨env,N,d⟩=some (.exit 0,⟨r.1,N++VP X,r.2⟩)∧ad r.1 12=.int .i64 (-1+(Tg p X:Int))) (fun env d ⟨a5,a44,a45,a46,a12⟩=>by
  have V:=H.l;have:=yo (O:=O) (N:=N) I H a5 a44 a45 N.length m0 X.length 0 0 [] env d 6 (by omega) (by omega) (by omega) a46 a12;rw[List.drop_zero,List.append_nil,List.nil_append,Nat.zero_add] at this;exact this)
 exact⟨G,Z⟩
end
end Go.Proofs
namespace Go.Proofs
open Go.Eng
open Tryz
section
variable {O:y9}{M Z1 V:Mem}{ev L:List AV}{pv tv w:AV}{p:V3}{X:List (V3×Rat)}{lb wb nL j:Nat}{o:Bool}
def ndB(pv tv:AV)(ev:List AV)(p:V3):Mem:=[.cells true 0 [pv,tv],.cells true 0 ev,.cells true 0 (vL p),.cells true 0 [.str (aj p.1),.str (aj p.2.1)]]
section
variable (hO:qS prog O)(cp:pv.aei=true∧tv.aei=true)
include hO cp
theorem Jj(J:ev.length=32)(H:ev.all AV.aei=true)(I:O (.fn 12) [.agg [pv,tv],pA (p.1,p.2.1)] (M++ndB pv tv ev p)=some ⟨.tuple [.qF,.int .i64 0],none,Z1⟩):
  kO prog 157 [.agg [pv,tv],.agg ev,vA p] M (.tuple [.int .i64 (-2),.int .i64 0]) (M++(ndB pv tv ev p++Z1)):=by
 have Z:aT prog 157=some f157:=by kernel_rfl
 have t0:ev.take 32=ev:=List.take_of_length_le (by omega);have w2:IntKind.i64.wrap (-2)= -2:=rfl;obtain⟨S,R⟩:=cp;have U:cJ (aV prog) (fun _=>[46,46,46,12]) (aT prog) O 6 157 [.agg [pv,tv],.agg ev,vA p] M=some (.tuple [.int .i64 (-2),.int .i64 0],M++(ndB pv tv ev p++Z1)):=by unfold ndB vL pA vA at*;simp[-getElem?_pos,-AV.aei,-AV.known,-AV.cells,-ee,-List.all_eq_true,vS,mS,cJ,Z,f157,I,bJ,aD]
 exact bY ai (aO _) hO (aR _) U
theorem Jk(kn:pv.known=true∧tv.known=true)(rp:∀x,pv.aef (fun b=>decide (b<M.length+x))=true)(rt:∀x,tv.aef (fun b=>decide (b<M.length+x))=true)(Zd:ev.length=32)(hec:ev.all AV.aei=true)(I:∀x,AV.ael (fun b=>decide (b<M.length+x)) ev=true)(eL:O (.fn 12) [.agg [pv,tv],pA (p.1,p.2.1)] (M++ndB pv tv ev p)=some ⟨.tuple [.slice lb 0 nL none,.int .i64 0],none,Z1⟩)(J:0<nL∧nL≤1000)(H:(M++(ndB pv tv ev p++Z1))[lb]? =some (.cells o 1 (.int .i64 (j:Int)::L)))(W:O (.fn 158) [.agg [pv,tv],.agg ev,.int .i64 (j:Int)] (M++(ndB pv tv ev p++Z1))=some ⟨.tuple [.slice wb 0 X.length none,.int .i64 0],none,V⟩)(hV:∀f,(V.all fun s=>jW s&&s.aef f)=true)(hwb:wb<M.length+(4+Z1.length)+V.length)(H0:agF O (M++(ndB pv tv ev p++(Z1++V))) (.fn 113) (.fn 136) (M.length+2) wb p X):
  ∃S,kO prog 157 [.agg [pv,tv],.agg ev,vA p] M (.tuple [.int .i64 (-1+(Tg p X:Int)),.int .i64 0]) (M++S):=by
 have u:aT prog 157=some f157:=by kernel_rfl
 have t0:ev.take 32=ev:=List.take_of_length_le (by omega);have w2:IntKind.i64.wrap (-2)= -2:=rfl;have w1:IntKind.i64.wrap (-1)= -1:=rfl;obtain⟨c1,c2⟩:=cp;obtain⟨k1,k2⟩:=kn;obtain⟨R,m⟩:=J;have N:¬nL=0:=by omega
 obtain⟨b,K⟩:∃b,ah f157=[b]:=⟨_,rfl⟩
 obtain⟨G,Z⟩:=Ji H0 K M.length;have F:=fun env d h=>(Z env d h).1
 have U:=fun env d h=>(Z env d h).2
 clear Z H0;obtain⟨B,D⟩:∃B,aJ f157=B :=⟨_,rfl⟩
 have A :=cc D yn;simp only[aJ,bR,f157,lA] at D;subst D;simp only[lB] at A;obtain⟨XN,hb1⟩:=A;have ll:lb<M.length+(Z1.length+4):=by have:=gL H;simp[ndB] at this;omega
 have lw:wb<M.length+(Z1.length+V.length+1+1+1+1):=by omega
 obtain⟨n,hn⟩:=xE X.length;rw[←hn] at F U W;obtain⟨cn,C⟩:=xE (α:=Int) (-1+(Tg p X:Int));rw[←C] at U ⊢;refine⟨ndB pv tv ev p++(Z1++(V++VP X)),?_⟩;have XP:cJ (aV prog) (fun _=>[46,46,46,12]) (aT prog) O 6 157 [.agg [pv,tv],.agg ev,vA p] M=some (.tuple [.int .i64 cn,.int .i64 0],M++(ndB pv tv ev p++(Z1++(V++VP X)))):=by
  simp[ah,aG,f157] at K;subst K;unfold ndB vL pA vA at*;simp only[List.cons_append,List.nil_append,List.append_assoc] at H W F U eL;have z5:∀a b c d (Y:Mem),List.drop (M.length+(Z1.length+4)) (M++a::b::c::d::(Z1++Y))=Y:=fun a b c d Y=>by
   rw[←List.drop_drop,List.drop_left,show Z1.length+4=4+Z1.length by omega,←List.drop_drop];show List.drop Z1.length (Z1++Y)=Y
   rw[List.drop_left]
  simp[-getElem?_pos,-AV.aei,-AV.known,-AV.cells,-ee,-List.all_eq_true,vS,rS,mS,cJ,u,f157,rp,rt,I,Zd,t0,eL,W,hV,H,ll,lw,z5,R,N,bJ,aD,F,U,-bG,-bn,-aK,-AV.aef,-aek.aef,bd XN,bZ,du,ef,cw,cM,gQ,bef,Nat.testBit]
 exact bY ai (aO _) hO (aR _) XP
end
end
variable{k:Nat}
theorem J2{n:Int}(h:n.natAbs<10 ^ k)(h0:0<k):dg k k ((n:Int):Rat):=⟨h,by show(1:Nat)<10 ^ k;have:10 ^ 1≤10 ^ k:=Nat.pow_le_pow_right (by omega) h0;omega⟩
theorem De{z:Int}(h:z.natAbs<10 ^ k)(h0:0<k):dg k k (hQ z):=lN (by decide) h (by have:10 ^ 1≤10 ^ k:=Nat.pow_le_pow_right (by omega) h0;omega)
variable{n:Nat}
section
variable{v:Z3}(h:Ox n v)(hn:n<10 ^ k)(h0:0<k)
include v h hn h0
theorem Gq:vDg k (zQ v):=⟨J2 (by have:=h.1;omega) h0,J2 (by have:=h.2.1;omega) h0,J2 (by have:=h.2.2;omega) h0⟩
theorem VL:vDg k (hV v):=⟨De (by have:=h.1;omega) h0,De (by have:=h.2.1;omega) h0,De (by have:=h.2.2;omega) h0⟩
end
theorem Xt{v:Z3}(h:U6 v=false):¬Eg (zQ v):=by
 rintro ⟨Z,X,h3⟩;have V:v.1=0:=by have:((v.1:Int):Rat)=0:=Z;exact_mod_cast this
 have U:v.2.1=0:=by have:((v.2.1:Int):Rat)=0:=X;exact_mod_cast this
 have S:v.2.2=0:=by have:((v.2.2:Int):Rat)=0:=h3;exact_mod_cast this
 simp[U6,V,U,S] at h
theorem MS(n v:Z3):(qY n v).1*n.1+(qY n v).2.1*n.2.1+(qY n v).2.2*n.2.2=0:=by
 unfold qY
 grind
theorem Oy{a b:Z3}(h:a.1*b.1+a.2.1*b.2.1+a.2.2*b.2.2=0):dj (zQ a) (zQ b)=0:=by
 unfold dj zQ;have:(((a.1*b.1+a.2.1*b.2.1+a.2.2*b.2.2:Int)):Rat)=0:=by rw[h];rfl
 simpa [Rat.intCast_add,Rat.intCast_mul] using this
theorem RK{a b:Z3}(h:a.1*b.1+a.2.1*b.2.1+a.2.2*b.2.2=0):dj (hV a) (zQ b)=0:=by
 have k:=Oy h;unfold dj zQ hV at*;simp only[lP] at*
 grind
theorem np(s:aeo):0<s.P.length∧s.P.length≤1000:=by
 have h:∀k<8,0<(dI k).length∧(dI k).length≤1000:=by decide
 have:=h (s.kind%8) (Nat.mod_lt _ (by decide));unfold aeo.P
 rwa [List.length_map]
def ctM(x:aed):Nat:=(ct3 (x.n 7)).toNat
theorem Ru{x:aed}:ct3 (x.n 7)=(ctM x:Int):=by have:=NO (x.n 7);unfold ctM;omega
theorem mP(x:aed):ctM x=1∨ctM x=2∨ctM x=3:=by have:=NO (x.n 7);unfold ctM;omega
def cSk(x:aed)(n:Nat):Evc:=match x.kind%5 with
 |0=>JT x n (ctN x)
 |1=>dK [110] (zQ (dz x)) (hQ (gd (x.n 6))) (hV (yy x))
 |2=>dn [110] (zQ (dz x)) (x.aeA (ctM x)) (zQ (yy x))
 |3=>mM [110] (zQ (dz x)) (hQ (gd (x.n 6))) (hQ (ps9 (x.n 7))) [110,95,114,111,99,107]
 |_=>gO [110] (zM x) (zQ (dz x))
variable{c:Nat}
theorem vM{x:aed}(hc:c≤3){q:Rat×Rat}(h:q∈x.aeA c):big 2 q.1∧big 2 q.2:=by unfold aed.aeA at h;obtain⟨i,Z,rfl⟩:=List.mem_map.1 h;have Z:=List.mem_range.1 Z;have X:=x.agt i;have V:=cS (x.n ((i+7)%8));exact⟨J2 (k:=2) (by omega) (by decide),De (k:=2) (by show(gd _).natAbs<_;omega) (by decide)⟩
variable{i:Nat}
theorem NZ{x:aed}{a:Rat×Rat}(h:(x.aeA c)[i]? =some a):a=x.agT i:=by
 unfold aed.aeA at h;rw[List.getElem?_map] at h;by_cases Z:i<c
 ·rw[List.getElem?_range Z] at h
  exact(Option.some.inj h).symm
 ·rw[List.getElem?_eq_none (by simp;omega)] at h
  cases h
theorem N2{x:aed}{a b:Rat×Rat}(H:(x.aeA c)[i]? =some a)(I:(x.aeA c)[i+1]? =some b):a.1<b.1:=by
 rw[NZ H,NZ I];have:=x.agP i;show((x.at i:Int):Rat)<((x.at (i+1):Int):Rat)
 exact_mod_cast this
theorem Hh(s:aeo)(x:aed):jn s (cSk x s.P.length):=by
 obtain⟨S,R⟩:=np s;have Z:=(Gq (lV x) (k:=1) (by decide) (by decide));have X:=Xt (UI x);have V:=De (z:=gd (x.n 6)) (k:=1) (by have:=cS (x.n 6);omega) (by decide);have U:=MS (dz x) (gd (x.n 3),gd (x.n 4),gd (x.n 5));unfold cSk;split
 ·exact Hg s x _ _ rfl S R (jH x)
 ·exact CH s [110] _ _ _ (by decide) (Z.mono (by omega)) X (V.mono (by omega) (by omega)) ((VL (uk x) (k:=3) (by decide) (by decide)).mono (by omega)) (RK U)
 ·have K:=mP x
  refine EI s [110] _ _ _ (by decide) (Z.mono (by omega)) X (by rw[aed.aeL];omega) (by rw[aed.aeL];omega) (fun q O=>?_) (fun i a b N L=>N2 N L) ((Gq (uk x) (k:=3) (by decide) (by decide)).mono (by omega)) (Oy U);have:=vM (c:=ctM x) (by omega) O;exact⟨this.1.mono (by omega),this.2.mono (by omega)⟩
 ·have G:=lX (x.n 7)
  exact EH s [110] _ _ _ _ (by decide) (Z.mono (by omega)) X (V.mono (by omega) (by omega)) ((De (z:=ps9 (x.n 7)) (k:=1) (by omega) (by decide)).mono (by omega) (by omega)) (WB (by omega)) (by decide)
 ·exact EJ s [110] _ _ (by decide) (fun M=>uR (Ag x) (wC x) M) (Z.mono (by omega))
def Un(m:Nat)(x:aed)(n:Nat):List AV:=(cSk x n).cells (if x.kind%5=0 then .slice m 0 n none else .qF) (if x.kind%5=0 then .slice (m+1) 0 (ctN x) none else .qF) (if x.kind%5=0 then dqS m n (ctN x) else .qF) (if x.kind%5=2 then .slice m 0 (ctM x) none else .qF)
def Qb(m:Nat)(x:aed)(n:Nat):Mem:=if x.kind%5=0 then dqN m x n (ctN x) else if x.kind%5=2 then [.cells true 2 (kC (kT (x.aeA (ctM x))))] else []
theorem iL(k:Nat):k%5=0∨k%5=1∨k%5=2∨k%5=3∨k%5=4:=by omega
section
variable{x:aed}
include x
theorem Wp(h:x.kind%5=0):cSk x n=JT x n (ctN x):=by unfold cSk;rw[h];rfl
theorem Wq(h:x.kind%5=1):cSk x n=dK [110] (zQ (dz x)) (hQ (gd (x.n 6))) (hV (yy x)):=by unfold cSk;rw[h];rfl
theorem Wr(h:x.kind%5=2):cSk x n=dn [110] (zQ (dz x)) (x.aeA (ctM x)) (zQ (yy x)):=by unfold cSk;rw[h];rfl
theorem Wt(h:x.kind%5=3):cSk x n=mM [110] (zQ (dz x)) (hQ (gd (x.n 6))) (hQ (ps9 (x.n 7))) [110,95,114,111,99,107]:=by unfold cSk;rw[h];rfl
theorem Wu(h:x.kind%5=4):cSk x n=gO [110] (zM x) (zQ (dz x)):=by unfold cSk;rw[h];rfl
end
theorem G8(x:aed)(H:x.Ok)(n k:Nat)(I:0<n)(J:n≤1000):kO prog 9 [.agg [.slice 0 0 n none,.slice 1 0 k none],.agg x.cells,.str [110]] [.qK,.qK] (.agg (Un 2 x n)) ([.qK,.qK]++Qb 2 x n):=by
 unfold Un Qb;rcases iL x.kind with h | h | h | h | h
 ·rw[Wp h,h];exact EA x H n k I J h
 ·rw[Wq h,h];exact EB x H n k h
 ·rw[Wr h,h]
  rcases mP x with h3 | h3 | h3
  ·rw[h3];exact CD x H n k h (by rw[Ru,h3];rfl)
  ·rw[h3];exact CE x H n k h (by rw[Ru,h3];rfl)
  ·rw[h3];exact CF x H n k h (by rw[Ru,h3];rfl)
 ·rw[Wt h,h];exact EC x H n k h
 ·rw[Wu h,h];exact ED x H n k h
theorem G9(x:aed)(H:x.Ok)(n k:Nat)(I:0<n)(J:n≤1000)(M:Mem)(p t:Nat)(W:p<M.length)(Y:t<M.length):
  kO prog 9 [.agg [.slice p 0 n none,.slice t 0 k none],.agg x.cells,.str [110]] M (.agg (Un M.length x n)) (M++Qb M.length x n):=by
 have Z:=fun f=>aL (ρ:=f) x.closed
 have h3:=jH x;have U:=G8 x H n k I J;have:=kO.frame (M:=M) (new:=Qb 2 x n) [p,t] (m:=[.qK,.qK]) rfl (by
  intro k V;simp only[lM] at V;rcases V with rfl | rfl
  ·exact W
  ·exact Y) (by simp[AV.aen,AV.under,aX x.closed]) (fun i s X=>by
  match i with
  |0=>simp at X;subst X;trivial
  |1=>simp at X;subst X;trivial
  |i+2=>simp at X) (by
   unfold Qb;rcases iL x.kind with h | h | h | h | h<;>rw[h]<;>try rfl
   rcases h3 with h3 | h3 | h3<;>rw[h3]<;>rfl) U
 unfold Un Qb at this ⊢;obtain⟨C,S⟩:=xE (cSk x n);rw[←S] at this ⊢;have R:∀f,AV.aez f (kC (kT (x.aeA (ctM x))))=kC (kT (x.aeA (ctM x))):=fun f=>aL (jJ _)
 rcases iL x.kind with h | h | h | h | h
 ·obtain⟨c,O⟩:=xE (ctN x)
  rw[←O] at this h3 ⊢;rcases h3 with rfl | rfl | rfl<;>simpa [h,AV.aez,AV.ren,fq,aek.ren,dqS,dqN,jM,uNm,nmE,stC,Z,Evc.cells] using this
 ·simpa [h,AV.aez,AV.ren,fq,aek.ren,Z,Evc.cells] using this
 ·simpa [h,AV.aez,AV.ren,fq,aek.ren,Z,Evc.cells,R] using this
 ·simpa [h,AV.aez,AV.ren,fq,aek.ren,Z,Evc.cells] using this
 ·simpa [h,AV.aez,AV.ren,fq,aek.ren,Z,Evc.cells] using this
theorem Bf(M N:Mem)(k:Nat):(M++N)[M.length+k]? =N[k]? :=by rw[List.getElem?_append_right (by omega)];congr 1;omega
theorem Rg(M N:Mem):(M++N)[M.length]? =N[0]? :=Bf M N 0
variable{C:List AV}{N:Mem}
theorem mh{b es n:Nat}{o:Bool}(h0:0<n)(h:N[b]? =some (.cells o es C)):aev N (.slice b 0 n none) es n C:=.inr ⟨b,o,rfl,h0,h⟩
variable{es:Nat}
theorem ji:aev N .qF es 0 []:=.inl ⟨rfl,rfl,rfl⟩
theorem KR:afy N .qF []:=⟨[],rfl,ji,fun i x L h=>by simp at h⟩
theorem Wd(h:c=1∨c=2∨c=3):(uNm c).length=c:=by rcases h with rfl | rfl | rfl<;>rfl
theorem RC(x:aed)(n:Nat)(H:0<n)(M:Mem):ae9 (M++Qb M.length x n) (Un M.length x n) (cSk x n):=by
 unfold Un Qb;have h3:=jH x;rcases iL x.kind with h | h | h | h | h
 ·rw[Wp h,h]
  refine⟨_,_,_,_,rfl,?_,?_,?_,ji⟩
  ·simp only[if_true]
   have V:(JT x n (ctN x)).B.length=n:=by show(hS _).length=n;rw[mT,Hts.aeI]
   rw[V];refine mh (o:=true) H ?_;rw[Rg];show _=some (aek.cells true 1 (stC (hS _)))
   rw[Ti];rcases h3 with h3 | h3 | h3<;>rw[h3]<;>rfl
  ·simp only[if_true]
   have V:(JT x n (ctN x)).U.length=ctN x:=Wd h3;rw[V];refine mh (o:=true) (by omega) ?_;rw[Bf];show _=some (aek.cells true 1 (stC (uNm (ctN x))))
   rcases h3 with h3 | h3 | h3<;>rw[h3]<;>rfl
  ·simp only[if_true]
   show afy _ _ ((iX x n (ctN x)).map hS)
   rcases h3 with h3 | h3 | h3<;>rw[h3]
   ·exact KR
   ·refine⟨[.slice (M.length+3) 0 n none],rfl,mh (o:=true) (by show 0<1;omega) (by rw[Bf];rfl),fun i x L Z X=>?_⟩
    match i,Z,X with
    |0,Z,X=>
     cases Z;cases X;rw[mT,fI];refine mh (o:=true) H ?_;rw[Bf,Ti];rfl
    |i+1,Z,_=>simp at Z
   ·refine⟨[.slice (M.length+3) 0 n none,.slice (M.length+4) 0 n none],rfl,mh (o:=true) (by show 0<2;omega) (by rw[Bf];rfl),fun i x L Z X=>?_⟩
    match i,Z,X with
    |0,Z,X=>
     cases Z;cases X;rw[mT,fI];refine mh (o:=true) H ?_;rw[Bf,Ti];rfl
    |1,Z,X=>
     cases Z;cases X;rw[mT,fI];refine mh (o:=true) H ?_;rw[Bf,Ti];rfl
    |i+2,Z,_=>simp at Z
 ·rw[Wq h,h];exact⟨_,_,_,_,rfl,ji,ji,KR,ji⟩
 ·rw[Wr h,h]
  refine⟨_,_,_,_,rfl,ji,ji,KR,?_⟩;have V:(dn [110] (zQ (dz x)) (x.aeA (ctM x)) (zQ (yy x))).K.length=ctM x:=by show(kT _).length=_;rw[eh,aed.aeL]
  rw[V];have:=mP x;exact mh (o:=true) (by omega) (by rw[Rg];rfl)
 ·rw[Wt h,h];exact⟨_,_,_,_,rfl,ji,ji,KR,ji⟩
 ·rw[Wu h,h];exact⟨_,_,_,_,rfl,ji,ji,KR,ji⟩
section
variable{M:Mem}{p:Nat}{s:aek}(h:M[p]? =some s)
include M p s h
theorem di(Z:Mem):(M++Z)[p]? =some s:=by rw[List.getElem?_append_left (gL h)];exact h
theorem vI:p<M.length:=gL h
end
theorem aev.refs{v:AV}(h:aev N v es n C)(x:Nat):v.aef (fun b=>decide (b<N.length+x))=true:=by
 rcases h with⟨rfl,_⟩ | ⟨b,o,rfl,_,h⟩
 ·rfl
 ·have:=vI h
  simp only[AV.aef,decide_eq_true_eq];omega
theorem ae9.refs{e:List AV}{c:Evc}(h:ae9 N e c)(x:Nat):AV.ael (fun b=>decide (b<N.length+x)) e=true:=by obtain⟨b,u,M,L,rfl,Z,X,⟨_,_,h3,_⟩,V⟩:=h;have U:=Z.refs x;have S:=X.refs x;have R:=h3.refs x;have O:=V.refs x;simp only[Evc.cells,AV.ael,U,S,R,O,AV.aef,Bool.and_self]
def KS(s:aeo)(p t:Nat):AV:=.agg [.slice p 0 s.P.length none,.slice t 0 s.T.length none]
theorem UB{x:aed}{a b:Rat×Rat}(H:(x.aeA c)[i]? =some a)(I:(x.aeA c)[i+1]? =some b):b.1-a.1≠0:=by
 have:=N2 H I
 grind
section
variable {x:aed}{s:aeo}{M:Mem}{p t:Nat}{o o' :Bool}{ev:List AV}
end
end Go.Proofs
