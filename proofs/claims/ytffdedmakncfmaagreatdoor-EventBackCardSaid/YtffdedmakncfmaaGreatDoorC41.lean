/- See C54. -/
import Derived.Test.YtffdedmakncfmaaGreatDoorC40
set_option linter.all false
set_option maxRecDepth 100000
set_option maxHeartbeats 40000000
namespace Go.Proofs
open Go.Eng
open Tryz
def hS(Z:List Int):List (List UInt8):=(qH Z).map ax
theorem Tb(Z:List Int):stC (hS Z)=qC (qH Z):=(Xr _).symm
theorem mc(Z:List Int):(hS Z).length=Z.length:=by simp[hS,qH]
def xL(x:afO)(n:Nat):Nat→List (List Int)
 |1=>[]
 |2=>[upL x.s0 (x.base.l n) n]
 |_=>[upL x.s0 (x.base.l n) n,upL x.s1 (upL x.s0 (x.base.l n) n) n]
def vO(x:afO)(n c:Nat):Evc:={ k:=1,nm:=[110],B:=hS (x.base.l n),U:=uNm c,S:=(xL x n c).map hS }
theorem Vh{h:Hts}{L:List Int}{n i:Nat}{z y:Int}(hz:L[i]? =some z)(H:(upL h L n)[i]? =some y):z≤y:=by
 unfold upL at H;rw[List.getElem?_map] at H;by_cases Z:i<n
 ·rw[List.getElem?_range Z] at H
  have e:L.getD i 0=z:=by rw[List.getD_eq_getElem?_getD,hz];rfl
  simp only[Option.map_some,Option.some.injEq] at H;rw[e] at H;omega
 ·rw[List.getElem?_eq_none (by simp;omega)] at H
  simp at H
theorem Jb(s:af1)(x:afO)(n c:Nat)(H:n=s.P.length)(h0:0<n)(I:n≤1000)(hc:c=1∨c=2∨c=3):mJ s (vO x n c):=by
 have lB:(x.base.l n).length=n:=x.base.agj n;have X:∀h L,(upL h L n).length=n:=fun h L=>gF h L n
 have F:∀z∈x.base.l n,z.natAbs<1000:=fun z Z=>by have:=lU x n z Z;omega
 have V:∀z∈upL x.s0 (x.base.l n) n,z.natAbs<1000:=fun z Z=>by have:=tx x n z Z;omega
 have D:∀z∈upL x.s1 (upL x.s0 (x.base.l n) n) n,z.natAbs<1000:=by intro z Z;unfold upL at Z;obtain⟨k,C,rfl⟩:=List.mem_map.1 Z;have C:=List.mem_range.1 C;have K:=tx x n _ (qs (l:=upL x.s0 (x.base.l n) n) (k:=k) (by rw[gF];exact C));have:=x.s1.ahH k;unfold upL at K;omega
 refine lL gB.1 (by decide) ⟨?_,?_,?_,?_,?_⟩ (by show [110]∈kW;decide) rfl rfl (fun h=>by cases h) (fun _=>rfl) fun m ev o j h=>?_
 ·show(hS _).length≤1000;rw[mc,lB];exact I
 ·show(uNm c).length≤1000;rcases hc with rfl | rfl | rfl<;>decide
 ·show((xL x n c).map hS).length≤2;rcases hc with rfl | rfl | rfl<;>simp[xL]
 ·intro L U
  have U:L∈(xL x n c).map hS:=U;rcases hc with rfl | rfl | rfl<;>simp[xL] at U
  ·subst U;rw[mc,X];exact I
  ·rcases U with rfl | rfl<;>(rw[mc,X];exact I)
 ·show 0≤1000;omega
 ·obtain⟨b,u,sv,kn,rfl,K,Y,h3,h4⟩:=h
  obtain rfl:=h4.agG rfl;have e1:(vO x n c).B.length=(x.base.l n).length:=mc _;rw[e1] at K;obtain⟨G,ob,rfl,hb⟩:=K.pos (by omega);have W:m[G]? =some (.cells ob 1 (qC (qH (x.base.l n)))):=by rw[←Tb];exact hb
  obtain⟨vs,lv,J,hr⟩:=h3;rcases hc with rfl | rfl | rfl
  ·obtain⟨S,ou,rfl,R⟩:=Y.pos (by show 0<1;omega)
   obtain rfl:=J.agG rfl;exact H7 s [110] _ (by decide) _ F (by omega) (by omega) m G S _ _ _ _ o j W R
  ·obtain⟨S,ou,rfl,R⟩:=Y.pos (by show 0<2;omega)
   obtain⟨Q,oc,rfl,hc⟩:=J.pos (by show 0<1;omega)
   match vs,lv with
   | [v1],_=>
    have r1:=hr 0 v1 (hS (upL x.s0 (x.base.l n) n)) rfl rfl;rw[mc,X] at r1;obtain⟨O,o1,rfl,N⟩:=r1.pos h0;rw[Tb] at N;have hc:m[Q]? =some (.cells oc 1 [.slice O 0 (x.base.l n).length none]):=by rw[lB];exact hc
    exact H8 s [110] _ _ (by decide) (by decide) (by decide) _ F (by omega) (by omega) _ V (by rw[X];exact H) (fun i z y Z M=>Vh Z M) m G S Q O _ _ _ _ _ _ o j W R hc N
  ·obtain⟨S,ou,rfl,R⟩:=Y.pos (by show 0<3;omega)
   obtain⟨Q,oc,rfl,hc⟩:=J.pos (by show 0<2;omega)
   match vs,lv with
   | [v1,v2],_=>
    have r1:=hr 0 v1 (hS (upL x.s0 (x.base.l n) n)) rfl rfl;rw[mc,X] at r1;obtain⟨O,o1,rfl,N⟩:=r1.pos h0;rw[Tb] at N;have r2:=hr 1 v2 (hS (upL x.s1 (upL x.s0 (x.base.l n) n) n)) rfl rfl;rw[mc,X] at r2;obtain⟨b2,o2,rfl,g2⟩:=r2.pos h0;rw[Tb] at g2;have hc:m[Q]? =some (.cells oc 1 [.slice O 0 (x.base.l n).length none,.slice b2 0 (x.base.l n).length none]):=by rw[lB];exact hc
    exact H9 s [110] _ _ _ (by decide) (by decide) (by decide) (by decide) (by decide) (by decide) _ F (by omega) (by omega) _ _ V (by rw[X];exact H) (fun i z y Z M=>Vh Z M) D (by rw[X];exact H) (fun i z y Z M=>Vh Z M) m G S Q O b2 _ _ _ _ _ _ _ o j W R hc N g2
theorem Gn(x:afO)(y:x.Ok)(n k:Nat)(H:0<n)(I:n≤1000)(hk:x.kind%5=0):
  kO prog 8 [.agg [.slice 0 0 n none,.slice 1 0 k none],.agg x.cells,.str [110]] [.qK,.qK] (.agg ((vO x n (ctN x)).cells (.slice 2 0 n none) (.slice 3 0 (ctN x) none) (dqS 2 n (ctN x)) .qF)) ([.qK,.qK]++dqN 2 x n (ctN x)):=by
 have u:aS prog 8=some f8:=by kernel_rfl
 have K:=afO.afW y;have o:=eG x.closed;have m:=gV x.closed;have j:=fun f=>aO (ρ:=f) x.closed
 have G:=afO.agD y;have F:=cH G;have t5:=kd5 x.kind;rw[hk] at t5;have X:=fun M p t Z Y=>NP x y n k H I M p t Z Y
 have h3:=jz x;have D:(vO x n (ctN x)).cells (.slice 2 0 n none) (.slice 3 0 (ctN x) none) (dqS 2 n (ctN x)) .qF=Hu [110] (.slice 2 0 n none) (.slice 3 0 (ctN x) none) (dqS 2 n (ctN x)):=rfl;rw[D];clear D;obtain⟨c,B⟩:=xE (ctN x);rw[←B] at X h3 ⊢;clear B;have hN:dqN 2 x n c=dqN 2 x n c:=rfl;obtain⟨A,V⟩:=xE (qC (qH (x.base.l n)));have W:∀n,AV.af6 n A=[]:=fun n=>by rw[V,fV]
 have J:∀f,AV.af9 f A=A:=fun f=>by rw[V,kN]
 obtain⟨R,U⟩:=xE (qC (qH (upL x.s0 (x.base.l n) n)));have Rr:∀n,AV.af6 n R=[]:=fun n=>by rw[U,fV]
 have Rn:∀f,AV.af9 f R=R:=fun f=>by rw[U,kN]
 obtain⟨S,hS⟩:=xE (qC (qH (upL x.s1 (upL x.s0 (x.base.l n) n) n)));have Sr:∀n,AV.af6 n S=[]:=fun n=>by rw[hS,fV]
 have Sn:∀f,AV.af9 f S=S:=fun f=>by rw[hS,kN]
 have Q :∃C,x.cells=C:=⟨_,rfl⟩
 obtain⟨C,hC⟩:=Q;rw[hC] at K o m j G F X ⊢;have tk:C.take 34=C:=List.take_of_length_le (by omega);have u1:IntKind.i64.wrap 1=1:=rfl;have u0:IntKind.i64.wrap 0=0:=rfl;obtain⟨L,O⟩:=xE (α:=List (FuncId×List AV×(Mem→Prop)×y9)) [(25,[.agg [.slice 0 0 n none,.slice 1 0 k none],.agg C,.str [110]],fun M=>M.length=6,⟨.agg [.slice 6 0 n none,.slice 7 0 c none,dqS 6 n c],none,dqN 6 x n c⟩)];have hO:qS prog (fC L):=xp fun z N M Z=>by rw[O] at N;simp only[lM] at N;subst N;have Z:M.length=6:=Z;have h:=X M 0 1 (by omega) (by omega);rw[Z] at h;exact aC h
 have e1:∀M:Mem,M.length=6→fC L (.fn 25) [.agg [.slice 0 0 n none,.slice 1 0 k none],.agg C,.str [110]] M=some ⟨.agg [.slice 6 0 n none,.slice 7 0 c none,dqS 6 n c],none,dqN 6 x n c⟩:=fun M hM=>by rw[O];exact ed hM
 clear O X;have h:aa (bh prog) (fun _=>[]) (aS prog) (fC L) 1 8 [.agg [.slice 0 0 n none,.slice 1 0 k none],.agg C,.str [110]] [.qK,.qK]=some ⟨.agg (Hu [110] (.slice 2 0 n none) (.slice 3 0 c none) (dqS 2 n c)),none,dqN 2 x n c⟩:=by
  rcases h3 with rfl | rfl | rfl<;>
   simp (maxSteps:=1000000) [aa,u,f8,e1,K,F,tk,t5,u0,u1,bN,aF,dqS,dqN,←V,←U,←hS,W,J,Rr,Rn,Sr,Sn,Hu,uNm,nmE,stC,List.idxOf?_cons]
 have:=(ar aj (aK _) hO (aR _) h).1;simpa [y9.mem] using this
theorem mR(a b c d e:AV):mV (bh prog) 147 (.agg [a,b,c,d,e]) 2=some c:=by kernel_rfl
section
variable {M:Mem}{pv tv:AV}{ev:List AV}{n mo lo kd:Int}{k0 k1 mf k3 k4:FuncId}
theorem Jd:(aG f42).map (fun o=>dm o.toList)=[[0,0,3,7,15,15,47,111,15,495,1023,2047]]:=by kernel_rfl
theorem BO(cp:pv.afR=true∧tv.afR=true)(J:ev.length=32)(hck:ev.all AV.afR=true)(rp:∀x,pv.afP (fun b=>decide (b<M.length+x))=true)(rt:∀x,tv.afP (fun b=>decide (b<M.length+x))=true)(H:∀x,AV.afV (fun b=>decide (b<M.length+x)) ev=true)(h0:ev[0]? =some (.int .i64 kd))(I:lo=if kd=1 then -2 else 0)(W:∀Z,kO prog 83 [.agg [pv,tv],.agg ev] (M++Z) (.int .i64 0) (M++Z))(hK:∀Z,kO prog 63 [.agg ev] (M++Z) (.agg [.func k0 [],.func k1 [],.func mf [],.func k3 [],.func k4 []]) (M++Z))(hN:∀Z,kO prog mf [.agg ev] (M++Z) (.int .i64 mo) (M++Z))(n1:83≠mf)(n2:63≠mf):
  kO prog 42 [.agg [pv,tv],.agg ev,.int .i64 n] M (.int .i64 (if lo≤n∧n≤mo then 0 else 10)) M:=by
 have Q:aS prog 42=some f42:=by kernel_rfl
 obtain⟨c1,c2⟩:=cp;obtain⟨L,K⟩:=xE (α:=List (FuncId×List AV×(Mem→Prop)×y9)) [(83,[.agg [pv,tv],.agg ev],(fun N=>∃Z,N=M++Z),⟨.int .i64 0,none,[]⟩),(63,[.agg ev],(fun N=>∃Z,N=M++Z),⟨.agg [.func k0 [],.func k1 [],.func mf [],.func k3 [],.func k4 []],none,[]⟩),(mf,[.agg ev],(fun N=>∃Z,N=M++Z),⟨.int .i64 mo,none,[]⟩)];have hO:qS prog (fC L):=xp fun y m N j=>by
  rw[K] at m;simp only[lM] at m;rcases m with rfl | rfl | rfl
  ·obtain⟨Z,rfl⟩:=j;exact bG (W Z)
  ·obtain⟨Z,rfl⟩:=j;exact bG (hK Z)
  ·obtain⟨Z,rfl⟩:=j;exact bG (hN Z)
 have U:∀Z,fC L (.fn 83) [.agg [pv,tv],.agg ev] (M++Z)=some ⟨.int .i64 0,none,[]⟩:=fun Z=>by rw[K];exact ed ⟨Z,rfl⟩
 have G:∀Z,fC L (.fn 63) [.agg ev] (M++Z)=some ⟨.agg [.func k0 [],.func k1 [],.func mf [],.func k3 [],.func k4 []],none,[]⟩:=fun Z=>by rw[K,bd (.inl (by decide))];exact ed ⟨Z,rfl⟩
 have F:∀Z,fC L (.fn mf) [.agg ev] (M++Z)=some ⟨.int .i64 mo,none,[]⟩:=fun Z=>by rw[K,bd (.inl n1),bd (.inl n2)];exact ed ⟨Z,rfl⟩
 obtain⟨O,D⟩:=xE (fC L);rw[←D] at hO U G F;clear D K W hK hN;have o:∀f k,AV.afP f (.func k [])=true:=fun _ _=>rfl
 have t0:ev.take 32=ev:=List.take_of_length_le (by omega);obtain⟨C,Y⟩:∃C,aG f42=C :=⟨_,rfl⟩
 have X :=cr Y Jd;simp only[aG,bQ,f42,List.nil_append,List.append_nil] at Y;subst Y;simp only[lB] at X;have w2:IntKind.i64.wrap (-2)= -2:=rfl;have S:∃B,dV (bh prog) (fun _=>[]) (aS prog) O 1 42 [.agg [pv,tv],.agg ev,.int .i64 n] M=some (.int .i64 (if lo≤n∧n≤mo then 0 else 10),M++B):=by
  by_cases V:kd=1
  ·rw[if_pos V] at I
   subst I;by_cases R:n< -2
   ·rw[if_neg (by omega)]
    simp[-getElem?_pos,-AV.afR,-AV.known,-AV.cells,-dy,-List.all_eq_true,vS,rS,mS,dV,Q,f42,J,t0,h0,V,R,U,-mV,-bK,-bt,-aH,-AV.afP,-afU.afP,bE X,dh,fG,fJ,dw,dE,jQ,bef,Nat.testBit]
   ·by_cases u:mo<n
    ·rw[if_neg (by omega)]
     simp[-getElem?_pos,-AV.afR,-AV.known,-AV.cells,-dy,-List.all_eq_true,vS,rS,mS,dV,Q,f42,J,t0,o,H,h0,V,R,u,U,G,F,-mV,mR,-bK,-bt,-aH,-AV.afP,-afU.afP,bE X,dh,fG,fJ,dw,dE,jQ,bef,Nat.testBit]
    ·rw[if_pos (by omega)]
     simp[-getElem?_pos,-AV.afR,-AV.known,-AV.cells,-dy,-List.all_eq_true,vS,rS,mS,dV,Q,f42,J,t0,o,H,h0,V,R,u,U,G,F,-mV,mR,-bK,-bt,-aH,-AV.afP,-afU.afP,bE X,dh,fG,fJ,dw,dE,jQ,bef,Nat.testBit]
  ·rw[if_neg V] at I
   subst I;by_cases R:n<0
   ·rw[if_neg (by omega)]
    simp[-getElem?_pos,-AV.afR,-AV.known,-AV.cells,-dy,-List.all_eq_true,vS,rS,mS,dV,Q,f42,J,t0,h0,V,R,U,-mV,-bK,-bt,-aH,-AV.afP,-afU.afP,bE X,dh,fG,fJ,dw,dE,jQ,bef,Nat.testBit]
   ·by_cases u:mo<n
    ·rw[if_neg (by omega)]
     simp[-getElem?_pos,-AV.afR,-AV.known,-AV.cells,-dy,-List.all_eq_true,vS,rS,mS,dV,Q,f42,J,t0,o,H,h0,V,R,u,U,G,F,-mV,mR,-bK,-bt,-aH,-AV.afP,-afU.afP,bE X,dh,fG,fJ,dw,dE,jQ,bef,Nat.testBit]
    ·rw[if_pos (by omega)]
     simp[-getElem?_pos,-AV.afR,-AV.known,-AV.cells,-dy,-List.all_eq_true,vS,rS,mS,dV,Q,f42,J,t0,o,H,h0,V,R,u,U,G,F,-mV,mR,-bK,-bt,-aH,-AV.afP,-afU.afP,bE X,dh,fG,fJ,dw,dE,jQ,bef,Nat.testBit]
 obtain⟨B,S⟩:=S;exact kO.forget rfl (dZ aj (aK _) hO (aR _) S)
end
end Go.Proofs
namespace Go.Proofs
open Go.Eng
section
variable {pv tv b u sv kn:AV}{c:Evc}{x:Int}{M:Mem}{us:List (List UInt8)}{ub:Nat}{o:Bool}
end
end Go.Proofs
