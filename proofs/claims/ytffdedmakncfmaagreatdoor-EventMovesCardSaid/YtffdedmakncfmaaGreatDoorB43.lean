/- See B54. -/
import Derived.Test.YtffdedmakncfmaaGreatDoorB42
set_option linter.all false
set_option maxRecDepth 100000
set_option maxHeartbeats 40000000
namespace Go.Proofs
open Go.Eng
open Tryz
def hS(Z:List Int):List (List UInt8):=(qH Z).map aB
theorem VK(Z:List Int):stC (hS Z)=qC (qH Z):=(VO _).symm
theorem rq(Z:List Int):(hS Z).length=Z.length:=by simp[hS,qH]
def E7(x:ae4)(n:Nat):Nat→List (List Int)
 |1=>[]
 |2=>[upL x.s0 (x.base.l n) n]
 |_=>[upL x.s0 (x.base.l n) n,upL x.s1 (upL x.s0 (x.base.l n) n) n]
def KD(x:ae4)(n c:Nat):Evc:={ k:=1,nm:=[110],B:=hS (x.base.l n),U:=uNm c,S:=(E7 x n c).map hS }
theorem TN{h:Hts}{L:List Int}{n i:Nat}{z y:Int}(hz:L[i]? =some z)(H:(upL h L n)[i]? =some y):z≤y:=by
 unfold upL at H;rw[List.getElem?_map] at H;by_cases Z:i<n
 ·rw[List.getElem?_range Z] at H
  have e:L.getD i 0=z:=by rw[List.getD_eq_getElem?_getD,hz];rfl
  simp only[Option.map_some,Option.some.injEq] at H;rw[e] at H;omega
 ·rw[List.getElem?_eq_none (by simp;omega)] at H
  simp at H
theorem H5(s:afh)(x:ae4)(n c:Nat)(H:n=s.P.length)(h0:0<n)(I:n≤1000)(hc:c=1∨c=2∨c=3):kv s (KD x n c):=by
 have lB:(x.base.l n).length=n:=x.base.afB n;have X:∀h L,(upL h L n).length=n:=fun h L=>iJ h L n
 have F:∀z∈x.base.l n,z.natAbs<1000:=fun z Z=>by have:=o9 x n z Z;omega
 have V:∀z∈upL x.s0 (x.base.l n) n,z.natAbs<1000:=fun z Z=>by have:=C9 x n z Z;omega
 have D:∀z∈upL x.s1 (upL x.s0 (x.base.l n) n) n,z.natAbs<1000:=by intro z Z;unfold upL at Z;obtain⟨k,C,rfl⟩:=List.mem_map.1 Z;have C:=List.mem_range.1 C;have K:=C9 x n _ (sF (l:=upL x.s0 (x.base.l n) n) (k:=k) (by rw[iJ];exact C));have:=x.s1.aha k;unfold upL at K;omega
 refine kN mV.1 (by decide) ⟨?_,?_,?_,?_,?_⟩ (by show [110]∈ku;decide) rfl rfl (fun h=>by cases h) (fun _=>rfl) fun m ev o j h=>?_
 ·show(hS _).length≤1000;rw[rq,lB];exact I
 ·show(uNm c).length≤1000;rcases hc with rfl | rfl | rfl<;>decide
 ·show((E7 x n c).map hS).length≤2;rcases hc with rfl | rfl | rfl<;>simp[E7]
 ·intro L U
  have U:L∈(E7 x n c).map hS:=U;rcases hc with rfl | rfl | rfl<;>simp[E7] at U
  ·subst U;rw[rq,X];exact I
  ·rcases U with rfl | rfl<;>(rw[rq,X];exact I)
 ·show 0≤1000;omega
 ·obtain⟨b,u,sv,kn,rfl,K,Y,h3,h4⟩:=h
  obtain rfl:=h4.agb rfl;have e1:(KD x n c).B.length=(x.base.l n).length:=rq _;rw[e1] at K;obtain⟨G,ob,rfl,hb⟩:=K.pos (by omega);have W:m[G]? =some (.cells ob 1 (qC (qH (x.base.l n)))):=by rw[←VK];exact hb
  obtain⟨vs,lv,J,hr⟩:=h3;rcases hc with rfl | rfl | rfl
  ·obtain⟨S,ou,rfl,R⟩:=Y.pos (by show 0<1;omega)
   obtain rfl:=J.agb rfl;exact Hg s [110] _ (by decide) _ F (by omega) (by omega) m G S _ _ _ _ o j W R
  ·obtain⟨S,ou,rfl,R⟩:=Y.pos (by show 0<2;omega)
   obtain⟨Q,oc,rfl,hc⟩:=J.pos (by show 0<1;omega)
   match vs,lv with
   | [v1],_=>
    have r1:=hr 0 v1 (hS (upL x.s0 (x.base.l n) n)) rfl rfl;rw[rq,X] at r1;obtain⟨O,o1,rfl,N⟩:=r1.pos h0;rw[VK] at N;have hc:m[Q]? =some (.cells oc 1 [.slice O 0 (x.base.l n).length none]):=by rw[lB];exact hc
    exact Hh s [110] _ _ (by decide) (by decide) (by decide) _ F (by omega) (by omega) _ V (by rw[X];exact H) (fun i z y Z M=>TN Z M) m G S Q O _ _ _ _ _ _ o j W R hc N
  ·obtain⟨S,ou,rfl,R⟩:=Y.pos (by show 0<3;omega)
   obtain⟨Q,oc,rfl,hc⟩:=J.pos (by show 0<2;omega)
   match vs,lv with
   | [v1,v2],_=>
    have r1:=hr 0 v1 (hS (upL x.s0 (x.base.l n) n)) rfl rfl;rw[rq,X] at r1;obtain⟨O,o1,rfl,N⟩:=r1.pos h0;rw[VK] at N;have r2:=hr 1 v2 (hS (upL x.s1 (upL x.s0 (x.base.l n) n) n)) rfl rfl;rw[rq,X] at r2;obtain⟨b2,o2,rfl,g2⟩:=r2.pos h0;rw[VK] at g2;have hc:m[Q]? =some (.cells oc 1 [.slice O 0 (x.base.l n).length none,.slice b2 0 (x.base.l n).length none]):=by rw[lB];exact hc
    exact Hj s [110] _ _ _ (by decide) (by decide) (by decide) (by decide) (by decide) (by decide) _ F (by omega) (by omega) _ _ V (by rw[X];exact H) (fun i z y Z M=>TN Z M) D (by rw[X];exact H) (fun i z y Z M=>TN Z M) m G S Q O b2 _ _ _ _ _ _ _ o j W R hc N g2
theorem Fz(x:ae4)(y:x.Ok)(n k:Nat)(H:0<n)(I:n≤1000)(hk:x.kind%5=0):
  kO prog 8 [.agg [.slice 0 0 n none,.slice 1 0 k none],.agg x.cells,.str [110]] [.qK,.qK] (.agg ((KD x n (ctN x)).cells (.slice 2 0 n none) (.slice 3 0 (ctN x) none) (dqS 2 n (ctN x)) .qF)) ([.qK,.qK]++dqN 2 x n (ctN x)):=by
 have u:aT prog 8=some f8:=by kernel_rfl
 have K:=ae4.afc y;have o:=cp x.closed;have m:=dc x.closed;have j:=fun f=>aM (ρ:=f) x.closed
 have G:=ae4.afU y;have F:=cE G;have t5:=kd5 x.kind;rw[hk] at t5;have X:=fun M p t Z Y=>ML x y n k H I M p t Z Y
 have h3:=kW x;have D:(KD x n (ctN x)).cells (.slice 2 0 n none) (.slice 3 0 (ctN x) none) (dqS 2 n (ctN x)) .qF=GD [110] (.slice 2 0 n none) (.slice 3 0 (ctN x) none) (dqS 2 n (ctN x)):=rfl;rw[D];clear D;obtain⟨c,B⟩:=xE (ctN x);rw[←B] at X h3 ⊢;clear B;have hN:dqN 2 x n c=dqN 2 x n c:=rfl;obtain⟨A,V⟩:=xE (qC (qH (x.base.l n)));have W:∀n,AV.afm n A=[]:=fun n=>by rw[V,fM]
 have J:∀f,AV.afp f A=A:=fun f=>by rw[V,j9]
 obtain⟨R,U⟩:=xE (qC (qH (upL x.s0 (x.base.l n) n)));have Rr:∀n,AV.afm n R=[]:=fun n=>by rw[U,fM]
 have Rn:∀f,AV.afp f R=R:=fun f=>by rw[U,j9]
 obtain⟨S,hS⟩:=xE (qC (qH (upL x.s1 (upL x.s0 (x.base.l n) n) n)));have Sr:∀n,AV.afm n S=[]:=fun n=>by rw[hS,fM]
 have Sn:∀f,AV.afp f S=S:=fun f=>by rw[hS,j9]
 have Q :∃C,x.cells=C:=⟨_,rfl⟩
 obtain⟨C,hC⟩:=Q;rw[hC] at K o m j G F X ⊢;have tk:C.take 34=C:=List.take_of_length_le (by omega);have u1:IntKind.i64.wrap 1=1:=rfl;have u0:IntKind.i64.wrap 0=0:=rfl;obtain⟨L,O⟩:=xE (α:=List (FuncId×List AV×(Mem→Prop)×y9)) [(25,[.agg [.slice 0 0 n none,.slice 1 0 k none],.agg C,.str [110]],fun M=>M.length=6,⟨.agg [.slice 6 0 n none,.slice 7 0 c none,dqS 6 n c],none,dqN 6 x n c⟩)];have hO:qS prog (cJ L):=pf fun z N M Z=>by rw[O] at N;simp only[lM] at N;subst N;have Z:M.length=6:=Z;have h:=X M 0 1 (by omega) (by omega);rw[Z] at h;exact aw h
 have e1:∀M:Mem,M.length=6→cJ L (.fn 25) [.agg [.slice 0 0 n none,.slice 1 0 k none],.agg C,.str [110]] M=some ⟨.agg [.slice 6 0 n none,.slice 7 0 c none,dqS 6 n c],none,dqN 6 x n c⟩:=fun M hM=>by rw[O];exact bz hM
 clear O X;have h:aa (ba prog) (fun _=>[]) (aT prog) (cJ L) 1 8 [.agg [.slice 0 0 n none,.slice 1 0 k none],.agg C,.str [110]] [.qK,.qK]=some ⟨.agg (GD [110] (.slice 2 0 n none) (.slice 3 0 c none) (dqS 2 n c)),none,dqN 2 x n c⟩:=by
  rcases h3 with rfl | rfl | rfl<;>
   simp (maxSteps:=1000000) [aa,u,f8,e1,K,F,tk,t5,u0,u1,bW,aH,dqS,dqN,←V,←U,←hS,W,J,Rr,Rn,Sr,Sn,GD,uNm,nmE,stC,List.idxOf?_cons]
 have:=(ar aj (aI _) hO (aP _) h).1;simpa [y9.mem] using this
section
variable {M:Mem}{pv tv:AV}{ev:List AV}{n mo lo kd:Int}{k0 k1 mf k3 k4:FuncId}
end
end Go.Proofs
namespace Go.Proofs
open Go.Eng
section
variable {pv tv b u sv kn:AV}{c:Evc}{x:Int}{M:Mem}{us:List (List UInt8)}{ub:Nat}{o:Bool}
end
end Go.Proofs
