/- See E54. -/
import Derived.Test.YthpgbelancmpjaaGreatDoorE39
set_option linter.all false
set_option maxRecDepth 100000
set_option maxHeartbeats 40000000
namespace Go.Proofs
open Go.Eng
open Tryz
def jn(s:aeo)(c:Evc):Prop:=∀(M:Mem) (p t:Nat) (o X :Bool) (Z:List AV),M[p]? =some (.cells o 2 (pC s.P))→M[t]? =some (.cells X 3 (tC s.T))→ae9 M Z c→kO prog 25 [.agg [.slice p 0 s.P.length none,.slice t 0 s.T.length none],.agg Z] M (.int .i64 0) M
variable{n:Nat}{x:Bool}
theorem Gi{j:Nat}(h:x=false→n=0):pV x (sl8 j n)=sl8 j n:=by
 cases x
 ·rw[h rfl];rfl
 ·rfl
theorem kD{K:Int}{g H g2 g3 g4:FuncId}{I:Evc→Evc}{y:Bool}{s:aeo}{c:Evc}(kp:afi K g H g2 g3 g4 I x y)(n1:46≠H∧71≠H∧44≠H∧26≠H∧g≠H)(ho:c.Ok)(hm:c.nm∈jV)(hk:c.kd K=c)(J:I c=c)(W:x=false→c.B=[]∧c.U=[]∧c.S=[])(hy:y=false→c.K=[])(hC:∀(m:Mem)(Y:List AV),m[0]? =some (.cells false 2 (pC s.P))→m[1]? =some (.cells false 3 (tC s.T))→ae9 m Y c→kO prog H [shA s,.agg Y] m (.int .i64 0) m):jn s c:=by
 intro M p t o O Y N L R;obtain⟨b,u,j,kn,rfl,-⟩:=id R;refine O9 ⟨o,N⟩ ⟨O,L⟩ ho R fun q2 q3 q4 q5 q6 q7 C2 C3 C4 C5 C6 C7 m X G V=>?_
 subst X;have F:pV x (sl8 2 c.B.length)=sl8 2 c.B.length:=Gi fun h=>by rw[(W h).1];rfl
 have D:pV x (sl8 3 c.U.length)=sl8 3 c.U.length:=Gi fun h=>by rw[(W h).2.1];rfl
 have C:pV x (sl8 5 c.S.length)=sl8 5 c.S.length:=Gi fun h=>by rw[(W h).2.2];rfl
 have A:pV y (sl8 4 c.K.length)=sl8 4 c.K.length:=Gi fun h=>by rw[hy h];rfl
 have h:=O6 kp rfl G (pv:=.slice 0 0 s.P.length none) (tv:=.slice 1 0 s.T.length none) rfl rfl (c:=c) ⟨(yQ 2 c.B.length).1,(yQ 3 c.U.length).1,(yQ 5 c.S.length).1,(yQ 4 c.K.length).1⟩ ⟨(yQ _ _).2,(yQ _ _).2,(yQ _ _).2,(yQ _ _).2⟩ ⟨⟨rfl,rfl⟩,jP (by omega),jP (by omega),jP (by omega),jP (by omega)⟩ (fun Z=>nK s _ 0 1 false false rfl rfl) hm (fun Z=>by
  rw[F,D,C,A,hk,J];exact OK ho (V.more Z) (V.more Z)) n1 (e:=0) fun Z=>by
  rw[hk];exact hC _ _ rfl rfl (V.more Z)
 rw[hk] at h;exact h
variable{v:V3}
theorem Vo(h:vDg n v)(h0:0<n)(h1:n≤40000):((aj v.1).length≤1000000000∧(aj v.2.1).length≤1000000000)∧(aj v.2.2).length≤1000000000:=⟨⟨iM h.1 h0 h1,iM h.2.1 h0 h1⟩,iM h.2.2 h0 h1⟩
def Eg(v:V3):Prop:=v.1=0∧v.2.1=0∧v.2.2=0
theorem SC(q:Rat):(aj q==[48])=decide (q=0):=by
 by_cases h:q=0
 ·subst h;rfl
 ·rw[decide_eq_false h]
  have:aj q≠[48]:=fun e=>h (KF.1 e)
  simpa using this
theorem Ld(h:¬Eg v):((aj v.1==[48]&&aj v.2.1==[48])&&aj v.2.2==[48])=false:=by
 rw[SC,SC,SC];cases hb:(decide (v.1=0)&&decide (v.2.1=0))&&decide (v.2.2=0)
 ·rfl
 ·simp only[Bool.and_eq_true,decide_eq_true_eq] at hb
  exact absurd ⟨hb.1.1,hb.1.2,hb.2⟩ h
theorem yf(v n:V3)(H:vDg 200 v)(I:vDg 200 n)(hd:dj v n=0)(M:Mem):kO prog 237 [vA v,vA n] M (.int .i64 0) M:=by
 have D:aT prog 237=some f237:=by kernel_rfl
 have U:=Sk H;obtain⟨v1,v2,v3⟩:=v;obtain⟨n1,n2,n3⟩:=n;obtain⟨⟨S,R⟩,O⟩:=Vo H (by decide) (by decide);obtain⟨N,L,h3⟩:=H;obtain⟨K,G,F⟩:=I;simp only at N L h3 K G F U S R O;have k:∀{q:Rat},dg 200 200 q→(au q.num.natAbs).length≤2999∧(au q.den).length≤2999:=fun h=>by have:=h.lens (by decide) (by decide);omega
 obtain⟨C,B⟩:=k N;obtain⟨A,u⟩:=k L;obtain⟨o,m⟩:=k h3;obtain⟨j,Y⟩:=k K;obtain⟨W,Z⟩:=k G;obtain⟨X,V⟩:=k F;unfold dj at hd;simp only at hd;have J:aj 0=[48]:=rfl;refine ak yx ?_ M;simp[aa,D,f237,ag,qT,vA,ar,U,C,B,A,u,o,m,j,Y,W,Z,X,V,S,R,O,hd,J]
theorem yg(n:V3)(o:Rat)(H:vDg 200 n)(I:dg 200 200 o)(hz:¬Eg n)(M:Mem):kO prog 45 [.agg [.str (aj n.1),.str (aj n.2.1),.str (aj n.2.2),.str (aj o)]] M (.int .i64 0) M:=by
 have u:aT prog 45=some f45:=by kernel_rfl
 have Z:=Ld hz;obtain⟨R,O,N⟩:=n;obtain⟨⟨V,U⟩,S⟩:=Vo H (by decide) (by decide);have L:=iM I (by decide) (by decide);obtain⟨K,G,F⟩:=H;simp only at K G F V U S Z;have X:sP [aj R,aj O,aj N,aj o]=0:=by simp[sP,gm K,gm G,gm F,gm I]
 refine ak Jy ?_ M;simp only;obtain⟨A,m⟩:=xE (aj R);obtain⟨B,j⟩:=xE (aj O);obtain⟨C,Y⟩:=xE (aj N);obtain⟨D,W⟩:=xE (aj o);rw[←m] at V X Z ⊢;rw[←j] at U X Z ⊢;rw[←Y] at S X Z ⊢;rw[←W] at L X ⊢;simp[aa,u,f45,Jx,y9.or,ag,qT,gW,pL,rP,X,Z,V,U,S,L]
def dK(nm:List UInt8)(n:V3)(o:Rat)(v:V3):Evc:={ k:=2,nm:=nm,x5:=aj n.1,x6:=aj n.2.1,x7:=aj n.2.2,x8:=aj o,x9:=aj v.1,x10:=aj v.2.1,x11:=aj v.2.2 }
def dn(nm:List UInt8)(n:V3)(L:List P2)(v:V3):Evc:={ k:=3,nm:=nm,x12:=aj n.1,x13:=aj n.2.1,x14:=aj n.2.2,K:=kT L,x16:=aj v.1,x17:=aj v.2.1,x18:=aj v.2.2 }
def mM(nm:List UInt8)(n:V3)(o w:Rat)(u:List UInt8):Evc:={ k:=4,nm:=nm,x19:=aj n.1,x20:=aj n.2.1,x21:=aj n.2.2,x22:=aj o,x23:=aj w,x24:=u }
def gO(nm:List UInt8)(t:Int×Int×Int×Int)(c:V3):Evc:={ k:=5,nm:=nm,t1:=t.1,t2:=t.2.1,t3:=t.2.2.1,t4:=t.2.2.2,x29:=aj c.1,x30:=aj c.2.1,x31:=aj c.2.2 }
theorem CH(s:aeo)(nm:List UInt8)(n:V3)(o:Rat)(v:V3)(I:nm∈jV)(H:vDg 200 n)(hz:¬Eg n)(J:dg 200 200 o)(W:vDg 200 v)(hd:dj v n=0):jn s (dK nm n o v):=by
 refine kD fU.2.1 (by decide) (zT rfl rfl rfl (by simp[dK])) I rfl rfl (fun _=>⟨rfl,rfl,rfl⟩) (fun _=>rfl) fun m U _ _ h=>?_
 obtain rfl:=h.flat rfl rfl rfl rfl;have X:aT prog 160=some f160:=by kernel_rfl
 have V:qS prog (ag (dx [(45,[.agg [.str (aj n.1),.str (aj n.2.1),.str (aj n.2.2),.str (aj o)]],.int .i64 0),(237,[vA v,vA n],.int .i64 0)])):=eG fun e Z M=>by
  simp only[lM] at Z;rcases Z with rfl | rfl
  ·exact yg n o H J hz M
  ·exact yf v n W H hd M
 have h:aa (aV prog) (fun _=>[]) (aT prog) (ag (dx [(45,[.agg [.str (aj n.1),.str (aj n.2.1),.str (aj n.2.2),.str (aj o)]],.int .i64 0),(237,[vA v,vA n],.int .i64 0)])) 1 160 [shA s,.agg ((dK nm n o v).cells .qF .qF .qF .qF)] m=some ⟨.int .i64 0,none,[]⟩:=by simp[aa,X,f160,ag,dx,dK,Evc.cells,vA,shA]
 have:=(aq ai (aO _) V (aR _) h).1;simpa [aee.mem] using this
theorem WQ{q:Rat}(h:0<q):0<q.num:=by
 have Z:0≤q.num:=(Rat.num_nonneg (q:=q)).2 (Rat.le_of_lt h);have X:q.num≠0:=fun e=>by rw[sD.1 e] at h;exact absurd h (by decide)
 omega
theorem EH(s:aeo)(nm:List UInt8)(n:V3)(o w:Rat)(H :List UInt8)(J:nm∈jV)(W:vDg 200 n)(hz:¬Eg n)(Y:dg 200 200 o)(I:dg 200 200 w)(hp:0<w)(hu:H ∈jV):jn s (mM nm n o w H):=by
 refine kD fU.2.2.2.1 (by decide) (zT rfl rfl rfl (by simp[mM])) J rfl rfl (fun _=>⟨rfl,rfl,rfl⟩) (fun _=>rfl) fun m S _ _ h=>?_
 obtain rfl:=h.flat rfl rfl rfl rfl;have X:aT prog 169=some f169:=by kernel_rfl
 have V:qS prog (ag (dx [(45,[.agg [.str (aj n.1),.str (aj n.2.1),.str (aj n.2.2),.str (aj o)]],.int .i64 0),(86,[.str (aj w)],.int .i64 0),(178,[.str (aj w)],.int .i64 1),(71,[.str H],.int .i64 0)])):=eG fun e Z M=>by
  simp only[lM] at Z;rcases Z with rfl | rfl | rfl | rfl
  ·exact yg n o W Y hz M
  ·have:=pY (aj w) (iM I (by decide) (by decide)) M
   rw[gm I] at this;exact this
  ·have:=Av w M
   have R:0<w.num:=WQ hp;have U:¬w.num<0:=by omega
   have h3:¬w.num=0:=by omega
   rw[show ky w=1 by simp[ky,k9,U,h3]] at this;exact this
  ·exact gf H hu M
 have h:aa (aV prog) (fun _=>[]) (aT prog) (ag (dx [(45,[.agg [.str (aj n.1),.str (aj n.2.1),.str (aj n.2.2),.str (aj o)]],.int .i64 0),(86,[.str (aj w)],.int .i64 0),(178,[.str (aj w)],.int .i64 1),(71,[.str H],.int .i64 0)])) 1 169 [shA s,.agg ((mM nm n o w H).cells .qF .qF .qF .qF)] m=some ⟨.int .i64 0,none,[]⟩:=by simp[aa,X,f169,ag,dx,mM,Evc.cells,shA]
 have:=(aq ai (aO _) V (aR _) h).1;simpa [aee.mem] using this
theorem EJ(s:aeo)(nm:List UInt8)(t:Int×Int×Int×Int)(c:V3)(H:nm∈jV)(I:∀M,kO prog 69 [.agg [.int .i64 t.1,.int .i64 t.2.1,.int .i64 t.2.2.1,.int .i64 t.2.2.2]] M (.int .i64 0) M)(hc:vDg 200 c):jn s (gO nm t c):=by
 refine kD fU.2.2.2.2 (by decide) (zT rfl rfl rfl (by simp[gO])) H rfl rfl (fun _=>⟨rfl,rfl,rfl⟩) (fun _=>rfl) fun m U _ _ h=>?_
 obtain rfl:=h.flat rfl rfl rfl rfl;have X:aT prog 174=some f174:=by kernel_rfl
 have V:qS prog (ag (dx [(69,[.agg [.int .i64 t.1,.int .i64 t.2.1,.int .i64 t.2.2.1,.int .i64 t.2.2.2]],.int .i64 0),(70,[vA c],.int .i64 0)])):=eG fun e Z M=>by
  simp only[lM] at Z;rcases Z with rfl | rfl
  ·exact I M
  ·exact uS c hc M
 have h:aa (aV prog) (fun _=>[]) (aT prog) (ag (dx [(69,[.agg [.int .i64 t.1,.int .i64 t.2.1,.int .i64 t.2.2.1,.int .i64 t.2.2.2]],.int .i64 0),(70,[vA c],.int .i64 0)])) 1 174 [shA s,.agg ((gO nm t c).cells .qF .qF .qF .qF)] m=some ⟨.int .i64 0,none,[]⟩:=by simp[aa,X,f174,ag,dx,gO,Evc.cells,vA,shA]
 have:=(aq ai (aO _) V (aR _) h).1;simpa [aee.mem] using this
variable{L:List P2}
theorem VO(h3:L.length≤3)(hd:∀q∈L,dg 200 200 q.1∧dg 200 200 q.2)(H:∀(i:Nat) a b,L[i]? =some a→L[i+1]? =some b→a.1<b.1):knE (kT L)=0:=by
 have p:∀q:Rat,ek (aj q)=some q:=ar
 have c:∀q∈L,zV (aj q.1)=0∧zV (aj q.2)=0:=fun q U=>⟨gm (hd q U).1,gm (hd q U).2⟩
 match L,h3 with
 | [],_=>rfl
 | [q0],_=>
  have Z:=c q0 (by simp);simp[knE,kT,ckE,Z,D8]
 | [q0,q1],_=>
  have Z:=c q0 (by simp);have X:=c q1 (by simp);have V:=H 0 q0 q1 rfl rfl;simp[knE,kT,ckE,Z,X,p,D8,V]
 | [q0,q1,q2],_=>
  have Z:=c q0 (by simp);have X:=c q1 (by simp);have S:=c q2 (by simp);have V:=H 0 q0 q1 rfl rfl;have R:=H 1 q1 q2 rfl rfl;simp[knE,kT,ckE,Z,X,S,p,D8,V,R]
theorem G7(h1:0<L.length)(h3:L.length≤3)(hd:∀q∈L,dg 200 200 q.1∧dg 200 200 q.2)(H:∀(i:Nat) a b,L[i]? =some a→L[i+1]? =some b→a.1<b.1)(M:Mem)(b:Nat)(o:Bool)(I:M[b]? =some (.cells o 2 (kC (kT L)))):
  kO prog 85 [.slice b 0 L.length none] M (.int .i64 0) M:=by
 have V:(kT L).length=L.length:=eh L;have h:=wM (kT L) (fun q Z=>by simp only[kT,List.mem_map] at Z;obtain⟨r,X,rfl⟩:=Z;exact⟨iM (hd r X).1 (by decide) (by decide),iM (hd r X).2 (by decide) (by decide)⟩) (by omega)
 rw[V,VO h3 hd H] at h;refine kO.afX (rest:=[]) (jJ _) rfl rfl h ⟨b,o,_,rfl,I,List.take_length⟩
theorem EI(s:aeo)(nm:List UInt8)(n:V3)(L:List P2)(v:V3)(hm:nm∈jV)(J:vDg 200 n)(hz:¬Eg n)(h1:0<L.length)(h3:L.length≤3)(hd:∀q∈L,dg 200 200 q.1∧dg 200 200 q.2)(H:∀(i:Nat) a b,L[i]? =some a→L[i+1]? =some b→a.1<b.1)(W:vDg 200 v)(I:dj v n=0):jn s (dn nm n L v):=by
 refine kD fU.2.2.1 (by decide) (zT rfl rfl rfl (by show(kT L).length≤1000;rw[eh];omega)) hm rfl rfl (fun _=>⟨rfl,rfl,rfl⟩) (fun h=>by cases h) fun m ev _ _ h=>?_
 obtain⟨b,u,sv,kn,rfl,k1,k2,k3,o⟩:=h;obtain rfl:=k1.aeS rfl;obtain rfl:=k2.aeS rfl;obtain rfl:=k3.aeS rfl;have e:(dn nm n L v).K.length=L.length:=eh L;rw[e] at o;obtain⟨X,q,rfl,Z⟩:=o.pos h1;have j :m[X]? =some (.cells q 2 (kC (kT L))):=Z;have FS:=gL Z;have D:aT prog 164=some f164:=by kernel_rfl
 have V:qS prog (ag (dx [(70,[vA n],.int .i64 0),(237,[vA v,vA n],.int .i64 0)])):=eG fun e Y M=>by
  simp only[lM] at Y;rcases Y with rfl | rfl
  ·exact uS n J M
  ·exact yf v n W J I M
 have ZJ:qS prog (cX 85 [.slice X 0 L.length none] (.int .i64 0) (fun M=>∃ext,M=m++ext)):=dO fun M hM=>by obtain⟨ext,rfl⟩:=hM;exact G7 h1 h3 hd H _ X q (gU j _)
 have hO:=qS.or' V ZJ;have U:=Ld hz;clear V ZJ Z j FS I W hz J hd H;obtain⟨S,R,O⟩:=n;simp only at U;have h:aa (aV prog) (fun _=>[]) (aT prog) (y9.or (ag (dx [(70,[vA (S,R,O)],.int .i64 0),(237,[vA v,vA (S,R,O)],.int .i64 0)])) (cX 85 [.slice X 0 L.length none] (.int .i64 0) (fun M=>∃ext,M=m++ext))) 1 164 [shA s,.agg ((dn nm (S,R,O) L v).cells .qF .qF .qF (.slice X 0 L.length none))] m=some ⟨.int .i64 0,none,[]⟩:=by
  obtain⟨A,N⟩:=xE (aj S);obtain⟨B,G⟩:=xE (aj R);obtain⟨C,F⟩:=xE (aj O);rw[←N,←G,←F] at U;have YC:(A==[48])=false∨((A==[48])=true∧(B==[48])=false)∨((A==[48])=true∧(B==[48])=true∧(C==[48])=false):=by cases H:(A==[48])<;>cases Z:(B==[48])<;>cases hc:(C==[48])<;>simp_all
  clear hO;rcases YC with H | ⟨H,Z⟩ | ⟨H,Z,hc⟩
  ·simp[aa,D,f164,y9.or,ag,dx,cX,dn,Evc.cells,shA,vA,←N,←G,←F,H]
  ·simp[aa,D,f164,y9.or,ag,dx,cX,dn,Evc.cells,shA,vA,←N,←G,←F,H,Z]
  ·simp[aa,D,f164,y9.or,ag,dx,cX,dn,Evc.cells,shA,vA,←N,←G,←F,H,Z,hc]
 have:=(aq ai (aO _) hO (aR _) h).1;simpa [aee.mem] using this
theorem kd5(n:Nat):((n:Nat):Int).tmod 5=((n%5:Nat):Int):=rfl
theorem agc:aT prog 9=some f9:=by kernel_rfl
theorem EB(x:aed)(H:x.Ok)(n k:Nat)(hk:x.kind%5=1):
  kO prog 9 [.agg [.slice 0 0 n none,.slice 1 0 k none],.agg x.cells,.str [110]] [.qK,.qK] (.agg ((dK [110] (zQ (dz x)) (hQ (gd (x.n 6))) (hV (yy x))).cells .qF .qF .qF .qF)) [.qK,.qK]:=by
 obtain⟨S,V⟩:∃S,aJ f9=S:=⟨_,rfl⟩
 have R:=cc V (ls:=[[0,1,0,4,12,31,63,127,0,383,895,2047,4095,8191],[0,1,0,7,15,31,63],[0,1,3,0,8,0,32,96,0,480,992,2040,4088,8184,16376,32767,65535,131071,262143],[0,1,0,4,12,31,63,127,0,256,768,1919,3967,0,8192,32767,65535,131071],[0,1,3,0,15,31,63,127]]) (by kernel_rfl);have m:fc [0,1,0,4,12,31,63,127,0,383,895,2047,4095,8191] 13=true:=by decide
 simp only[aJ,bR,f9,lA] at V;subst V;simp only[lB] at R;obtain⟨j,-⟩:=R;have O:=aed.aem H;have Y:=er x.closed;have N:=gn x.closed;have W:=fun f=>aL (ρ:=f) x.closed
 have M:=aed.ae3 H;have Z:=aed.aeq H (k:=6) (by decide);simp only[Nat.reduceAdd] at Z;have K:=cg M;have U:=cg Z;obtain⟨G,F⟩:=aed.aeR H (k:=6) (by decide);have D:=cS (x.n 6);have t5:=kd5 x.kind;rw[hk] at t5;have J :∃C,x.cells=C:=⟨_,rfl⟩
 obtain⟨C,B⟩:=J;rw[B] at O Y N W M Z K U ⊢;obtain⟨X,I⟩:=xE (x.n 6);rw[←I] at Z U G F D ⊢;have tk:C.take 34=C:=List.take_of_length_le (by omega);obtain⟨z,A⟩:=xE (gd X);rw[←A] at D ⊢;have g6:z.natAbs<100000000:=by omega
 obtain⟨⟨n1,n2,n3⟩,u⟩:∃v,v=dz x:=⟨_,rfl⟩
 obtain⟨⟨v1,v2,v3⟩,o⟩:∃v,v=yy x:=⟨_,rfl⟩
 rw[←u,←o];have eQ:mkRat z 2=hQ z:=rfl;have h:aa (aV prog) (fun _=>[]) (aT prog) (ag (fp x)) 1 9 [.agg [.slice 0 0 n none,.slice 1 0 k none],.agg C,.str [110]] [.qK,.qK]=some ⟨.agg ((dK [110] (zQ (n1,n2,n3)) (hQ z) (hV (v1,v2,v3))).cells .qF .qF .qF .qF),none,[]⟩:=by simp (maxSteps:=1000000) [aa,agc,f9,ag,fp,gV,dS,B,O,N,K,U,G,F,tk,t5,w1,w2,←A,g6,eQ,←u,←o,-aK,ao j,br,bk,bl,m,Nat.testBit,bJ,aD,zA,vA,zQ,hV,zS,dK,Evc.cells]
 have:=(aq ai (aO _) (jc H) (aR _) h).1;simpa [aee.mem] using this
theorem EC(x:aed)(H:x.Ok)(n k:Nat)(hk:x.kind%5=3):
  kO prog 9 [.agg [.slice 0 0 n none,.slice 1 0 k none],.agg x.cells,.str [110]] [.qK,.qK] (.agg ((mM [110] (zQ (dz x)) (hQ (gd (x.n 6))) (hQ (ps9 (x.n 7))) [110,95,114,111,99,107]).cells .qF .qF .qF .qF)) [.qK,.qK]:=by
 obtain⟨O,U⟩:∃O,aJ f9=O:=⟨_,rfl⟩
 have N:=cc U (ls:=[[0,1,0,4,12,31,63,127,0,383,895,2047,4095,8191],[0,1,0,7,15,31,63],[0,1,3,0,8,0,32,96,0,480,992,2040,4088,8184,16376,32767,65535,131071,262143],[0,1,0,4,12,31,63,127,0,256,768,1919,3967,0,8192,32767,65535,131071],[0,1,3,0,15,31,63,127]]) (by kernel_rfl);have k0:fc [0,1,0,4,12,31,63,127,0,256,768,1919,3967,0,8192,32767,65535,131071] 17=true:=by decide
 simp only[aJ,bR,f9,lA] at U;subst U;simp only[lB] at N;obtain⟨-,-,-,XN,-⟩:=N;have M:=aed.aem H;have r0:=er x.closed;have K:=gn x.closed;have e0:=fun f=>aL (ρ:=f) x.closed
 have G:=aed.ae3 H;have Z:=aed.aeq H (k:=6) (by decide);have V:=aed.aeq H (k:=7) (by decide);simp only[Nat.reduceAdd] at Z V;have S:=cg V;obtain⟨F,D⟩:=aed.aeR H (k:=7) (by decide);have B:=lX (x.n 7);have A:=cg G;have R:=cg Z;obtain⟨u,o⟩:=aed.aeR H (k:=6) (by decide);have m:=cS (x.n 6);have t5:=kd5 x.kind;rw[hk] at t5;have ZO :∃C,x.cells=C:=⟨_,rfl⟩
 obtain⟨C,j⟩:=ZO;rw[j] at M r0 K e0 G Z V A R S ⊢;obtain⟨X,hX⟩:=xE (x.n 6);rw[←hX] at Z R u o m ⊢;obtain⟨Y,hY⟩:=xE (x.n 7);rw[←hY] at V S F D B ⊢;obtain⟨y,W⟩:=xE (ps9 Y);rw[←W] at B ⊢;have g7:y.natAbs<100000000:=by omega
 have eY:mkRat y 2=hQ y:=rfl;have tk:C.take 34=C:=List.take_of_length_le (by omega);obtain⟨z,J⟩:=xE (gd X);rw[←J] at m ⊢;have g6:z.natAbs<100000000:=by omega
 obtain⟨⟨n1,n2,n3⟩,I⟩:∃v,v=dz x:=⟨_,rfl⟩
 rw[←I];have eQ:mkRat z 2=hQ z:=rfl;have h:aa (aV prog) (fun _=>[]) (aT prog) (ag (fp x)) 1 9 [.agg [.slice 0 0 n none,.slice 1 0 k none],.agg C,.str [110]] [.qK,.qK]=some ⟨.agg ((mM [110] (zQ (n1,n2,n3)) (hQ z) (hQ y) [110,95,114,111,99,107]).cells .qF .qF .qF .qF),none,[]⟩:=by simp (maxSteps:=1000000) [aa,agc,f9,ag,fp,gV,dS,j,M,K,A,R,u,o,tk,t5,w3,w4,←J,g6,eQ,←I,S,F,D,←W,g7,eY,-aK,ao XN,br,bk,bl,k0,Nat.testBit,bJ,aD,gb,zA,zQ,zS,mM,Evc.cells]
 have:=(aq ai (aO _) (jc H) (aR _) h).1;simpa [aee.mem] using this
theorem ED(x:aed)(H:x.Ok)(n k:Nat)(hk:x.kind%5=4):
  kO prog 9 [.agg [.slice 0 0 n none,.slice 1 0 k none],.agg x.cells,.str [110]] [.qK,.qK] (.agg ((gO [110] (zM x) (zQ (dz x))).cells .qF .qF .qF .qF)) [.qK,.qK]:=by
 obtain⟨U,V⟩:∃U,aJ f9=U:=⟨_,rfl⟩
 have S:=cc V (ls:=[[0,1,0,4,12,31,63,127,0,383,895,2047,4095,8191],[0,1,0,7,15,31,63],[0,1,3,0,8,0,32,96,0,480,992,2040,4088,8184,16376,32767,65535,131071,262143],[0,1,0,4,12,31,63,127,0,256,768,1919,3967,0,8192,32767,65535,131071],[0,1,3,0,15,31,63,127]]) (by kernel_rfl);have u:fc [0,1,3,0,15,31,63,127] 7=true:=by decide
 simp only[aJ,bR,f9,lA] at V;subst V;simp only[lB] at S;obtain⟨-,-,-,-,o⟩:=S;have R:=aed.aem H;have m:=er x.closed;have O:=gn x.closed;have j:=fun f=>aL (ρ:=f) x.closed
 have N:=aed.ae3 H;have Z:=aed.aeq H (k:=6) (by decide);simp only[Nat.reduceAdd] at Z;have M:=cg N;have K:=cg Z;obtain⟨Y,W⟩:=aed.aeR H (k:=6) (by decide);have G:=cS (x.n 6);have t5:=kd5 x.kind;rw[hk] at t5;have F:=aed.af8 H;have J:=mV x.T;have I:=gn J;have lT:(i8C x.T).length=4:=by rw[gG,H.tl]
 have ZO :∃C,x.cells=C:=⟨_,rfl⟩
 obtain⟨C,D⟩:=ZO;rw[D] at R m O j N Z M K F ⊢;obtain⟨X,hX⟩:=xE (x.n 6);rw[←hX] at Z K Y W G;have tk:C.take 34=C:=List.take_of_length_le (by omega);obtain⟨z,hz⟩:=xE (gd X);rw[←hz] at G;have g6:z.natAbs<100000000:=by omega
 obtain⟨⟨n1,n2,n3⟩,B⟩:∃v,v=dz x:=⟨_,rfl⟩
 obtain⟨⟨t1,t2,t3,t4⟩,A⟩:∃v,v=zM x:=⟨_,rfl⟩
 rw[←B,←A];have eQ:mkRat z 2=hQ z:=rfl;have h:aa (aV prog) (fun _=>[]) (aT prog) (ag (fp x)) 1 9 [.agg [.slice 0 0 n none,.slice 1 0 k none],.agg C,.str [110]] [.qK,.qK]=some ⟨.agg ((gO [110] (t1,t2,t3,t4) (zQ (n1,n2,n3))).cells .qF .qF .qF .qF),none,[]⟩:=by simp (maxSteps:=1000000) [aa,agc,f9,ag,fp,gV,D,R,O,M,tk,t5,w4,w5,←B,←A,-aK,ao o,br,bk,bl,u,Nat.testBit,bJ,aD,F,I,tA,zA,zQ,zS,gO,Evc.cells]
 have:=(aq ai (aO _) (jc H) (aR _) h).1;simpa [aee.mem] using this
end Go.Proofs
