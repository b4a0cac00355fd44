/- See C54. -/
import Derived.Test.YtffdedmakncfmaaGreatDoorC38
set_option linter.all false
set_option maxRecDepth 100000
set_option maxHeartbeats 40000000
namespace Go.Proofs
open Go.Eng
open Tryz
def mJ(s:af1)(c:Evc):Prop:=∀(M:Mem) (p t:Nat) (o X :Bool) (Z:List AV),M[p]? =some (.cells o 2 (pC s.P))→M[t]? =some (.cells X 3 (tC s.T))→agL M Z c→kO prog 83 [.agg [.slice p 0 s.P.length none,.slice t 0 s.T.length none],.agg Z] M (.int .i64 0) M
variable{n:Nat}{x:Bool}
theorem HO{j:Nat}(h:x=false→n=0):ra x (sl8 j n)=sl8 j n:=by
 cases x
 ·rw[h rfl];rfl
 ·rfl
theorem lL{K:Int}{g H g2 g3 g4:FuncId}{I:Evc→Evc}{y:Bool}{s:af1}{c:Evc}(kp:agW K g H g2 g3 g4 I x y)(n1:131≠H∧132≠H∧63≠H∧133≠H∧g≠H)(ho:c.Ok)(hm:c.nm∈kW)(hk:c.kd K=c)(J:I c=c)(W:x=false→c.B=[]∧c.U=[]∧c.S=[])(hy:y=false→c.K=[])(hC:∀(m:Mem)(Y:List AV),m[0]? =some (.cells false 2 (pC s.P))→m[1]? =some (.cells false 3 (tC s.T))→agL m Y c→kO prog H [shA s,.agg Y] m (.int .i64 0) m):mJ s c:=by
 intro M p t o Q Y O N R;obtain⟨b,u,j,kn,rfl,-⟩:=id R;refine Rz ⟨o,O⟩ ⟨Q,N⟩ ho R fun q2 q3 q4 q5 q6 q7 C2 C3 C4 C5 C6 C7 m V L X=>?_
 subst V;have G:ra x (sl8 2 c.B.length)=sl8 2 c.B.length:=HO fun h=>by rw[(W h).1];rfl
 have F:ra x (sl8 3 c.U.length)=sl8 3 c.U.length:=HO fun h=>by rw[(W h).2.1];rfl
 have D:ra x (sl8 5 c.S.length)=sl8 5 c.S.length:=HO fun h=>by rw[(W h).2.2];rfl
 have C:ra y (sl8 4 c.K.length)=sl8 4 c.K.length:=HO fun h=>by rw[hy h];rfl
 have h:=Rw kp rfl L (pv:=.slice 0 0 s.P.length none) (tv:=.slice 1 0 s.T.length none) rfl rfl (c:=c) ⟨(zX 2 c.B.length).1,(zX 3 c.U.length).1,(zX 5 c.S.length).1,(zX 4 c.K.length).1⟩ ⟨(zX _ _).2,(zX _ _).2,(zX _ _).2,(zX _ _).2⟩ ⟨⟨rfl,rfl⟩,kS (by omega),kS (by omega),kS (by omega),kS (by omega)⟩ (fun Z=>wN s _ 0 1 false false rfl rfl) hm (fun Z=>by
  rw[G,F,D,C,hk,J];exact QT ho (X.more Z) (X.more Z)) n1 (e:=0) fun Z=>by
  rw[hk];exact hC _ _ rfl rfl (X.more Z)
 rw[hk] at h;exact h
variable{v:V3}
theorem Xw(h:vDg n v)(h0:0<n)(h1:n≤40000):((ax v.1).length≤1000000000∧(ax v.2.1).length≤1000000000)∧(ax v.2.2).length≤1000000000:=⟨⟨mh h.1 h0 h1,mh h.2.1 h0 h1⟩,mh h.2.2 h0 h1⟩
def FZ(v:V3):Prop:=v.1=0∧v.2.1=0∧v.2.2=0
theorem UW(q:Rat):(ax q==[48])=decide (q=0):=by
 by_cases h:q=0
 ·subst h;rfl
 ·rw[decide_eq_false h]
  have:ax q≠[48]:=fun e=>h (ME.1 e)
  simpa using this
theorem M4(h:¬FZ v):((ax v.1==[48]&&ax v.2.1==[48])&&ax v.2.2==[48])=false:=by
 rw[UW,UW,UW];cases hb:(decide (v.1=0)&&decide (v.2.1=0))&&decide (v.2.2=0)
 ·rfl
 ·simp only[Bool.and_eq_true,decide_eq_true_eq] at hb
  exact absurd ⟨hb.1.1,hb.1.2,hb.2⟩ h
theorem zk(v n:V3)(y:vDg 200 v)(H:vDg 200 n)(hd:fI v n=0)(M:Mem):kO prog 227 [vA v,vA n] M (.int .i64 0) M:=by
 have F:aS prog 227=some f227:=by kernel_rfl
 have U:=UJ y;obtain⟨I,v2,v3⟩:=v;obtain⟨n1,n2,n3⟩:=n;obtain⟨⟨S,R⟩,Q⟩:=Xw y (by decide) (by decide);obtain⟨O,N,h3⟩:=y;obtain⟨L,K,G⟩:=H;simp only at O N h3 L K G U S R Q;have k:∀{q:Rat},dg 200 200 q→(ai q.num.natAbs).length≤2999∧(ai q.den).length≤2999:=fun h=>by have:=h.lens (by decide) (by decide);omega
 obtain⟨D,C⟩:=k O;obtain⟨B,u⟩:=k N;obtain⟨o,m⟩:=k h3;obtain⟨j,Y⟩:=k L;obtain⟨W,Z⟩:=k K;obtain⟨X,V⟩:=k G;unfold fI at hd;simp only at hd;have J:ax 0=[48]:=rfl;refine ao zB ?_ M;simp[aa,F,f227,ag,sw,vA,ay,U,D,C,B,u,o,m,j,Y,W,Z,X,V,S,R,Q,hd,J]
theorem zl(n:V3)(o:Rat)(y:vDg 200 n)(H:dg 200 200 o)(hz:¬FZ n)(M:Mem):kO prog 226 [.agg [.str (ax n.1),.str (ax n.2.1),.str (ax n.2.2),.str (ax o)]] M (.int .i64 0) M:=by
 have F:aS prog 226=some f226:=by kernel_rfl
 have Z:=M4 hz;obtain⟨R,Q,O⟩:=n;obtain⟨⟨V,U⟩,S⟩:=Xw y (by decide) (by decide);have N:=mh H (by decide) (by decide);obtain⟨L,K,G⟩:=y;simp only at L K G V U S Z;have X:yX [ax R,ax Q,ax O,ax o]=0:=by simp[yX,jy L,jy K,jy G,jy H]
 refine ao Lq ?_ M;simp only;obtain⟨A,u⟩:=xE (ax R);obtain⟨B,m⟩:=xE (ax Q);obtain⟨C,j⟩:=xE (ax O);obtain⟨D,Y⟩:=xE (ax o);rw[←u] at V X Z ⊢;rw[←m] at U X Z ⊢;rw[←j] at S X Z ⊢;rw[←Y] at N X ⊢;simp[aa,F,f226,Lp,afF.or,ag,sw,iF,qU,tt,X,Z,V,U,S,N]
def dO(nm:List UInt8)(n:V3)(o:Rat)(v:V3):Evc:={ k:=2,nm:=nm,x5:=ax n.1,x6:=ax n.2.1,x7:=ax n.2.2,x8:=ax o,x9:=ax v.1,x10:=ax v.2.1,x11:=ax v.2.2 }
def dR(nm:List UInt8)(n:V3)(L:List P2)(v:V3):Evc:={ k:=3,nm:=nm,x12:=ax n.1,x13:=ax n.2.1,x14:=ax n.2.2,K:=kT L,x16:=ax v.1,x17:=ax v.2.1,x18:=ax v.2.2 }
def mX(nm:List UInt8)(n:V3)(o w:Rat)(u:List UInt8):Evc:={ k:=4,nm:=nm,x19:=ax n.1,x20:=ax n.2.1,x21:=ax n.2.2,x22:=ax o,x23:=ax w,x24:=u }
def gu(nm:List UInt8)(t:Int×Int×Int×Int)(c:V3):Evc:={ k:=5,nm:=nm,t1:=t.1,t2:=t.2.1,t3:=t.2.2.1,t4:=t.2.2.2,x29:=ax c.1,x30:=ax c.2.1,x31:=ax c.2.2 }
theorem Ek(s:af1)(nm:List UInt8)(n:V3)(o:Rat)(v:V3)(H:nm∈kW)(y:vDg 200 n)(hz:¬FZ n)(I:dg 200 200 o)(J:vDg 200 v)(hd:fI v n=0):mJ s (dO nm n o v):=by
 refine lL gB.2.1 (by decide) (Bh rfl rfl rfl (by simp[dO])) H rfl rfl (fun _=>⟨rfl,rfl,rfl⟩) (fun _=>rfl) fun m U _ _ h=>?_
 obtain rfl:=h.flat rfl rfl rfl rfl;have X:aS prog 164=some f164:=by kernel_rfl
 have V:qS prog (ag (cc [(226,[.agg [.str (ax n.1),.str (ax n.2.1),.str (ax n.2.2),.str (ax o)]],.int .i64 0),(227,[vA v,vA n],.int .i64 0)])):=cD fun e Z M=>by
  simp only[lM] at Z;rcases Z with rfl | rfl
  ·exact zl n o y I hz M
  ·exact zk v n J y hd M
 have h:aa (bh prog) (fun _=>[]) (aS prog) (ag (cc [(226,[.agg [.str (ax n.1),.str (ax n.2.1),.str (ax n.2.2),.str (ax o)]],.int .i64 0),(227,[vA v,vA n],.int .i64 0)])) 1 164 [shA s,.agg ((dO nm n o v).cells .qF .qF .qF .qF)] m=some ⟨.int .i64 0,none,[]⟩:=by simp[aa,X,f164,ag,cc,dO,Evc.cells,vA,shA]
 have:=(ar aj (aK _) V (aR _) h).1;simpa [y9.mem] using this
theorem Y7{q:Rat}(h:0<q):0<q.num:=by
 have Z:0≤q.num:=(Rat.num_nonneg (q:=q)).2 (Rat.le_of_lt h);have X:q.num≠0:=fun e=>by rw[ni.1 e] at h;exact absurd h (by decide)
 omega
theorem Gx(s:af1)(nm:List UInt8)(n:V3)(o w:Rat)(y :List UInt8)(I:nm∈kW)(J:vDg 200 n)(hz:¬FZ n)(W:dg 200 200 o)(H:dg 200 200 w)(Y:0<w)(hu:y ∈kW):mJ s (mX nm n o w y):=by
 refine lL gB.2.2.2.1 (by decide) (Bh rfl rfl rfl (by simp[mX])) I rfl rfl (fun _=>⟨rfl,rfl,rfl⟩) (fun _=>rfl) fun m S _ _ h=>?_
 obtain rfl:=h.flat rfl rfl rfl rfl;have X:aS prog 173=some f173:=by kernel_rfl
 have V:qS prog (ag (cc [(226,[.agg [.str (ax n.1),.str (ax n.2.1),.str (ax n.2.2),.str (ax o)]],.int .i64 0),(61,[.str (ax w)],.int .i64 0),(228,[.str (ax w)],.int .i64 1),(132,[.str y],.int .i64 0)])):=cD fun e Z M=>by
  simp only[lM] at Z;rcases Z with rfl | rfl | rfl | rfl
  ·exact zl n o J W hz M
  ·have:=mL (ax w) (mh H (by decide) (by decide)) M
   rw[jy H] at this;exact this
  ·have:=BN w M
   have R:0<w.num:=Y7 Y;have U:¬w.num<0:=by omega
   have h3:¬w.num=0:=by omega
   rw[show fL w=1 by simp[fL,kf,U,h3]] at this;exact this
  ·exact gN y hu M
 have h:aa (bh prog) (fun _=>[]) (aS prog) (ag (cc [(226,[.agg [.str (ax n.1),.str (ax n.2.1),.str (ax n.2.2),.str (ax o)]],.int .i64 0),(61,[.str (ax w)],.int .i64 0),(228,[.str (ax w)],.int .i64 1),(132,[.str y],.int .i64 0)])) 1 173 [shA s,.agg ((mX nm n o w y).cells .qF .qF .qF .qF)] m=some ⟨.int .i64 0,none,[]⟩:=by simp[aa,X,f173,ag,cc,mX,Evc.cells,shA]
 have:=(ar aj (aK _) V (aR _) h).1;simpa [y9.mem] using this
theorem Gz(s:af1)(nm:List UInt8)(t:Int×Int×Int×Int)(c:V3)(y:nm∈kW)(H:∀M,kO prog 212 [.agg [.int .i64 t.1,.int .i64 t.2.1,.int .i64 t.2.2.1,.int .i64 t.2.2.2]] M (.int .i64 0) M)(hc:vDg 200 c):mJ s (gu nm t c):=by
 refine lL gB.2.2.2.2 (by decide) (Bh rfl rfl rfl (by simp[gu])) y rfl rfl (fun _=>⟨rfl,rfl,rfl⟩) (fun _=>rfl) fun m U _ _ h=>?_
 obtain rfl:=h.flat rfl rfl rfl rfl;have X:aS prog 178=some f178:=by kernel_rfl
 have V:qS prog (ag (cc [(212,[.agg [.int .i64 t.1,.int .i64 t.2.1,.int .i64 t.2.2.1,.int .i64 t.2.2.2]],.int .i64 0),(100,[vA c],.int .i64 0)])):=cD fun e Z M=>by
  simp only[lM] at Z;rcases Z with rfl | rfl
  ·exact H M
  ·exact wQ c hc M
 have h:aa (bh prog) (fun _=>[]) (aS prog) (ag (cc [(212,[.agg [.int .i64 t.1,.int .i64 t.2.1,.int .i64 t.2.2.1,.int .i64 t.2.2.2]],.int .i64 0),(100,[vA c],.int .i64 0)])) 1 178 [shA s,.agg ((gu nm t c).cells .qF .qF .qF .qF)] m=some ⟨.int .i64 0,none,[]⟩:=by simp[aa,X,f178,ag,cc,gu,Evc.cells,vA,shA]
 have:=(ar aj (aK _) V (aR _) h).1;simpa [y9.mem] using this
variable{L:List P2}
theorem X8(h3:L.length≤3)(hd:∀q∈L,dg 200 200 q.1∧dg 200 200 q.2)(y:∀(i:Nat) a b,L[i]? =some a→L[i+1]? =some b→a.1<b.1):knE (kT L)=0:=by
 have p:∀q:Rat,dY (ax q)=some q:=ay
 have c:∀q∈L,AW (ax q.1)=0∧AW (ax q.2)=0:=fun q U=>⟨jy (hd q U).1,jy (hd q U).2⟩
 match L,h3 with
 | [],_=>rfl
 | [q0],_=>
  have Z:=c q0 (by simp);simp[knE,kT,ckE,Z,FR]
 | [q0,q1],_=>
  have Z:=c q0 (by simp);have X:=c q1 (by simp);have V:=y 0 q0 q1 rfl rfl;simp[knE,kT,ckE,Z,X,p,FR,V]
 | [q0,q1,q2],_=>
  have Z:=c q0 (by simp);have X:=c q1 (by simp);have S:=c q2 (by simp);have V:=y 0 q0 q1 rfl rfl;have R:=y 1 q1 q2 rfl rfl;simp[knE,kT,ckE,Z,X,S,p,FR,V,R]
theorem IS(h1:0<L.length)(h3:L.length≤3)(hd:∀q∈L,dg 200 200 q.1∧dg 200 200 q.2)(y:∀(i:Nat) a b,L[i]? =some a→L[i+1]? =some b→a.1<b.1)(M:Mem)(b:Nat)(o:Bool)(H:M[b]? =some (.cells o 2 (kC (kT L)))):
  kO prog 64 [.slice b 0 L.length none] M (.int .i64 0) M:=by
 have V:(kT L).length=L.length:=kL L;have h:=ya (kT L) (fun q Z=>by simp only[kT,List.mem_map] at Z;obtain⟨r,X,rfl⟩:=Z;exact⟨mh (hd r X).1 (by decide) (by decide),mh (hd r X).2 (by decide) (by decide)⟩) (by omega)
 rw[V,X8 h3 hd y] at h;refine kO.ag6 (rest:=[]) (iI _) rfl rfl h ⟨b,o,_,rfl,H,List.take_length⟩
theorem Gy(s:af1)(nm:List UInt8)(n:V3)(L:List P2)(v:V3)(hm:nm∈kW)(I:vDg 200 n)(hz:¬FZ n)(h1:0<L.length)(h3:L.length≤3)(hd:∀q∈L,dg 200 200 q.1∧dg 200 200 q.2)(y:∀(i:Nat) a b,L[i]? =some a→L[i+1]? =some b→a.1<b.1)(J:vDg 200 v)(H:fI v n=0):mJ s (dR nm n L v):=by
 refine lL gB.2.2.1 (by decide) (Bh rfl rfl rfl (by show(kT L).length≤1000;rw[kL];omega)) hm rfl rfl (fun _=>⟨rfl,rfl,rfl⟩) (fun h=>by cases h) fun m ev _ _ h=>?_
 obtain⟨b,u,sv,kn,rfl,k1,k2,k3,j⟩:=h;obtain rfl:=k1.agG rfl;obtain rfl:=k2.agG rfl;obtain rfl:=k3.agG rfl;have e:(dR nm n L v).K.length=L.length:=kL L;rw[e] at j;obtain⟨X,q,rfl,Z⟩:=j.pos h1;have Y :m[X]? =some (.cells q 2 (kC (kT L))):=Z;have FS:=gL Z;have D:aS prog 168=some f168:=by kernel_rfl
 have V:qS prog (ag (cc [(100,[vA n],.int .i64 0),(227,[vA v,vA n],.int .i64 0)])):=cD fun e W M=>by
  simp only[lM] at W;rcases W with rfl | rfl
  ·exact wQ n I M
  ·exact zk v n J I H M
 have U:qS prog (gH 64 [.slice X 0 L.length none] (.int .i64 0) (fun M=>∃ext,M=m++ext)):=iM fun M hM=>by obtain⟨ext,rfl⟩:=hM;exact IS h1 h3 hd y _ X q (gU Y _)
 have hO:=qS.or' V U;have S:=M4 hz;clear V U Z Y FS H J hz I hd y;obtain⟨R,Q,O⟩:=n;simp only at S;have h:aa (bh prog) (fun _=>[]) (aS prog) (afF.or (ag (cc [(100,[vA (R,Q,O)],.int .i64 0),(227,[vA v,vA (R,Q,O)],.int .i64 0)])) (gH 64 [.slice X 0 L.length none] (.int .i64 0) (fun M=>∃ext,M=m++ext))) 1 168 [shA s,.agg ((dR nm (R,Q,O) L v).cells .qF .qF .qF (.slice X 0 L.length none))] m=some ⟨.int .i64 0,none,[]⟩:=by
  obtain⟨A,N⟩:=xE (ax R);obtain⟨B,G⟩:=xE (ax Q);obtain⟨C,F⟩:=xE (ax O);rw[←N,←G,←F] at S;have o:(A==[48])=false∨((A==[48])=true∧(B==[48])=false)∨((A==[48])=true∧(B==[48])=true∧(C==[48])=false):=by cases y:(A==[48])<;>cases Z:(B==[48])<;>cases hc:(C==[48])<;>simp_all
  clear hO;rcases o with y | ⟨y,Z⟩ | ⟨y,Z,hc⟩
  ·simp[aa,D,f168,afF.or,ag,cc,gH,dR,Evc.cells,shA,vA,←N,←G,←F,y]
  ·simp[aa,D,f168,afF.or,ag,cc,gH,dR,Evc.cells,shA,vA,←N,←G,←F,y,Z]
  ·simp[aa,D,f168,afF.or,ag,cc,gH,dR,Evc.cells,shA,vA,←N,←G,←F,y,Z,hc]
 have:=(ar aj (aK _) hO (aR _) h).1;simpa [y9.mem] using this
theorem kd5(n:Nat):((n:Nat):Int).tmod 5=((n%5:Nat):Int):=rfl
theorem ahM:aS prog 8=some f8:=by kernel_rfl
theorem Gp(x:afO)(y:x.Ok)(n k:Nat)(hk:x.kind%5=1):
  kO prog 8 [.agg [.slice 0 0 n none,.slice 1 0 k none],.agg x.cells,.str [110]] [.qK,.qK] (.agg ((dO [110] (zQ (dx x)) (hQ (fX (x.n 6))) (hV (uz x))).cells .qF .qF .qF .qF)) [.qK,.qK]:=by
 obtain⟨R,V⟩:∃R,aG f8=R:=⟨_,rfl⟩
 have Q:=cr V (ls:=[[0,1,0,4,12,31,63,127,0,383,895,2047,4095,8191],[0,1,0,7,15,31,63],[0,1,3,0,8,0,32,96,0,480,992,2040,4088,8184,16376,32767,65535,131071,262143],[0,1,0,4,12,31,63,127,0,256,768,1919,3967,0,8192,32767,65535,131071],[0,1,3,0,15,31,63,127]]) (by kernel_rfl);have j:dH [0,1,0,4,12,31,63,127,0,383,895,2047,4095,8191] 13=true:=by decide
 simp only[aG,bQ,f8,lA] at V;subst V;simp only[lB] at Q;obtain⟨Y,-⟩:=Q;have O:=afO.afW y;have W:=eG x.closed;have N:=gV x.closed;have J:=fun f=>aO (ρ:=f) x.closed
 have M:=afO.agD y;have Z:=afO.afZ y (k:=6) (by decide);simp only[Nat.reduceAdd] at Z;have K:=cH M;have U:=cH Z;obtain⟨G,F⟩:=afO.agt y (k:=6) (by decide);have D:=dr (x.n 6);have t5:=kd5 x.kind;rw[hk] at t5;have S :∃C,x.cells=C:=⟨_,rfl⟩
 obtain⟨C,B⟩:=S;rw[B] at O W N J M Z K U ⊢;obtain⟨X,I⟩:=xE (x.n 6);rw[←I] at Z U G F D ⊢;have H:C.take 34=C:=List.take_of_length_le (by omega);obtain⟨z,u⟩:=xE (fX X);rw[←u] at D ⊢;have g6:z.natAbs<100000000:=by omega
 obtain⟨⟨n1,n2,n3⟩,o⟩:∃v,v=dx x:=⟨_,rfl⟩
 obtain⟨⟨v1,v2,v3⟩,m⟩:∃v,v=uz x:=⟨_,rfl⟩
 rw[←o,←m];have eQ:mkRat z 2=hQ z:=rfl;have h:aa (bh prog) (fun _=>[]) (aS prog) (ag (fA x)) 1 8 [.agg [.slice 0 0 n none,.slice 1 0 k none],.agg C,.str [110]] [.qK,.qK]=some ⟨.agg ((dO [110] (zQ (n1,n2,n3)) (hQ z) (hV (v1,v2,v3))).cells .qF .qF .qF .qF),none,[]⟩:=by simp (maxSteps:=1000000) [aa,ahM,f8,ag,fA,iE,ea,B,O,N,K,U,G,F,H,t5,w1,w2,←u,g6,eQ,←o,←m,-aH,ak Y,be,aV,aX,j,Nat.testBit,bN,aF,zA,vA,zQ,hV,zS,dO,Evc.cells]
 have:=(ar aj (aK _) (jY y) (aR _) h).1;simpa [y9.mem] using this
theorem Gq(x:afO)(H:x.Ok)(n k:Nat)(hk:x.kind%5=3):
  kO prog 8 [.agg [.slice 0 0 n none,.slice 1 0 k none],.agg x.cells,.str [110]] [.qK,.qK] (.agg ((mX [110] (zQ (dx x)) (hQ (fX (x.n 6))) (hQ (ps9 (x.n 7))) [110,95,114,111,99,107]).cells .qF .qF .qF .qF)) [.qK,.qK]:=by
 obtain⟨O,U⟩:∃O,aG f8=O:=⟨_,rfl⟩
 have N:=cr U (ls:=[[0,1,0,4,12,31,63,127,0,383,895,2047,4095,8191],[0,1,0,7,15,31,63],[0,1,3,0,8,0,32,96,0,480,992,2040,4088,8184,16376,32767,65535,131071,262143],[0,1,0,4,12,31,63,127,0,256,768,1919,3967,0,8192,32767,65535,131071],[0,1,3,0,15,31,63,127]]) (by kernel_rfl);have k0:dH [0,1,0,4,12,31,63,127,0,256,768,1919,3967,0,8192,32767,65535,131071] 17=true:=by decide
 simp only[aG,bQ,f8,lA] at U;subst U;simp only[lB] at N;obtain⟨-,-,-,S',-⟩:=N;have M:=afO.afW H;have r0:=eG x.closed;have K:=gV x.closed;have e0:=fun f=>aO (ρ:=f) x.closed
 have G:=afO.agD H;have Z:=afO.afZ H (k:=6) (by decide);have V:=afO.afZ H (k:=7) (by decide);simp only[Nat.reduceAdd] at Z V;have S:=cH V;obtain⟨F,D⟩:=afO.agt H (k:=7) (by decide);have B:=nn (x.n 7);have u:=cH G;have R:=cH Z;obtain⟨o,m⟩:=afO.agt H (k:=6) (by decide);have j:=dr (x.n 6);have t5:=kd5 x.kind;rw[hk] at t5;have Q :∃C,x.cells=C:=⟨_,rfl⟩
 obtain⟨C,W⟩:=Q;rw[W] at M r0 K e0 G Z V u R S ⊢;obtain⟨X,hX⟩:=xE (x.n 6);rw[←hX] at Z R o m j ⊢;obtain⟨Y,hY⟩:=xE (x.n 7);rw[←hY] at V S F D B ⊢;obtain⟨y,J⟩:=xE (ps9 Y);rw[←J] at B ⊢;have g7:y.natAbs<100000000:=by omega
 have eY:mkRat y 2=hQ y:=rfl;have tk:C.take 34=C:=List.take_of_length_le (by omega);obtain⟨z,I⟩:=xE (fX X);rw[←I] at j ⊢;have g6:z.natAbs<100000000:=by omega
 obtain⟨⟨n1,n2,n3⟩,hn⟩:∃v,v=dx x:=⟨_,rfl⟩
 rw[←hn];have eQ:mkRat z 2=hQ z:=rfl;have h:aa (bh prog) (fun _=>[]) (aS prog) (ag (fA x)) 1 8 [.agg [.slice 0 0 n none,.slice 1 0 k none],.agg C,.str [110]] [.qK,.qK]=some ⟨.agg ((mX [110] (zQ (n1,n2,n3)) (hQ z) (hQ y) [110,95,114,111,99,107]).cells .qF .qF .qF .qF),none,[]⟩:=by simp (maxSteps:=1000000) [aa,ahM,f8,ag,fA,iE,ea,W,M,K,u,R,o,m,tk,t5,w3,w4,←I,g6,eQ,←hn,S,F,D,←J,g7,eY,-aH,ak S',be,aV,aX,k0,Nat.testBit,bN,aF,fm,zA,zQ,zS,mX,Evc.cells]
 have:=(ar aj (aK _) (jY H) (aR _) h).1;simpa [y9.mem] using this
theorem Gr(x:afO)(y:x.Ok)(n k:Nat)(hk:x.kind%5=4):
  kO prog 8 [.agg [.slice 0 0 n none,.slice 1 0 k none],.agg x.cells,.str [110]] [.qK,.qK] (.agg ((gu [110] (wC x) (zQ (dx x))).cells .qF .qF .qF .qF)) [.qK,.qK]:=by
 obtain⟨S,V⟩:∃S,aG f8=S:=⟨_,rfl⟩
 have R:=cr V (ls:=[[0,1,0,4,12,31,63,127,0,383,895,2047,4095,8191],[0,1,0,7,15,31,63],[0,1,3,0,8,0,32,96,0,480,992,2040,4088,8184,16376,32767,65535,131071,262143],[0,1,0,4,12,31,63,127,0,256,768,1919,3967,0,8192,32767,65535,131071],[0,1,3,0,15,31,63,127]]) (by kernel_rfl);have o:dH [0,1,3,0,15,31,63,127] 7=true:=by decide
 simp only[aG,bQ,f8,lA] at V;subst V;simp only[lB] at R;obtain⟨-,-,-,-,m⟩:=R;have Q:=afO.afW y;have j:=eG x.closed;have O:=gV x.closed;have Y:=fun f=>aO (ρ:=f) x.closed
 have N:=afO.agD y;have Z:=afO.afZ y (k:=6) (by decide);simp only[Nat.reduceAdd] at Z;have M:=cH N;have K:=cH Z;obtain⟨W,J⟩:=afO.agt y (k:=6) (by decide);have G:=dr (x.n 6);have t5:=kd5 x.kind;rw[hk] at t5;have F:=afO.ahI y;have I:=oK x.T;have H:=gV I;have lT:(i8C x.T).length=4:=by rw[iu,y.tl]
 have U :∃C,x.cells=C:=⟨_,rfl⟩
 obtain⟨C,D⟩:=U;rw[D] at Q j O Y N Z M K F ⊢;obtain⟨X,hX⟩:=xE (x.n 6);rw[←hX] at Z K W J G;have tk:C.take 34=C:=List.take_of_length_le (by omega);obtain⟨z,hz⟩:=xE (fX X);rw[←hz] at G;have g6:z.natAbs<100000000:=by omega
 obtain⟨⟨n1,n2,n3⟩,B⟩:∃v,v=dx x:=⟨_,rfl⟩
 obtain⟨⟨t1,t2,t3,t4⟩,u⟩:∃v,v=wC x:=⟨_,rfl⟩
 rw[←B,←u];have eQ:mkRat z 2=hQ z:=rfl;have h:aa (bh prog) (fun _=>[]) (aS prog) (ag (fA x)) 1 8 [.agg [.slice 0 0 n none,.slice 1 0 k none],.agg C,.str [110]] [.qK,.qK]=some ⟨.agg ((gu [110] (t1,t2,t3,t4) (zQ (n1,n2,n3))).cells .qF .qF .qF .qF),none,[]⟩:=by simp (maxSteps:=1000000) [aa,ahM,f8,ag,fA,iE,D,Q,O,M,tk,t5,w4,w5,←B,←u,-aH,ak m,be,aV,aX,o,Nat.testBit,bN,aF,F,H,tA,zA,zQ,zS,gu,Evc.cells]
 have:=(ar aj (aK _) (jY y) (aR _) h).1;simpa [y9.mem] using this
end Go.Proofs
