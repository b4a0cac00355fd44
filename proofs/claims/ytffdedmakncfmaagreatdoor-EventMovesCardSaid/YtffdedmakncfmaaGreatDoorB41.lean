/- See B54. -/
import Derived.Test.YtffdedmakncfmaaGreatDoorB40
set_option linter.all false
set_option maxRecDepth 100000
set_option maxHeartbeats 40000000
namespace Go.Proofs
open Go.Eng
open Tryz
def kv(s:afh)(c:Evc):Prop:=∀(M:Mem) (p t:Nat) (o X :Bool) (Z:List AV),M[p]? =some (.cells o 2 (pC s.P))→M[t]? =some (.cells X 3 (tC s.T))→af7 M Z c→kO prog 83 [.agg [.slice p 0 s.P.length none,.slice t 0 s.T.length none],.agg Z] M (.int .i64 0) M
variable{n:Nat}{x:Bool}
theorem G0{j:Nat}(h:x=false→n=0):qg x (sl8 j n)=sl8 j n:=by
 cases x
 ·rw[h rfl];rfl
 ·rfl
theorem kN{K:Int}{g H g2 g3 g4:FuncId}{I:Evc→Evc}{y:Bool}{s:afh}{c:Evc}(kp:agh K g H g2 g3 g4 I x y)(n1:131≠H∧132≠H∧63≠H∧133≠H∧g≠H)(ho:c.Ok)(hm:c.nm∈ku)(hk:c.kd K=c)(J:I c=c)(W:x=false→c.B=[]∧c.U=[]∧c.S=[])(hy:y=false→c.K=[])(hC:∀(m:Mem)(Y:List AV),m[0]? =some (.cells false 2 (pC s.P))→m[1]? =some (.cells false 3 (tC s.T))→af7 m Y c→kO prog H [shA s,.agg Y] m (.int .i64 0) m):kv s c:=by
 intro M p t o Q Y O N R;obtain⟨b,u,j,kn,rfl,-⟩:=id R;refine Qa ⟨o,O⟩ ⟨Q,N⟩ ho R fun q2 q3 q4 q5 q6 q7 C2 C3 C4 C5 C6 C7 m X L V=>?_
 subst X;have G:qg x (sl8 2 c.B.length)=sl8 2 c.B.length:=G0 fun h=>by rw[(W h).1];rfl
 have F:qg x (sl8 3 c.U.length)=sl8 3 c.U.length:=G0 fun h=>by rw[(W h).2.1];rfl
 have D:qg x (sl8 5 c.S.length)=sl8 5 c.S.length:=G0 fun h=>by rw[(W h).2.2];rfl
 have C:qg y (sl8 4 c.K.length)=sl8 4 c.K.length:=G0 fun h=>by rw[hy h];rfl
 have h:=P7 kp rfl L (pv:=.slice 0 0 s.P.length none) (tv:=.slice 1 0 s.T.length none) rfl rfl (c:=c) ⟨(zc 2 c.B.length).1,(zc 3 c.U.length).1,(zc 5 c.S.length).1,(zc 4 c.K.length).1⟩ ⟨(zc _ _).2,(zc _ _).2,(zc _ _).2,(zc _ _).2⟩ ⟨⟨rfl,rfl⟩,kh (by omega),kh (by omega),kh (by omega),kh (by omega)⟩ (fun Z=>vm s _ 0 1 false false rfl rfl) hm (fun Z=>by
  rw[G,F,D,C,hk,J];exact Pz ho (V.more Z) (V.more Z)) n1 (e:=0) fun Z=>by
  rw[hk];exact hC _ _ rfl rfl (V.more Z)
 rw[hk] at h;exact h
variable{v:V3}
theorem VS(h:vDg n v)(h0:0<n)(h1:n≤40000):((aB v.1).length≤1000000000∧(aB v.2.1).length≤1000000000)∧(aB v.2.2).length≤1000000000:=⟨⟨lf h.1 h0 h1,lf h.2.1 h0 h1⟩,lf h.2.2 h0 h1⟩
def E9(v:V3):Prop:=v.1=0∧v.2.1=0∧v.2.2=0
theorem Tx(q:Rat):(aB q==[48])=decide (q=0):=by
 by_cases h:q=0
 ·subst h;rfl
 ·rw[decide_eq_false h]
  have:aB q≠[48]:=fun e=>h (LF.1 e)
  simpa using this
theorem L7(h:¬E9 v):((aB v.1==[48]&&aB v.2.1==[48])&&aB v.2.2==[48])=false:=by
 rw[Tx,Tx,Tx];cases hb:(decide (v.1=0)&&decide (v.2.1=0))&&decide (v.2.2=0)
 ·rfl
 ·simp only[Bool.and_eq_true,decide_eq_true_eq] at hb
  exact absurd ⟨hb.1.1,hb.1.2,hb.2⟩ h
theorem yA(v n:V3)(y:vDg 200 v)(H:vDg 200 n)(hd:gG v n=0)(M:Mem):kO prog 227 [vA v,vA n] M (.int .i64 0) M:=by
 have F:aT prog 227=some f227:=by kernel_rfl
 have U:=Ti y;obtain⟨I,v2,v3⟩:=v;obtain⟨n1,n2,n3⟩:=n;obtain⟨⟨S,R⟩,Q⟩:=VS y (by decide) (by decide);obtain⟨O,N,h3⟩:=y;obtain⟨L,K,G⟩:=H;simp only at O N h3 L K G U S R Q;have k:∀{q:Rat},dg 200 200 q→(ai q.num.natAbs).length≤2999∧(ai q.den).length≤2999:=fun h=>by have:=h.lens (by decide) (by decide);omega
 obtain⟨D,C⟩:=k O;obtain⟨B,u⟩:=k N;obtain⟨o,m⟩:=k h3;obtain⟨j,Y⟩:=k L;obtain⟨W,Z⟩:=k K;obtain⟨X,V⟩:=k G;unfold gG at hd;simp only at hd;have J:aB 0=[48]:=rfl;refine ao yJ ?_ M;simp[aa,F,f227,af,rf,vA,az,U,D,C,B,u,o,m,j,Y,W,Z,X,V,S,R,Q,hd,J]
theorem yB(n:V3)(o:Rat)(y:vDg 200 n)(H:dg 200 200 o)(hz:¬E9 n)(M:Mem):kO prog 226 [.agg [.str (aB n.1),.str (aB n.2.1),.str (aB n.2.2),.str (aB o)]] M (.int .i64 0) M:=by
 have F:aT prog 226=some f226:=by kernel_rfl
 have Z:=L7 hz;obtain⟨R,Q,O⟩:=n;obtain⟨⟨V,U⟩,S⟩:=VS y (by decide) (by decide);have N:=lf H (by decide) (by decide);obtain⟨L,K,G⟩:=y;simp only at L K G V U S Z;have X:yc [aB R,aB Q,aB O,aB o]=0:=by simp[yc,jx L,jx K,jx G,jx H]
 refine ao Kh ?_ M;simp only;obtain⟨A,u⟩:=xE (aB R);obtain⟨B,m⟩:=xE (aB Q);obtain⟨C,j⟩:=xE (aB O);obtain⟨D,Y⟩:=xE (aB o);rw[←u] at V X Z ⊢;rw[←m] at U X Z ⊢;rw[←j] at S X Z ⊢;rw[←Y] at N X ⊢;simp[aa,F,f226,Kg,ae3.or,af,rf,ie,pY,se,X,Z,V,U,S,N]
def cB(nm:List UInt8)(n:V3)(o:Rat)(v:V3):Evc:={ k:=2,nm:=nm,x5:=aB n.1,x6:=aB n.2.1,x7:=aB n.2.2,x8:=aB o,x9:=aB v.1,x10:=aB v.2.1,x11:=aB v.2.2 }
def dX(nm:List UInt8)(n:V3)(L:List P2)(v:V3):Evc:={ k:=3,nm:=nm,x12:=aB n.1,x13:=aB n.2.1,x14:=aB n.2.2,K:=kT L,x16:=aB v.1,x17:=aB v.2.1,x18:=aB v.2.2 }
def v8(nm:List UInt8)(n:V3)(o w:Rat)(u:List UInt8):Evc:={ k:=4,nm:=nm,x19:=aB n.1,x20:=aB n.2.1,x21:=aB n.2.2,x22:=aB o,x23:=aB w,x24:=u }
def gf(nm:List UInt8)(t:Int×Int×Int×Int)(c:V3):Evc:={ k:=5,nm:=nm,t1:=t.1,t2:=t.2.1,t3:=t.2.2.1,t4:=t.2.2.2,x29:=aB c.1,x30:=aB c.2.1,x31:=aB c.2.2 }
theorem Dy(s:afh)(nm:List UInt8)(n:V3)(o:Rat)(v:V3)(H:nm∈ku)(y:vDg 200 n)(hz:¬E9 n)(I:dg 200 200 o)(J:vDg 200 v)(hd:gG v n=0):kv s (cB nm n o v):=by
 refine kN mV.2.1 (by decide) (Aw rfl rfl rfl (by simp[cB])) H rfl rfl (fun _=>⟨rfl,rfl,rfl⟩) (fun _=>rfl) fun m U _ _ h=>?_
 obtain rfl:=h.flat rfl rfl rfl rfl;have X:aT prog 164=some f164:=by kernel_rfl
 have V:qS prog (af (cU [(226,[.agg [.str (aB n.1),.str (aB n.2.1),.str (aB n.2.2),.str (aB o)]],.int .i64 0),(227,[vA v,vA n],.int .i64 0)])):=dK fun e Z M=>by
  simp only[lM] at Z;rcases Z with rfl | rfl
  ·exact yB n o y I hz M
  ·exact yA v n J y hd M
 have h:aa (ba prog) (fun _=>[]) (aT prog) (af (cU [(226,[.agg [.str (aB n.1),.str (aB n.2.1),.str (aB n.2.2),.str (aB o)]],.int .i64 0),(227,[vA v,vA n],.int .i64 0)])) 1 164 [shA s,.agg ((cB nm n o v).cells .qF .qF .qF .qF)] m=some ⟨.int .i64 0,none,[]⟩:=by simp[aa,X,f164,af,cU,cB,Evc.cells,vA,shA]
 have:=(ar aj (aI _) V (aP _) h).1;simpa [y9.mem] using this
theorem W8{q:Rat}(h:0<q):0<q.num:=by
 have Z:0≤q.num:=(Rat.num_nonneg (q:=q)).2 (Rat.le_of_lt h);have X:q.num≠0:=fun e=>by rw[mu.1 e] at h;exact absurd h (by decide)
 omega
theorem FG(s:afh)(nm:List UInt8)(n:V3)(o w:Rat)(y :List UInt8)(I:nm∈ku)(J:vDg 200 n)(hz:¬E9 n)(W:dg 200 200 o)(H:dg 200 200 w)(Y:0<w)(hu:y ∈ku):kv s (v8 nm n o w y):=by
 refine kN mV.2.2.2.1 (by decide) (Aw rfl rfl rfl (by simp[v8])) I rfl rfl (fun _=>⟨rfl,rfl,rfl⟩) (fun _=>rfl) fun m S _ _ h=>?_
 obtain rfl:=h.flat rfl rfl rfl rfl;have X:aT prog 173=some f173:=by kernel_rfl
 have V:qS prog (af (cU [(226,[.agg [.str (aB n.1),.str (aB n.2.1),.str (aB n.2.2),.str (aB o)]],.int .i64 0),(61,[.str (aB w)],.int .i64 0),(228,[.str (aB w)],.int .i64 1),(132,[.str y],.int .i64 0)])):=dK fun e Z M=>by
  simp only[lM] at Z;rcases Z with rfl | rfl | rfl | rfl
  ·exact yB n o J W hz M
  ·have:=qj (aB w) (lf H (by decide) (by decide)) M
   rw[jx H] at this;exact this
  ·have:=A5 w M
   have R:0<w.num:=W8 Y;have U:¬w.num<0:=by omega
   have h3:¬w.num=0:=by omega
   rw[show nQ w=1 by simp[nQ,kg,U,h3]] at this;exact this
  ·exact gj y hu M
 have h:aa (ba prog) (fun _=>[]) (aT prog) (af (cU [(226,[.agg [.str (aB n.1),.str (aB n.2.1),.str (aB n.2.2),.str (aB o)]],.int .i64 0),(61,[.str (aB w)],.int .i64 0),(228,[.str (aB w)],.int .i64 1),(132,[.str y],.int .i64 0)])) 1 173 [shA s,.agg ((v8 nm n o w y).cells .qF .qF .qF .qF)] m=some ⟨.int .i64 0,none,[]⟩:=by simp[aa,X,f173,af,cU,v8,Evc.cells,shA]
 have:=(ar aj (aI _) V (aP _) h).1;simpa [y9.mem] using this
theorem FI(s:afh)(nm:List UInt8)(t:Int×Int×Int×Int)(c:V3)(y:nm∈ku)(H:∀M,kO prog 212 [.agg [.int .i64 t.1,.int .i64 t.2.1,.int .i64 t.2.2.1,.int .i64 t.2.2.2]] M (.int .i64 0) M)(hc:vDg 200 c):kv s (gf nm t c):=by
 refine kN mV.2.2.2.2 (by decide) (Aw rfl rfl rfl (by simp[gf])) y rfl rfl (fun _=>⟨rfl,rfl,rfl⟩) (fun _=>rfl) fun m U _ _ h=>?_
 obtain rfl:=h.flat rfl rfl rfl rfl;have X:aT prog 178=some f178:=by kernel_rfl
 have V:qS prog (af (cU [(212,[.agg [.int .i64 t.1,.int .i64 t.2.1,.int .i64 t.2.2.1,.int .i64 t.2.2.2]],.int .i64 0),(100,[vA c],.int .i64 0)])):=dK fun e Z M=>by
  simp only[lM] at Z;rcases Z with rfl | rfl
  ·exact H M
  ·exact vo c hc M
 have h:aa (ba prog) (fun _=>[]) (aT prog) (af (cU [(212,[.agg [.int .i64 t.1,.int .i64 t.2.1,.int .i64 t.2.2.1,.int .i64 t.2.2.2]],.int .i64 0),(100,[vA c],.int .i64 0)])) 1 178 [shA s,.agg ((gf nm t c).cells .qF .qF .qF .qF)] m=some ⟨.int .i64 0,none,[]⟩:=by simp[aa,X,f178,af,cU,gf,Evc.cells,vA,shA]
 have:=(ar aj (aI _) V (aP _) h).1;simpa [y9.mem] using this
variable{L:List P2}
theorem Wk(h3:L.length≤3)(hd:∀q∈L,dg 200 200 q.1∧dg 200 200 q.2)(y:∀(i:Nat) a b,L[i]? =some a→L[i+1]? =some b→a.1<b.1):knE (kT L)=0:=by
 have p:∀q:Rat,ef (aB q)=some q:=az
 have c:∀q∈L,Ay (aB q.1)=0∧Ay (aB q.2)=0:=fun q U=>⟨jx (hd q U).1,jx (hd q U).2⟩
 match L,h3 with
 | [],_=>rfl
 | [q0],_=>
  have Z:=c q0 (by simp);simp[knE,kT,ckE,Z,EZ]
 | [q0,q1],_=>
  have Z:=c q0 (by simp);have X:=c q1 (by simp);have V:=y 0 q0 q1 rfl rfl;simp[knE,kT,ckE,Z,X,p,EZ,V]
 | [q0,q1,q2],_=>
  have Z:=c q0 (by simp);have X:=c q1 (by simp);have S:=c q2 (by simp);have V:=y 0 q0 q1 rfl rfl;have R:=y 1 q1 q2 rfl rfl;simp[knE,kT,ckE,Z,X,S,p,EZ,V,R]
theorem HV(h1:0<L.length)(h3:L.length≤3)(hd:∀q∈L,dg 200 200 q.1∧dg 200 200 q.2)(y:∀(i:Nat) a b,L[i]? =some a→L[i+1]? =some b→a.1<b.1)(M:Mem)(b:Nat)(o:Bool)(H:M[b]? =some (.cells o 2 (kC (kT L)))):
  kO prog 64 [.slice b 0 L.length none] M (.int .i64 0) M:=by
 have V:(kT L).length=L.length:=eh L;have h:=w9 (kT L) (fun q Z=>by simp only[kT,List.mem_map] at Z;obtain⟨r,X,rfl⟩:=Z;exact⟨lf (hd r X).1 (by decide) (by decide),lf (hd r X).2 (by decide) (by decide)⟩) (by omega)
 rw[V,Wk h3 hd y] at h;refine kO.agz (rest:=[]) (jZ _) rfl rfl h ⟨b,o,_,rfl,H,List.take_length⟩
theorem FH(s:afh)(nm:List UInt8)(n:V3)(L:List P2)(v:V3)(hm:nm∈ku)(I:vDg 200 n)(hz:¬E9 n)(h1:0<L.length)(h3:L.length≤3)(hd:∀q∈L,dg 200 200 q.1∧dg 200 200 q.2)(y:∀(i:Nat) a b,L[i]? =some a→L[i+1]? =some b→a.1<b.1)(J:vDg 200 v)(H:gG v n=0):kv s (dX nm n L v):=by
 refine kN mV.2.2.1 (by decide) (Aw rfl rfl rfl (by show(kT L).length≤1000;rw[eh];omega)) hm rfl rfl (fun _=>⟨rfl,rfl,rfl⟩) (fun h=>by cases h) fun m ev _ _ h=>?_
 obtain⟨b,u,sv,kn,rfl,k1,k2,k3,D⟩:=h;obtain rfl:=k1.agb rfl;obtain rfl:=k2.agb rfl;obtain rfl:=k3.agb rfl;have e:(dX nm n L v).K.length=L.length:=eh L;rw[e] at D;obtain⟨X,q,rfl,Z⟩:=D.pos h1;have o :m[X]? =some (.cells q 2 (kC (kT L))):=Z;have B':=gL Z;have F:aT prog 168=some f168:=by kernel_rfl
 have V:qS prog (af (cU [(100,[vA n],.int .i64 0),(227,[vA v,vA n],.int .i64 0)])):=dK fun e j M=>by
  simp only[lM] at j;rcases j with rfl | rfl
  ·exact vo n I M
  ·exact yA v n J I H M
 have Y:qS prog (er 64 [.slice X 0 L.length none] (.int .i64 0) (fun M=>∃ext,M=m++ext)):=fI fun M hM=>by obtain⟨ext,rfl⟩:=hM;exact HV h1 h3 hd y _ X q (gU o _)
 have W:=qS.or' V Y;have U:=L7 hz;clear V Y Z o B' H J hz I hd y;obtain⟨S,R,Q⟩:=n;simp only at U;have h:aa (ba prog) (fun _=>[]) (aT prog) (ae3.or (af (cU [(100,[vA (S,R,Q)],.int .i64 0),(227,[vA v,vA (S,R,Q)],.int .i64 0)])) (er 64 [.slice X 0 L.length none] (.int .i64 0) (fun M=>∃ext,M=m++ext))) 1 168 [shA s,.agg ((dX nm (S,R,Q) L v).cells .qF .qF .qF (.slice X 0 L.length none))] m=some ⟨.int .i64 0,none,[]⟩:=by
  obtain⟨A,O⟩:=xE (aB S);obtain⟨B,N⟩:=xE (aB R);obtain⟨C,G⟩:=xE (aB Q);rw[←O,←N,←G] at U;have YF:(A==[48])=false∨((A==[48])=true∧(B==[48])=false)∨((A==[48])=true∧(B==[48])=true∧(C==[48])=false):=by cases y:(A==[48])<;>cases Z:(B==[48])<;>cases hc:(C==[48])<;>simp_all
  clear W;rcases YF with y | ⟨y,Z⟩ | ⟨y,Z,hc⟩
  ·simp[aa,F,f168,ae3.or,af,cU,er,dX,Evc.cells,shA,vA,←O,←N,←G,y]
  ·simp[aa,F,f168,ae3.or,af,cU,er,dX,Evc.cells,shA,vA,←O,←N,←G,y,Z]
  ·simp[aa,F,f168,ae3.or,af,cU,er,dX,Evc.cells,shA,vA,←O,←N,←G,y,Z,hc]
 have:=(ar aj (aI _) W (aP _) h).1;simpa [y9.mem] using this
theorem kd5(n:Nat):((n:Nat):Int).tmod 5=((n%5:Nat):Int):=rfl
theorem ag5:aT prog 8=some f8:=by kernel_rfl
theorem FA(x:ae4)(y:x.Ok)(n k:Nat)(hk:x.kind%5=1):
  kO prog 8 [.agg [.slice 0 0 n none,.slice 1 0 k none],.agg x.cells,.str [110]] [.qK,.qK] (.agg ((cB [110] (zQ (fz x)) (hQ (gZ (x.n 6))) (hV (Ae x))).cells .qF .qF .qF .qF)) [.qK,.qK]:=by
 obtain⟨R,V⟩:∃R,aJ f8=R:=⟨_,rfl⟩
 have Q:=cw V (ls:=[[0,1,0,4,12,31,63,127,0,383,895,2047,4095,8191],[0,1,0,7,15,31,63],[0,1,3,0,8,0,32,96,0,480,992,2040,4088,8184,16376,32767,65535,131071,262143],[0,1,0,4,12,31,63,127,0,256,768,1919,3967,0,8192,32767,65535,131071],[0,1,3,0,15,31,63,127]]) (by kernel_rfl);have j:dS [0,1,0,4,12,31,63,127,0,383,895,2047,4095,8191] 13=true:=by decide
 simp only[aJ,bU,f8,lA] at V;subst V;simp only[lB] at Q;obtain⟨Y,-⟩:=Q;have O:=ae4.afc y;have W:=cp x.closed;have N:=dc x.closed;have J:=fun f=>aM (ρ:=f) x.closed
 have M:=ae4.afU y;have Z:=ae4.aff y (k:=6) (by decide);simp only[Nat.reduceAdd] at Z;have K:=cE M;have U:=cE Z;obtain⟨G,F⟩:=ae4.afK y (k:=6) (by decide);have D:=dq (x.n 6);have t5:=kd5 x.kind;rw[hk] at t5;have S :∃C,x.cells=C:=⟨_,rfl⟩
 obtain⟨C,B⟩:=S;rw[B] at O W N J M Z K U ⊢;obtain⟨X,I⟩:=xE (x.n 6);rw[←I] at Z U G F D ⊢;have H:C.take 34=C:=List.take_of_length_le (by omega);obtain⟨z,u⟩:=xE (gZ X);rw[←u] at D ⊢;have g6:z.natAbs<100000000:=by omega
 obtain⟨⟨n1,n2,n3⟩,o⟩:∃v,v=fz x:=⟨_,rfl⟩
 obtain⟨⟨v1,v2,v3⟩,m⟩:∃v,v=Ae x:=⟨_,rfl⟩
 rw[←o,←m];have eQ:mkRat z 2=hQ z:=rfl;have h:aa (ba prog) (fun _=>[]) (aT prog) (af (fa x)) 1 8 [.agg [.slice 0 0 n none,.slice 1 0 k none],.agg C,.str [110]] [.qK,.qK]=some ⟨.agg ((cB [110] (zQ (n1,n2,n3)) (hQ z) (hV (v1,v2,v3))).cells .qF .qF .qF .qF),none,[]⟩:=by simp (maxSteps:=1000000) [aa,ag5,f8,af,fa,ic,dV,B,O,N,K,U,G,F,H,t5,w1,w2,←u,g6,eQ,←o,←m,-aK,aq Y,bm,aZ,bl,j,Nat.testBit,bW,aH,zA,vA,zQ,hV,zS,cB,Evc.cells]
 have:=(ar aj (aI _) (jw y) (aP _) h).1;simpa [y9.mem] using this
theorem FB(x:ae4)(H:x.Ok)(n k:Nat)(hk:x.kind%5=3):
  kO prog 8 [.agg [.slice 0 0 n none,.slice 1 0 k none],.agg x.cells,.str [110]] [.qK,.qK] (.agg ((v8 [110] (zQ (fz x)) (hQ (gZ (x.n 6))) (hQ (ps9 (x.n 7))) [110,95,114,111,99,107]).cells .qF .qF .qF .qF)) [.qK,.qK]:=by
 obtain⟨O,U⟩:∃O,aJ f8=O:=⟨_,rfl⟩
 have N:=cw U (ls:=[[0,1,0,4,12,31,63,127,0,383,895,2047,4095,8191],[0,1,0,7,15,31,63],[0,1,3,0,8,0,32,96,0,480,992,2040,4088,8184,16376,32767,65535,131071,262143],[0,1,0,4,12,31,63,127,0,256,768,1919,3967,0,8192,32767,65535,131071],[0,1,3,0,15,31,63,127]]) (by kernel_rfl);have k0:dS [0,1,0,4,12,31,63,127,0,256,768,1919,3967,0,8192,32767,65535,131071] 17=true:=by decide
 simp only[aJ,bU,f8,lA] at U;subst U;simp only[lB] at N;obtain⟨-,-,-,H',-⟩:=N;have M:=ae4.afc H;have r0:=cp x.closed;have K:=dc x.closed;have e0:=fun f=>aM (ρ:=f) x.closed
 have G:=ae4.afU H;have Z:=ae4.aff H (k:=6) (by decide);have V:=ae4.aff H (k:=7) (by decide);simp only[Nat.reduceAdd] at Z V;have S:=cE V;obtain⟨F,D⟩:=ae4.afK H (k:=7) (by decide);have B:=nM (x.n 7);have u:=cE G;have R:=cE Z;obtain⟨o,m⟩:=ae4.afK H (k:=6) (by decide);have j:=dq (x.n 6);have t5:=kd5 x.kind;rw[hk] at t5;have Q :∃C,x.cells=C:=⟨_,rfl⟩
 obtain⟨C,W⟩:=Q;rw[W] at M r0 K e0 G Z V u R S ⊢;obtain⟨X,hX⟩:=xE (x.n 6);rw[←hX] at Z R o m j ⊢;obtain⟨Y,hY⟩:=xE (x.n 7);rw[←hY] at V S F D B ⊢;obtain⟨y,J⟩:=xE (ps9 Y);rw[←J] at B ⊢;have g7:y.natAbs<100000000:=by omega
 have eY:mkRat y 2=hQ y:=rfl;have tk:C.take 34=C:=List.take_of_length_le (by omega);obtain⟨z,I⟩:=xE (gZ X);rw[←I] at j ⊢;have g6:z.natAbs<100000000:=by omega
 obtain⟨⟨n1,n2,n3⟩,hn⟩:∃v,v=fz x:=⟨_,rfl⟩
 rw[←hn];have eQ:mkRat z 2=hQ z:=rfl;have h:aa (ba prog) (fun _=>[]) (aT prog) (af (fa x)) 1 8 [.agg [.slice 0 0 n none,.slice 1 0 k none],.agg C,.str [110]] [.qK,.qK]=some ⟨.agg ((v8 [110] (zQ (n1,n2,n3)) (hQ z) (hQ y) [110,95,114,111,99,107]).cells .qF .qF .qF .qF),none,[]⟩:=by simp (maxSteps:=1000000) [aa,ag5,f8,af,fa,ic,dV,W,M,K,u,R,o,m,tk,t5,w3,w4,←I,g6,eQ,←hn,S,F,D,←J,g7,eY,-aK,aq H',bm,aZ,bl,k0,Nat.testBit,bW,aH,eR,zA,zQ,zS,v8,Evc.cells]
 have:=(ar aj (aI _) (jw H) (aP _) h).1;simpa [y9.mem] using this
theorem FC(x:ae4)(y:x.Ok)(n k:Nat)(hk:x.kind%5=4):
  kO prog 8 [.agg [.slice 0 0 n none,.slice 1 0 k none],.agg x.cells,.str [110]] [.qK,.qK] (.agg ((gf [110] (sX x) (zQ (fz x))).cells .qF .qF .qF .qF)) [.qK,.qK]:=by
 obtain⟨S,V⟩:∃S,aJ f8=S:=⟨_,rfl⟩
 have R:=cw V (ls:=[[0,1,0,4,12,31,63,127,0,383,895,2047,4095,8191],[0,1,0,7,15,31,63],[0,1,3,0,8,0,32,96,0,480,992,2040,4088,8184,16376,32767,65535,131071,262143],[0,1,0,4,12,31,63,127,0,256,768,1919,3967,0,8192,32767,65535,131071],[0,1,3,0,15,31,63,127]]) (by kernel_rfl);have o:dS [0,1,3,0,15,31,63,127] 7=true:=by decide
 simp only[aJ,bU,f8,lA] at V;subst V;simp only[lB] at R;obtain⟨-,-,-,-,m⟩:=R;have Q:=ae4.afc y;have j:=cp x.closed;have O:=dc x.closed;have Y:=fun f=>aM (ρ:=f) x.closed
 have N:=ae4.afU y;have Z:=ae4.aff y (k:=6) (by decide);simp only[Nat.reduceAdd] at Z;have M:=cE N;have K:=cE Z;obtain⟨W,J⟩:=ae4.afK y (k:=6) (by decide);have G:=dq (x.n 6);have t5:=kd5 x.kind;rw[hk] at t5;have F:=ae4.ag1 y;have I:=np x.T;have H:=dc I;have lT:(i8C x.T).length=4:=by rw[gP,y.tl]
 have U :∃C,x.cells=C:=⟨_,rfl⟩
 obtain⟨C,D⟩:=U;rw[D] at Q j O Y N Z M K F ⊢;obtain⟨X,hX⟩:=xE (x.n 6);rw[←hX] at Z K W J G;have tk:C.take 34=C:=List.take_of_length_le (by omega);obtain⟨z,hz⟩:=xE (gZ X);rw[←hz] at G;have g6:z.natAbs<100000000:=by omega
 obtain⟨⟨n1,n2,n3⟩,B⟩:∃v,v=fz x:=⟨_,rfl⟩
 obtain⟨⟨t1,t2,t3,t4⟩,u⟩:∃v,v=sX x:=⟨_,rfl⟩
 rw[←B,←u];have eQ:mkRat z 2=hQ z:=rfl;have h:aa (ba prog) (fun _=>[]) (aT prog) (af (fa x)) 1 8 [.agg [.slice 0 0 n none,.slice 1 0 k none],.agg C,.str [110]] [.qK,.qK]=some ⟨.agg ((gf [110] (t1,t2,t3,t4) (zQ (n1,n2,n3))).cells .qF .qF .qF .qF),none,[]⟩:=by simp (maxSteps:=1000000) [aa,ag5,f8,af,fa,ic,D,Q,O,M,tk,t5,w4,w5,←B,←u,-aK,aq m,bm,aZ,bl,o,Nat.testBit,bW,aH,F,H,tA,zA,zQ,zS,gf,Evc.cells]
 have:=(ar aj (aI _) (jw y) (aP _) h).1;simpa [y9.mem] using this
end Go.Proofs
