/- See G38. -/
import Derived.Test.YthpgbelancmpjaaGreatDoorG28
set_option linter.all false
set_option maxRecDepth 100000
set_option maxHeartbeats 40000000
namespace Go.Proofs
open Go.Eng
open Tryz
def km(s:afv)(c:Evc):Prop:=∀(M:Mem) (p t:Nat) (o X :Bool) (Z:List AV),M[p]? =some (.cells o 2 (pC s.P))->M[t]? =some (.cells X 3 (tC s.T))->agc M Z c->kO prog 25 [.agg [.slice p 0 s.P.length none,.slice t 0 s.T.length none],.agg Z] M (.int .i64 0) M
variable{x:Bool}
theorem Hm{j n:Nat}(h:x=false->n=0):qw x (sl8 j n)=sl8 j n:=by
 cases x
 .rw[h rfl];rfl
 .rfl
theorem lK{K:Int}{g H g2 g3 g4:FuncId}{I:Evc->Evc}{y:Bool}{s:afv}{c:Evc}(kp:agq K g H g2 g3 g4 I x y)(n1:46≠H/\71≠H/\44≠H/\26≠H/\g≠H)(ho:c.Ok)(hm:c.nm∈lf)(J:c.kd K=c)(Y:I c=c)(hx:x=false->c.B=[]/\c.U=[]/\c.S=[])(hy:y=false->c.K=[])(hC:∀(m:Mem)(ev:List AV),m[0]? =some (.cells false 2 (pC s.P))->m[1]? =some (.cells false 3 (tC s.T))->agc m ev c->kO prog H [shA s,.agg ev] m (.int .i64 0) m):km s c:=by
 intro M p t o O ev N L R;obtain⟨b,u,sv,kn,rfl,-⟩:=id R;refine QL ⟨o,N⟩ ⟨O,L⟩ ho R fun q2 q3 q4 q5 q6 q7 C2 C3 C4 C5 C6 C7 m V G X=>?_
 subst V;have F:qw x (sl8 2 c.B.length)=sl8 2 c.B.length:=Hm fun h=>by rw[(hx h).1];rfl
 have C:qw x (sl8 3 c.U.length)=sl8 3 c.U.length:=Hm fun h=>by rw[(hx h).2.1];rfl
 have j:qw x (sl8 5 c.S.length)=sl8 5 c.S.length:=Hm fun h=>by rw[(hx h).2.2];rfl
 have s4:qw y (sl8 4 c.K.length)=sl8 4 c.K.length:=Hm fun h=>by rw[hy h];rfl
 have h:=QI kp rfl G (pv:=.slice 0 0 s.P.length none) (tv:=.slice 1 0 s.T.length none) rfl rfl (c:=c) ⟨(zC 2 c.B.length).1,(zC 3 c.U.length).1,(zC 5 c.S.length).1,(zC 4 c.K.length).1⟩ ⟨(zC _ _).2,(zC _ _).2,(zC _ _).2,(zC _ _).2⟩ ⟨⟨rfl,rfl⟩,k8 (by omega),k8 (by omega),k8 (by omega),k8 (by omega)⟩ (fun Z=>oG s _ 0 1 false false rfl rfl) hm (fun Z=>by
  rw[F,C,j,s4,J,Y];exact P0 ho (X.more Z) (X.more Z)) n1 (e:=0) fun Z=>by
  rw[J];exact hC _ _ rfl rfl (X.more Z)
 rw[J] at h;exact h
variable{v:V3}
theorem WI{n:Nat}(h:vDg n v)(h0:0<n)(h1:n<=40000):((aq v.1).length<=1000000000/\(aq v.2.1).length<=1000000000)/\(aq v.2.2).length<=1000000000:=⟨⟨jW h.1 h0 h1,jW h.2.1 h0 h1⟩,jW h.2.2 h0 h1⟩
def tY(v:V3):Prop:=v.1=0/\v.2.1=0/\v.2.2=0
theorem Uc(q:Rat):(aq q==[48])=decide (q=0):=by
 by_cases h:q=0
 .subst h;rfl
 .rw[decide_eq_false h]
  have:aq q≠[48]:=fun e=>h (Mg.1 e)
  simpa using this
theorem Dm(h:¬tY v):((aq v.1==[48]&&aq v.2.1==[48])&&aq v.2.2==[48])=false:=by
 rw[Uc,Uc,Uc];cases hb:(decide (v.1=0)&&decide (v.2.1=0))&&decide (v.2.2=0)
 .rfl
 .simp only[Es,GE] at hb
  exact absurd ⟨hb.1.1,hb.1.2,hb.2⟩ h
theorem yI(v n:V3)(H:vDg 200 v)(I:vDg 200 n)(hd:iK v n=0)(M:Mem):kO prog 237 [vA v,vA n] M (.int .i64 0) M:=by
 have C:aZ prog 237=some f237:=by kernel_rfl
 have U:=Wy H;obtain⟨v1,v2,v3⟩:=v;obtain⟨n1,n2,n3⟩:=n;obtain⟨⟨S,R⟩,O⟩:=WI H (by decide) (by decide);obtain⟨N,L,h3⟩:=H;obtain⟨K,G,F⟩:=I;simp only at N L h3 K G F U S R O;have k:∀{q:Rat},dg 200 200 q->(ai q.num.natAbs).length<=2999/\(ai q.den).length<=2999:=fun h=>by have:=h.lens (by decide) (by decide);omega
 obtain⟨B,u⟩:=k N;obtain⟨o,m⟩:=k L;obtain⟨j,Y⟩:=k h3;obtain⟨J,a8⟩:=k K;obtain⟨a9,Z⟩:=k G;obtain⟨X,V⟩:=k F;unfold iK at hd;simp only at hd;have z0:aq 0=[48]:=rfl;refine aA zf ?_ M;simp[ae,C,f237,ah,rJ,vA,aF,U,B,u,o,m,j,Y,J,a8,a9,Z,X,V,S,R,O,hd,z0]
theorem qM(n:V3)(o:Rat)(H:vDg 200 n)(I:dg 200 200 o)(hz:¬tY n)(M:Mem):kO prog 45 [.agg [.str (aq n.1),.str (aq n.2.1),.str (aq n.2.2),.str (aq o)]] M (.int .i64 0) M:=by
 have u:aZ prog 45=some f45:=by kernel_rfl
 have Z:=Dm hz;obtain⟨R,O,N⟩:=n;obtain⟨⟨V,U⟩,S⟩:=WI H (by decide) (by decide);have L:=jW I (by decide) (by decide);obtain⟨K,G,F⟩:=H;simp only at K G F V U S Z;have X:vo [aq R,aq O,aq N,aq o]=0:=by simp[vo,gB K,gB G,gB F,gB I]
 refine aA KR ?_ M;simp only;obtain⟨A,m⟩:=xE (aq R);obtain⟨B,j⟩:=xE (aq O);obtain⟨C,Y⟩:=xE (aq N);obtain⟨D,J⟩:=xE (aq o);rw[<-m] at V X Z |-;rw[<-j] at U X Z |-;rw[<-Y] at S X Z |-;rw[<-J] at L X |-;simp[ae,u,f45,KQ,y9.or,ah,rJ,kH,tV,xg,X,Z,V,U,S,L]
def ie(nm:List UInt8)(n:V3)(o:Rat)(v:V3):Evc:={ k:=2,nm:=nm,x5:=aq n.1,x6:=aq n.2.1,x7:=aq n.2.2,x8:=aq o,x9:=aq v.1,x10:=aq v.2.1,x11:=aq v.2.2 }
def eL(nm:List UInt8)(n:V3)(L:List P2)(v:V3):Evc:={ k:=3,nm:=nm,x12:=aq n.1,x13:=aq n.2.1,x14:=aq n.2.2,K:=kT L,x16:=aq v.1,x17:=aq v.2.1,x18:=aq v.2.2 }
def kL(nm:List UInt8)(n:V3)(o w:Rat)(u:List UInt8):Evc:={ k:=4,nm:=nm,x19:=aq n.1,x20:=aq n.2.1,x21:=aq n.2.2,x22:=aq o,x23:=aq w,x24:=u }
def rN(nm:List UInt8)(t:Int×Int×Int×Int)(c:V3):Evc:={ k:=5,nm:=nm,t1:=t.1,t2:=t.2.1,t3:=t.2.2.1,t4:=t.2.2.2,x29:=aq c.1,x30:=aq c.2.1,x31:=aq c.2.2 }
theorem DG(s:afv)(nm:List UInt8)(n:V3)(o:Rat)(v:V3)(I:nm∈lf)(H:vDg 200 n)(hz:¬tY n)(J:dg 200 200 o)(Y:vDg 200 v)(hd:iK v n=0):km s (ie nm n o v):=by
 refine lK gO.2.1 (by decide) (AJ rfl rfl rfl (by simp[ie])) I rfl rfl (fun _=>⟨rfl,rfl,rfl⟩) (fun _=>rfl) fun m U _ _ h=>?_
 obtain rfl:=h.flat rfl rfl rfl rfl;have X:aZ prog 160=some f160:=by kernel_rfl
 have V:qS prog (ah (eR [(45,[.agg [.str (aq n.1),.str (aq n.2.1),.str (aq n.2.2),.str (aq o)]],.int .i64 0),(237,[vA v,vA n],.int .i64 0)])):=gi fun e Z M=>by
  simp only[lM] at Z;rcases Z with rfl | rfl
  .exact qM n o H J hz M
  .exact yI v n Y H hd M
 have h:ae (aX prog) (fun _=>[]) (aZ prog) (ah (eR [(45,[.agg [.str (aq n.1),.str (aq n.2.1),.str (aq n.2.2),.str (aq o)]],.int .i64 0),(237,[vA v,vA n],.int .i64 0)])) 1 160 [shA s,.agg ((ie nm n o v).cells .qF .qF .qF .qF)] m=some ⟨.int .i64 0,none,[]⟩:=by simp[ae,X,f160,ah,eR,ie,Evc.cells,vA,shA]
 have:=(aB aj (aI _) V (aQ _) h).1;simpa [afl.mem] using this
theorem Yo{q:Rat}(h:0<q):0<q.num:=by
 have Z:0<=q.num:=(Rat.num_nonneg (q:=q)).2 (Rat.le_of_lt h);have X:q.num≠0:=fun e=>by rw[mO.1 e] at h;exact absurd h (by decide)
 omega
theorem FT(s:afv)(nm:List UInt8)(n:V3)(o w:Rat)(H :List UInt8)(J:nm∈lf)(Y:vDg 200 n)(hz:¬tY n)(ho:dg 200 200 o)(I:dg 200 200 w)(hp:0<w)(hu:H ∈lf):km s (kL nm n o w H):=by
 refine lK gO.2.2.2.1 (by decide) (AJ rfl rfl rfl (by simp[kL])) J rfl rfl (fun _=>⟨rfl,rfl,rfl⟩) (fun _=>rfl) fun m S _ _ h=>?_
 obtain rfl:=h.flat rfl rfl rfl rfl;have X:aZ prog 169=some f169:=by kernel_rfl
 have V:qS prog (ah (eR [(45,[.agg [.str (aq n.1),.str (aq n.2.1),.str (aq n.2.2),.str (aq o)]],.int .i64 0),(86,[.str (aq w)],.int .i64 0),(178,[.str (aq w)],.int .i64 1),(71,[.str H],.int .i64 0)])):=gi fun e Z M=>by
  simp only[lM] at Z;rcases Z with rfl | rfl | rfl | rfl
  .exact qM n o Y ho hz M
  .have:=qB (aq w) (jW I (by decide) (by decide)) M
   rw[gB I] at this;exact this
  .have:=Bh w M
   have R:0<w.num:=Yo hp;have U:¬w.num<0:=by omega
   have h3:¬w.num=0:=by omega
   rw[show ga w=1 by simp[ga,jz,U,h3]] at this;exact this
  .exact ib H hu M
 have h:ae (aX prog) (fun _=>[]) (aZ prog) (ah (eR [(45,[.agg [.str (aq n.1),.str (aq n.2.1),.str (aq n.2.2),.str (aq o)]],.int .i64 0),(86,[.str (aq w)],.int .i64 0),(178,[.str (aq w)],.int .i64 1),(71,[.str H],.int .i64 0)])) 1 169 [shA s,.agg ((kL nm n o w H).cells .qF .qF .qF .qF)] m=some ⟨.int .i64 0,none,[]⟩:=by simp[ae,X,f169,ah,eR,kL,Evc.cells,shA]
 have:=(aB aj (aI _) V (aQ _) h).1;simpa [afl.mem] using this
theorem FV(s:afv)(nm:List UInt8)(t:Int×Int×Int×Int)(c:V3)(H:nm∈lf)(I:∀M,kO prog 69 [.agg [.int .i64 t.1,.int .i64 t.2.1,.int .i64 t.2.2.1,.int .i64 t.2.2.2]] M (.int .i64 0) M)(hc:vDg 200 c):km s (rN nm t c):=by
 refine lK gO.2.2.2.2 (by decide) (AJ rfl rfl rfl (by simp[rN])) H rfl rfl (fun _=>⟨rfl,rfl,rfl⟩) (fun _=>rfl) fun m U _ _ h=>?_
 obtain rfl:=h.flat rfl rfl rfl rfl;have X:aZ prog 174=some f174:=by kernel_rfl
 have V:qS prog (ah (eR [(69,[.agg [.int .i64 t.1,.int .i64 t.2.1,.int .i64 t.2.2.1,.int .i64 t.2.2.2]],.int .i64 0),(70,[vA c],.int .i64 0)])):=gi fun e Z M=>by
  simp only[lM] at Z;rcases Z with rfl | rfl
  .exact I M
  .exact vP c hc M
 have h:ae (aX prog) (fun _=>[]) (aZ prog) (ah (eR [(69,[.agg [.int .i64 t.1,.int .i64 t.2.1,.int .i64 t.2.2.1,.int .i64 t.2.2.2]],.int .i64 0),(70,[vA c],.int .i64 0)])) 1 174 [shA s,.agg ((rN nm t c).cells .qF .qF .qF .qF)] m=some ⟨.int .i64 0,none,[]⟩:=by simp[ae,X,f174,ah,eR,rN,Evc.cells,vA,shA]
 have:=(aB aj (aI _) V (aQ _) h).1;simpa [afl.mem] using this
variable{L:List P2}
theorem Xb(h3:L.length<=3)(hd:∀q∈L,dg 200 200 q.1/\dg 200 200 q.2)(H:∀(i:Nat) a b,L[i]? =some a->L[i+1]? =some b->a.1<b.1):knE (kT L)=0:=by
 have p:∀q:Rat,eh (aq q)=some q:=aF
 have c:∀q∈L,zj (aq q.1)=0/\zj (aq q.2)=0:=fun q U=>⟨gB (hd q U).1,gB (hd q U).2⟩
 match L,h3 with
 | [],_=>rfl
 | [q0],_=>
  have Z:=c q0 (by simp);simp[knE,kT,ckE,Z,Fa]
 | [q0,q1],_=>
  have Z:=c q0 (by simp);have X:=c q1 (by simp);have V:=H 0 q0 q1 rfl rfl;simp[knE,kT,ckE,Z,X,p,Fa,V]
 | [q0,q1,q2],_=>
  have Z:=c q0 (by simp);have X:=c q1 (by simp);have S:=c q2 (by simp);have V:=H 0 q0 q1 rfl rfl;have R:=H 1 q1 q2 rfl rfl;simp[knE,kT,ckE,Z,X,S,p,Fa,V,R]
theorem Ik(h1:0<L.length)(h3:L.length<=3)(hd:∀q∈L,dg 200 200 q.1/\dg 200 200 q.2)(H:∀(i:Nat) a b,L[i]? =some a->L[i+1]? =some b->a.1<b.1)(M:Mem)(b:Nat)(o:Bool)(I:M[b]? =some (.cells o 2 (kC (kT L)))):
  kO prog 85 [.slice b 0 L.length none] M (.int .i64 0) M:=by
 have V:(kT L).length=L.length:=lV L;have h:=xt (kT L) (fun q Z=>by simp only[kT,QQm] at Z;obtain⟨r,X,rfl⟩:=Z;exact⟨jW (hd r X).1 (by decide) (by decide),jW (hd r X).2 (by decide) (by decide)⟩) (by omega)
 rw[V,Xb h3 hd H] at h;refine kO.ag3 (rest:=[]) (kR _) rfl rfl h ⟨b,o,_,rfl,I,P1⟩
theorem FU(s:afv)(nm:List UInt8)(n:V3)(L:List P2)(v:V3)(hm:nm∈lf)(J:vDg 200 n)(hz:¬tY n)(h1:0<L.length)(h3:L.length<=3)(hd:∀q∈L,dg 200 200 q.1/\dg 200 200 q.2)(H:∀(i:Nat) a b,L[i]? =some a->L[i+1]? =some b->a.1<b.1)(Y:vDg 200 v)(I:iK v n=0):km s (eL nm n L v):=by
 refine lK gO.2.2.1 (by decide) (AJ rfl rfl rfl (by show(kT L).length<=1000;rw[lV];omega)) hm rfl rfl (fun _=>⟨rfl,rfl,rfl⟩) (fun h=>by cases h) fun m ev _ _ h=>?_
 obtain⟨b,u,sv,kn,rfl,k1,k2,k3,k4⟩:=h;obtain rfl:=k1.af0 rfl;obtain rfl:=k2.af0 rfl;obtain rfl:=k3.af0 rfl;have e:(eL nm n L v).K.length=L.length:=lV L;rw[e] at k4;obtain⟨X,q,rfl,Z⟩:=k4.pos h1;have Zu :m[X]? =some (.cells q 2 (kC (kT L))):=Z;have FS:=gL Z;have j:aZ prog 164=some f164:=by kernel_rfl
 have V:qS prog (ah (eR [(70,[vA n],.int .i64 0),(237,[vA v,vA n],.int .i64 0)])):=gi fun e he M=>by
  simp only[lM] at he;rcases he with rfl | rfl
  .exact vP n J M
  .exact yI v n Y J I M
 have U:qS prog (jF 85 [.slice X 0 L.length none] (.int .i64 0) (fun M=>∃ext,M=m++ext)):=kx fun M hM=>by obtain⟨ext,rfl⟩:=hM;exact Ik h1 h3 hd H _ X q (gU Zu _)
 have hO:=qS.or' V U;have S:=Dm hz;clear V U Z Zu FS I Y hz J hd H;obtain⟨R,O,N⟩:=n;simp only at S;have h:ae (aX prog) (fun _=>[]) (aZ prog) (y9.or (ah (eR [(70,[vA (R,O,N)],.int .i64 0),(237,[vA v,vA (R,O,N)],.int .i64 0)])) (jF 85 [.slice X 0 L.length none] (.int .i64 0) (fun M=>∃ext,M=m++ext))) 1 164 [shA s,.agg ((eL nm (R,O,N) L v).cells .qF .qF .qF (.slice X 0 L.length none))] m=some ⟨.int .i64 0,none,[]⟩:=by
  obtain⟨A,G⟩:=xE (aq R);obtain⟨B,F⟩:=xE (aq O);obtain⟨C,o⟩:=xE (aq N);rw[<-G,<-F,<-o] at S;have Z2:(A==[48])=false\/((A==[48])=true/\(B==[48])=false)\/((A==[48])=true/\(B==[48])=true/\(C==[48])=false):=by cases H:(A==[48])<;>cases Z:(B==[48])<;>cases hc:(C==[48])<;>simp_all
  clear hO;rcases Z2 with H | ⟨H,Z⟩ | ⟨H,Z,hc⟩
  .simp[ae,j,f164,y9.or,ah,eR,jF,eL,Evc.cells,shA,vA,<-G,<-F,<-o,H]
  .simp[ae,j,f164,y9.or,ah,eR,jF,eL,Evc.cells,shA,vA,<-G,<-F,<-o,H,Z]
  .simp[ae,j,f164,y9.or,ah,eR,jF,eL,Evc.cells,shA,vA,<-G,<-F,<-o,H,Z,hc]
 have:=(aB aj (aI _) hO (aQ _) h).1;simpa [afl.mem] using this
theorem kd5(n:Nat):((n:Nat):Int).tmod 5=((n%5:Nat):Int):=rfl
theorem agD:aZ prog 9=some f9:=by kernel_rfl
theorem FM(x:adM)(H:x.Ok)(n k:Nat)(I:x.kind%5=1):
  kO prog 9 [.agg [.slice 0 0 n none,.slice 1 0 k none],.agg x.cells,.str [110]] [.qK,.qK] (.agg ((ie [110] (zQ (fW x)) (hQ (ir (x.n 6))) (hV (Aw x))).cells .qF .qF .qF .qF)) [.qK,.qK]:=by
 obtain⟨R,V⟩:∃R,aJ f9=R:=⟨_,rfl⟩
 have O:=cG V (ls:=[[0,1,0,4,12,31,63,127,0,383,895,2047,4095,8191],[0,1,0,7,15,31,63],[0,1,3,0,8,0,32,96,0,480,992,2040,4088,8184,16376,32767,65535,131071,262143],[0,1,0,4,12,31,63,127,0,256,768,1919,3967,0,8192,32767,65535,131071],[0,1,3,0,15,31,63,127]]) (by kernel_rfl);have J:fu [0,1,0,4,12,31,63,127,0,383,895,2047,4095,8191] 13=true:=by decide
 simp only[aJ,cB,f9,lA] at V;subst V;simp only[lB] at O;obtain⟨UV,-⟩:=O;have N:=adM.aft H;have r0:=fl x.closed;have M:=ig x.closed;have e0:=fun f=>aT (ρ:=f) x.closed
 have K:=adM.agb H;have Z:=adM.afy H (k:=6) (by decide);simp only[Nat.reduceAdd] at Z;have G:=cV K;have U:=cV Z;obtain⟨F,B⟩:=adM.af1 H (k:=6) (by decide);have u:=dx (x.n 6);have t5:=kd5 x.kind;rw[I] at t5;have S :∃C,x.cells=C:=⟨_,rfl⟩
 obtain⟨C,o⟩:=S;rw[o] at N r0 M e0 K Z G U |-;obtain⟨X,hX⟩:=xE (x.n 6);rw[<-hX] at Z U F B u |-;have tk:C.take 34=C:=B5 (by omega);obtain⟨z,m⟩:=xE (ir X);rw[<-m] at u |-;have g6:z.natAbs<100000000:=by omega
 obtain⟨⟨n1,n2,n3⟩,j⟩:∃v,v=fW x:=⟨_,rfl⟩
 obtain⟨⟨v1,v2,v3⟩,Y⟩:∃v,v=Aw x:=⟨_,rfl⟩
 rw[<-j,<-Y];have eQ:mkRat z 2=hQ z:=rfl;have h:ae (aX prog) (fun _=>[]) (aZ prog) (ah (fQ x)) 1 9 [.agg [.slice 0 0 n none,.slice 1 0 k none],.agg C,.str [110]] [.qK,.qK]=some ⟨.agg ((ie [110] (zQ (n1,n2,n3)) (hQ z) (hV (v1,v2,v3))).cells .qF .qF .qF .qF),none,[]⟩:=by simp (maxSteps:=1000000) [ae,agD,f9,ah,fQ,iQ,eJ,o,N,M,G,U,F,B,tk,t5,w1,w2,<-m,g6,eQ,<-j,<-Y,-aR,aC UV,bV,bK,bQ,J,Nat.testBit,cj,aH,zA,vA,zQ,hV,zS,ie,Evc.cells]
 have:=(aB aj (aI _) (ka H) (aQ _) h).1;simpa [afl.mem] using this
theorem FN(x:adM)(H:x.Ok)(n k:Nat)(hk:x.kind%5=3):
  kO prog 9 [.agg [.slice 0 0 n none,.slice 1 0 k none],.agg x.cells,.str [110]] [.qK,.qK] (.agg ((kL [110] (zQ (fW x)) (hQ (ir (x.n 6))) (hQ (ps9 (x.n 7))) [110,95,114,111,99,107]).cells .qF .qF .qF .qF)) [.qK,.qK]:=by
 obtain⟨N,U⟩:∃N,aJ f9=N:=⟨_,rfl⟩
 have M:=cG U (ls:=[[0,1,0,4,12,31,63,127,0,383,895,2047,4095,8191],[0,1,0,7,15,31,63],[0,1,3,0,8,0,32,96,0,480,992,2040,4088,8184,16376,32767,65535,131071,262143],[0,1,0,4,12,31,63,127,0,256,768,1919,3967,0,8192,32767,65535,131071],[0,1,3,0,15,31,63,127]]) (by kernel_rfl);have k0:fu [0,1,0,4,12,31,63,127,0,256,768,1919,3967,0,8192,32767,65535,131071] 17=true:=by decide
 simp only[aJ,cB,f9,lA] at U;subst U;simp only[lB] at M;obtain⟨-,-,-,UV,-⟩:=M;have K:=adM.aft H;have r0:=fl x.closed;have G:=ig x.closed;have e0:=fun f=>aT (ρ:=f) x.closed
 have F:=adM.agb H;have Z:=adM.afy H (k:=6) (by decide);have V:=adM.afy H (k:=7) (by decide);simp only[Nat.reduceAdd] at Z V;have S:=cV V;obtain⟨B,u⟩:=adM.af1 H (k:=7) (by decide);have o:=kV (x.n 7);have m:=cV F;have R:=cV Z;obtain⟨j,J⟩:=adM.af1 H (k:=6) (by decide);have I:=dx (x.n 6);have t5:=kd5 x.kind;rw[hk] at t5;have O :∃C,x.cells=C:=⟨_,rfl⟩
 obtain⟨C,hC⟩:=O;rw[hC] at K r0 G e0 F Z V m R S |-;obtain⟨X,hX⟩:=xE (x.n 6);rw[<-hX] at Z R j J I |-;obtain⟨Y,hY⟩:=xE (x.n 7);rw[<-hY] at V S B u o |-;obtain⟨y,hy⟩:=xE (ps9 Y);rw[<-hy] at o |-;have g7:y.natAbs<100000000:=by omega
 have eY:mkRat y 2=hQ y:=rfl;have tk:C.take 34=C:=B5 (by omega);obtain⟨z,hz⟩:=xE (ir X);rw[<-hz] at I |-;have g6:z.natAbs<100000000:=by omega
 obtain⟨⟨n1,n2,n3⟩,hn⟩:∃v,v=fW x:=⟨_,rfl⟩
 rw[<-hn];have eQ:mkRat z 2=hQ z:=rfl;have h:ae (aX prog) (fun _=>[]) (aZ prog) (ah (fQ x)) 1 9 [.agg [.slice 0 0 n none,.slice 1 0 k none],.agg C,.str [110]] [.qK,.qK]=some ⟨.agg ((kL [110] (zQ (n1,n2,n3)) (hQ z) (hQ y) [110,95,114,111,99,107]).cells .qF .qF .qF .qF),none,[]⟩:=by simp (maxSteps:=1000000) [ae,agD,f9,ah,fQ,iQ,eJ,hC,K,G,m,R,j,J,tk,t5,w3,w4,<-hz,g6,eQ,<-hn,S,B,u,<-hy,g7,eY,-aR,aC UV,bV,bK,bQ,k0,Nat.testBit,cj,aH,fM,zA,zQ,zS,kL,Evc.cells]
 have:=(aB aj (aI _) (ka H) (aQ _) h).1;simpa [afl.mem] using this
theorem FO(x:adM)(H:x.Ok)(n k:Nat)(I:x.kind%5=4):
  kO prog 9 [.agg [.slice 0 0 n none,.slice 1 0 k none],.agg x.cells,.str [110]] [.qK,.qK] (.agg ((rN [110] (Dk x) (zQ (fW x))).cells .qF .qF .qF .qF)) [.qK,.qK]:=by
 obtain⟨S,V⟩:∃S,aJ f9=S:=⟨_,rfl⟩
 have R:=cG V (ls:=[[0,1,0,4,12,31,63,127,0,383,895,2047,4095,8191],[0,1,0,7,15,31,63],[0,1,3,0,8,0,32,96,0,480,992,2040,4088,8184,16376,32767,65535,131071,262143],[0,1,0,4,12,31,63,127,0,256,768,1919,3967,0,8192,32767,65535,131071],[0,1,3,0,15,31,63,127]]) (by kernel_rfl);have j:fu [0,1,3,0,15,31,63,127] 7=true:=by decide
 simp only[aJ,cB,f9,lA] at V;subst V;simp only[lB] at R;obtain⟨-,-,-,-,Y⟩:=R;have O:=adM.aft H;have J:=fl x.closed;have N:=ig x.closed;have e0:=fun f=>aT (ρ:=f) x.closed
 have M:=adM.agb H;have Z:=adM.afy H (k:=6) (by decide);simp only[Nat.reduceAdd] at Z;have K:=cV M;have G:=cV Z;obtain⟨b6,c6⟩:=adM.af1 H (k:=6) (by decide);have F:=dx (x.n 6);have t5:=kd5 x.kind;rw[I] at t5;have B:=adM.ahg H;have cT:=nV x.T;have oT:=ig cT;have lT:(i8C x.T).length=4:=by rw[iD,H.tl]
 have U :∃C,x.cells=C:=⟨_,rfl⟩
 obtain⟨C,u⟩:=U;rw[u] at O J N e0 M Z K G B |-;obtain⟨X,hX⟩:=xE (x.n 6);rw[<-hX] at Z G b6 c6 F;have tk:C.take 34=C:=B5 (by omega);obtain⟨z,hz⟩:=xE (ir X);rw[<-hz] at F;have g6:z.natAbs<100000000:=by omega
 obtain⟨⟨n1,n2,n3⟩,o⟩:∃v,v=fW x:=⟨_,rfl⟩
 obtain⟨⟨t1,t2,t3,t4⟩,m⟩:∃v,v=Dk x:=⟨_,rfl⟩
 rw[<-o,<-m];have eQ:mkRat z 2=hQ z:=rfl;have h:ae (aX prog) (fun _=>[]) (aZ prog) (ah (fQ x)) 1 9 [.agg [.slice 0 0 n none,.slice 1 0 k none],.agg C,.str [110]] [.qK,.qK]=some ⟨.agg ((rN [110] (t1,t2,t3,t4) (zQ (n1,n2,n3))).cells .qF .qF .qF .qF),none,[]⟩:=by simp (maxSteps:=1000000) [ae,agD,f9,ah,fQ,iQ,u,O,N,K,tk,t5,w4,w5,<-o,<-m,-aR,aC Y,bV,bK,bQ,j,Nat.testBit,cj,aH,B,oT,tA,zA,zQ,zS,rN,Evc.cells]
 have:=(aB aj (aI _) (ka H) (aQ _) h).1;simpa [afl.mem] using this
def nC:Code->List Nat:=fun _=>[9,9,8]
theorem ahl:fu [0,1,0,7,15,31,63] 6=true:=by decide
theorem DC(x:adM)(H:x.Ok)(n k:Nat)(hk:x.kind%5=2)(hJ:ct3 (x.n 7)=1):
  kO prog 9 [.agg [.slice 0 0 n none,.slice 1 0 k none],.agg x.cells,.str [110]] [.qK,.qK] (.agg ((eL [110] (zQ (fW x)) (x.afM 1) (zQ (Aw x))).cells .qF .qF .qF (.slice 2 0 1 none))) ([.qK,.qK]++[.cells true 2 (kC (kT (x.afM 1)))]):=by
 obtain⟨os,Y⟩:∃os,aJ f9=os:=⟨_,rfl⟩
 have X':=cG Y (ls:=[[0,1,0,4,12,31,63,127,0,383,895,2047,4095,8191],[0,1,0,7,15,31,63],[0,1,3,0,8,0,32,96,0,480,992,2040,4088,8184,16376,32767,65535,131071,262143],[0,1,0,4,12,31,63,127,0,256,768,1919,3967,0,8192,32767,65535,131071],[0,1,3,0,15,31,63,127]]) (by kernel_rfl);simp only[aJ,cB,f9,lA] at Y;subst Y;simp only[lB] at X';obtain⟨-,J,ZV,-⟩:=X';have l0:=adM.aft H;have r0:=fl x.closed;have o0:=ig x.closed;have e0:=fun f=>aT (ρ:=f) x.closed
 have ik:=adM.agb H;have K:=adM.afy H (k:=0) (by decide);have G:=adM.afy H (k:=1) (by decide);have F:=adM.afy H (k:=2) (by decide);have B:=adM.afy H (k:=3) (by decide);have u:=adM.afy H (k:=4) (by decide);have o:=adM.afy H (k:=5) (by decide);have m:=adM.afy H (k:=6) (by decide);have j:=adM.afy H (k:=7) (by decide);simp only[Nat.reduceAdd] at K G F B u o m j;have jk:=cV ik;have j0:=cV K;obtain⟨b0,c0⟩:=adM.af1 H (k:=0) (by decide);have j1:=cV G;obtain⟨b1,c1⟩:=adM.af1 H (k:=1) (by decide);have j2:=cV F;obtain⟨b2,c2⟩:=adM.af1 H (k:=2) (by decide);have I:=cV B;obtain⟨b3,c3⟩:=adM.af1 H (k:=3) (by decide);have j4:=cV u;obtain⟨b4,c4⟩:=adM.af1 H (k:=4) (by decide);have j5:=cV o;obtain⟨b5,c5⟩:=adM.af1 H (k:=5) (by decide);have j6:=cV m;obtain⟨b6,c6⟩:=adM.af1 H (k:=6) (by decide);have j7:=cV j;obtain⟨b7,c7⟩:=adM.af1 H (k:=7) (by decide);have s6:=dx (x.n 6);have s7:=dx (x.n 7);have s0:=dx (x.n 0);have s1:=dx (x.n 1);have q3:=kV (x.n 3);have q4:=kV (x.n 4);have q5:=kV (x.n 5);have t5:=kd5 x.kind;rw[hk] at t5;obtain⟨w3,w4⟩:=ye (adM.af1 H (k:=7) (by decide));rw[hJ] at w4;have K0:x.afM 1=[((((ir (x.n 6)):Int):Rat),hQ (ir (x.n 7)))]:=rfl;rw[K0];clear K0;have hC' :∃C,x.cells=C:=⟨_,rfl⟩
 obtain⟨C,hC⟩:=hC';rw[hC] at l0 r0 o0 e0 ik jk K j0 G j1 F j2 B I u j4 o j5 m j6 j j7 |-;obtain⟨X0,hX0⟩:=xE (x.n 0);rw[<-hX0] at K j0 b0 c0 s0;obtain⟨X1,hX1⟩:=xE (x.n 1);rw[<-hX1] at G j1 b1 c1 s1;obtain⟨X2,hX2⟩:=xE (x.n 2);rw[<-hX2] at F j2 b2 c2;obtain⟨X3,hX3⟩:=xE (x.n 3);rw[<-hX3] at B I b3 c3 q3;obtain⟨X4,hX4⟩:=xE (x.n 4);rw[<-hX4] at u j4 b4 c4 q4;obtain⟨X5,hX5⟩:=xE (x.n 5);rw[<-hX5] at o j5 b5 c5 q5;obtain⟨X6,U⟩:=xE (x.n 6);rw[<-U] at m j6 b6 c6 s6;obtain⟨X7,S⟩:=xE (x.n 7);rw[<-S] at j j7 b7 c7 s7 w3 w4;rw[<-U,<-S];have tk:C.take 34=C:=B5 (by omega);have wX:IntKind.i64.wrap X7=X7:=k9 (by omega) (by omega);obtain⟨Z,X⟩:=xE (ir X6);rw[<-X] at s6;have g6:Z.natAbs<100000000:=by omega
 have eQ6:mkRat Z 2=hQ Z:=rfl;obtain⟨R,V⟩:=xE (ir X7);rw[<-V] at s7;have g7:R.natAbs<100000000:=by omega
 have eQ7:mkRat R 2=hQ R:=rfl;obtain⟨z0,hz0⟩:=xE (ir X0);rw[<-hz0] at s0;have g0:z0.natAbs<100000000:=by omega
 have eQ0:mkRat z0 2=hQ z0:=rfl;obtain⟨z1,hz1⟩:=xE (ir X1);rw[<-hz1] at s1;have g1:z1.natAbs<100000000:=by omega
 have eQ1:mkRat z1 2=hQ z1:=rfl;obtain⟨y3,O⟩:=xE (ps9 X3);rw[<-O] at q3;obtain⟨y4,hy4⟩:=xE (ps9 X4);rw[<-hy4] at q4;obtain⟨y5,hy5⟩:=xE (ps9 X5);rw[<-hy5] at q5;obtain⟨N,ha1⟩:=xE (Z+y3);obtain⟨M,ha2⟩:=xE (N+y4);obtain⟨a3,ha3⟩:=xE (M+y5);have wa1:IntKind.i64.wrap (Z+y3)=N:=by rw[af];exact ha1.symm
 have wa2:IntKind.i64.wrap (N+y4)=M:=by rw[af];exact ha2.symm
 have wa3:IntKind.i64.wrap (M+y5)=a3:=by rw[af];exact ha3.symm
 have ga1:N.natAbs<100000000:=by omega
 have ga2:M.natAbs<100000000:=by omega
 have m6:=iq Z;have m1:=iq N;have m2:=iq M;rw[<-X,<-V];obtain⟨⟨n1,n2,n3⟩,hn⟩:∃v,v=fW x:=⟨_,rfl⟩
 obtain⟨⟨v1,v2,v3⟩,hv⟩:∃v,v=Aw x:=⟨_,rfl⟩
 rw[<-hn,<-hv];have u0:IntKind.i64.wrap 0=0:=rfl;have u1:IntKind.i64.wrap 1=1:=rfl;have u2:IntKind.i64.wrap 2=2:=rfl;have u3:IntKind.i64.wrap 3=3:=rfl;have u4:IntKind.i64.wrap 4=4:=rfl;have u5:IntKind.i64.wrap 5=5:=rfl;have u7:IntKind.i64.wrap 7=7:=rfl;have u8:IntKind.i64.wrap 8=8:=rfl;have u9:IntKind.i64.wrap 9=9:=rfl;have h:ae (aX prog) nC (aZ prog) (ah (fQ x)) 5 9 [.agg [.slice 0 0 n none,.slice 1 0 k none],.agg C,.str [110]] [.qK,.qK]=some ⟨.agg ((eL [110] (zQ (n1,n2,n3)) [(((Z:Int):Rat),hQ R)] (zQ (v1,v2,v3))).cells .qF .qF .qF (.slice 2 0 1 none)),some [.qK,.qK],[.cells true 2 (kC (kT [(((Z:Int):Rat),hQ R)]))]⟩:=by simp (maxSteps:=3000000) [ae,agD,f9,nC,aM,fj,ah,fQ,iQ,eJ,hC,l0,r0,o0,e0,jk,tk,t5,wX,w3,w4,u1,u2,u3,u7,I,b3,c3,j6,b6,c6,j7,b7,c7,<-X,g6,<-V,g7,eQ7,<-O,wa1,m6,<-hn,<-hv,-aR,aC J,bW ZV,bV,bK,bQ,ahl,dq,gD,fT,dD,dR,jB,bef,qt,Nat.testBit,cj,aH,zA,zQ,zS,eL,Evc.cells,kC,kT,List.idxOf?_cons]
 have:=(aB aj (aI _) (ka H) (aQ _) h).1;simpa [afl.mem] using this
theorem DD(x:adM)(H:x.Ok)(n k:Nat)(hk:x.kind%5=2)(hJ:ct3 (x.n 7)=2):
  kO prog 9 [.agg [.slice 0 0 n none,.slice 1 0 k none],.agg x.cells,.str [110]] [.qK,.qK] (.agg ((eL [110] (zQ (fW x)) (x.afM 2) (zQ (Aw x))).cells .qF .qF .qF (.slice 2 0 2 none))) ([.qK,.qK]++[.cells true 2 (kC (kT (x.afM 2)))]):=by
 obtain⟨os,F'⟩:∃os,aJ f9=os:=⟨_,rfl⟩
 have X':=cG F' (ls:=[[0,1,0,4,12,31,63,127,0,383,895,2047,4095,8191],[0,1,0,7,15,31,63],[0,1,3,0,8,0,32,96,0,480,992,2040,4088,8184,16376,32767,65535,131071,262143],[0,1,0,4,12,31,63,127,0,256,768,1919,3967,0,8192,32767,65535,131071],[0,1,3,0,15,31,63,127]]) (by kernel_rfl);simp only[aJ,cB,f9,lA] at F';subst F';simp only[lB] at X';obtain⟨-,hb1,ZV,-⟩:=X';have l0:=adM.aft H;have r0:=fl x.closed;have o0:=ig x.closed;have e0:=fun f=>aT (ρ:=f) x.closed
 have ik:=adM.agb H;have m:=adM.afy H (k:=0) (by decide);have j:=adM.afy H (k:=1) (by decide);have Y:=adM.afy H (k:=2) (by decide);have J:=adM.afy H (k:=3) (by decide);have I:=adM.afy H (k:=4) (by decide);have i5:=adM.afy H (k:=5) (by decide);have i6:=adM.afy H (k:=6) (by decide);have i7:=adM.afy H (k:=7) (by decide);simp only[Nat.reduceAdd] at m j Y J I i5 i6 i7;have jk:=cV ik;have j0:=cV m;obtain⟨b0,c0⟩:=adM.af1 H (k:=0) (by decide);have j1:=cV j;obtain⟨b1,c1⟩:=adM.af1 H (k:=1) (by decide);have j2:=cV Y;obtain⟨b2,c2⟩:=adM.af1 H (k:=2) (by decide);have j3:=cV J;obtain⟨b3,c3⟩:=adM.af1 H (k:=3) (by decide);have j4:=cV I;obtain⟨b4,c4⟩:=adM.af1 H (k:=4) (by decide);have j5:=cV i5;obtain⟨b5,c5⟩:=adM.af1 H (k:=5) (by decide);have j6:=cV i6;obtain⟨b6,c6⟩:=adM.af1 H (k:=6) (by decide);have j7:=cV i7;obtain⟨b7,c7⟩:=adM.af1 H (k:=7) (by decide);have s6:=dx (x.n 6);have s7:=dx (x.n 7);have s0:=dx (x.n 0);have s1:=dx (x.n 1);have q3:=kV (x.n 3);have q4:=kV (x.n 4);have q5:=kV (x.n 5);have t5:=kd5 x.kind;rw[hk] at t5;obtain⟨w3,w4⟩:=ye (adM.af1 H (k:=7) (by decide));rw[hJ] at w4;have K0:x.afM 2=[((((ir (x.n 6)):Int):Rat),hQ (ir (x.n 7))),((((ir (x.n 6)+ps9 (x.n 3)):Int):Rat),hQ (ir (x.n 0)))]:=rfl;rw[K0];clear K0;have hC' :∃C,x.cells=C:=⟨_,rfl⟩
 obtain⟨C,hC⟩:=hC';rw[hC] at l0 r0 o0 e0 ik jk m j0 j j1 Y j2 J j3 I j4 i5 j5 i6 j6 i7 j7 |-;obtain⟨X0,O⟩:=xE (x.n 0);rw[<-O] at m j0 b0 c0 s0;obtain⟨X1,hX1⟩:=xE (x.n 1);rw[<-hX1] at j j1 b1 c1 s1;obtain⟨X2,hX2⟩:=xE (x.n 2);rw[<-hX2] at Y j2 b2 c2;obtain⟨X3,N⟩:=xE (x.n 3);rw[<-N] at J j3 b3 c3 q3;obtain⟨X4,hX4⟩:=xE (x.n 4);rw[<-hX4] at I j4 b4 c4 q4;obtain⟨X5,hX5⟩:=xE (x.n 5);rw[<-hX5] at i5 j5 b5 c5 q5;obtain⟨X6,M⟩:=xE (x.n 6);rw[<-M] at i6 j6 b6 c6 s6;obtain⟨X7,K⟩:=xE (x.n 7);rw[<-K] at i7 j7 b7 c7 s7 w3 w4;rw[<-M,<-K,<-O,<-N];have tk:C.take 34=C:=B5 (by omega);have wX:IntKind.i64.wrap X7=X7:=k9 (by omega) (by omega);obtain⟨Z,X⟩:=xE (ir X6);rw[<-X] at s6;have g6:Z.natAbs<100000000:=by omega
 have eQ6:mkRat Z 2=hQ Z:=rfl;obtain⟨G,V⟩:=xE (ir X7);rw[<-V] at s7;have g7:G.natAbs<100000000:=by omega
 have eQ7:mkRat G 2=hQ G:=rfl;obtain⟨F,U⟩:=xE (ir X0);rw[<-U] at s0;have g0:F.natAbs<100000000:=by omega
 have eQ0:mkRat F 2=hQ F:=rfl;obtain⟨z1,hz1⟩:=xE (ir X1);rw[<-hz1] at s1;have g1:z1.natAbs<100000000:=by omega
 have eQ1:mkRat z1 2=hQ z1:=rfl;obtain⟨y3,S⟩:=xE (ps9 X3);rw[<-S] at q3;obtain⟨y4,B⟩:=xE (ps9 X4);rw[<-B] at q4;obtain⟨y5,hy5⟩:=xE (ps9 X5);rw[<-hy5] at q5;obtain⟨R,u⟩:=xE (Z+y3);obtain⟨o,ha2⟩:=xE (R+y4);obtain⟨a3,ha3⟩:=xE (o+y5);have wa1:IntKind.i64.wrap (Z+y3)=R:=by rw[af];exact u.symm
 have wa2:IntKind.i64.wrap (R+y4)=o:=by rw[af];exact ha2.symm
 have wa3:IntKind.i64.wrap (o+y5)=a3:=by rw[af];exact ha3.symm
 have ga1:R.natAbs<100000000:=by omega
 have ga2:o.natAbs<100000000:=by omega
 have m6:=iq Z;have m1:=iq R;have m2:=iq o;rw[<-X,<-V,<-U,<-S,<-u];obtain⟨⟨n1,n2,n3⟩,hn⟩:∃v,v=fW x:=⟨_,rfl⟩
 obtain⟨⟨v1,v2,v3⟩,hv⟩:∃v,v=Aw x:=⟨_,rfl⟩
 rw[<-hn,<-hv];have u0:IntKind.i64.wrap 0=0:=rfl;have u1:IntKind.i64.wrap 1=1:=rfl;have u2:IntKind.i64.wrap 2=2:=rfl;have u3:IntKind.i64.wrap 3=3:=rfl;have u4:IntKind.i64.wrap 4=4:=rfl;have u5:IntKind.i64.wrap 5=5:=rfl;have u7:IntKind.i64.wrap 7=7:=rfl;have u8:IntKind.i64.wrap 8=8:=rfl;have u9:IntKind.i64.wrap 9=9:=rfl;have h:ae (aX prog) nC (aZ prog) (ah (fQ x)) 5 9 [.agg [.slice 0 0 n none,.slice 1 0 k none],.agg C,.str [110]] [.qK,.qK]=some ⟨.agg ((eL [110] (zQ (n1,n2,n3)) [(((Z:Int):Rat),hQ G),(((R:Int):Rat),hQ F)] (zQ (v1,v2,v3))).cells .qF .qF .qF (.slice 2 0 2 none)),some [.qK,.qK],[.cells true 2 (kC (kT [(((Z:Int):Rat),hQ G),(((R:Int):Rat),hQ F)]))]⟩:=by simp (maxSteps:=3000000) [ae,agD,f9,nC,aM,fj,ah,fQ,iQ,eJ,hC,l0,r0,o0,e0,jk,tk,t5,wX,w3,w4,u1,u2,u3,u4,u7,u8,j0,b0,c0,j3,b3,c3,j4,b4,c4,j6,b6,c6,j7,b7,c7,<-X,g6,<-V,g7,eQ7,<-U,g0,eQ0,<-S,<-B,wa1,wa2,ga1,m6,m1,<-hn,<-hv,-aR,aC hb1,bW ZV,bV,bK,bQ,ahl,dq,gD,fT,dD,dR,jB,bef,qt,Nat.testBit,cj,aH,zA,zQ,zS,eL,Evc.cells,kC,kT,List.idxOf?_cons]
 have:=(aB aj (aI _) (ka H) (aQ _) h).1;simpa [afl.mem] using this
theorem DE(x:adM)(H:x.Ok)(n k:Nat)(hk:x.kind%5=2)(hJ:ct3 (x.n 7)=3):
  kO prog 9 [.agg [.slice 0 0 n none,.slice 1 0 k none],.agg x.cells,.str [110]] [.qK,.qK] (.agg ((eL [110] (zQ (fW x)) (x.afM 3) (zQ (Aw x))).cells .qF .qF .qF (.slice 2 0 3 none))) ([.qK,.qK]++[.cells true 2 (kC (kT (x.afM 3)))]):=by
 obtain⟨os,F'⟩:∃os,aJ f9=os:=⟨_,rfl⟩
 have X':=cG F' (ls:=[[0,1,0,4,12,31,63,127,0,383,895,2047,4095,8191],[0,1,0,7,15,31,63],[0,1,3,0,8,0,32,96,0,480,992,2040,4088,8184,16376,32767,65535,131071,262143],[0,1,0,4,12,31,63,127,0,256,768,1919,3967,0,8192,32767,65535,131071],[0,1,3,0,15,31,63,127]]) (by kernel_rfl);simp only[aJ,cB,f9,lA] at F';subst F';simp only[lB] at X';obtain⟨-,hb1,ZV,-⟩:=X';have l0:=adM.aft H;have r0:=fl x.closed;have o0:=ig x.closed;have e0:=fun f=>aT (ρ:=f) x.closed
 have ik:=adM.agb H;have i0:=adM.afy H (k:=0) (by decide);have i1:=adM.afy H (k:=1) (by decide);have i2:=adM.afy H (k:=2) (by decide);have i3:=adM.afy H (k:=3) (by decide);have i4:=adM.afy H (k:=4) (by decide);have i5:=adM.afy H (k:=5) (by decide);have i6:=adM.afy H (k:=6) (by decide);have i7:=adM.afy H (k:=7) (by decide);simp only[Nat.reduceAdd] at i0 i1 i2 i3 i4 i5 i6 i7;have jk:=cV ik;have j0:=cV i0;obtain⟨b0,c0⟩:=adM.af1 H (k:=0) (by decide);have j1:=cV i1;obtain⟨b1,c1⟩:=adM.af1 H (k:=1) (by decide);have j2:=cV i2;obtain⟨b2,c2⟩:=adM.af1 H (k:=2) (by decide);have j3:=cV i3;obtain⟨b3,c3⟩:=adM.af1 H (k:=3) (by decide);have j4:=cV i4;obtain⟨b4,c4⟩:=adM.af1 H (k:=4) (by decide);have j5:=cV i5;obtain⟨b5,c5⟩:=adM.af1 H (k:=5) (by decide);have j6:=cV i6;obtain⟨b6,c6⟩:=adM.af1 H (k:=6) (by decide);have j7:=cV i7;obtain⟨b7,c7⟩:=adM.af1 H (k:=7) (by decide);have s6:=dx (x.n 6);have s7:=dx (x.n 7);have s0:=dx (x.n 0);have s1:=dx (x.n 1);have q3:=kV (x.n 3);have q4:=kV (x.n 4);have q5:=kV (x.n 5);have t5:=kd5 x.kind;rw[hk] at t5;obtain⟨w3,w4⟩:=ye (adM.af1 H (k:=7) (by decide));rw[hJ] at w4;have K0:x.afM 3=[((((ir (x.n 6)):Int):Rat),hQ (ir (x.n 7))),((((ir (x.n 6)+ps9 (x.n 3)):Int):Rat),hQ (ir (x.n 0))),((((ir (x.n 6)+ps9 (x.n 3)+ps9 (x.n 4)):Int):Rat),hQ (ir (x.n 1)))]:=rfl;rw[K0];clear K0;have hC' :∃C,x.cells=C:=⟨_,rfl⟩
 obtain⟨C,hC⟩:=hC';rw[hC] at l0 r0 o0 e0 ik jk i0 j0 i1 j1 i2 j2 i3 j3 i4 j4 i5 j5 i6 j6 i7 j7 |-;obtain⟨X0,K⟩:=xE (x.n 0);rw[<-K] at i0 j0 b0 c0 s0;obtain⟨X1,G⟩:=xE (x.n 1);rw[<-G] at i1 j1 b1 c1 s1;obtain⟨X2,hX2⟩:=xE (x.n 2);rw[<-hX2] at i2 j2 b2 c2;obtain⟨X3,F⟩:=xE (x.n 3);rw[<-F] at i3 j3 b3 c3 q3;obtain⟨X4,B⟩:=xE (x.n 4);rw[<-B] at i4 j4 b4 c4 q4;obtain⟨X5,hX5⟩:=xE (x.n 5);rw[<-hX5] at i5 j5 b5 c5 q5;obtain⟨X6,u⟩:=xE (x.n 6);rw[<-u] at i6 j6 b6 c6 s6;obtain⟨X7,o⟩:=xE (x.n 7);rw[<-o] at i7 j7 b7 c7 s7 w3 w4;rw[<-u,<-o,<-K,<-G,<-F,<-B];have tk:C.take 34=C:=B5 (by omega);have wX:IntKind.i64.wrap X7=X7:=k9 (by omega) (by omega);obtain⟨Z,X⟩:=xE (ir X6);rw[<-X] at s6;have g6:Z.natAbs<100000000:=by omega
 have eQ6:mkRat Z 2=hQ Z:=rfl;obtain⟨m,V⟩:=xE (ir X7);rw[<-V] at s7;have g7:m.natAbs<100000000:=by omega
 have eQ7:mkRat m 2=hQ m:=rfl;obtain⟨j,U⟩:=xE (ir X0);rw[<-U] at s0;have g0:j.natAbs<100000000:=by omega
 have eQ0:mkRat j 2=hQ j:=rfl;obtain⟨Y,S⟩:=xE (ir X1);rw[<-S] at s1;have g1:Y.natAbs<100000000:=by omega
 have eQ1:mkRat Y 2=hQ Y:=rfl;obtain⟨y3,R⟩:=xE (ps9 X3);rw[<-R] at q3;obtain⟨y4,O⟩:=xE (ps9 X4);rw[<-O] at q4;obtain⟨y5,J⟩:=xE (ps9 X5);rw[<-J] at q5;obtain⟨N,I⟩:=xE (Z+y3);obtain⟨M,ha2⟩:=xE (N+y4);obtain⟨a3,ha3⟩:=xE (M+y5);have wa1:IntKind.i64.wrap (Z+y3)=N:=by rw[af];exact I.symm
 have wa2:IntKind.i64.wrap (N+y4)=M:=by rw[af];exact ha2.symm
 have wa3:IntKind.i64.wrap (M+y5)=a3:=by rw[af];exact ha3.symm
 have ga1:N.natAbs<100000000:=by omega
 have ga2:M.natAbs<100000000:=by omega
 have m6:=iq Z;have m1:=iq N;have m2:=iq M;rw[<-X,<-V,<-U,<-S,<-R,<-O,<-I,<-ha2];obtain⟨⟨n1,n2,n3⟩,hn⟩:∃v,v=fW x:=⟨_,rfl⟩
 obtain⟨⟨v1,v2,v3⟩,hv⟩:∃v,v=Aw x:=⟨_,rfl⟩
 rw[<-hn,<-hv];have u0:IntKind.i64.wrap 0=0:=rfl;have u1:IntKind.i64.wrap 1=1:=rfl;have u2:IntKind.i64.wrap 2=2:=rfl;have u3:IntKind.i64.wrap 3=3:=rfl;have u4:IntKind.i64.wrap 4=4:=rfl;have u5:IntKind.i64.wrap 5=5:=rfl;have u7:IntKind.i64.wrap 7=7:=rfl;have u8:IntKind.i64.wrap 8=8:=rfl;have u9:IntKind.i64.wrap 9=9:=rfl;have h:ae (aX prog) nC (aZ prog) (ah (fQ x)) 5 9 [.agg [.slice 0 0 n none,.slice 1 0 k none],.agg C,.str [110]] [.qK,.qK]=some ⟨.agg ((eL [110] (zQ (n1,n2,n3)) [(((Z:Int):Rat),hQ m),(((N:Int):Rat),hQ j),(((M:Int):Rat),hQ Y)] (zQ (v1,v2,v3))).cells .qF .qF .qF (.slice 2 0 3 none)),some [.qK,.qK],[.cells true 2 (kC (kT [(((Z:Int):Rat),hQ m),(((N:Int):Rat),hQ j),(((M:Int):Rat),hQ Y)]))]⟩:=by simp (maxSteps:=3000000) [ae,agD,f9,nC,aM,fj,ah,fQ,iQ,eJ,hC,l0,r0,o0,e0,jk,tk,t5,wX,w3,w4,u1,u2,u3,u4,u5,u7,u8,u9,j0,b0,c0,j1,b1,c1,j3,b3,c3,j4,b4,c4,j5,b5,c5,j6,b6,c6,j7,b7,c7,<-X,g6,<-V,g7,eQ7,<-U,g0,eQ0,<-S,g1,eQ1,<-R,<-O,<-J,wa1,wa2,wa3,ga1,ga2,m6,m1,m2,<-hn,<-hv,-aR,aC hb1,bW ZV,bV,bK,bQ,ahl,dq,gD,fT,dD,dR,jB,bef,qt,Nat.testBit,cj,aH,zA,zQ,zS,eL,Evc.cells,kC,kT,List.idxOf?_cons]
 have:=(aB aj (aI _) (ka H) (aQ _) h).1;simpa [afl.mem] using this
def hS(Z:List Int):List (List UInt8):=(qH Z).map aq
theorem Pg(Z:List Int):stC (hS Z)=qC (qH Z):=(WC _).symm
theorem kP(Z:List Int):(hS Z).length=Z.length:=by simp[hS,qH]
def iW(x:adM)(n:Nat):Nat->List (List Int)
 |1=>[]
 |2=>[upL x.s0 (x.base.l n) n]
 |_=>[upL x.s0 (x.base.l n) n,upL x.s1 (upL x.s0 (x.base.l n) n) n]
def uX(x:adM)(n c:Nat):Evc:={ k:=1,nm:=[110],B:=hS (x.base.l n),U:=uNm c,S:=(iW x n c).map hS }
theorem MC{h:Hts}{L:List Int}{n i:Nat}{z y:Int}(hz:L[i]? =some z)(H:(upL h L n)[i]? =some y):z<=y:=by
 unfold upL at H;rw[QQJ] at H;by_cases Z:i<n
 .rw[List.getElem?_range Z] at H
  have e:L.getD i 0=z:=by rw[List.getD_eq_getElem?_getD,hz];rfl
  simp only[Option.map_some,Pi] at H;rw[e] at H;omega
 .rw[List.getElem?_eq_none (by simp;omega)] at H
  simp at H
theorem Iw(s:afv)(x:adM)(n c:Nat)(H:n=s.P.length)(h0:0<n)(I:n<=1000)(hc:c=1\/c=2\/c=3):km s (uX x n c):=by
 have lB:(x.base.l n).length=n:=x.base.afP n;have X:∀h L,(upL h L n).length=n:=fun h L=>fE h L n
 have C:∀z∈x.base.l n,z.natAbs<1000:=fun z Z=>by have:=kc x n z Z;omega
 have V:∀z∈upL x.s0 (x.base.l n) n,z.natAbs<1000:=fun z Z=>by have:=mr x n z Z;omega
 have o:∀z∈upL x.s1 (upL x.s0 (x.base.l n) n) n,z.natAbs<1000:=by intro z Z;unfold upL at Z;obtain⟨k,j,rfl⟩:=QQm.1 Z;have j:=List.mem_range.1 j;have G:=mr x n _ (mK (l:=upL x.s0 (x.base.l n) n) (k:=k) (by rw[fE];exact j));have:=x.s1.ag4 k;unfold upL at G;omega
 refine lK gO.1 (by decide) ⟨?_,?_,?_,?_,?_⟩ (by show [110]∈lf;decide) rfl rfl (fun h=>by cases h) (fun _=>rfl) fun m ev Y J h=>?_
 .show(hS _).length<=1000;rw[kP,lB];exact I
 .show(uNm c).length<=1000;rcases hc with rfl | rfl | rfl<;>decide
 .show((iW x n c).map hS).length<=2;rcases hc with rfl | rfl | rfl<;>simp[iW]
 .intro L U
  have U:L∈(iW x n c).map hS:=U;rcases hc with rfl | rfl | rfl<;>simp[iW] at U
  .subst U;rw[kP,X];exact I
  .rcases U with rfl | rfl<;>(rw[kP,X];exact I)
 .show 0<=1000;omega
 .obtain⟨b,u,sv,kn,rfl,G,h2,h3,h4⟩:=h
  obtain rfl:=h4.af0 rfl;have e1:(uX x n c).B.length=(x.base.l n).length:=kP _;rw[e1] at G;obtain⟨F,ob,rfl,hb⟩:=G.pos (by omega);have hB:m[F]? =some (.cells ob 1 (qC (qH (x.base.l n)))):=by rw[<-Pg];exact hb
  obtain⟨vs,lv,hv,hr⟩:=h3;rcases hc with rfl | rfl | rfl
  .obtain⟨S,ou,rfl,R⟩:=h2.pos (by show 0<1;omega)
   obtain rfl:=hv.af0 rfl;exact Hy s [110] _ (by decide) _ C (by omega) (by omega) m F S _ _ _ _ Y J hB R
  .obtain⟨S,ou,rfl,R⟩:=h2.pos (by show 0<2;omega)
   obtain⟨O,oc,rfl,hc⟩:=hv.pos (by show 0<1;omega)
   match vs,lv with
   | [v1],_=>
    have r1:=hr 0 v1 (hS (upL x.s0 (x.base.l n) n)) rfl rfl;rw[kP,X] at r1;obtain⟨N,o1,rfl,M⟩:=r1.pos h0;rw[Pg] at M;have hc:m[O]? =some (.cells oc 1 [.slice N 0 (x.base.l n).length none]):=by rw[lB];exact hc
    exact Hz s [110] _ _ (by decide) (by decide) (by decide) _ C (by omega) (by omega) _ V (by rw[X];exact H) (fun i z y Z K=>MC Z K) m F S O N _ _ _ _ _ _ Y J hB R hc M
  .obtain⟨S,ou,rfl,R⟩:=h2.pos (by show 0<3;omega)
   obtain⟨O,oc,rfl,hc⟩:=hv.pos (by show 0<2;omega)
   match vs,lv with
   | [v1,v2],_=>
    have r1:=hr 0 v1 (hS (upL x.s0 (x.base.l n) n)) rfl rfl;rw[kP,X] at r1;obtain⟨N,o1,rfl,M⟩:=r1.pos h0;rw[Pg] at M;have r2:=hr 1 v2 (hS (upL x.s1 (upL x.s0 (x.base.l n) n) n)) rfl rfl;rw[kP,X] at r2;obtain⟨b2,o2,rfl,g2⟩:=r2.pos h0;rw[Pg] at g2;have hc:m[O]? =some (.cells oc 1 [.slice N 0 (x.base.l n).length none,.slice b2 0 (x.base.l n).length none]):=by rw[lB];exact hc
    exact HA s [110] _ _ _ (by decide) (by decide) (by decide) (by decide) (by decide) (by decide) _ C (by omega) (by omega) _ _ V (by rw[X];exact H) (fun i z y Z K=>MC Z K) o (by rw[X];exact H) (fun i z y Z K=>MC Z K) m F S O N b2 _ _ _ _ _ _ _ Y J hB R hc M g2
theorem FL(x:adM)(H:x.Ok)(n k:Nat)(I:0<n)(J:n<=1000)(Y:x.kind%5=0):
  kO prog 9 [.agg [.slice 0 0 n none,.slice 1 0 k none],.agg x.cells,.str [110]] [.qK,.qK] (.agg ((uX x n (ctN x)).cells (.slice 2 0 n none) (.slice 3 0 (ctN x) none) (dqS 2 n (ctN x)) .qF)) ([.qK,.qK]++dqN 2 x n (ctN x)):=by
 have G:=adM.aft H;have m:=fl x.closed;have j:=ig x.closed;have e0:=fun f=>aT (ρ:=f) x.closed
 have F:=adM.agb H;have B:=cV F;have t5:=kd5 x.kind;rw[Y] at t5;have X:=fun M p t Z ht=>Na x H n k I J M p t Z ht
 have h3:=fR x;have u:(uX x n (ctN x)).cells (.slice 2 0 n none) (.slice 3 0 (ctN x) none) (dqS 2 n (ctN x)) .qF=G0 [110] (.slice 2 0 n none) (.slice 3 0 (ctN x) none) (dqS 2 n (ctN x)):=rfl;rw[u];clear u;obtain⟨c,o⟩:=xE (ctN x);rw[<-o] at X h3 |-;clear o;have hN:dqN 2 x n c=dqN 2 x n c:=rfl;obtain⟨A,V⟩:=xE (qC (qH (x.base.l n)));have Ar:∀n,AV.afE n A=[]:=fun n=>by rw[V,gv]
 have An:∀f,AV.afI f A=A:=fun f=>by rw[V,kW]
 obtain⟨R,U⟩:=xE (qC (qH (upL x.s0 (x.base.l n) n)));have Rr:∀n,AV.afE n R=[]:=fun n=>by rw[U,gv]
 have Rn:∀f,AV.afI f R=R:=fun f=>by rw[U,kW]
 obtain⟨S,hS⟩:=xE (qC (qH (upL x.s1 (upL x.s0 (x.base.l n) n) n)));have Sr:∀n,AV.afE n S=[]:=fun n=>by rw[hS,gv]
 have Sn:∀f,AV.afI f S=S:=fun f=>by rw[hS,kW]
 have O :∃C,x.cells=C:=⟨_,rfl⟩
 obtain⟨C,hC⟩:=O;rw[hC] at G m j e0 F B X |-;have tk:C.take 34=C:=B5 (by omega);have u1:IntKind.i64.wrap 1=1:=rfl;have u0:IntKind.i64.wrap 0=0:=rfl;obtain⟨L,N⟩:=xE (α:=List (FuncId×List AV×(Mem->Prop)×afl)) [(35,[.agg [.slice 0 0 n none,.slice 1 0 k none],.agg C,.str [110]],fun M=>M.length=6,⟨.agg [.slice 6 0 n none,.slice 7 0 c none,dqS 6 n c],none,dqN 6 x n c⟩)];have hO:qS prog (fD L):=pH fun z K M Z=>by rw[N] at K;simp only[lM] at K;subst K;have Z:M.length=6:=Z;have h:=X M 0 1 (by omega) (by omega);rw[Z] at h;exact au h
 have e1:∀M:Mem,M.length=6->fD L (.fn 35) [.agg [.slice 0 0 n none,.slice 1 0 k none],.agg C,.str [110]] M=some ⟨.agg [.slice 6 0 n none,.slice 7 0 c none,dqS 6 n c],none,dqN 6 x n c⟩:=fun M hM=>by rw[N];exact iz hM
 clear N X;have h:ae (aX prog) (fun _=>[]) (aZ prog) (fD L) 1 9 [.agg [.slice 0 0 n none,.slice 1 0 k none],.agg C,.str [110]] [.qK,.qK]=some ⟨.agg (G0 [110] (.slice 2 0 n none) (.slice 3 0 c none) (dqS 2 n c)),none,dqN 2 x n c⟩:=by
  rcases h3 with rfl | rfl | rfl<;>
   simp (maxSteps:=1000000) [ae,agD,f9,e1,G,B,tk,t5,u0,u1,cj,aH,dqS,dqN,<-V,<-U,<-hS,Ar,An,Rr,Rn,Sr,Sn,G0,uNm,nmE,stC,List.idxOf?_cons]
 have:=(aB aj (aI _) hO (aQ _) h).1;simpa [afl.mem] using this
section
variable {M:Mem}{pv tv:AV}{ev:List AV}{n mo lo kd:Int}{k0 k1 mf k3 k4:FuncId}
end
end Go.Proofs
namespace Go.Proofs
open Go.Eng
section
variable {pv tv b u sv kn:AV}{c:Evc}{x:Int}{M:Mem}{us:List (List UInt8)}{ub:Nat}{o:Bool}
end
end Go.Proofs
