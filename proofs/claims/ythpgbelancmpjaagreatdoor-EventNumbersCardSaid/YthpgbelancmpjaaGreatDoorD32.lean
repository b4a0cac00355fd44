/- See D38. -/
import Derived.Test.YthpgbelancmpjaaGreatDoorD30
set_option linter.all false
set_option maxRecDepth 100000
set_option maxHeartbeats 40000000
namespace Go.Proofs
open Go.Eng
open Tryz
def lf(s:afq)(c:Evc):Prop:=∀(M:Mem) (p t:Nat) (o X :Bool) (Z:List AV),M[p]? =some (.cells o 2 (pC s.P))->M[t]? =some (.cells X 3 (tC s.T))->af8 M Z c->kO prog 25 [.agg [.slice p 0 s.P.length none,.slice t 0 s.T.length none],.agg Z] M (.int .i64 0) M
variable{x:Bool}
theorem G7{j n:Nat}(h:x=false->n=0):qv x (sl8 j n)=sl8 j n:=by
 cases x
 .rw[h rfl];rfl
 .rfl
theorem lO{K:Int}{g H g2 g3 g4:FuncId}{I:Evc->Evc}{y:Bool}{s:afq}{c:Evc}(kp:agm K g H g2 g3 g4 I x y)(n1:46≠H/\71≠H/\44≠H/\26≠H/\g≠H)(ho:c.Ok)(hm:c.nm∈k8)(J:c.kd K=c)(W:I c=c)(Y:x=false->c.B=[]/\c.U=[]/\c.S=[])(hy:y=false->c.K=[])(hC:∀(m:Mem)(ev:List AV),m[0]? =some (.cells false 2 (pC s.P))->m[1]? =some (.cells false 3 (tC s.T))->af8 m ev c->kO prog H [shA s,.agg ev] m (.int .i64 0) m):lf s c:=by
 intro M p t o O ev N L R;obtain⟨b,u,sv,kn,rfl,-⟩:=id R;refine Qx ⟨o,N⟩ ⟨O,L⟩ ho R fun q2 q3 q4 q5 q6 q7 C2 C3 C4 C5 C6 C7 m V G X=>?_
 subst V;have F:qv x (sl8 2 c.B.length)=sl8 2 c.B.length:=G7 fun h=>by rw[(Y h).1];rfl
 have D:qv x (sl8 3 c.U.length)=sl8 3 c.U.length:=G7 fun h=>by rw[(Y h).2.1];rfl
 have C:qv x (sl8 5 c.S.length)=sl8 5 c.S.length:=G7 fun h=>by rw[(Y h).2.2];rfl
 have j:qv y (sl8 4 c.K.length)=sl8 4 c.K.length:=G7 fun h=>by rw[hy h];rfl
 have h:=Qu kp rfl G (pv:=.slice 0 0 s.P.length none) (tv:=.slice 1 0 s.T.length none) rfl rfl (c:=c) ⟨(zh 2 c.B.length).1,(zh 3 c.U.length).1,(zh 5 c.S.length).1,(zh 4 c.K.length).1⟩ ⟨(zh _ _).2,(zh _ _).2,(zh _ _).2,(zh _ _).2⟩ ⟨⟨rfl,rfl⟩,kX (by omega),kX (by omega),kX (by omega),kX (by omega)⟩ (fun Z=>oI s _ 0 1 false false rfl rfl) hm (fun Z=>by
  rw[F,D,C,j,J,W];exact PO ho (X.more Z) (X.more Z)) n1 (e:=0) fun Z=>by
  rw[J];exact hC _ _ rfl rfl (X.more Z)
 rw[J] at h;exact h
variable{v:V3}
theorem Wy{n:Nat}(h:vDg n v)(h0:0<n)(h1:n<=40000):((ao v.1).length<=1000000000/\(ao v.2.1).length<=1000000000)/\(ao v.2.2).length<=1000000000:=⟨⟨jJ h.1 h0 h1,jJ h.2.1 h0 h1⟩,jJ h.2.2 h0 h1⟩
def E4(v:V3):Prop:=v.1=0/\v.2.1=0/\v.2.2=0
theorem TY(q:Rat):(ao q==[48])=decide (q=0):=by
 by_cases h:q=0
 .subst h;rfl
 .rw[decide_eq_false h]
  have:ao q≠[48]:=fun e=>h (LX.1 e)
  simpa using this
theorem Mt(h:¬E4 v):((ao v.1==[48]&&ao v.2.1==[48])&&ao v.2.2==[48])=false:=by
 rw[TY,TY,TY];cases hb:(decide (v.1=0)&&decide (v.2.1=0))&&decide (v.2.2=0)
 .rfl
 .simp only[C0,Es] at hb
  exact absurd ⟨hb.1.1,hb.1.2,hb.2⟩ h
theorem yr(v n:V3)(H:vDg 200 v)(I:vDg 200 n)(hd:gw v n=0)(M:Mem):kO prog 237 [vA v,vA n] M (.int .i64 0) M:=by
 have D:aX prog 237=some f237:=by kernel_rfl
 have U:=TG H;obtain⟨v1,v2,v3⟩:=v;obtain⟨n1,n2,n3⟩:=n;obtain⟨⟨S,R⟩,O⟩:=Wy H (by decide) (by decide);obtain⟨N,L,h3⟩:=H;obtain⟨K,G,F⟩:=I;simp only at N L h3 K G F U S R O;have k:∀{q:Rat},dg 200 200 q->(ai q.num.natAbs).length<=2999/\(ai q.den).length<=2999:=fun h=>by have:=h.lens (by decide) (by decide);omega
 obtain⟨C,B⟩:=k N;obtain⟨u,o⟩:=k L;obtain⟨m,j⟩:=k h3;obtain⟨Y,W⟩:=k K;obtain⟨J,Z⟩:=k G;obtain⟨X,V⟩:=k F;unfold gw at hd;simp only at hd;have z0:ao 0=[48]:=rfl;refine aA yO ?_ M;simp[aa,D,f237,ag,rG,vA,aB,U,C,B,u,o,m,j,Y,W,J,Z,X,V,S,R,O,hd,z0]
theorem yu(n:V3)(o:Rat)(H:vDg 200 n)(I:dg 200 200 o)(hz:¬E4 n)(M:Mem):kO prog 45 [.agg [.str (ao n.1),.str (ao n.2.1),.str (ao n.2.2),.str (ao o)]] M (.int .i64 0) M:=by
 have u:aX prog 45=some f45:=by kernel_rfl
 have Z:=Mt hz;obtain⟨R,O,N⟩:=n;obtain⟨⟨V,U⟩,S⟩:=Wy H (by decide) (by decide);have L:=jJ I (by decide) (by decide);obtain⟨K,G,F⟩:=H;simp only at K G F V U S Z;have X:tG [ao R,ao O,ao N,ao o]=0:=by simp[tG,im K,im G,im F,im I]
 refine aA KD ?_ M;simp only;obtain⟨A,m⟩:=xE (ao R);obtain⟨B,j⟩:=xE (ao O);obtain⟨C,Y⟩:=xE (ao N);obtain⟨D,W⟩:=xE (ao o);rw[<-m] at V X Z |-;rw[<-j] at U X Z |-;rw[<-Y] at S X Z |-;rw[<-W] at L X |-;simp[aa,u,f45,KC,y9.or,ag,rG,iV,qh,sB,X,Z,V,U,S,L]
def fY(nm:List UInt8)(n:V3)(o:Rat)(v:V3):Evc:={ k:=2,nm:=nm,x5:=ao n.1,x6:=ao n.2.1,x7:=ao n.2.2,x8:=ao o,x9:=ao v.1,x10:=ao v.2.1,x11:=ao v.2.2 }
def eV(nm:List UInt8)(n:V3)(L:List P2)(v:V3):Evc:={ k:=3,nm:=nm,x12:=ao n.1,x13:=ao n.2.1,x14:=ao n.2.2,K:=kT L,x16:=ao v.1,x17:=ao v.2.1,x18:=ao v.2.2 }
def jW(nm:List UInt8)(n:V3)(o w:Rat)(u:List UInt8):Evc:={ k:=4,nm:=nm,x19:=ao n.1,x20:=ao n.2.1,x21:=ao n.2.2,x22:=ao o,x23:=ao w,x24:=u }
def mJ(nm:List UInt8)(t:Int×Int×Int×Int)(c:V3):Evc:={ k:=5,nm:=nm,t1:=t.1,t2:=t.2.1,t3:=t.2.2.1,t4:=t.2.2.2,x29:=ao c.1,x30:=ao c.2.1,x31:=ao c.2.2 }
theorem Dt(s:afq)(nm:List UInt8)(n:V3)(o:Rat)(v:V3)(I:nm∈k8)(H:vDg 200 n)(hz:¬E4 n)(J:dg 200 200 o)(W:vDg 200 v)(hd:gw v n=0):lf s (fY nm n o v):=by
 refine lO er.2.1 (by decide) (Aw rfl rfl rfl (by simp[fY])) I rfl rfl (fun _=>⟨rfl,rfl,rfl⟩) (fun _=>rfl) fun m U _ _ h=>?_
 obtain rfl:=h.flat rfl rfl rfl rfl;have X:aX prog 160=some f160:=by kernel_rfl
 have V:qS prog (ag (fD [(45,[.agg [.str (ao n.1),.str (ao n.2.1),.str (ao n.2.2),.str (ao o)]],.int .i64 0),(237,[vA v,vA n],.int .i64 0)])):=ic fun e Z M=>by
  simp only[lM] at Z;rcases Z with rfl | rfl
  .exact yu n o H J hz M
  .exact yr v n W H hd M
 have h:aa (bd prog) (fun _=>[]) (aX prog) (ag (fD [(45,[.agg [.str (ao n.1),.str (ao n.2.1),.str (ao n.2.2),.str (ao o)]],.int .i64 0),(237,[vA v,vA n],.int .i64 0)])) 1 160 [shA s,.agg ((fY nm n o v).cells .qF .qF .qF .qF)] m=some ⟨.int .i64 0,none,[]⟩:=by simp[aa,X,f160,ag,fD,fY,Evc.cells,vA,shA]
 have:=(ar aj (aJ _) V (aM _) h).1;simpa [afh.mem] using this
theorem XT{q:Rat}(h:0<q):0<q.num:=by
 have Z:0<=q.num:=(Rat.num_nonneg (q:=q)).2 (Rat.le_of_lt h);have X:q.num≠0:=fun e=>by rw[mQ.1 e] at h;exact absurd h (by decide)
 omega
theorem FG(s:afq)(nm:List UInt8)(n:V3)(o w:Rat)(H :List UInt8)(J:nm∈k8)(W:vDg 200 n)(hz:¬E4 n)(Y:dg 200 200 o)(I:dg 200 200 w)(hp:0<w)(hu:H ∈k8):lf s (jW nm n o w H):=by
 refine lO er.2.2.2.1 (by decide) (Aw rfl rfl rfl (by simp[jW])) J rfl rfl (fun _=>⟨rfl,rfl,rfl⟩) (fun _=>rfl) fun m S _ _ h=>?_
 obtain rfl:=h.flat rfl rfl rfl rfl;have X:aX prog 169=some f169:=by kernel_rfl
 have V:qS prog (ag (fD [(45,[.agg [.str (ao n.1),.str (ao n.2.1),.str (ao n.2.2),.str (ao o)]],.int .i64 0),(86,[.str (ao w)],.int .i64 0),(178,[.str (ao w)],.int .i64 1),(71,[.str H],.int .i64 0)])):=ic fun e Z M=>by
  simp only[lM] at Z;rcases Z with rfl | rfl | rfl | rfl
  .exact yu n o W Y hz M
  .have:=qz (ao w) (jJ I (by decide) (by decide)) M
   rw[im I] at this;exact this
  .have:=A4 w M
   have R:0<w.num:=XT hp;have U:¬w.num<0:=by omega
   have h3:¬w.num=0:=by omega
   rw[show gd w=1 by simp[gd,jB,U,h3]] at this;exact this
  .exact ig H hu M
 have h:aa (bd prog) (fun _=>[]) (aX prog) (ag (fD [(45,[.agg [.str (ao n.1),.str (ao n.2.1),.str (ao n.2.2),.str (ao o)]],.int .i64 0),(86,[.str (ao w)],.int .i64 0),(178,[.str (ao w)],.int .i64 1),(71,[.str H],.int .i64 0)])) 1 169 [shA s,.agg ((jW nm n o w H).cells .qF .qF .qF .qF)] m=some ⟨.int .i64 0,none,[]⟩:=by simp[aa,X,f169,ag,fD,jW,Evc.cells,shA]
 have:=(ar aj (aJ _) V (aM _) h).1;simpa [afh.mem] using this
theorem FI(s:afq)(nm:List UInt8)(t:Int×Int×Int×Int)(c:V3)(H:nm∈k8)(I:∀M,kO prog 69 [.agg [.int .i64 t.1,.int .i64 t.2.1,.int .i64 t.2.2.1,.int .i64 t.2.2.2]] M (.int .i64 0) M)(hc:vDg 200 c):lf s (mJ nm t c):=by
 refine lO er.2.2.2.2 (by decide) (Aw rfl rfl rfl (by simp[mJ])) H rfl rfl (fun _=>⟨rfl,rfl,rfl⟩) (fun _=>rfl) fun m U _ _ h=>?_
 obtain rfl:=h.flat rfl rfl rfl rfl;have X:aX prog 174=some f174:=by kernel_rfl
 have V:qS prog (ag (fD [(69,[.agg [.int .i64 t.1,.int .i64 t.2.1,.int .i64 t.2.2.1,.int .i64 t.2.2.2]],.int .i64 0),(70,[vA c],.int .i64 0)])):=ic fun e Z M=>by
  simp only[lM] at Z;rcases Z with rfl | rfl
  .exact I M
  .exact vI c hc M
 have h:aa (bd prog) (fun _=>[]) (aX prog) (ag (fD [(69,[.agg [.int .i64 t.1,.int .i64 t.2.1,.int .i64 t.2.2.1,.int .i64 t.2.2.2]],.int .i64 0),(70,[vA c],.int .i64 0)])) 1 174 [shA s,.agg ((mJ nm t c).cells .qF .qF .qF .qF)] m=some ⟨.int .i64 0,none,[]⟩:=by simp[aa,X,f174,ag,fD,mJ,Evc.cells,vA,shA]
 have:=(ar aj (aJ _) V (aM _) h).1;simpa [afh.mem] using this
variable{L:List P2}
theorem WZ(h3:L.length<=3)(hd:∀q∈L,dg 200 200 q.1/\dg 200 200 q.2)(H:∀(i:Nat) a b,L[i]? =some a->L[i+1]? =some b->a.1<b.1):knE (kT L)=0:=by
 have p:∀q:Rat,dY (ao q)=some q:=aB
 have c:∀q∈L,yT (ao q.1)=0/\yT (ao q.2)=0:=fun q U=>⟨im (hd q U).1,im (hd q U).2⟩
 match L,h3 with
 | [],_=>rfl
 | [q0],_=>
  have Z:=c q0 (by simp);simp[knE,kT,ckE,Z,EX]
 | [q0,q1],_=>
  have Z:=c q0 (by simp);have X:=c q1 (by simp);have V:=H 0 q0 q1 rfl rfl;simp[knE,kT,ckE,Z,X,p,EX,V]
 | [q0,q1,q2],_=>
  have Z:=c q0 (by simp);have X:=c q1 (by simp);have S:=c q2 (by simp);have V:=H 0 q0 q1 rfl rfl;have R:=H 1 q1 q2 rfl rfl;simp[knE,kT,ckE,Z,X,S,p,EX,V,R]
theorem H5(h1:0<L.length)(h3:L.length<=3)(hd:∀q∈L,dg 200 200 q.1/\dg 200 200 q.2)(H:∀(i:Nat) a b,L[i]? =some a->L[i+1]? =some b->a.1<b.1)(M:Mem)(b:Nat)(o:Bool)(I:M[b]? =some (.cells o 2 (kC (kT L)))):
  kO prog 85 [.slice b 0 L.length none] M (.int .i64 0) M:=by
 have V:(kT L).length=L.length:=mc L;have h:=xh (kT L) (fun q Z=>by simp only[kT,QQh] at Z;obtain⟨r,X,rfl⟩:=Z;exact⟨jJ (hd r X).1 (by decide) (by decide),jJ (hd r X).2 (by decide) (by decide)⟩) (by omega)
 rw[V,WZ h3 hd H] at h;refine kO.agZ (rest:=[]) (jI _) rfl rfl h ⟨b,o,_,rfl,I,P1⟩
theorem FH(s:afq)(nm:List UInt8)(n:V3)(L:List P2)(v:V3)(hm:nm∈k8)(J:vDg 200 n)(hz:¬E4 n)(h1:0<L.length)(h3:L.length<=3)(hd:∀q∈L,dg 200 200 q.1/\dg 200 200 q.2)(H:∀(i:Nat) a b,L[i]? =some a->L[i+1]? =some b->a.1<b.1)(W:vDg 200 v)(I:gw v n=0):lf s (eV nm n L v):=by
 refine lO er.2.2.1 (by decide) (Aw rfl rfl rfl (by show(kT L).length<=1000;rw[mc];omega)) hm rfl rfl (fun _=>⟨rfl,rfl,rfl⟩) (fun h=>by cases h) fun m ev _ _ h=>?_
 obtain⟨b,u,sv,kn,rfl,k1,k2,k3,j⟩:=h;obtain rfl:=k1.af6 rfl;obtain rfl:=k2.af6 rfl;obtain rfl:=k3.af6 rfl;have e:(eV nm n L v).K.length=L.length:=mc L;rw[e] at j;obtain⟨X,q,rfl,Z⟩:=j.pos h1;have Y :m[X]? =some (.cells q 2 (kC (kT L))):=Z;have FS:=gL Z;have o:aX prog 164=some f164:=by kernel_rfl
 have V:qS prog (ag (fD [(70,[vA n],.int .i64 0),(237,[vA v,vA n],.int .i64 0)])):=ic fun e he M=>by
  simp only[lM] at he;rcases he with rfl | rfl
  .exact vI n J M
  .exact yr v n W J I M
 have U:qS prog (fR 85 [.slice X 0 L.length none] (.int .i64 0) (fun M=>∃ext,M=m++ext)):=gC fun M hM=>by obtain⟨ext,rfl⟩:=hM;exact H5 h1 h3 hd H _ X q (gU Y _)
 have hO:=qS.or' V U;have S:=Mt hz;clear V U Z Y FS I W hz J hd H;obtain⟨R,O,N⟩:=n;simp only at S;have h:aa (bd prog) (fun _=>[]) (aX prog) (y9.or (ag (fD [(70,[vA (R,O,N)],.int .i64 0),(237,[vA v,vA (R,O,N)],.int .i64 0)])) (fR 85 [.slice X 0 L.length none] (.int .i64 0) (fun M=>∃ext,M=m++ext))) 1 164 [shA s,.agg ((eV nm (R,O,N) L v).cells .qF .qF .qF (.slice X 0 L.length none))] m=some ⟨.int .i64 0,none,[]⟩:=by
  obtain⟨A,G⟩:=xE (ao R);obtain⟨B,F⟩:=xE (ao O);obtain⟨C,D⟩:=xE (ao N);rw[<-G,<-F,<-D] at S;have ZD:(A==[48])=false\/((A==[48])=true/\(B==[48])=false)\/((A==[48])=true/\(B==[48])=true/\(C==[48])=false):=by cases H:(A==[48])<;>cases Z:(B==[48])<;>cases hc:(C==[48])<;>simp_all
  clear hO;rcases ZD with H | ⟨H,Z⟩ | ⟨H,Z,hc⟩
  .simp[aa,o,f164,y9.or,ag,fD,fR,eV,Evc.cells,shA,vA,<-G,<-F,<-D,H]
  .simp[aa,o,f164,y9.or,ag,fD,fR,eV,Evc.cells,shA,vA,<-G,<-F,<-D,H,Z]
  .simp[aa,o,f164,y9.or,ag,fD,fR,eV,Evc.cells,shA,vA,<-G,<-F,<-D,H,Z,hc]
 have:=(ar aj (aJ _) hO (aM _) h).1;simpa [afh.mem] using this
theorem kd5(n:Nat):((n:Nat):Int).tmod 5=((n%5:Nat):Int):=rfl
theorem agy:aX prog 9=some f9:=by kernel_rfl
theorem FA(x:afg)(H:x.Ok)(n k:Nat)(I:x.kind%5=1):
  kO prog 9 [.agg [.slice 0 0 n none,.slice 1 0 k none],.agg x.cells,.str [110]] [.qK,.qK] (.agg ((fY [110] (zQ (fJ x)) (hQ (ie (x.n 6))) (hV (Ae x))).cells .qF .qF .qF .qF)) [.qK,.qK]:=by
 obtain⟨R,V⟩:∃R,aI f9=R:=⟨_,rfl⟩
 have O:=cG V (ls:=[[0,1,0,4,12,31,63,127,0,383,895,2047,4095,8191],[0,1,0,7,15,31,63],[0,1,3,0,8,0,32,96,0,480,992,2040,4088,8184,16376,32767,65535,131071,262143],[0,1,0,4,12,31,63,127,0,256,768,1919,3967,0,8192,32767,65535,131071],[0,1,3,0,15,31,63,127]]) (by kernel_rfl);have Y:fv [0,1,0,4,12,31,63,127,0,383,895,2047,4095,8191] 13=true:=by decide
 simp only[aI,ca,f9,lA] at V;subst V;simp only[lB] at O;obtain⟨W,-⟩:=O;have N:=afg.afo H;have J:=fq x.closed;have M:=ib x.closed;have e0:=fun f=>aL (ρ:=f) x.closed
 have K:=afg.af5 H;have Z:=afg.afs H (k:=6) (by decide);simp only[Nat.reduceAdd] at Z;have G:=cV K;have U:=cV Z;obtain⟨F,D⟩:=afg.afV H (k:=6) (by decide);have B:=dG (x.n 6);have t5:=kd5 x.kind;rw[I] at t5;have S :∃C,x.cells=C:=⟨_,rfl⟩
 obtain⟨C,u⟩:=S;rw[u] at N J M e0 K Z G U |-;obtain⟨X,hX⟩:=xE (x.n 6);rw[<-hX] at Z U F D B |-;have tk:C.take 34=C:=B5 (by omega);obtain⟨z,o⟩:=xE (ie X);rw[<-o] at B |-;have g6:z.natAbs<100000000:=by omega
 obtain⟨⟨n1,n2,n3⟩,m⟩:∃v,v=fJ x:=⟨_,rfl⟩
 obtain⟨⟨v1,v2,v3⟩,j⟩:∃v,v=Ae x:=⟨_,rfl⟩
 rw[<-m,<-j];have eQ:mkRat z 2=hQ z:=rfl;have h:aa (bd prog) (fun _=>[]) (aX prog) (ag (fQ x)) 1 9 [.agg [.slice 0 0 n none,.slice 1 0 k none],.agg C,.str [110]] [.qK,.qK]=some ⟨.agg ((fY [110] (zQ (n1,n2,n3)) (hQ z) (hV (v1,v2,v3))).cells .qF .qF .qF .qF),none,[]⟩:=by simp (maxSteps:=1000000) [aa,agy,f9,ag,fQ,iU,eU,u,N,M,G,U,F,D,tk,t5,w1,w2,<-o,g6,eQ,<-m,<-j,-aG,an W,bD,bt,bB,Y,Nat.testBit,cv,aH,zA,vA,zQ,hV,zS,fY,Evc.cells]
 have:=(ar aj (aJ _) (j9 H) (aM _) h).1;simpa [afh.mem] using this
theorem FB(x:afg)(H:x.Ok)(n k:Nat)(hk:x.kind%5=3):
  kO prog 9 [.agg [.slice 0 0 n none,.slice 1 0 k none],.agg x.cells,.str [110]] [.qK,.qK] (.agg ((jW [110] (zQ (fJ x)) (hQ (ie (x.n 6))) (hQ (ps9 (x.n 7))) [110,95,114,111,99,107]).cells .qF .qF .qF .qF)) [.qK,.qK]:=by
 obtain⟨N,U⟩:∃N,aI f9=N:=⟨_,rfl⟩
 have M:=cG U (ls:=[[0,1,0,4,12,31,63,127,0,383,895,2047,4095,8191],[0,1,0,7,15,31,63],[0,1,3,0,8,0,32,96,0,480,992,2040,4088,8184,16376,32767,65535,131071,262143],[0,1,0,4,12,31,63,127,0,256,768,1919,3967,0,8192,32767,65535,131071],[0,1,3,0,15,31,63,127]]) (by kernel_rfl);have k0:fv [0,1,0,4,12,31,63,127,0,256,768,1919,3967,0,8192,32767,65535,131071] 17=true:=by decide
 simp only[aI,ca,f9,lA] at U;subst U;simp only[lB] at M;obtain⟨-,-,-,P',-⟩:=M;have K:=afg.afo H;have r0:=fq x.closed;have G:=ib x.closed;have e0:=fun f=>aL (ρ:=f) x.closed
 have F:=afg.af5 H;have Z:=afg.afs H (k:=6) (by decide);have V:=afg.afs H (k:=7) (by decide);simp only[Nat.reduceAdd] at Z V;have S:=cV V;obtain⟨D,B⟩:=afg.afV H (k:=7) (by decide);have u:=mT (x.n 7);have o:=cV F;have R:=cV Z;obtain⟨m,j⟩:=afg.afV H (k:=6) (by decide);have W:=dG (x.n 6);have t5:=kd5 x.kind;rw[hk] at t5;have O :∃C,x.cells=C:=⟨_,rfl⟩
 obtain⟨C,J⟩:=O;rw[J] at K r0 G e0 F Z V o R S |-;obtain⟨X,hX⟩:=xE (x.n 6);rw[<-hX] at Z R m j W |-;obtain⟨Y,hY⟩:=xE (x.n 7);rw[<-hY] at V S D B u |-;obtain⟨y,I⟩:=xE (ps9 Y);rw[<-I] at u |-;have g7:y.natAbs<100000000:=by omega
 have eY:mkRat y 2=hQ y:=rfl;have tk:C.take 34=C:=B5 (by omega);obtain⟨z,hz⟩:=xE (ie X);rw[<-hz] at W |-;have g6:z.natAbs<100000000:=by omega
 obtain⟨⟨n1,n2,n3⟩,hn⟩:∃v,v=fJ x:=⟨_,rfl⟩
 rw[<-hn];have eQ:mkRat z 2=hQ z:=rfl;have h:aa (bd prog) (fun _=>[]) (aX prog) (ag (fQ x)) 1 9 [.agg [.slice 0 0 n none,.slice 1 0 k none],.agg C,.str [110]] [.qK,.qK]=some ⟨.agg ((jW [110] (zQ (n1,n2,n3)) (hQ z) (hQ y) [110,95,114,111,99,107]).cells .qF .qF .qF .qF),none,[]⟩:=by simp (maxSteps:=1000000) [aa,agy,f9,ag,fQ,iU,eU,J,K,G,o,R,m,j,tk,t5,w3,w4,<-hz,g6,eQ,<-hn,S,D,B,<-I,g7,eY,-aG,an P',bD,bt,bB,k0,Nat.testBit,cv,aH,fM,zA,zQ,zS,jW,Evc.cells]
 have:=(ar aj (aJ _) (j9 H) (aM _) h).1;simpa [afh.mem] using this
theorem FC(x:afg)(H:x.Ok)(n k:Nat)(I:x.kind%5=4):
  kO prog 9 [.agg [.slice 0 0 n none,.slice 1 0 k none],.agg x.cells,.str [110]] [.qK,.qK] (.agg ((mJ [110] (Ap x) (zQ (fJ x))).cells .qF .qF .qF .qF)) [.qK,.qK]:=by
 obtain⟨S,V⟩:∃S,aI f9=S:=⟨_,rfl⟩
 have R:=cG V (ls:=[[0,1,0,4,12,31,63,127,0,383,895,2047,4095,8191],[0,1,0,7,15,31,63],[0,1,3,0,8,0,32,96,0,480,992,2040,4088,8184,16376,32767,65535,131071,262143],[0,1,0,4,12,31,63,127,0,256,768,1919,3967,0,8192,32767,65535,131071],[0,1,3,0,15,31,63,127]]) (by kernel_rfl);have m:fv [0,1,3,0,15,31,63,127] 7=true:=by decide
 simp only[aI,ca,f9,lA] at V;subst V;simp only[lB] at R;obtain⟨-,-,-,-,j⟩:=R;have O:=afg.afo H;have Y:=fq x.closed;have N:=ib x.closed;have W:=fun f=>aL (ρ:=f) x.closed
 have M:=afg.af5 H;have Z:=afg.afs H (k:=6) (by decide);simp only[Nat.reduceAdd] at Z;have K:=cV M;have G:=cV Z;obtain⟨J,c6⟩:=afg.afV H (k:=6) (by decide);have F:=dG (x.n 6);have t5:=kd5 x.kind;rw[I] at t5;have D:=afg.ahc H;have cT:=nX x.T;have oT:=ib cT;have lT:(i8C x.T).length=4:=by rw[iG,H.tl]
 have U :∃C,x.cells=C:=⟨_,rfl⟩
 obtain⟨C,B⟩:=U;rw[B] at O Y N W M Z K G D |-;obtain⟨X,hX⟩:=xE (x.n 6);rw[<-hX] at Z G J c6 F;have tk:C.take 34=C:=B5 (by omega);obtain⟨z,hz⟩:=xE (ie X);rw[<-hz] at F;have g6:z.natAbs<100000000:=by omega
 obtain⟨⟨n1,n2,n3⟩,u⟩:∃v,v=fJ x:=⟨_,rfl⟩
 obtain⟨⟨t1,t2,t3,t4⟩,o⟩:∃v,v=Ap x:=⟨_,rfl⟩
 rw[<-u,<-o];have eQ:mkRat z 2=hQ z:=rfl;have h:aa (bd prog) (fun _=>[]) (aX prog) (ag (fQ x)) 1 9 [.agg [.slice 0 0 n none,.slice 1 0 k none],.agg C,.str [110]] [.qK,.qK]=some ⟨.agg ((mJ [110] (t1,t2,t3,t4) (zQ (n1,n2,n3))).cells .qF .qF .qF .qF),none,[]⟩:=by simp (maxSteps:=1000000) [aa,agy,f9,ag,fQ,iU,B,O,N,K,tk,t5,w4,w5,<-u,<-o,-aG,an j,bD,bt,bB,m,Nat.testBit,cv,aH,D,oT,tA,zA,zQ,zS,mJ,Evc.cells]
 have:=(ar aj (aJ _) (j9 H) (aM _) h).1;simpa [afh.mem] using this
def nH:Code->List Nat:=fun _=>[9,9,8]
theorem ahh:fv [0,1,0,7,15,31,63] 6=true:=by decide
theorem Dn(x:afg)(H:x.Ok)(n k:Nat)(hk:x.kind%5=2)(hJ:ct3 (x.n 7)=1):
  kO prog 9 [.agg [.slice 0 0 n none,.slice 1 0 k none],.agg x.cells,.str [110]] [.qK,.qK] (.agg ((eV [110] (zQ (fJ x)) (x.afI 1) (zQ (Ae x))).cells .qF .qF .qF (.slice 2 0 1 none))) ([.qK,.qK]++[.cells true 2 (kC (kT (x.afI 1)))]):=by
 obtain⟨os,j⟩:∃os,aI f9=os:=⟨_,rfl⟩
 have UV:=cG j (ls:=[[0,1,0,4,12,31,63,127,0,383,895,2047,4095,8191],[0,1,0,7,15,31,63],[0,1,3,0,8,0,32,96,0,480,992,2040,4088,8184,16376,32767,65535,131071,262143],[0,1,0,4,12,31,63,127,0,256,768,1919,3967,0,8192,32767,65535,131071],[0,1,3,0,15,31,63,127]]) (by kernel_rfl);simp only[aI,ca,f9,lA] at j;subst j;simp only[lB] at UV;obtain⟨-,Y,ZF,-⟩:=UV;have l0:=afg.afo H;have r0:=fq x.closed;have o0:=ib x.closed;have e0:=fun f=>aL (ρ:=f) x.closed
 have ik:=afg.af5 H;have K:=afg.afs H (k:=0) (by decide);have G:=afg.afs H (k:=1) (by decide);have F:=afg.afs H (k:=2) (by decide);have D:=afg.afs H (k:=3) (by decide);have B:=afg.afs H (k:=4) (by decide);have u:=afg.afs H (k:=5) (by decide);have o:=afg.afs H (k:=6) (by decide);have m:=afg.afs H (k:=7) (by decide);simp only[Nat.reduceAdd] at K G F D B u o m;have jk:=cV ik;have j0:=cV K;obtain⟨b0,c0⟩:=afg.afV H (k:=0) (by decide);have j1:=cV G;obtain⟨b1,c1⟩:=afg.afV H (k:=1) (by decide);have j2:=cV F;obtain⟨b2,c2⟩:=afg.afV H (k:=2) (by decide);have W:=cV D;obtain⟨b3,c3⟩:=afg.afV H (k:=3) (by decide);have j4:=cV B;obtain⟨b4,c4⟩:=afg.afV H (k:=4) (by decide);have j5:=cV u;obtain⟨b5,c5⟩:=afg.afV H (k:=5) (by decide);have J:=cV o;obtain⟨b6,c6⟩:=afg.afV H (k:=6) (by decide);have I:=cV m;obtain⟨b7,c7⟩:=afg.afV H (k:=7) (by decide);have s6:=dG (x.n 6);have s7:=dG (x.n 7);have s0:=dG (x.n 0);have s1:=dG (x.n 1);have q3:=mT (x.n 3);have q4:=mT (x.n 4);have q5:=mT (x.n 5);have t5:=kd5 x.kind;rw[hk] at t5;obtain⟨w3,w4⟩:=xR (afg.afV H (k:=7) (by decide));rw[hJ] at w4;have K0:x.afI 1=[((((ie (x.n 6)):Int):Rat),hQ (ie (x.n 7)))]:=rfl;rw[K0];clear K0;have hC' :∃C,x.cells=C:=⟨_,rfl⟩
 obtain⟨C,hC⟩:=hC';rw[hC] at l0 r0 o0 e0 ik jk K j0 G j1 F j2 D W B j4 u j5 o J m I |-;obtain⟨X0,hX0⟩:=xE (x.n 0);rw[<-hX0] at K j0 b0 c0 s0;obtain⟨X1,hX1⟩:=xE (x.n 1);rw[<-hX1] at G j1 b1 c1 s1;obtain⟨X2,hX2⟩:=xE (x.n 2);rw[<-hX2] at F j2 b2 c2;obtain⟨X3,hX3⟩:=xE (x.n 3);rw[<-hX3] at D W b3 c3 q3;obtain⟨X4,hX4⟩:=xE (x.n 4);rw[<-hX4] at B j4 b4 c4 q4;obtain⟨X5,hX5⟩:=xE (x.n 5);rw[<-hX5] at u j5 b5 c5 q5;obtain⟨X6,U⟩:=xE (x.n 6);rw[<-U] at o J b6 c6 s6;obtain⟨X7,S⟩:=xE (x.n 7);rw[<-S] at m I b7 c7 s7 w3 w4;rw[<-U,<-S];have tk:C.take 34=C:=B5 (by omega);have wX:IntKind.i64.wrap X7=X7:=kY (by omega) (by omega);obtain⟨Z,X⟩:=xE (ie X6);rw[<-X] at s6;have g6:Z.natAbs<100000000:=by omega
 have eQ6:mkRat Z 2=hQ Z:=rfl;obtain⟨R,V⟩:=xE (ie X7);rw[<-V] at s7;have g7:R.natAbs<100000000:=by omega
 have eQ7:mkRat R 2=hQ R:=rfl;obtain⟨z0,hz0⟩:=xE (ie X0);rw[<-hz0] at s0;have g0:z0.natAbs<100000000:=by omega
 have eQ0:mkRat z0 2=hQ z0:=rfl;obtain⟨z1,hz1⟩:=xE (ie X1);rw[<-hz1] at s1;have g1:z1.natAbs<100000000:=by omega
 have eQ1:mkRat z1 2=hQ z1:=rfl;obtain⟨y3,O⟩:=xE (ps9 X3);rw[<-O] at q3;obtain⟨y4,hy4⟩:=xE (ps9 X4);rw[<-hy4] at q4;obtain⟨y5,hy5⟩:=xE (ps9 X5);rw[<-hy5] at q5;obtain⟨N,ha1⟩:=xE (Z+y3);obtain⟨M,ha2⟩:=xE (N+y4);obtain⟨a3,ha3⟩:=xE (M+y5);have wa1:IntKind.i64.wrap (Z+y3)=N:=by rw[af];exact ha1.symm
 have wa2:IntKind.i64.wrap (N+y4)=M:=by rw[af];exact ha2.symm
 have wa3:IntKind.i64.wrap (M+y5)=a3:=by rw[af];exact ha3.symm
 have ga1:N.natAbs<100000000:=by omega
 have ga2:M.natAbs<100000000:=by omega
 have m6:=iw Z;have m1:=iw N;have m2:=iw M;rw[<-X,<-V];obtain⟨⟨n1,n2,n3⟩,hn⟩:∃v,v=fJ x:=⟨_,rfl⟩
 obtain⟨⟨v1,v2,v3⟩,hv⟩:∃v,v=Ae x:=⟨_,rfl⟩
 rw[<-hn,<-hv];have u0:IntKind.i64.wrap 0=0:=rfl;have u1:IntKind.i64.wrap 1=1:=rfl;have u2:IntKind.i64.wrap 2=2:=rfl;have u3:IntKind.i64.wrap 3=3:=rfl;have u4:IntKind.i64.wrap 4=4:=rfl;have u5:IntKind.i64.wrap 5=5:=rfl;have u7:IntKind.i64.wrap 7=7:=rfl;have u8:IntKind.i64.wrap 8=8:=rfl;have u9:IntKind.i64.wrap 9=9:=rfl;have h:aa (bd prog) nH (aX prog) (ag (fQ x)) 5 9 [.agg [.slice 0 0 n none,.slice 1 0 k none],.agg C,.str [110]] [.qK,.qK]=some ⟨.agg ((eV [110] (zQ (n1,n2,n3)) [(((Z:Int):Rat),hQ R)] (zQ (v1,v2,v3))).cells .qF .qF .qF (.slice 2 0 1 none)),some [.qK,.qK],[.cells true 2 (kC (kT [(((Z:Int):Rat),hQ R)]))]⟩:=by simp (maxSteps:=3000000) [aa,agy,f9,nH,ba,ga,ag,fQ,iU,eU,hC,l0,r0,o0,e0,jk,tk,t5,wX,w3,w4,u1,u2,u3,u7,W,b3,c3,J,b6,c6,I,b7,c7,<-X,g6,<-V,g7,eQ7,<-O,wa1,m6,<-hn,<-hv,-aG,an Y,aY ZF,bD,bt,bB,ahh,cq,gE,dW,cK,cS,gB,bef,qp,Nat.testBit,cv,aH,zA,zQ,zS,eV,Evc.cells,kC,kT,List.idxOf?_cons]
 have:=(ar aj (aJ _) (j9 H) (aM _) h).1;simpa [afh.mem] using this
theorem Dp(x:afg)(H:x.Ok)(n k:Nat)(hk:x.kind%5=2)(hJ:ct3 (x.n 7)=2):
  kO prog 9 [.agg [.slice 0 0 n none,.slice 1 0 k none],.agg x.cells,.str [110]] [.qK,.qK] (.agg ((eV [110] (zQ (fJ x)) (x.afI 2) (zQ (Ae x))).cells .qF .qF .qF (.slice 2 0 2 none))) ([.qK,.qK]++[.cells true 2 (kC (kT (x.afI 2)))]):=by
 obtain⟨os,D'⟩:∃os,aI f9=os:=⟨_,rfl⟩
 have UV:=cG D' (ls:=[[0,1,0,4,12,31,63,127,0,383,895,2047,4095,8191],[0,1,0,7,15,31,63],[0,1,3,0,8,0,32,96,0,480,992,2040,4088,8184,16376,32767,65535,131071,262143],[0,1,0,4,12,31,63,127,0,256,768,1919,3967,0,8192,32767,65535,131071],[0,1,3,0,15,31,63,127]]) (by kernel_rfl);simp only[aI,ca,f9,lA] at D';subst D';simp only[lB] at UV;obtain⟨-,hb1,ZF,-⟩:=UV;have l0:=afg.afo H;have r0:=fq x.closed;have o0:=ib x.closed;have e0:=fun f=>aL (ρ:=f) x.closed
 have ik:=afg.af5 H;have o:=afg.afs H (k:=0) (by decide);have m:=afg.afs H (k:=1) (by decide);have j:=afg.afs H (k:=2) (by decide);have Y:=afg.afs H (k:=3) (by decide);have W:=afg.afs H (k:=4) (by decide);have J:=afg.afs H (k:=5) (by decide);have I:=afg.afs H (k:=6) (by decide);have i7:=afg.afs H (k:=7) (by decide);simp only[Nat.reduceAdd] at o m j Y W J I i7;have jk:=cV ik;have j0:=cV o;obtain⟨b0,c0⟩:=afg.afV H (k:=0) (by decide);have j1:=cV m;obtain⟨b1,c1⟩:=afg.afV H (k:=1) (by decide);have j2:=cV j;obtain⟨b2,c2⟩:=afg.afV H (k:=2) (by decide);have j3:=cV Y;obtain⟨b3,c3⟩:=afg.afV H (k:=3) (by decide);have j4:=cV W;obtain⟨b4,c4⟩:=afg.afV H (k:=4) (by decide);have j5:=cV J;obtain⟨b5,c5⟩:=afg.afV H (k:=5) (by decide);have j6:=cV I;obtain⟨b6,c6⟩:=afg.afV H (k:=6) (by decide);have j7:=cV i7;obtain⟨b7,c7⟩:=afg.afV H (k:=7) (by decide);have s6:=dG (x.n 6);have s7:=dG (x.n 7);have s0:=dG (x.n 0);have s1:=dG (x.n 1);have q3:=mT (x.n 3);have q4:=mT (x.n 4);have q5:=mT (x.n 5);have t5:=kd5 x.kind;rw[hk] at t5;obtain⟨w3,w4⟩:=xR (afg.afV H (k:=7) (by decide));rw[hJ] at w4;have K0:x.afI 2=[((((ie (x.n 6)):Int):Rat),hQ (ie (x.n 7))),((((ie (x.n 6)+ps9 (x.n 3)):Int):Rat),hQ (ie (x.n 0)))]:=rfl;rw[K0];clear K0;have hC' :∃C,x.cells=C:=⟨_,rfl⟩
 obtain⟨C,hC⟩:=hC';rw[hC] at l0 r0 o0 e0 ik jk o j0 m j1 j j2 Y j3 W j4 J j5 I j6 i7 j7 |-;obtain⟨X0,O⟩:=xE (x.n 0);rw[<-O] at o j0 b0 c0 s0;obtain⟨X1,hX1⟩:=xE (x.n 1);rw[<-hX1] at m j1 b1 c1 s1;obtain⟨X2,hX2⟩:=xE (x.n 2);rw[<-hX2] at j j2 b2 c2;obtain⟨X3,N⟩:=xE (x.n 3);rw[<-N] at Y j3 b3 c3 q3;obtain⟨X4,hX4⟩:=xE (x.n 4);rw[<-hX4] at W j4 b4 c4 q4;obtain⟨X5,hX5⟩:=xE (x.n 5);rw[<-hX5] at J j5 b5 c5 q5;obtain⟨X6,M⟩:=xE (x.n 6);rw[<-M] at I j6 b6 c6 s6;obtain⟨X7,K⟩:=xE (x.n 7);rw[<-K] at i7 j7 b7 c7 s7 w3 w4;rw[<-M,<-K,<-O,<-N];have tk:C.take 34=C:=B5 (by omega);have wX:IntKind.i64.wrap X7=X7:=kY (by omega) (by omega);obtain⟨Z,X⟩:=xE (ie X6);rw[<-X] at s6;have g6:Z.natAbs<100000000:=by omega
 have eQ6:mkRat Z 2=hQ Z:=rfl;obtain⟨G,V⟩:=xE (ie X7);rw[<-V] at s7;have g7:G.natAbs<100000000:=by omega
 have eQ7:mkRat G 2=hQ G:=rfl;obtain⟨F,U⟩:=xE (ie X0);rw[<-U] at s0;have g0:F.natAbs<100000000:=by omega
 have eQ0:mkRat F 2=hQ F:=rfl;obtain⟨z1,hz1⟩:=xE (ie X1);rw[<-hz1] at s1;have g1:z1.natAbs<100000000:=by omega
 have eQ1:mkRat z1 2=hQ z1:=rfl;obtain⟨y3,S⟩:=xE (ps9 X3);rw[<-S] at q3;obtain⟨y4,D⟩:=xE (ps9 X4);rw[<-D] at q4;obtain⟨y5,hy5⟩:=xE (ps9 X5);rw[<-hy5] at q5;obtain⟨R,B⟩:=xE (Z+y3);obtain⟨u,ha2⟩:=xE (R+y4);obtain⟨a3,ha3⟩:=xE (u+y5);have wa1:IntKind.i64.wrap (Z+y3)=R:=by rw[af];exact B.symm
 have wa2:IntKind.i64.wrap (R+y4)=u:=by rw[af];exact ha2.symm
 have wa3:IntKind.i64.wrap (u+y5)=a3:=by rw[af];exact ha3.symm
 have ga1:R.natAbs<100000000:=by omega
 have ga2:u.natAbs<100000000:=by omega
 have m6:=iw Z;have m1:=iw R;have m2:=iw u;rw[<-X,<-V,<-U,<-S,<-B];obtain⟨⟨n1,n2,n3⟩,hn⟩:∃v,v=fJ x:=⟨_,rfl⟩
 obtain⟨⟨v1,v2,v3⟩,hv⟩:∃v,v=Ae x:=⟨_,rfl⟩
 rw[<-hn,<-hv];have u0:IntKind.i64.wrap 0=0:=rfl;have u1:IntKind.i64.wrap 1=1:=rfl;have u2:IntKind.i64.wrap 2=2:=rfl;have u3:IntKind.i64.wrap 3=3:=rfl;have u4:IntKind.i64.wrap 4=4:=rfl;have u5:IntKind.i64.wrap 5=5:=rfl;have u7:IntKind.i64.wrap 7=7:=rfl;have u8:IntKind.i64.wrap 8=8:=rfl;have u9:IntKind.i64.wrap 9=9:=rfl;have h:aa (bd prog) nH (aX prog) (ag (fQ x)) 5 9 [.agg [.slice 0 0 n none,.slice 1 0 k none],.agg C,.str [110]] [.qK,.qK]=some ⟨.agg ((eV [110] (zQ (n1,n2,n3)) [(((Z:Int):Rat),hQ G),(((R:Int):Rat),hQ F)] (zQ (v1,v2,v3))).cells .qF .qF .qF (.slice 2 0 2 none)),some [.qK,.qK],[.cells true 2 (kC (kT [(((Z:Int):Rat),hQ G),(((R:Int):Rat),hQ F)]))]⟩:=by simp (maxSteps:=3000000) [aa,agy,f9,nH,ba,ga,ag,fQ,iU,eU,hC,l0,r0,o0,e0,jk,tk,t5,wX,w3,w4,u1,u2,u3,u4,u7,u8,j0,b0,c0,j3,b3,c3,j4,b4,c4,j6,b6,c6,j7,b7,c7,<-X,g6,<-V,g7,eQ7,<-U,g0,eQ0,<-S,<-D,wa1,wa2,ga1,m6,m1,<-hn,<-hv,-aG,an hb1,aY ZF,bD,bt,bB,ahh,cq,gE,dW,cK,cS,gB,bef,qp,Nat.testBit,cv,aH,zA,zQ,zS,eV,Evc.cells,kC,kT,List.idxOf?_cons]
 have:=(ar aj (aJ _) (j9 H) (aM _) h).1;simpa [afh.mem] using this
theorem Dq(x:afg)(H:x.Ok)(n k:Nat)(hk:x.kind%5=2)(hJ:ct3 (x.n 7)=3):
  kO prog 9 [.agg [.slice 0 0 n none,.slice 1 0 k none],.agg x.cells,.str [110]] [.qK,.qK] (.agg ((eV [110] (zQ (fJ x)) (x.afI 3) (zQ (Ae x))).cells .qF .qF .qF (.slice 2 0 3 none))) ([.qK,.qK]++[.cells true 2 (kC (kT (x.afI 3)))]):=by
 obtain⟨os,D'⟩:∃os,aI f9=os:=⟨_,rfl⟩
 have UV:=cG D' (ls:=[[0,1,0,4,12,31,63,127,0,383,895,2047,4095,8191],[0,1,0,7,15,31,63],[0,1,3,0,8,0,32,96,0,480,992,2040,4088,8184,16376,32767,65535,131071,262143],[0,1,0,4,12,31,63,127,0,256,768,1919,3967,0,8192,32767,65535,131071],[0,1,3,0,15,31,63,127]]) (by kernel_rfl);simp only[aI,ca,f9,lA] at D';subst D';simp only[lB] at UV;obtain⟨-,hb1,ZF,-⟩:=UV;have l0:=afg.afo H;have r0:=fq x.closed;have o0:=ib x.closed;have e0:=fun f=>aL (ρ:=f) x.closed
 have ik:=afg.af5 H;have I:=afg.afs H (k:=0) (by decide);have i1:=afg.afs H (k:=1) (by decide);have i2:=afg.afs H (k:=2) (by decide);have i3:=afg.afs H (k:=3) (by decide);have i4:=afg.afs H (k:=4) (by decide);have i5:=afg.afs H (k:=5) (by decide);have i6:=afg.afs H (k:=6) (by decide);have i7:=afg.afs H (k:=7) (by decide);simp only[Nat.reduceAdd] at I i1 i2 i3 i4 i5 i6 i7;have jk:=cV ik;have j0:=cV I;obtain⟨b0,c0⟩:=afg.afV H (k:=0) (by decide);have j1:=cV i1;obtain⟨b1,c1⟩:=afg.afV H (k:=1) (by decide);have j2:=cV i2;obtain⟨b2,c2⟩:=afg.afV H (k:=2) (by decide);have j3:=cV i3;obtain⟨b3,c3⟩:=afg.afV H (k:=3) (by decide);have j4:=cV i4;obtain⟨b4,c4⟩:=afg.afV H (k:=4) (by decide);have j5:=cV i5;obtain⟨b5,c5⟩:=afg.afV H (k:=5) (by decide);have j6:=cV i6;obtain⟨b6,c6⟩:=afg.afV H (k:=6) (by decide);have j7:=cV i7;obtain⟨b7,c7⟩:=afg.afV H (k:=7) (by decide);have s6:=dG (x.n 6);have s7:=dG (x.n 7);have s0:=dG (x.n 0);have s1:=dG (x.n 1);have q3:=mT (x.n 3);have q4:=mT (x.n 4);have q5:=mT (x.n 5);have t5:=kd5 x.kind;rw[hk] at t5;obtain⟨w3,w4⟩:=xR (afg.afV H (k:=7) (by decide));rw[hJ] at w4;have K0:x.afI 3=[((((ie (x.n 6)):Int):Rat),hQ (ie (x.n 7))),((((ie (x.n 6)+ps9 (x.n 3)):Int):Rat),hQ (ie (x.n 0))),((((ie (x.n 6)+ps9 (x.n 3)+ps9 (x.n 4)):Int):Rat),hQ (ie (x.n 1)))]:=rfl;rw[K0];clear K0;have hC' :∃C,x.cells=C:=⟨_,rfl⟩
 obtain⟨C,hC⟩:=hC';rw[hC] at l0 r0 o0 e0 ik jk I j0 i1 j1 i2 j2 i3 j3 i4 j4 i5 j5 i6 j6 i7 j7 |-;obtain⟨X0,K⟩:=xE (x.n 0);rw[<-K] at I j0 b0 c0 s0;obtain⟨X1,G⟩:=xE (x.n 1);rw[<-G] at i1 j1 b1 c1 s1;obtain⟨X2,hX2⟩:=xE (x.n 2);rw[<-hX2] at i2 j2 b2 c2;obtain⟨X3,F⟩:=xE (x.n 3);rw[<-F] at i3 j3 b3 c3 q3;obtain⟨X4,D⟩:=xE (x.n 4);rw[<-D] at i4 j4 b4 c4 q4;obtain⟨X5,hX5⟩:=xE (x.n 5);rw[<-hX5] at i5 j5 b5 c5 q5;obtain⟨X6,B⟩:=xE (x.n 6);rw[<-B] at i6 j6 b6 c6 s6;obtain⟨X7,u⟩:=xE (x.n 7);rw[<-u] at i7 j7 b7 c7 s7 w3 w4;rw[<-B,<-u,<-K,<-G,<-F,<-D];have tk:C.take 34=C:=B5 (by omega);have wX:IntKind.i64.wrap X7=X7:=kY (by omega) (by omega);obtain⟨Z,X⟩:=xE (ie X6);rw[<-X] at s6;have g6:Z.natAbs<100000000:=by omega
 have eQ6:mkRat Z 2=hQ Z:=rfl;obtain⟨o,V⟩:=xE (ie X7);rw[<-V] at s7;have g7:o.natAbs<100000000:=by omega
 have eQ7:mkRat o 2=hQ o:=rfl;obtain⟨m,U⟩:=xE (ie X0);rw[<-U] at s0;have g0:m.natAbs<100000000:=by omega
 have eQ0:mkRat m 2=hQ m:=rfl;obtain⟨j,S⟩:=xE (ie X1);rw[<-S] at s1;have g1:j.natAbs<100000000:=by omega
 have eQ1:mkRat j 2=hQ j:=rfl;obtain⟨y3,R⟩:=xE (ps9 X3);rw[<-R] at q3;obtain⟨y4,O⟩:=xE (ps9 X4);rw[<-O] at q4;obtain⟨y5,Y⟩:=xE (ps9 X5);rw[<-Y] at q5;obtain⟨N,W⟩:=xE (Z+y3);obtain⟨M,J⟩:=xE (N+y4);obtain⟨a3,ha3⟩:=xE (M+y5);have wa1:IntKind.i64.wrap (Z+y3)=N:=by rw[af];exact W.symm
 have wa2:IntKind.i64.wrap (N+y4)=M:=by rw[af];exact J.symm
 have wa3:IntKind.i64.wrap (M+y5)=a3:=by rw[af];exact ha3.symm
 have ga1:N.natAbs<100000000:=by omega
 have ga2:M.natAbs<100000000:=by omega
 have m6:=iw Z;have m1:=iw N;have m2:=iw M;rw[<-X,<-V,<-U,<-S,<-R,<-O,<-W,<-J];obtain⟨⟨n1,n2,n3⟩,hn⟩:∃v,v=fJ x:=⟨_,rfl⟩
 obtain⟨⟨v1,v2,v3⟩,hv⟩:∃v,v=Ae x:=⟨_,rfl⟩
 rw[<-hn,<-hv];have u0:IntKind.i64.wrap 0=0:=rfl;have u1:IntKind.i64.wrap 1=1:=rfl;have u2:IntKind.i64.wrap 2=2:=rfl;have u3:IntKind.i64.wrap 3=3:=rfl;have u4:IntKind.i64.wrap 4=4:=rfl;have u5:IntKind.i64.wrap 5=5:=rfl;have u7:IntKind.i64.wrap 7=7:=rfl;have u8:IntKind.i64.wrap 8=8:=rfl;have u9:IntKind.i64.wrap 9=9:=rfl;have h:aa (bd prog) nH (aX prog) (ag (fQ x)) 5 9 [.agg [.slice 0 0 n none,.slice 1 0 k none],.agg C,.str [110]] [.qK,.qK]=some ⟨.agg ((eV [110] (zQ (n1,n2,n3)) [(((Z:Int):Rat),hQ o),(((N:Int):Rat),hQ m),(((M:Int):Rat),hQ j)] (zQ (v1,v2,v3))).cells .qF .qF .qF (.slice 2 0 3 none)),some [.qK,.qK],[.cells true 2 (kC (kT [(((Z:Int):Rat),hQ o),(((N:Int):Rat),hQ m),(((M:Int):Rat),hQ j)]))]⟩:=by simp (maxSteps:=3000000) [aa,agy,f9,nH,ba,ga,ag,fQ,iU,eU,hC,l0,r0,o0,e0,jk,tk,t5,wX,w3,w4,u1,u2,u3,u4,u5,u7,u8,u9,j0,b0,c0,j1,b1,c1,j3,b3,c3,j4,b4,c4,j5,b5,c5,j6,b6,c6,j7,b7,c7,<-X,g6,<-V,g7,eQ7,<-U,g0,eQ0,<-S,g1,eQ1,<-R,<-O,<-Y,wa1,wa2,wa3,ga1,ga2,m6,m1,m2,<-hn,<-hv,-aG,an hb1,aY ZF,bD,bt,bB,ahh,cq,gE,dW,cK,cS,gB,bef,qp,Nat.testBit,cv,aH,zA,zQ,zS,eV,Evc.cells,kC,kT,List.idxOf?_cons]
 have:=(ar aj (aJ _) (j9 H) (aM _) h).1;simpa [afh.mem] using this
def hS(Z:List Int):List (List UInt8):=(qH Z).map ao
theorem O5(Z:List Int):stC (hS Z)=qC (qH Z):=(Wu _).symm
theorem kN(Z:List Int):(hS Z).length=Z.length:=by simp[hS,qH]
def ja(x:afg)(n:Nat):Nat->List (List Int)
 |1=>[]
 |2=>[upL x.s0 (x.base.l n) n]
 |_=>[upL x.s0 (x.base.l n) n,upL x.s1 (upL x.s0 (x.base.l n) n) n]
def tF(x:afg)(n c:Nat):Evc:={ k:=1,nm:=[110],B:=hS (x.base.l n),U:=uNm c,S:=(ja x n c).map hS }
theorem Mq{h:Hts}{L:List Int}{n i:Nat}{z y:Int}(hz:L[i]? =some z)(H:(upL h L n)[i]? =some y):z<=y:=by
 unfold upL at H;rw[Zo] at H;by_cases Z:i<n
 .rw[List.getElem?_range Z] at H
  have e:L.getD i 0=z:=by rw[List.getD_eq_getElem?_getD,hz];rfl
  simp only[Option.map_some,Pi] at H;rw[e] at H;omega
 .rw[List.getElem?_eq_none (by simp;omega)] at H
  simp at H
theorem Im(s:afq)(x:afg)(n c:Nat)(H:n=s.P.length)(h0:0<n)(I:n<=1000)(hc:c=1\/c=2\/c=3):lf s (tF x n c):=by
 have lB:(x.base.l n).length=n:=x.base.afJ n;have X:∀h L,(upL h L n).length=n:=fun h L=>fE h L n
 have D:∀z∈x.base.l n,z.natAbs<1000:=fun z Z=>by have:=ka x n z Z;omega
 have V:∀z∈upL x.s0 (x.base.l n) n,z.natAbs<1000:=fun z Z=>by have:=mw x n z Z;omega
 have C:∀z∈upL x.s1 (upL x.s0 (x.base.l n) n) n,z.natAbs<1000:=by intro z Z;unfold upL at Z;obtain⟨k,o,rfl⟩:=QQh.1 Z;have o:=List.mem_range.1 o;have G:=mw x n _ (mN (l:=upL x.s0 (x.base.l n) n) (k:=k) (by rw[fE];exact o));have:=x.s1.ag0 k;unfold upL at G;omega
 refine lO er.1 (by decide) ⟨?_,?_,?_,?_,?_⟩ (by show [110]∈k8;decide) rfl rfl (fun h=>by cases h) (fun _=>rfl) fun m ev j Y h=>?_
 .show(hS _).length<=1000;rw[kN,lB];exact I
 .show(uNm c).length<=1000;rcases hc with rfl | rfl | rfl<;>decide
 .show((ja x n c).map hS).length<=2;rcases hc with rfl | rfl | rfl<;>simp[ja]
 .intro L U
  have U:L∈(ja x n c).map hS:=U;rcases hc with rfl | rfl | rfl<;>simp[ja] at U
  .subst U;rw[kN,X];exact I
  .rcases U with rfl | rfl<;>(rw[kN,X];exact I)
 .show 0<=1000;omega
 .obtain⟨b,u,sv,kn,rfl,G,W,h3,h4⟩:=h
  obtain rfl:=h4.af6 rfl;have e1:(tF x n c).B.length=(x.base.l n).length:=kN _;rw[e1] at G;obtain⟨F,ob,rfl,hb⟩:=G.pos (by omega);have J:m[F]? =some (.cells ob 1 (qC (qH (x.base.l n)))):=by rw[<-O5];exact hb
  obtain⟨vs,lv,hv,hr⟩:=h3;rcases hc with rfl | rfl | rfl
  .obtain⟨S,ou,rfl,R⟩:=W.pos (by show 0<1;omega)
   obtain rfl:=hv.af6 rfl;exact Hl s [110] _ (by decide) _ D (by omega) (by omega) m F S _ _ _ _ j Y J R
  .obtain⟨S,ou,rfl,R⟩:=W.pos (by show 0<2;omega)
   obtain⟨O,oc,rfl,hc⟩:=hv.pos (by show 0<1;omega)
   match vs,lv with
   | [v1],_=>
    have r1:=hr 0 v1 (hS (upL x.s0 (x.base.l n) n)) rfl rfl;rw[kN,X] at r1;obtain⟨N,o1,rfl,M⟩:=r1.pos h0;rw[O5] at M;have hc:m[O]? =some (.cells oc 1 [.slice N 0 (x.base.l n).length none]):=by rw[lB];exact hc
    exact Hm s [110] _ _ (by decide) (by decide) (by decide) _ D (by omega) (by omega) _ V (by rw[X];exact H) (fun i z y Z K=>Mq Z K) m F S O N _ _ _ _ _ _ j Y J R hc M
  .obtain⟨S,ou,rfl,R⟩:=W.pos (by show 0<3;omega)
   obtain⟨O,oc,rfl,hc⟩:=hv.pos (by show 0<2;omega)
   match vs,lv with
   | [v1,v2],_=>
    have r1:=hr 0 v1 (hS (upL x.s0 (x.base.l n) n)) rfl rfl;rw[kN,X] at r1;obtain⟨N,o1,rfl,M⟩:=r1.pos h0;rw[O5] at M;have r2:=hr 1 v2 (hS (upL x.s1 (upL x.s0 (x.base.l n) n) n)) rfl rfl;rw[kN,X] at r2;obtain⟨b2,o2,rfl,g2⟩:=r2.pos h0;rw[O5] at g2;have hc:m[O]? =some (.cells oc 1 [.slice N 0 (x.base.l n).length none,.slice b2 0 (x.base.l n).length none]):=by rw[lB];exact hc
    exact Hn s [110] _ _ _ (by decide) (by decide) (by decide) (by decide) (by decide) (by decide) _ D (by omega) (by omega) _ _ V (by rw[X];exact H) (fun i z y Z K=>Mq Z K) C (by rw[X];exact H) (fun i z y Z K=>Mq Z K) m F S O N b2 _ _ _ _ _ _ _ j Y J R hc M g2
theorem Fz(x:afg)(H:x.Ok)(n k:Nat)(I:0<n)(J:n<=1000)(W:x.kind%5=0):
  kO prog 9 [.agg [.slice 0 0 n none,.slice 1 0 k none],.agg x.cells,.str [110]] [.qK,.qK] (.agg ((tF x n (ctN x)).cells (.slice 2 0 n none) (.slice 3 0 (ctN x) none) (dqS 2 n (ctN x)) .qF)) ([.qK,.qK]++dqN 2 x n (ctN x)):=by
 have G:=afg.afo H;have o:=fq x.closed;have m:=ib x.closed;have j:=fun f=>aL (ρ:=f) x.closed
 have F:=afg.af5 H;have D:=cV F;have t5:=kd5 x.kind;rw[W] at t5;have X:=fun M p t Z Y=>M4 x H n k I J M p t Z Y
 have h3:=ir x;have B:(tF x n (ctN x)).cells (.slice 2 0 n none) (.slice 3 0 (ctN x) none) (dqS 2 n (ctN x)) .qF=GL [110] (.slice 2 0 n none) (.slice 3 0 (ctN x) none) (dqS 2 n (ctN x)):=rfl;rw[B];clear B;obtain⟨c,u⟩:=xE (ctN x);rw[<-u] at X h3 |-;clear u;have hN:dqN 2 x n c=dqN 2 x n c:=rfl;obtain⟨A,V⟩:=xE (qC (qH (x.base.l n)));have Ar:∀n,AV.afy n A=[]:=fun n=>by rw[V,gu]
 have An:∀f,AV.afz f A=A:=fun f=>by rw[V,kS]
 obtain⟨R,U⟩:=xE (qC (qH (upL x.s0 (x.base.l n) n)));have Rr:∀n,AV.afy n R=[]:=fun n=>by rw[U,gu]
 have Rn:∀f,AV.afz f R=R:=fun f=>by rw[U,kS]
 obtain⟨S,hS⟩:=xE (qC (qH (upL x.s1 (upL x.s0 (x.base.l n) n) n)));have Sr:∀n,AV.afy n S=[]:=fun n=>by rw[hS,gu]
 have Sn:∀f,AV.afz f S=S:=fun f=>by rw[hS,kS]
 have O :∃C,x.cells=C:=⟨_,rfl⟩
 obtain⟨C,hC⟩:=O;rw[hC] at G o m j F D X |-;have tk:C.take 34=C:=B5 (by omega);have u1:IntKind.i64.wrap 1=1:=rfl;have u0:IntKind.i64.wrap 0=0:=rfl;obtain⟨L,N⟩:=xE (α:=List (FuncId×List AV×(Mem->Prop)×afh)) [(35,[.agg [.slice 0 0 n none,.slice 1 0 k none],.agg C,.str [110]],fun M=>M.length=6,⟨.agg [.slice 6 0 n none,.slice 7 0 c none,dqS 6 n c],none,dqN 6 x n c⟩)];have hO:qS prog (eG L):=mM fun z K M Z=>by rw[N] at K;simp only[lM] at K;subst K;have Z:M.length=6:=Z;have h:=X M 0 1 (by omega) (by omega);rw[Z] at h;exact aC h
 have e1:∀M:Mem,M.length=6->eG L (.fn 35) [.agg [.slice 0 0 n none,.slice 1 0 k none],.agg C,.str [110]] M=some ⟨.agg [.slice 6 0 n none,.slice 7 0 c none,dqS 6 n c],none,dqN 6 x n c⟩:=fun M hM=>by rw[N];exact dU hM
 clear N X;have h:aa (bd prog) (fun _=>[]) (aX prog) (eG L) 1 9 [.agg [.slice 0 0 n none,.slice 1 0 k none],.agg C,.str [110]] [.qK,.qK]=some ⟨.agg (GL [110] (.slice 2 0 n none) (.slice 3 0 c none) (dqS 2 n c)),none,dqN 2 x n c⟩:=by
  rcases h3 with rfl | rfl | rfl<;>
   simp (maxSteps:=1000000) [aa,agy,f9,e1,G,D,tk,t5,u0,u1,cv,aH,dqS,dqN,<-V,<-U,<-hS,Ar,An,Rr,Rn,Sr,Sn,GL,uNm,nmE,stC,List.idxOf?_cons]
 have:=(ar aj (aJ _) hO (aM _) h).1;simpa [afh.mem] using this
theorem mG(a b c d e:AV):kZ (bd prog) 125 (.agg [a,b,c,d,e]) 2=some c:=by kernel_rfl
section
variable {M:Mem}{pv tv:AV}{ev:List AV}{n mo lo kd:Int}{k0 k1 mf k3 k4:FuncId}
theorem Ip:(aI f58).map (fun o=>dO o.toList)=[[0,0,3,7,15,15,47,111,15,495,1023,2047]]:=by kernel_rfl
theorem A6(cp:pv.afi=true/\tv.afi=true)(J:ev.length=32)(hck:ev.all AV.afi=true)(rp:∀x,pv.adM (fun b=>decide (b<M.length+x))=true)(rt:∀x,tv.adM (fun b=>decide (b<M.length+x))=true)(H:∀x,AV.afn (fun b=>decide (b<M.length+x)) ev=true)(h0:ev[0]? =some (.int .i64 kd))(I:lo=if kd=1 then -2 else 0)(hC:∀Z,kO prog 25 [.agg [pv,tv],.agg ev] (M++Z) (.int .i64 0) (M++Z))(hK:∀Z,kO prog 44 [.agg ev] (M++Z) (.agg [.func k0 [],.func k1 [],.func mf [],.func k3 [],.func k4 []]) (M++Z))(hN:∀Z,kO prog mf [.agg ev] (M++Z) (.int .i64 mo) (M++Z))(n1:25≠mf)(n2:44≠mf):
  kO prog 58 [.agg [pv,tv],.agg ev,.int .i64 n] M (.int .i64 (if lo<=n/\n<=mo then 0 else 10)) M:=by
 have R:aX prog 58=some f58:=by kernel_rfl
 obtain⟨c1,c2⟩:=cp;obtain⟨L,K⟩:=xE (α:=List (FuncId×List AV×(Mem->Prop)×afh)) [(25,[.agg [pv,tv],.agg ev],(fun N=>∃Z,N=M++Z),⟨.int .i64 0,none,[]⟩),(44,[.agg ev],(fun N=>∃Z,N=M++Z),⟨.agg [.func k0 [],.func k1 [],.func mf [],.func k3 [],.func k4 []],none,[]⟩),(mf,[.agg ev],(fun N=>∃Z,N=M++Z),⟨.int .i64 mo,none,[]⟩)];have hO:qS prog (eG L):=mM fun y m N j=>by
  rw[K] at m;simp only[lM] at m;rcases m with rfl | rfl | rfl
  .obtain⟨Z,rfl⟩:=j;exact bH (hC Z)
  .obtain⟨Z,rfl⟩:=j;exact bH (hK Z)
  .obtain⟨Z,rfl⟩:=j;exact bH (hN Z)
 have V:∀Z,eG L (.fn 25) [.agg [pv,tv],.agg ev] (M++Z)=some ⟨.int .i64 0,none,[]⟩:=fun Z=>by rw[K];exact dU ⟨Z,rfl⟩
 have G:∀Z,eG L (.fn 44) [.agg ev] (M++Z)=some ⟨.agg [.func k0 [],.func k1 [],.func mf [],.func k3 [],.func k4 []],none,[]⟩:=fun Z=>by rw[K,bN (.inl (by decide))];exact dU ⟨Z,rfl⟩
 have F:∀Z,eG L (.fn mf) [.agg ev] (M++Z)=some ⟨.int .i64 mo,none,[]⟩:=fun Z=>by rw[K,bN (.inl n1),bN (.inl n2)];exact dU ⟨Z,rfl⟩
 obtain⟨O,D⟩:=xE (eG L);rw[<-D] at hO V G F;clear D K hC hK hN;have o:∀f k,AV.adM f (.func k [])=true:=fun _ _=>rfl
 have t0:ev.take 32=ev:=B5 (by omega);obtain⟨C,Y⟩:∃C,aI f58=C :=⟨_,rfl⟩
 have U :=cG Y Ip;simp only[aI,ca,f58,List.nil_append,List.append_nil] at Y;subst Y;simp only[lB] at U;have w2:IntKind.i64.wrap (-2)= -2:=rfl;have W:∃B,cE (bd prog) (fun _=>[]) (aX prog) O 1 58 [.agg [pv,tv],.agg ev,.int .i64 n] M=some (.int .i64 (if lo<=n/\n<=mo then 0 else 10),M++B):=by
  by_cases X:kd=1
  .rw[if_pos X] at I
   subst I;by_cases S:n< -2
   .rw[if_neg (by omega)]
    simp[-getElem?_pos,-AV.afi,-AV.known,-AV.cells,-cO,-List.all_eq_true,vS,rS,mS,cE,R,f58,J,t0,h0,X,S,V,-kZ,-bF,-bn,-aG,-AV.adM,-afl.adM,aY U,cq,cc,dW,cK,cS,gB,bef,Nat.testBit]
   .by_cases u:mo<n
    .rw[if_neg (by omega)]
     simp[-getElem?_pos,-AV.afi,-AV.known,-AV.cells,-cO,-List.all_eq_true,vS,rS,mS,cE,R,f58,J,t0,o,H,h0,X,S,u,V,G,F,-kZ,mG,-bF,-bn,-aG,-AV.adM,-afl.adM,aY U,cq,cc,dW,cK,cS,gB,bef,Nat.testBit]
    .rw[if_pos (by omega)]
     simp[-getElem?_pos,-AV.afi,-AV.known,-AV.cells,-cO,-List.all_eq_true,vS,rS,mS,cE,R,f58,J,t0,o,H,h0,X,S,u,V,G,F,-kZ,mG,-bF,-bn,-aG,-AV.adM,-afl.adM,aY U,cq,cc,dW,cK,cS,gB,bef,Nat.testBit]
  .rw[if_neg X] at I
   subst I;by_cases S:n<0
   .rw[if_neg (by omega)]
    simp[-getElem?_pos,-AV.afi,-AV.known,-AV.cells,-cO,-List.all_eq_true,vS,rS,mS,cE,R,f58,J,t0,h0,X,S,V,-kZ,-bF,-bn,-aG,-AV.adM,-afl.adM,aY U,cq,cc,dW,cK,cS,gB,bef,Nat.testBit]
   .by_cases u:mo<n
    .rw[if_neg (by omega)]
     simp[-getElem?_pos,-AV.afi,-AV.known,-AV.cells,-cO,-List.all_eq_true,vS,rS,mS,cE,R,f58,J,t0,o,H,h0,X,S,u,V,G,F,-kZ,mG,-bF,-bn,-aG,-AV.adM,-afl.adM,aY U,cq,cc,dW,cK,cS,gB,bef,Nat.testBit]
    .rw[if_pos (by omega)]
     simp[-getElem?_pos,-AV.afi,-AV.known,-AV.cells,-cO,-List.all_eq_true,vS,rS,mS,cE,R,f58,J,t0,o,H,h0,X,S,u,V,G,F,-kZ,mG,-bF,-bn,-aG,-AV.adM,-afl.adM,aY U,cq,cc,dW,cK,cS,gB,bef,Nat.testBit]
 obtain⟨B,W⟩:=W;exact kO.forget rfl (cL aj (aJ _) hO (aM _) W)
end
end Go.Proofs
namespace Go.Proofs
open Go.Eng
open Tryz
def Ew:Option (List UInt8)->AV
 |none=>.tuple [.str [],.bool false,.int .i64 0]
 |some u=>.tuple [.str u,.bool true,.int .i64 0]
section
variable {pv tv b u sv kn:AV}{c:Evc}{x:Int}{M:Mem}{us:List (List UInt8)}{ub:Nat}{o:Bool}
theorem agE:aX prog 19=some f19:=by kernel_rfl
section
variable (cp:pv.afi=true/\tv.afi=true)
include cp
theorem A5(H:c.k=1)(W:b.afi=true)(J:u=.slice ub 0 us.length none)(hs:sv.afi=true)(Y:kn.afi=true)(hr:M[ub]? =some (.cells o 1 (stC us)))(hx:x<us.length)(hl:us.length<=1000)(I:∀Z,kO prog 58 [.agg [pv,tv],.agg (c.cells b u sv kn),.int .i64 x] (M++Z) (.int .i64 0) (M++Z)):
  kO prog 19 [.agg [pv,tv],.agg (c.cells b u sv kn),.int .i64 x] M (Ew (if x= -2 then some [] else if 0<=x then some (us.getD x.toNat []) else none)) M:=by
 have w2:IntKind.i64.wrap (-2)= -2:=rfl;have O:∀s,(AV.str s).afi=true:=fun _=>rfl
 have L:∀k n,(AV.int k n).afi=true:=fun _ _=>rfl
 have K:∀b o n c,(AV.slice b o n c).afi=true:=fun _ _ _ _=>rfl
 subst J;obtain⟨C,B⟩:=cp;have S:qS prog (fR 58 [.agg [pv,tv],.agg (c.cells b (.slice ub 0 us.length none) sv kn),.int .i64 x] (.int .i64 0) (fun N=>∃Z,N=M++Z)):=gC fun N ⟨Z,hZ⟩=>by subst hZ;exact I Z
 clear I;have m:=gL hr;have V :∀Z,(M++Z)[ub]? =some (.cells o 1 (stC us)):=fun Z=>gU hr _
 have h:aa (bd prog) (fun _=>[]) (aX prog) (fR 58 [.agg [pv,tv],.agg (c.cells b (.slice ub 0 us.length none) sv kn),.int .i64 x] (.int .i64 0) (fun N=>∃Z,N=M++Z)) 1 19 [.agg [pv,tv],.agg (c.cells b (.slice ub 0 us.length none) sv kn),.int .i64 x] M=some ⟨Ew (if x= -2 then some [] else if 0<=x then some (us.getD x.toNat []) else none),none,[]⟩:=by
  clear S;by_cases R:x= -2
  .subst R
   simp[-AV.afi,aa,agE,f19,fR,Evc.cells,Ew,H]
  .by_cases G:0<=x
   .obtain⟨k,rfl⟩:∃k:Nat,x=k:=⟨x.toNat,by omega⟩
    have X:k<us.length:=by omega
    obtain⟨y,U⟩:∃y,us[k]? =some y:=⟨_,GT X⟩
    have j:us.getD k []=y:=by simp[List.getD,U]
    have F:(stC us)[k]? =some (.str y):=Mi U;have D:k+1<=(stC us).length:=by rw[lJ];omega
    have h3:¬((k:Int)= -2):=by omega
    simp[-AV.afi,aa,agE,f19,fR,Evc.cells,Ew,H,V,X,F,h3];exact((Ns.1 U).2).symm
   .simp[-AV.afi,aa,agE,f19,fR,Evc.cells,Ew,H,R,G]
 have:=(ar aj (aJ _) S (aM _) h).1;simpa [afh.mem] using this
theorem nn(I:c.k≠1/\c.k≠4)(J:b.afi=true)(W:u.afi=true)(hs:sv.afi=true)(Y:kn.afi=true)(H:∀Z,kO prog 58 [.agg [pv,tv],.agg (c.cells b u sv kn),.int .i64 x] (M++Z) (.int .i64 0) (M++Z)):
  kO prog 19 [.agg [pv,tv],.agg (c.cells b u sv kn),.int .i64 x] M (Ew none) M:=by
 have V:∀s,(AV.str s).afi=true:=fun _=>rfl
 have U:∀k n,(AV.int k n).afi=true:=fun _ _=>rfl
 obtain⟨S,R⟩:=I;obtain⟨O,L⟩:=cp;have X:qS prog (fR 58 [.agg [pv,tv],.agg (c.cells b u sv kn),.int .i64 x] (.int .i64 0) (fun N=>∃Z,N=M++Z)):=gC fun N ⟨Z,hZ⟩=>by subst hZ;exact H Z
 clear H;refine iS X ?_;clear X;simp[-AV.afi,aa,agE,f19,fR,Evc.cells,Ew,S,R]
theorem zy(H:c.k=4)(J:b.afi=true)(W:u.afi=true)(hs:sv.afi=true)(Y:kn.afi=true)(I:∀Z,kO prog 58 [.agg [pv,tv],.agg (c.cells b u sv kn),.int .i64 x] (M++Z) (.int .i64 0) (M++Z)):
  kO prog 19 [.agg [pv,tv],.agg (c.cells b u sv kn),.int .i64 x] M (Ew (if x=1 then some c.x24 else none)) M:=by
 have U:∀s,(AV.str s).afi=true:=fun _=>rfl
 have S:∀k n,(AV.int k n).afi=true:=fun _ _=>rfl
 obtain⟨R,O⟩:=cp;have X:qS prog (fR 58 [.agg [pv,tv],.agg (c.cells b u sv kn),.int .i64 x] (.int .i64 0) (fun N=>∃Z,N=M++Z)):=gC fun N ⟨Z,hZ⟩=>by subst hZ;exact I Z
 clear I;refine iS X ?_;clear X;by_cases V:x=1
 .subst V
  simp[-AV.afi,aa,agE,f19,fR,Evc.cells,Ew,H]
 .simp[-AV.afi,aa,agE,f19,fR,Evc.cells,Ew,H,V]
end
end
end Go.Proofs
