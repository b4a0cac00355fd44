/- See H38. -/
import Derived.Test.YthpgbelancmpjaaGreatDoorH28
set_option linter.all false
set_option maxRecDepth 100000
set_option maxHeartbeats 40000000
namespace Go.Proofs
open Go.Eng
open Tryz
theorem YE(c c' :Evc):eqC c c' =(!df1 c c' &&(decide (c.U=c'.U)&&(decide (c.S=c'.S)&&(!df2 c c' &&decide (c.K=c'.K))))):=by
 rw[Bool.eq_iff_iff];simp only[eqC,evB,df1,df2,Ar,Bool.not_eq_true',Bool.or_eq_false_iff,Bool.not_eq_false',Cs,beq_iff_eq];constructor
 .rintro ⟨⟨⟨⟨⟨⟨⟨⟨⟨⟨R,Q⟩,O⟩,h3⟩,X⟩,N⟩,M⟩,V⟩,G⟩,F⟩,Z⟩
  exact⟨⟨⟨⟨⟨⟨⟨⟨R,Q⟩,N⟩,F⟩,Z⟩,O⟩,by rw[h3]⟩,by rw[X]⟩,h3,X,⟨⟨M,G⟩,by rw[V]⟩,V⟩
 .rintro ⟨⟨⟨⟨⟨⟨⟨⟨R,Q⟩,N⟩,F⟩,Z⟩,O⟩,_⟩,_⟩,h3,X,⟨⟨M,G⟩,_⟩,V⟩
  exact⟨⟨⟨⟨⟨⟨⟨⟨⟨⟨R,Q⟩,O⟩,h3⟩,X⟩,N⟩,M⟩,V⟩,G⟩,F⟩,Z⟩
theorem XG{c c' :Evc}(h:df1 c c' =false):c.U.length=c'.U.length/\c.S.length=c'.S.length:=by simp only[df1,Bool.or_eq_false_iff,Bool.not_eq_false',Cs] at h;omega
theorem XH{c c' :Evc}(h:df2 c c' =false):c.K.length=c'.K.length:=by simp only[df2,Bool.or_eq_false_iff,Bool.not_eq_false',Cs] at h;omega
abbrev cJ(M:Mem) (c c' :Evc) (b u s kn b' u' s' kn' :AV):Mem:=M++[.cells true 0 (c.cells b u s kn),.cells true 0 (c'.cells b' u' s' kn'),.cells true 0 [b,u,s],.cells true 0 [b',u',s']]
def fS(b:Code):List Nat:=if (ae b).contains 7 then [7,7,7] else if (ae b).contains 8 then [8,8,8] else [9,9,9]
theorem Ew:∃Z X V,ah f27=[Z,X,V]/\fS Z=[7,7,7]/\fS X=[8,8,8]/\fS V=[9,9,9]:=⟨_,_,_,rfl,by decide,by decide,by decide⟩
theorem mP:(bn f27).map (fun o=>eW o.toList)=[[0,1,0,4,0,0,51,127],[0,1,0,7,15,0,32,0,224,480,1023],[0,1,0,7,15,0,32,0,224,480,1023,2047],[0,1,3,0,15,31,0,64,192,0,960,1984,4095]]:=by kernel_rfl
section
variable {O:afu}{M:Mem}{c c' :Evc}{b u s kn b' u' s' kn' :AV}{b1 b2 b3:Code}(hb:ah f27=[b1,b2,b3])(hU:TxW M u c.U) (hU' :TxW M u' c'.U)(hS:SfW M s c.S) (hS' :SfW M s' c'.S)(hK:af5 M kn 2 c.K.length (kC c.K)) (hK' :af5 M kn' 2 c'.K.length (kC c'.K))(hKl:c.K.length<=1000)
  (eO:∀{x y L L'},TxW M x L->TxW M y L' ->∀Z,O (.fn 76) [x,y] (M++Z)=some ⟨.bool (decide (L=L')),none,[]⟩)
include hb hU hU' eO in
theorem QR(H:fS b1=[7,7,7])(hl:c.U.length=c'.U.length)(m0:Nat):∃G:Env->Bool->Env×Bool,∀env d,((bt M.length (M.length+1) (M.length+2) (M.length+3) env)/\aa env 7=.int .i64 0)->aO (aL prog) fS O 1100 158 m0 true (.loop b1) ⟨env,(cJ M c c' b u s kn b' u' s' kn'),d⟩=some (if c.U=c'.U then .exit 0 else .ret,⟨(G env d).1,(cJ M c c' b u s kn b' u' s' kn'),(G env d).2⟩)/\(¬c.U=c'.U->aa (G env d).1 4=.bool false)/\(c.U=c'.U->(fun env=>bt M.length (M.length+1) (M.length+2) (M.length+3) env) (G env d).1):=by
 obtain⟨F,j⟩:∃F,bn f27=F :=⟨_,rfl⟩
 have Y :=cR j mP;simp only[bn,cU,f27,lA] at j;subst j;simp only[lB] at Y;simp[ah,aw,f27] at hb;obtain⟨X,V,R⟩:=hb;have q0:(cJ M c c' b u s kn b' u' s' kn')[M.length]? =some (.cells true 0 (c.cells b u s kn)):=by rw[qc];rfl
 have q1:(cJ M c c' b u s kn b' u' s' kn')[M.length+1]? =some (.cells true 0 (c'.cells b' u' s' kn')):=by rw[jz];rfl
 have m:(cJ M c c' b u s kn b' u' s' kn')[M.length+2]? =some (.cells true 0 [b,u,s]):=by rw[jz];rfl
 have W:(cJ M c c' b u s kn b' u' s' kn')[M.length+3]? =some (.cells true 0 [b',u',s']):=by rw[jz];rfl
 have eO:=fun {x y L L'} (h1:TxW M x L) (h2:TxW M y L')=>eO h1 h2 [.cells true 0 (c.cells b u s kn),.cells true 0 (c'.cells b' u' s' kn'),.cells true 0 [b,u,s],.cells true 0 [b',u',s']]
 obtain⟨N,D⟩:=xE (α:=Mem) (cJ M c c' b u s kn b' u' s' kn');have C:∀{k:Nat}{S:afz},M[k]? =some S->N[k]? =some S:=fun {k S} h=>by rw[D,GE (gL h)];exact h
 rw[<-D] at q0 q1 m W |-;simp only[<-D] at eO;have K:∀{k:Nat},k<M.length+4->k<N.length:=fun h=>by rw[D,Nm];simpa using h
 have p0:M.length<N.length:=K (by omega);have p1:M.length+1<N.length:=K (by omega);have p2:M.length+2<N.length:=K (by omega);have p3:M.length+3<N.length:=K (by omega);clear D;have J:=fun N' =>fA hU.1 (t:=48) (.inl rfl) N'
 simp only[Evc.cells] at q0 q1;refine lr (Q:=fun env=>bt M.length (M.length+1) (M.length+2) (M.length+3) env) H hl (by have:=hU.2;omega) (fun env i x y d ⟨a2,a3,a5,a6⟩ ac hx hy=>?_) (fun env d ⟨a2,a3,a5,a6⟩ ac=>?_) (fun z' env h=>?_)
 .have B:i<c.U.length:=gL hx
  have o:i<c'.U.length:=by omega
  obtain⟨k1,o1,rfl,r1⟩:=hU.1.pos (by omega);obtain⟨k2,o2,rfl,r2⟩:=hU'.1.pos (by omega);have g1:=C r1;have I:=C r2;have g3:=gL g1;have g4:=gL I;have wi:IntKind.i64.wrap ((i:Int)+1)=((i+1:Nat):Int):=by rw[af (by have:=hU.2;omega) (by have:=hU.2;omega)];omega
  obtain⟨m1,hm1⟩:=xE (i+1);rw[<-hm1] at wi |-;clear hU hU' eO C K;subst X V R;by_cases Z:x=y
  .rw[if_pos Z]
   simp[-getElem?_pos,-AV.adM,-AV.known,-AV.cells,-ay,-List.all_eq_true,rS,mS,-bB,-bb,-aN,-AV.aft,-afz.aft,bU,bD,dy,bL,cF,eI,bef,Nat.testBit,a5,a6,ac,m,W,p2,p3,B,wi,aK Y.2.1,g1,I,g3,g4,o,stC,hx,hy,Z]
  .rw[if_neg Z]
   have hxb:(x==y)=false:=beq_eq_false_iff_ne.2 Z;simp[-getElem?_pos,-AV.adM,-AV.known,-AV.cells,-ay,-List.all_eq_true,rS,mS,-bB,-bb,-aN,-AV.aft,-afz.aft,bU,bD,dy,bL,cF,eI,bef,Nat.testBit,a5,a6,ac,m,W,p2,p3,B,aK Y.2.1,g1,I,g3,g4,o,stC,hx,hy,Z,hxb]
 .clear hU hU' eO C K
  subst X V R;simp[-getElem?_pos,-AV.adM,-AV.known,-AV.cells,-ay,-List.all_eq_true,mS,a2,a3,a5,a6,ac,m,-ym,J,bt]
 .clear hU hU' eO C K
  subst X V R;simpa [au,bt] using h
include hb hS hS' eO in
theorem QS(hlv:fS b2=[8,8,8])(hl:c.S.length=c'.S.length)(m0:Nat):∃G:Env->Bool->Env×Bool,∀env d,((bt M.length (M.length+1) (M.length+2) (M.length+3) env)/\aa env 8=.int .i64 0)->aO (aL prog) fS O 1100 158 m0 true (.loop b2) ⟨env,(cJ M c c' b u s kn b' u' s' kn'),d⟩=some (if c.S=c'.S then .exit 2 else .ret,⟨(G env d).1,(cJ M c c' b u s kn b' u' s' kn'),(G env d).2⟩)/\(¬c.S=c'.S->aa (G env d).1 4=.bool false)/\(c.S=c'.S->(fun env=>bt M.length (M.length+1) (M.length+2) (M.length+3) env) (G env d).1):=by
 obtain⟨B,B'⟩:∃B,bn f27=B :=⟨_,rfl⟩
 have PP :=cR B' mP;simp only[bn,cU,f27,lA] at B';subst B';simp only[lB] at PP;simp[ah,aw,f27] at hb;obtain⟨R,K,F⟩:=hb;have q0:(cJ M c c' b u s kn b' u' s' kn')[M.length]? =some (.cells true 0 (c.cells b u s kn)):=by rw[qc];rfl
 have q1:(cJ M c c' b u s kn b' u' s' kn')[M.length+1]? =some (.cells true 0 (c'.cells b' u' s' kn')):=by rw[jz];rfl
 have I:(cJ M c c' b u s kn b' u' s' kn')[M.length+2]? =some (.cells true 0 [b,u,s]):=by rw[jz];rfl
 have q3:(cJ M c c' b u s kn b' u' s' kn')[M.length+3]? =some (.cells true 0 [b',u',s']):=by rw[jz];rfl
 have eO:=fun {x y L L'} (h1:TxW M x L) (h2:TxW M y L')=>eO h1 h2 [.cells true 0 (c.cells b u s kn),.cells true 0 (c'.cells b' u' s' kn'),.cells true 0 [b,u,s],.cells true 0 [b',u',s']]
 obtain⟨N,m⟩:=xE (α:=Mem) (cJ M c c' b u s kn b' u' s' kn');have j:∀{k:Nat}{S:afz},M[k]? =some S->N[k]? =some S:=fun {k S} h=>by rw[m,GE (gL h)];exact h
 rw[<-m] at q0 q1 I q3 |-;simp only[<-m] at eO;have D:∀{k:Nat},k<M.length+4->k<N.length:=fun h=>by rw[m,Nm];simpa using h
 have p0:M.length<N.length:=D (by omega);have p1:M.length+1<N.length:=D (by omega);have p2:M.length+2<N.length:=D (by omega);have p3:M.length+3<N.length:=D (by omega);clear m;obtain⟨vC,X⟩:=hS.row;have hl1:=fun N' =>fA X (t:=49) (.inr (.inl rfl)) N'
 obtain⟨s0,vs,s1,H,Y⟩:=hS;obtain⟨_,ws,t1,t2,t3⟩:=hS';simp only[Evc.cells] at q0 q1;refine lr (Q:=fun env=>bt M.length (M.length+1) (M.length+2) (M.length+3) env) hlv hl (by omega) (fun env i x y d ⟨a2,a3,a5,a6⟩ ac hx hy=>?_) (fun env d ⟨a2,a3,a5,a6⟩ ac=>?_) (fun z' env h=>?_)
 .have W:i<c.S.length:=gL hx
  have J:i<c'.S.length:=by omega
  obtain⟨vx,V⟩:∃t,vs[i]? =some t:=⟨_,LB (by omega)⟩
  obtain⟨wy,U⟩:∃t,ws[i]? =some t:=⟨_,LB (by omega)⟩
  have e:=eO (Y i vx x V hx) (t3 i wy y U hy);have rf:∀{v:AV}{es n:Nat}{C:List AV},af5 M v es n C->v.aft (fun b=>decide (b<N.length))=true:=fun h=>by
   rcases h with⟨rfl,_⟩ | ⟨b,o,rfl,h⟩
   .rfl
   .have:=gL h
    simp only[AV.aft,Cs];omega
  have f1:=rf (Y i vx x V hx).1;have f2:=rf (t3 i wy y U hy).1;obtain⟨k1,o1,rfl,r1⟩:=H.pos (by omega);obtain⟨k2,o2,rfl,r2⟩:=t2.pos (by omega);have g1:=j r1;have g2:=j r2;have g3:=gL g1;have g4:=gL g2;have wi:IntKind.i64.wrap ((i:Int)+1)=((i+1:Nat):Int):=by rw[af];omega
  obtain⟨m1,hm1⟩:=xE (i+1);rw[<-hm1] at wi |-;clear H Y t2 t3 eO j D X;subst R K F;by_cases Z:x=y
  .rw[if_pos Z]
   rw[decide_eq_true Z] at e;simp[-getElem?_pos,-AV.adM,-AV.known,-AV.cells,-ay,-List.all_eq_true,rS,mS,-bB,-bb,-aN,-AV.aft,-afz.aft,bU,bD,dy,bL,cF,eI,bef,Nat.testBit,a5,a6,ac,I,q3,p2,p3,W,wi,aK PP.2.2.1,g1,g2,g3,g4,J,V,U,e,f1,f2,Z]
  .rw[if_neg Z]
   rw[decide_eq_false Z] at e;simp[-getElem?_pos,-AV.adM,-AV.known,-AV.cells,-ay,-List.all_eq_true,rS,mS,-bB,-bb,-aN,-AV.aft,-afz.aft,bU,bD,dy,bL,cF,eI,bef,Nat.testBit,a5,a6,ac,I,q3,p2,p3,W,aK PP.2.2.1,g1,g2,g3,g4,J,V,U,e,f1,f2,Z]
 .clear H Y t2 t3 eO j D X
  subst R K F;simp[-getElem?_pos,-AV.adM,-AV.known,-AV.cells,-ay,-List.all_eq_true,mS,a2,a3,a5,a6,ac,I,-ym,hl1,bt]
 .clear H Y t2 t3 eO j D X
  subst R K F;simpa [au,bt] using h
include hb hK hK' hKl eO in
theorem QT(H:fS b3=[9,9,9])(hl:c.K.length=c'.K.length)(m0:Nat):∃G:Env->Bool->Env×Bool,∀env d,((bt M.length (M.length+1) (M.length+2) (M.length+3) env)/\aa env 9=.int .i64 0)->aO (aL prog) fS O 1100 158 m0 true (.loop b3) ⟨env,(cJ M c c' b u s kn b' u' s' kn'),d⟩=some (if c.K=c'.K then .exit 4 else .ret,⟨(G env d).1,(cJ M c c' b u s kn b' u' s' kn'),(G env d).2⟩)/\(¬c.K=c'.K->aa (G env d).1 4=.bool false)/\(c.K=c'.K->(fun env=>bt M.length (M.length+1) (M.length+2) (M.length+3) env) (G env d).1):=by
 obtain⟨F,Y⟩:∃F,bn f27=F :=⟨_,rfl⟩
 have W :=cR Y mP;simp only[bn,cU,f27,lA] at Y;subst Y;simp only[lB] at W;simp[ah,aw,f27] at hb;obtain⟨X,V,U⟩:=hb;have D:(cJ M c c' b u s kn b' u' s' kn')[M.length]? =some (.cells true 0 (c.cells b u s kn)):=by rw[qc];rfl
 have j:(cJ M c c' b u s kn b' u' s' kn')[M.length+1]? =some (.cells true 0 (c'.cells b' u' s' kn')):=by rw[jz];rfl
 have q2:(cJ M c c' b u s kn b' u' s' kn')[M.length+2]? =some (.cells true 0 [b,u,s]):=by rw[jz];rfl
 have q3:(cJ M c c' b u s kn b' u' s' kn')[M.length+3]? =some (.cells true 0 [b',u',s']):=by rw[jz];rfl
 have eO:=fun {x y L L'} (h1:TxW M x L) (h2:TxW M y L')=>eO h1 h2 [.cells true 0 (c.cells b u s kn),.cells true 0 (c'.cells b' u' s' kn'),.cells true 0 [b,u,s],.cells true 0 [b',u',s']]
 obtain⟨N,C⟩:=xE (α:=Mem) (cJ M c c' b u s kn b' u' s' kn');have B:∀{k:Nat}{S:afz},M[k]? =some S->N[k]? =some S:=fun {k S} h=>by rw[C,GE (gL h)];exact h
 rw[<-C] at D j q2 q3 |-;simp only[<-C] at eO;have R:∀{k:Nat},k<M.length+4->k<N.length:=fun h=>by rw[C,Nm];simpa using h
 have p0:M.length<N.length:=R (by omega);have p1:M.length+1<N.length:=R (by omega);have p2:M.length+2<N.length:=R (by omega);have p3:M.length+3<N.length:=R (by omega);clear C;have J:=fun N' =>fA hK (t:=59) (.inr (.inr rfl)) N'
 simp only[Evc.cells] at D j;refine lr (Q:=fun env=>bt M.length (M.length+1) (M.length+2) (M.length+3) env) H hl (by omega) (fun env i x y d ⟨a2,a3,a5,a6⟩ ac hx hy=>?_) (fun env d ⟨a2,a3,a5,a6⟩ ac=>?_) (fun z' env h=>?_)
 .have o:i<c.K.length:=gL hx
  have m:i<c'.K.length:=by omega
  obtain⟨k1,o1,rfl,r1⟩:=hK.pos (by omega);obtain⟨k2,o2,rfl,r2⟩:=hK'.pos (by omega);have g1:=B r1;have I:=B r2;have g3:=gL g1;have g4:=gL I;have x1:=(Ly hx).1;have x2:=(Ly hy).1;have x3:i*2+2<=(kC c.K).length:=by rw[fU];omega
  have x4:i*2+2<=(kC c'.K).length:=by rw[fU];omega
  have wi:IntKind.i64.wrap ((i:Int)+1)=((i+1:Nat):Int):=by rw[af];omega
  obtain⟨m1,hm1⟩:=xE (i+1);rw[<-hm1] at wi |-;clear hK hK' eO B R;subst X V U;by_cases Z:x=y
  .rw[if_pos Z]
   simp[-getElem?_pos,-AV.adM,-AV.known,-AV.cells,-ay,-List.all_eq_true,rS,mS,-bB,-bb,-aN,-AV.aft,-afz.aft,bU,bD,dy,bL,cF,eI,bef,Nat.testBit,a2,a3,ac,D,j,p0,p1,o,wi,aK W.2.2.2,g1,I,g3,g4,m,x1,x2,x3,x4,mJ,Z]
  .rw[if_neg Z]
   have hxb:((x.1==y.1)&&(x.2==y.2))=false:=by rw[Bool.eq_false_iff];intro h;rw[Ar,beq_iff_eq,beq_iff_eq] at h;exact Z (Prod.ext h.1 h.2)
   simp[-getElem?_pos,-AV.adM,-AV.known,-AV.cells,-ay,-List.all_eq_true,rS,mS,-bB,-bb,-aN,-AV.aft,-afz.aft,bU,bD,dy,bL,cF,eI,bef,Nat.testBit,a2,a3,ac,D,j,p0,p1,o,aK W.2.2.2,g1,I,g3,g4,m,x1,x2,x3,x4,mJ,Z,hxb]
 .clear hK hK' eO B R
  subst X V U;simp[-getElem?_pos,-AV.adM,-AV.known,-AV.cells,-ay,-List.all_eq_true,mS,a2,a3,a5,a6,ac,D,-ym,J,bt]
 .clear hK hK' eO B R
  subst X V U;simpa [au,bt] using h
include hb hU hU' hS hS' hK hK' hKl eO in
theorem Nw(hl1:fS b1=[7,7,7])(Z':fS b2=[8,8,8])(hl3:fS b3=[9,9,9])(hB:TxW M b c.B)(H :TxW M b' c'.B):∃new,ao (aL prog) fS (bq prog) O 1100 27 [.agg (c.cells b u s kn),.agg (c'.cells b' u' s' kn')] M=some (.bool (eqC c c'),M++new):=by
 have hG:bq prog 27=some f27:=by kernel_rfl
 obtain⟨vC,I⟩:=hS.row;obtain⟨vC',acu⟩:=hS'.row;have o:(cJ M c c' b u s kn b' u' s' kn')[M.length]? =some (.cells true 0 (c.cells b u s kn)):=by rw[qc];rfl
 have m:(cJ M c c' b u s kn b' u' s' kn')[M.length+1]? =some (.cells true 0 (c'.cells b' u' s' kn')):=by rw[jz];rfl
 have j:(cJ M c c' b u s kn b' u' s' kn')[M.length+2]? =some (.cells true 0 [b,u,s]):=by rw[jz];rfl
 have Y:(cJ M c c' b u s kn b' u' s' kn')[M.length+3]? =some (.cells true 0 [b',u',s']):=by rw[jz];rfl
 have eB:=eO hB H [.cells true 0 (c.cells b u s kn),.cells true 0 (c'.cells b' u' s' kn'),.cells true 0 [b,u,s],.cells true 0 [b',u',s']];obtain⟨F1,H'⟩:=dY (β:=Env) (p:=fun env _=>bt M.length (M.length+1) (M.length+2) (M.length+3) env) (q:=fun env d r=>cr (aL prog) O 158 M.length bj bj.toList ⟨env,(cJ M c c' b u s kn b' u' s' kn'),d⟩=some ⟨r,(cJ M c c' b u s kn b' u' s' kn'),d⟩/\(fun env=>bt M.length (M.length+1) (M.length+2) (M.length+3) env) r/\aa r 72=.bool (df1 c c')) (fun env d h=>by rw[S0];obtain⟨e0,s0,k0,b0⟩:=Tb (O:=O) (m0:=M.length) (ops:=bj) (d:=d) h o m j Y;obtain⟨e1,s1,k1,b1⟩:=Tc (O:=O) (m0:=M.length) (ops:=bj) (d:=d) k0 o m j Y Tn b0;obtain⟨e2,s2,k2,b2⟩:=Td (O:=O) (m0:=M.length) (ops:=bj) (d:=d) k1 o m j Y To b1;obtain⟨e3,s3,k3,b3⟩:=Te (O:=O) (m0:=M.length) (ops:=bj) (d:=d) k2 o m j Y Tp b2;obtain⟨e4,s4,k4,b4⟩:=Tf (O:=O) (m0:=M.length) (ops:=bj) (d:=d) k3 o m j Y Tq b3;obtain⟨e5,s5,k5,b5⟩:=Tg (O:=O) (m0:=M.length) (ops:=bj) (d:=d) k4 o m j Y Ts b4 eB;obtain⟨e6,s6,k6,b6⟩:=Th (O:=O) (m0:=M.length) (ops:=bj) (d:=d) k5 o m j Y Tt b5 (fA hU.1 (.inl rfl)) (fA hU'.1 (.inl rfl));obtain⟨e7,s7,k7,b7⟩:=Ti (O:=O) (m0:=M.length) (ops:=bj) (d:=d) k6 o m j Y Tu b6 (fA I (.inr (.inl rfl))) (fA acu (.inr (.inl rfl)));exact⟨e7,cg s0 (cg s1 (cg s2 (cg s3 (cg s4 (cg s5 (cg s6 s7)))))),k7,b7⟩)
 obtain⟨F2,J'⟩:=dY (β:=Env) (p:=fun env _=>bt M.length (M.length+1) (M.length+2) (M.length+3) env) (q:=fun env d r=>cr (aL prog) O 158 M.length dG dG.toList ⟨env,(cJ M c c' b u s kn b' u' s' kn'),d⟩=some ⟨r,(cJ M c c' b u s kn b' u' s' kn'),d⟩/\(fun env=>bt M.length (M.length+1) (M.length+2) (M.length+3) env) r/\aa r 136=.bool (df2 c c')) (fun env d h=>by rw[Ta];obtain⟨e0,s0,k0,b0⟩:=Tj (O:=O) (m0:=M.length) (ops:=dG) (d:=d) h o m j Y;obtain⟨e1,s1,k1,b1⟩:=Tk (O:=O) (m0:=M.length) (ops:=dG) (d:=d) k0 o m j Y Tv b0;obtain⟨e2,s2,k2,b2⟩:=Tl (O:=O) (m0:=M.length) (ops:=dG) (d:=d) k1 o m j Y Tw b1 (fA hK (.inr (.inr rfl))) (fA hK' (.inr (.inr rfl)));exact⟨e2,cg s0 (cg s1 s2),k2,b2⟩)
 have Q:=fun env d h=>(H' env d h).1
 have A2:=fun env d h=>(H' env d h).2.1.1
 have A3:=fun env d h=>(H' env d h).2.1.2.1
 have A5:=fun env d h=>(H' env d h).2.1.2.2.1
 have A6:=fun env d h=>(H' env d h).2.1.2.2.2
 have A7:=fun env d h=>(H' env d h).2.2
 have B1:=fun env d h=>(J' env d h).1
 have B2:=fun env d h=>(J' env d h).2.1.1
 have B3:=fun env d h=>(J' env d h).2.1.2.1
 have B5:=fun env d h=>(J' env d h).2.1.2.2.1
 have B6:=fun env d h=>(J' env d h).2.1.2.2.2
 have B7:=fun env d h=>(J' env d h).2.2
 clear H' J' o m j Y eB;have cb:=hB.1.ck;have cu:=hU.1.ck;have cs:=I.ck;have cn:=hK.ck;have N :=H.1.ck;have G :=hU'.1.ck;have F :=acu.ck;have cn' :=hK'.ck;have kb:=hB.1.kn;have ku:=hU.1.kn;have ks:=I.kn;have kb' :=H.1.kn;have ku' :=hU'.1.kn;have ks' :=acu.kn;have rb:=hB.1.refs;have ru:=hU.1.refs;have rs:=I.refs;have D :=H.1.refs;have C :=hU'.1.refs;have y :=acu.refs;have hcs:∀s,(AV.str s).adM=true:=fun _=>rfl
 have hci:∀k n,(AV.int k n).adM=true:=fun _ _=>rfl
 obtain⟨os',B'⟩:∃os',bn f27=os' :=⟨_,rfl⟩
 have PP :=cR B' mP;simp only[bn,cU,f27,lA] at B';subst B';simp only[lB] at PP;have T':=PP.1;obtain⟨x2,X⟩:=xE bj;obtain⟨x3,R⟩:=xE dG;rw[<-X] at Q;rw[<-R] at B1;have X:=X;simp only[bj,f27] at X;simp only[dG,f27] at R;rw[YE];have e1:=fun h=>QR (M:=M) (c:=c) (c' :=c') (b:=b) (u:=u) (s:=s) (kn:=kn) (b' :=b') (u' :=u') (s' :=s') (kn' :=kn') (O:=O) hb hU hU' eO hl1 h M.length
 have e2:=fun h=>QS (M:=M) (c:=c) (c' :=c') (b:=b) (u:=u) (s:=s) (kn:=kn) (b' :=b') (u' :=u') (s' :=s') (kn' :=kn') (O:=O) hb hS hS' eO Z' h M.length
 have e3:=fun h=>QT (M:=M) (c:=c) (c' :=c') (b:=b) (u:=u) (s:=s) (kn:=kn) (b' :=b') (u' :=u') (s' :=s') (kn' :=kn') (O:=O) hb hK hK' hKl eO hl3 h M.length
 simp[ah,aw,f27] at hb;obtain⟨hb1,hb2,hb3⟩:=hb;subst hb1 hb2 hb3;clear hl1 Z' hl3 eO hU hU' hS hS' hK hK' hKl hB H I acu;obtain⟨d1,hd1⟩:=xE (df1 c c');obtain⟨d2,hd2⟩:=xE (df2 c c');rw[<-hd1] at A7 |-;rw[<-hd2] at B7 |-;cases d1
 .obtain⟨lu,ls⟩:=XG hd1.symm
  obtain⟨G1,Z⟩:=e1 lu;have W:=fun env d h=>(Z env d h).1
  by_cases J:c.U=c'.U
  .have C2:=fun env d h=>((Z env d h).2.2 J).1
   have C3:=fun env d h=>((Z env d h).2.2 J).2.1
   have C5:=fun env d h=>((Z env d h).2.2 J).2.2.1
   have C6:=fun env d h=>((Z env d h).2.2 J).2.2.2
   simp only[if_pos J] at W;obtain⟨G2,V⟩:=e2 ls;have D1:=fun env d h=>(V env d h).1
   by_cases hs:c.S=c'.S
   .have D2:=fun env d h=>((V env d h).2.2 hs).1
    have D3:=fun env d h=>((V env d h).2.2 hs).2.1
    have D5:=fun env d h=>((V env d h).2.2 hs).2.2.1
    have D6:=fun env d h=>((V env d h).2.2 hs).2.2.2
    simp only[if_pos hs] at D1;cases d2
    .obtain⟨G3,hG3⟩:=e3 (XH hd2.symm)
     have E1:=fun env d h=>(hG3 env d h).1
     by_cases hk:c.K=c'.K
     .simp only[if_pos hk] at E1
      clear Z V hG3 e1 e2 e3;rw[decide_eq_true J,decide_eq_true hs,decide_eq_true hk];simp only[cJ,Evc.cells] at Q B1 W D1 E1 |-;simp (maxDischargeDepth:=12) [-getElem?_pos,-AV.adM,-AV.known,-AV.cells,-ay,-List.all_eq_true,vS,rS,mS,-bB,-bb,-aN,-AV.aft,-afz.aft,cW,bU,bD,dy,bL,cF,eI,bef,Nat.testBit,bt,aK T',ao,hG,f27,<-X,<-R,cb,cu,cs,N,G,F,rb,ru,rs,D,C,y,Q,A2,A3,A5,A6,A7,W,C2,C3,C5,C6,D1,D2,D3,D5,D6,B1,B2,B3,B5,B6,B7,E1]
     .have E4:=fun env d h=>(hG3 env d h).2.1 hk
      simp only[if_neg hk] at E1;clear Z V hG3 e1 e2 e3;rw[decide_eq_true J,decide_eq_true hs,decide_eq_false hk];simp only[cJ,Evc.cells] at Q B1 W D1 E1 E4 |-;simp (maxDischargeDepth:=12) [-getElem?_pos,-AV.adM,-AV.known,-AV.cells,-ay,-List.all_eq_true,vS,rS,mS,-bB,-bb,-aN,-AV.aft,-afz.aft,cW,bU,bD,dy,bL,cF,eI,bef,Nat.testBit,bt,aK T',ao,hG,f27,<-X,<-R,cb,cu,cs,N,G,F,rb,ru,rs,D,C,y,Q,A2,A3,A5,A6,A7,W,C2,C3,C5,C6,D1,D2,D3,D5,D6,B1,B2,B3,B5,B6,B7,E1,E4]
    .clear Z V e1 e2 e3
     rw[decide_eq_true J,decide_eq_true hs];simp only[cJ,Evc.cells] at Q B1 W D1 |-;simp (maxDischargeDepth:=12) [-getElem?_pos,-AV.adM,-AV.known,-AV.cells,-ay,-List.all_eq_true,vS,rS,mS,-bB,-bb,-aN,-AV.aft,-afz.aft,cW,bU,bD,dy,bL,cF,eI,bef,Nat.testBit,bt,aK T',ao,hG,f27,<-X,<-R,cb,cu,cs,N,G,F,rb,ru,rs,D,C,y,Q,A2,A3,A5,A6,A7,W,C2,C3,C5,C6,D1,D2,D3,D5,D6,B1,B7]
   .have D4:=fun env d h=>(V env d h).2.1 hs
    simp only[if_neg hs] at D1;clear Z V e1 e2 e3;rw[decide_eq_true J,decide_eq_false hs];simp only[cJ,Evc.cells] at Q W D1 D4 |-;simp (maxDischargeDepth:=12) [-getElem?_pos,-AV.adM,-AV.known,-AV.cells,-ay,-List.all_eq_true,vS,rS,mS,-bB,-bb,-aN,-AV.aft,-afz.aft,cW,bU,bD,dy,bL,cF,eI,bef,Nat.testBit,bt,aK T',ao,hG,f27,<-X,<-R,cb,cu,cs,N,G,F,rb,ru,rs,D,C,y,Q,A2,A3,A5,A6,A7,W,C2,C3,C5,C6,D1,D4]
  .have C4:=fun env d h=>(Z env d h).2.1 J
   simp only[if_neg J] at W;clear Z e1 e2 e3;rw[decide_eq_false J];simp only[cJ,Evc.cells] at Q W C4 |-;simp (maxDischargeDepth:=12) [-getElem?_pos,-AV.adM,-AV.known,-AV.cells,-ay,-List.all_eq_true,vS,rS,mS,-bB,-bb,-aN,-AV.aft,-afz.aft,cW,bU,bD,dy,bL,cF,eI,bef,Nat.testBit,bt,aK T',ao,hG,f27,<-X,<-R,cb,cu,cs,N,G,F,rb,ru,rs,D,C,y,Q,A2,A3,A5,A6,A7,W,C4]
 .clear e1 e2 e3
  simp only[cJ,Evc.cells] at Q |-;simp (maxDischargeDepth:=12) [-getElem?_pos,-AV.adM,-AV.known,-AV.cells,-ay,-List.all_eq_true,vS,rS,mS,-bB,-bb,-aN,-AV.aft,-afz.aft,cW,bU,bD,dy,bL,cF,eI,bef,Nat.testBit,bt,aK T',ao,hG,f27,<-X,<-R,cb,cu,cs,N,G,F,rb,ru,rs,D,C,y,Q,A7]
end
theorem HX{M:Mem}{e H :List AV}{c c' :Evc}(h:EvW M e c)(h' :EvW M H c'):bz prog 27 [.agg e,.agg H] M (.bool (eqC c c')) M:=by obtain⟨b,u,s,kn,rfl,U,S,h3,R,Q⟩:=h;obtain⟨o,m,j,O,rfl,N,K,G,F,Y⟩:=h';obtain⟨W,J,I,D,X,C,V⟩:=Ew;obtain⟨B,y⟩:=Nw D S K h3 G R F Q (fun a b Z=>yW (.inr rfl) a b Z) X C V U N;exact bz.forget rfl (aX ak (aI _) (yX M) (aQ _) y)
end Go.Proofs
namespace Go.Eng
def jK{α:Type}(err:Nat->α->Option AV):Nat->List α->Option AV
 |_,[]=>none
 |i,x::l=>match err i x with
  |some v=>some v
  |none=>jK err (i+1) l
theorem pV{T:TypeId->Option TyI}{lv:Code->List Nat}{O:afu}{K N m0 ex cnt res:Nat}{b:Code}{M:Mem}{α:Type}{L:List α}{err:Nat->α->Option AV}{Q:Env->Prop}(H:lv b=[cnt,cnt,cnt])(J:L.length<K)(hs:∀env i x d,Q env->aa env cnt=.int .i64 ((i:Nat):Int)->L[i]? =some x->∃X,aO T lv O K N m0 true b ⟨env,M,d⟩=some (if err i x=none then .normal else .ret,X)/\(err i x=none->aa X.env cnt=.int .i64 ((i+1:Nat):Int))/\(∀v,err i x=some v->aa X.env res=v)/\X.mem=M)(W:∀env d,Q env->aa env cnt=.int .i64 (L.length:Int)->∃V,aO T lv O K N m0 true b ⟨env,M,d⟩=some (.exit ex,⟨V,M,d⟩)/\Q V)(I:∀Z env,Q Z->Q (au [cnt,cnt,cnt] (ae b) Z env)/\aa (au [cnt,cnt,cnt] (ae b) Z env) cnt=aa env cnt):
  ∃G:Env->Bool->Env×Bool,∀env d,(Q env/\aa env cnt=.int .i64 0)->aO T lv O K N m0 true (.loop b) ⟨env,M,d⟩=some (if jK err 0 L=none then .exit ex else .ret,⟨(G env d).1,M,(G env d).2⟩)/\(∀v,jK err 0 L=some v->aa (G env d).1 res=v)/\(jK err 0 L=none->Q (G env d).1):=by
 have o:∀(Z:Env) (U:Nat),Q Z->∀(k i:Nat) (env:Env) (d:Bool) (F:Nat),i+k=L.length->k<F->aa env cnt=.int .i64 (i:Int)->
   ∃r:Env×Bool,ga [cnt,cnt,cnt] (ae b) Z U (aO T lv O K N m0 true b) F ⟨au [cnt,cnt,cnt] (ae b) Z env,M,d⟩=some (if jK err i (L.drop i)=none then .exit ex else .ret,⟨r.1,M,r.2⟩)/\(∀v,jK err i (L.drop i)=some v->aa r.1 res=v)/\(jK err i (L.drop i)=none->Q r.1):=by
  intro Z U u k;induction k with
  |zero=>
   intro i env d F m j S;obtain⟨F,rfl⟩:∃k,F=k+1:=⟨F-1,by omega⟩
   obtain rfl:i=L.length:=by omega
   obtain⟨R,D⟩:=I Z env u;obtain⟨V,C,B⟩:=W (au [cnt,cnt,cnt] (ae b) Z env) d R (D.trans S);rw[M6 (Es _),show jK err L.length ([]:List α)=none from rfl,if_pos rfl];exact⟨(V,d),by rw[ga,C],fun v h=>(by cases h),fun _=>B⟩
  |succ k ih=>
   intro i env d F m j S;obtain⟨F,rfl⟩:∃k,F=k+1:=⟨F-1,by omega⟩
   obtain⟨R,D⟩:=I Z env u;obtain⟨x,Y,y⟩:∃x,L[i]? =some x/\L.drop i=x::L.drop (i+1):=⟨_,LB (by omega),LU (by omega)⟩
   obtain⟨X,t1,t2,t3,t4⟩:=hs (au [cnt,cnt,cnt] (ae b) Z env) i x d R (D.trans S) Y;rw[y,jK,ga,t1];cases hxe:err i x with
   |none=>
    simp only[if_true];have hs:nH [cnt,cnt,cnt] (ae b) Z U X =⟨au [cnt,cnt,cnt] (ae b) Z X.env,X.mem,X.afS⟩:=by simp[nH,xv]
    rw[hs,t4];exact ih (i+1) X.env X.afS F (by omega) (by omega) (t2 hxe)
   |some w=>
    simp only[reduceCtorEq,if_false];refine⟨(X.env,X.afS),?_,fun v h=>?_,fun h=>(by cases h)⟩
    .rw[<-t4]
    .cases h
     exact t3 _ hxe
 exact dY (β:=Env×Bool) (p:=fun env _=>Q env/\aa env cnt=.int .i64 0) (q:=fun env d r=>aO T lv O K N m0 true (.loop b) ⟨env,M,d⟩=some (if jK err 0 L=none then .exit ex else .ret,⟨r.1,M,r.2⟩)/\(∀v,jK err 0 L=some v->aa r.1 res=v)/\(jK err 0 L=none->Q r.1)) fun env d ⟨C,B⟩=>by obtain⟨r,r1,r2⟩:=o env M.length C L.length 0 env d K (by omega) J B;refine⟨r,?_,r2⟩;rw[bw,H];exact r1
end Go.Eng
namespace Go.Proofs
open Go.Eng
open Tryz
def Rk(c:UInt8):Bool:=(decide ((97:Int)<=(c.toNat:Int))&&decide ((c.toNat:Int)<=122))||(decide ((65:Int)<=(c.toNat:Int))&&decide ((c.toNat:Int)<=90))
def Q7(i:Nat)(c:UInt8):Bool:= !Rk c&&(decide (i=0)||((decide ((c.toNat:Int)<48)||decide ((57:Int)<(c.toNat:Int)))&& !decide ((c.toNat:Int)=95)))
def Rt:Nat->List UInt8->Bool
 |_,[]=>true
 |i,c::l=> !Q7 i c&&Rt (i+1) l
theorem CQ(v:AV):∀(i:Nat) (l:List UInt8),jK (fun i c=>if Q7 i c=true then some v else none) i l=if Rt i l=true then none else some v
 |_,[]=>rfl
 |i,c::l=>by rw[jK,Rt,CQ v (i+1) l];cases Q7 i c<;>simp
def jA(s:List UInt8):Bool:= !(s==[])&&(decide (s.length<=32)&&Rt 0 s)
noncomputable def pH:Array Oper:=match f63.body with
 |some (.seq _ (.seq (.seq _ (.block _ (.loop (.seq _ (.seq (.block _ (.seq (.region _ ops _) _)) _))))) _))=>ops
 |_=> #[]
noncomputable def lg:Array Oper:=match f63.body with
 |some (.seq _ (.seq (.seq _ (.block _ (.loop (.seq _ (.seq (.block _ (.seq _ (.seq (.region _ ops _) _))) _))))) _))=>ops
 |_=> #[]
noncomputable def pd:Array Oper:=match f71.body with
 |some (.seq _ (.seq _ (.seq (.seq _ (.block _ (.loop (.seq _ (.seq _ (.seq (.block _ (.seq _ (.seq _ (.seq (.region _ ops _) _)))) _)))))) _)))=>ops
 |_=> #[]
noncomputable def lf:Array Oper:=match f71.body with
 |some (.seq _ (.seq _ (.seq (.seq _ (.block _ (.loop (.seq _ (.seq _ (.seq (.block _ (.seq _ (.seq _ (.seq _ (.seq (.region _ ops _) _))))) _)))))) _)))=>ops
 |_=> #[]
section
variable {O:afu}{m0 i:Nat}{env:Env}{mem:Mem}{d:Bool}{s:List UInt8}{c:UInt8}
section
variable (h0:aa env 0=.str s)(h3:aa env 3=.int .i64 (i:Int))
include h0 h3
theorem SQ(hc:s[i]? =some c):
  ∃Z,cr (aL prog) O 64 m0 pH pH.toList ⟨env,mem,d⟩=some ⟨Z,mem,d⟩/\aa Z 0=.str s/\aa Z 3=.int .i64 (i:Int)/\aa Z 4=.bool (Rk c):=by
 obtain⟨X,hc⟩:=Hi.1 hc;unfold Rk;by_cases V:(97:Int)<=(c.toNat:Int)<;>by_cases U:(c.toNat:Int)<=122<;>by_cases S:(65:Int)<=(c.toNat:Int)<;>by_cases R:(c.toNat:Int)<=90<;>
  simp[pH,f63,h0,h3,X,hc,V,U,S,R]
theorem SR(h4:aa env 4=.bool (Rk c))(hc:s[i]? =some c):
  ∃Z,cr (aL prog) O 64 m0 lg lg.toList ⟨env,mem,d⟩=some ⟨Z,mem,d⟩/\aa Z 0=.str s/\aa Z 3=.int .i64 (i:Int)/\aa Z 56=.bool (Q7 i c):=by
 obtain⟨X,hc⟩:=Hi.1 hc;unfold Q7;obtain⟨l,V⟩:=xE (Rk c);rw[<-V] at h4 |-;cases l
 .by_cases z:i=0
  .simp[lg,f63,h0,h3,h4,z]
  .by_cases U:(c.toNat:Int)<48<;>by_cases S:(57:Int)<(c.toNat:Int)<;>by_cases R:(c.toNat:Int)=95<;>
    simp[lg,f63,h0,h3,h4,X,hc,z,U,S,R]
 .simp[lg,f63,h0,h3,h4]
end
section
variable (h4:aa env 4=.int .u8 (c.toNat:Int))(h0:aa env 0=.str s)(h3:aa env 3=.int .i64 (i:Int))(h14:aa env 14=.int .i64 (s.length:Int))(h15:aa env 15=.int .i64 (i:Int))
include h4 h0 h3 h14 h15
theorem Sp:
  ∃Z,cr (aL prog) O 54 m0 pd pd.toList ⟨env,mem,d⟩=some ⟨Z,mem,d⟩/\aa Z 0=.str s/\aa Z 3=.int .i64 (i:Int)/\aa Z 4=.int .u8 (c.toNat:Int)/\aa Z 14=.int .i64 (s.length:Int)/\aa Z 15=.int .i64 (i:Int)/\aa Z 5=.bool (Rk c):=by
 unfold Rk;by_cases X:(97:Int)<=(c.toNat:Int)<;>by_cases V:(c.toNat:Int)<=122<;>by_cases U:(65:Int)<=(c.toNat:Int)<;>by_cases S:(c.toNat:Int)<=90<;>
  simp[pd,f71,h0,h3,h4,h14,h15,X,V,U,S]
theorem Sq(h5:aa env 5=.bool (Rk c)):
  ∃Z,cr (aL prog) O 54 m0 lf lf.toList ⟨env,mem,d⟩=some ⟨Z,mem,d⟩/\aa Z 0=.str s/\aa Z 14=.int .i64 (s.length:Int)/\aa Z 15=.int .i64 (i:Int)/\aa Z 52=.bool (Q7 i c):=by
 unfold Q7;obtain⟨l,X⟩:=xE (Rk c);rw[<-X] at h5 |-;cases l
 .by_cases z:i=0
  .simp[lf,f71,h0,h3,h5,h14,h15,z]
  .by_cases V:(c.toNat:Int)<48<;>by_cases U:(57:Int)<(c.toNat:Int)<;>by_cases S:(c.toNat:Int)=95<;>
    simp[lf,f71,h0,h3,h4,h5,h14,h15,z,V,U,S]
 .simp[lf,f71,h0,h5,h14,h15]
end
end
section
variable (s:List UInt8)(hs:s.length<=1000)(M:Mem)
include s hs M
theorem ud:bz prog 63 [.str s] M (.bool (jA s)) M:=by
 have C:bq prog 63=some f63:=by kernel_rfl
 obtain⟨b,R⟩:∃b,ah f63=[b]:=⟨_,rfl⟩
 obtain⟨x4,V⟩:=xE pH;obtain⟨x5,U⟩:=xE lg;obtain⟨G,S⟩:=pV (T:=aL prog) (lv:=fun _=>[3,3,3]) (O:=bC) (K:=1100) (N:=64) (m0:=M.length) (ex:=0) (cnt:=3) (res:=2) (b:=b) (M:=M) (L:=s) (err:=fun i c=>if Q7 i c=true then some (.bool false) else none) (Q:=fun env=>aa env 0=.str s) rfl (by omega)
  (fun env i c d B y o=>by
   have F:i<s.length:=gL o;have Y:IntKind.i64.wrap ((i:Int)+1)=((i+1:Nat):Int):=by rw[af];omega
   obtain⟨F1,Z⟩:=dY (β:=Env) (p:=fun env _=>aa env 0=.str s/\aa env 3=.int .i64 (i:Int)) (q:=fun env d r=>cr (aL prog) bC 64 M.length pH pH.toList ⟨env,M,d⟩=some ⟨r,M,d⟩/\aa r 0=.str s/\aa r 3=.int .i64 (i:Int)/\aa r 4=.bool (Rk c)) (fun env d h=>SQ h.1 h.2 o);obtain⟨F2,X⟩:=dY (β:=Env) (p:=fun env _=>aa env 0=.str s/\aa env 3=.int .i64 (i:Int)/\aa env 4=.bool (Rk c)) (q:=fun env d r=>cr (aL prog) bC 64 M.length lg lg.toList ⟨env,M,d⟩=some ⟨r,M,d⟩/\aa r 0=.str s/\aa r 3=.int .i64 (i:Int)/\aa r 56=.bool (Q7 i c)) (fun env d h=>SR h.1 h.2.1 h.2.2 o);rw[<-V] at Z;rw[<-U] at X;have W:=fun env d h=>(Z env d h).1
   have J:=fun env d h=>(Z env d h).2.1
   have I:=fun env d h=>(Z env d h).2.2.1
   have H:=fun env d h=>(Z env d h).2.2.2
   have B1:=fun env d h=>(X env d h).1
   have B2:=fun env d h=>(X env d h).2.1
   have B3:=fun env d h=>(X env d h).2.2.1
   have u:=fun env d h=>(X env d h).2.2.2
   clear Z X;have V:=V;have U:=U;simp only[pH,f63] at V;simp only[lg,f63] at U;simp[ah,aw,f63,<-V,<-U] at R;subst R;obtain⟨m1,m⟩:=xE (i+1);rw[<-m] at Y |-;cases P':Q7 i c
   .rw[P'] at u
    simp (maxDischargeDepth:=8) [B,y,F,Y,W,J,I,H,B1,B3,u]
   .rw[P'] at u
    simp (maxDischargeDepth:=8) [B,y,F,W,J,I,H,B1,u])
  (fun env d B y=>by simp[ah,aw,f63] at R;subst R;simp[B,y])
  (fun z' env h=>by simp[ah,aw,f63] at R;subst R;simpa [au] using h)
 rw[CQ] at S;have Z:=fun env d h=>(S env d h).1
 have X:=fun env d h=>(S env d h).2
 clear S;simp[ah,aw,f63] at R;subst R;have IR:ao (aL prog) (fun _=>[3,3,3]) (bq prog) bC 1100 63 [.str s] M=some (.bool (jA s),M):=by
  unfold jA;cases hn:Rt 0 s
  .rw[hn] at Z X
   simp only[Bool.false_eq_true,if_false] at Z X;have D:=fun env d h=>(X env d h).1 _ rfl
   simp[ao,C,f63,Z,D]
  .rw[hn] at Z X
   simp only[if_true] at Z X;have D:=fun env d h=>(X env d h).2 trivial
   by_cases h0:s=[]
   .subst h0
    simp[ao,C,f63,Z,D]
   .have T':(s==[])=false:=by simpa using h0
    by_cases h1:s.length<=32
    .have j:(s.length:Int)<=32:=by omega
     simp[ao,C,f63,Z,D,T',h1,j]
    .have j:¬(s.length:Int)<=32:=by omega
     simp[ao,C,f63,Z,D,T',h1,j]
 exact aX ak (aI _) (ar _) (aQ _) IR
theorem mI:bz prog 71 [.str s] M (.int .i64 (if jA s=true then 0 else 8)) M:=by
 have C:bq prog 71=some f71:=by kernel_rfl
 obtain⟨b,R⟩:∃b,ah f71=[b]:=⟨_,rfl⟩
 obtain⟨x4,V⟩:=xE pd;obtain⟨x5,U⟩:=xE lf;obtain⟨G,S⟩:=pV (T:=aL prog) (lv:=fun _=>[15,15,15]) (O:=bC) (K:=1100) (N:=54) (m0:=M.length) (ex:=0) (cnt:=15) (res:=2) (b:=b) (M:=M) (L:=s) (err:=fun i c=>if Q7 i c=true then some (.int .i64 8) else none) (Q:=fun env=>aa env 0=.str s/\aa env 14=.int .i64 (s.length:Int)) rfl (by omega)
  (fun env i c d ⟨a0,a14⟩ ac hc=>by
   obtain⟨F,D⟩:=Hi.1 hc;have j:IntKind.i64.wrap ((i:Int)+1)=((i+1:Nat):Int):=by rw[af];omega
   obtain⟨F1,Z⟩:=dY (β:=Env) (p:=fun env _=>aa env 4=.int .u8 (c.toNat:Int)/\aa env 0=.str s/\aa env 3=.int .i64 (i:Int)/\aa env 14=.int .i64 (s.length:Int)/\aa env 15=.int .i64 (i:Int)) (q:=fun env d r=>cr (aL prog) bC 54 M.length pd pd.toList ⟨env,M,d⟩=some ⟨r,M,d⟩/\aa r 0=.str s/\aa r 3=.int .i64 (i:Int)/\aa r 4=.int .u8 (c.toNat:Int)/\aa r 14=.int .i64 (s.length:Int)/\aa r 15=.int .i64 (i:Int)/\aa r 5=.bool (Rk c)) (fun env d h=>Sp h.1 h.2.1 h.2.2.1 h.2.2.2.1 h.2.2.2.2);obtain⟨F2,X⟩:=dY (β:=Env) (p:=fun env _=>aa env 4=.int .u8 (c.toNat:Int)/\aa env 0=.str s/\aa env 3=.int .i64 (i:Int)/\aa env 14=.int .i64 (s.length:Int)/\aa env 15=.int .i64 (i:Int)/\aa env 5=.bool (Rk c)) (q:=fun env d r=>cr (aL prog) bC 54 M.length lf lf.toList ⟨env,M,d⟩=some ⟨r,M,d⟩/\aa r 0=.str s/\aa r 14=.int .i64 (s.length:Int)/\aa r 15=.int .i64 (i:Int)/\aa r 52=.bool (Q7 i c)) (fun env d h=>Sq h.1 h.2.1 h.2.2.1 h.2.2.2.1 h.2.2.2.2.1 h.2.2.2.2.2);rw[<-V] at Z;rw[<-U] at X;have Y:=fun env d h=>(Z env d h).1
   have W:=fun env d h=>(Z env d h).2.1
   have J:=fun env d h=>(Z env d h).2.2.1
   have I:=fun env d h=>(Z env d h).2.2.2.1
   have H:=fun env d h=>(Z env d h).2.2.2.2.1
   have A6:=fun env d h=>(Z env d h).2.2.2.2.2.1
   have A7:=fun env d h=>(Z env d h).2.2.2.2.2.2
   have B1:=fun env d h=>(X env d h).1
   have B2:=fun env d h=>(X env d h).2.1
   have B3:=fun env d h=>(X env d h).2.2.1
   have B4:=fun env d h=>(X env d h).2.2.2.1
   have B:=fun env d h=>(X env d h).2.2.2.2
   clear Z X;have V:=V;have U:=U;simp only[pd,f71] at V;simp only[lf,f71] at U;simp[ah,aw,f71,<-V,<-U] at R;subst R;obtain⟨m1,u⟩:=xE (i+1);rw[<-u] at j |-;cases P':Q7 i c
   .rw[P'] at B
    simp (maxDischargeDepth:=8) [a0,a14,ac,F,D,j,Y,W,J,I,H,A6,A7,B1,B4,B]
   .rw[P'] at B
    simp (maxDischargeDepth:=8) [a0,a14,ac,F,D,Y,W,J,I,H,A6,A7,B1,B])
  (fun env d ⟨a0,a14⟩ ac=>by simp[ah,aw,f71] at R;subst R;simp[a0,a14,ac])
  (fun z' env h=>by simp[ah,aw,f71] at R;subst R;simpa [au] using h)
 rw[CQ] at S;have Z:=fun env d h=>(S env d h).1
 have X:=fun env d h=>(S env d h).2
 clear S;simp[ah,aw,f71] at R;subst R;have IR:ao (aL prog) (fun _=>[15,15,15]) (bq prog) bC 1100 71 [.str s] M=some (.int .i64 (if jA s=true then 0 else 8),M):=by
  unfold jA;by_cases h0:s=[]
  .subst h0
   simp[ao,C,f71]
  .have o:(s==[])=false:=by simpa using h0
   by_cases m:s.length<=32
   .have y:¬(32:Int)<(s.length:Int):=by omega
    cases hn:Rt 0 s
    .rw[hn] at Z X
     simp only[Bool.false_eq_true,if_false] at Z X;have C2:=fun env d h=>(X env d h).1 _ rfl
     simp[ao,C,f71,Z,C2,o,m,y]
    .rw[hn] at Z X
     simp only[if_true] at Z X;simp[ao,C,f71,Z,o,m,y]
   .have y:(32:Int)<(s.length:Int):=by omega
    simp[ao,C,f71,o,m,y]
 exact aX ak (aI _) (ar _) (aQ _) IR
end
def zE:Evc:={ k:=0,nm:=[] }
def nn1(c:Evc):Bool:= !decide (c.k=1)&&decide (0<c.B.length+c.U.length+c.S.length)
def nn2(c:Evc):Bool:= !decide (c.k=3)&&((!xB (c.x12,c.x13,c.x14) ([],[],[])||decide (0<c.K.length))|| !xB (c.x16,c.x17,c.x18) ([],[],[]))
def nn3(c:Evc):Bool:=((decide (c.k=2)||RW c zE)&&(decide (c.k=4)||T8 c zE))&&(decide (c.k=5)||Ve c zE)
def tK(c:Evc):Bool:= !nn1 c&&(!nn2 c&&nn3 c)
noncomputable def lh:Array Oper:=match f64.body with
 |some (.seq _ (.seq _ (.seq (.seq (.region _ ops _) _) _)))=>ops
 |_=> #[]
noncomputable def j8:Array Oper:=match f64.body with
 |some (.seq _ (.seq _ (.seq _ (.seq (.seq (.region _ ops _) _) _))))=>ops
 |_=> #[]
noncomputable def eV:Array Oper:=match f64.body with
 |some (.seq _ (.seq _ (.seq _ (.seq _ (.seq (.region _ ops _) _)))))=>ops
 |_=> #[]
noncomputable def wh:List Oper:=(eV.toList.drop 0).take 10
noncomputable def rF:List Oper:=(eV.toList.drop 10).take 11
noncomputable def rG:List Oper:=(eV.toList.drop 21).take 11
theorem Na:aD (aL prog) 58 []=some (.agg [.str [],.str [],.str [],.str [],.str [],.str [],.str []])/\aD (aL prog) 63 []=some (.agg [.str [],.str [],.str [],.str [],.str [],.str []])/\aD (aL prog) 66 []=some (.agg [.int .i64 0,.int .i64 0,.int .i64 0,.int .i64 0,.str [],.str [],.str []]):=by refine⟨?_,?_,?_⟩<;>kernel_rfl
theorem SV:eV.toList=wh++(rF++rG):=by kernel_rfl
section
variable {O:afu}{m0:Nat}{ops:Array Oper}{env:Env}{mem:Mem}{d:Bool}{p q r:Nat}{c:Evc}{b u s kn:AV}{f:Bool}(h2:aa env 1=.ptr p 0/\aa env 3=.ptr q 0/\aa env 4=.ptr r 0)(hp:mem[p]? =some (.cells true 0 (c.cells b u s kn)))(hq:mem[q]? =some (.cells true 0 [b,u,s]))(hr:mem[r]? =some (.cells true 0 [.str c.x12,.str c.x13,.str c.x14,kn,.str c.x16,.str c.x17,.str c.x18]))
include h2 hp hq hr
theorem SW(H:∀R,ym (aL prog) 47 R b=some (.int .i64 c.B.length))(I:∀R,ym (aL prog) 48 R u=some (.int .i64 c.U.length))(hS:∀R,ym (aL prog) 49 R s=some (.int .i64 c.S.length))(J:c.B.length<=1000/\c.U.length<=1000/\c.S.length<=1000):
  ∃Q,cr (aL prog) O 78 m0 lh lh.toList ⟨env,mem,d⟩=some ⟨Q,mem,d⟩/\(aa Q 1=.ptr p 0/\aa Q 3=.ptr q 0/\aa Q 4=.ptr r 0)/\aa Q 25=.bool (nn1 c):=by
 obtain⟨h2,h3,K⟩:=h2;have w1:IntKind.i64.wrap ((c.B.length:Int)+c.U.length)=((c.B.length+c.U.length:Nat):Int):=by rw[af];omega
 have w2:IntKind.i64.wrap (((c.B.length+c.U.length:Nat):Int)+c.S.length)=((c.B.length+c.U.length+c.S.length:Nat):Int):=by rw[af];omega
 unfold nn1;obtain⟨y,Z⟩:=xE c.B.length;obtain⟨o,X⟩:=xE c.U.length;obtain⟨D,V⟩:=xE c.S.length;rw[<-Z,<-X] at w1 w2;rw[<-V] at w2 hS;rw[<-Z] at H;rw[<-X] at I;rw[<-Z,<-X,<-V];obtain⟨C,N⟩:=xE (y+o);rw[<-N] at w1 w2 |-;obtain⟨y2,M⟩:=xE (C+D);rw[<-M] at w2 |-;simp only[Evc.cells] at hp;by_cases G:c.k=1
 .simp[lh,f64,h2,h3,K,hp,hq,hr,G]
 .by_cases F:0<y2
  .simp[lh,f64,h2,h3,K,hp,hq,hr,G,-ym,H,I,hS,w1,w2,F]
  .have w3:IntKind.i64.wrap ((C:Int)+(D:Int))=0:=by rw[w2];omega
   rw[decide_eq_false F];clear w2 F M N Z X V J;simp[lh,f64,h2,h3,K,hp,hq,hr,G,-ym,H,I,hS,w1,w3]
theorem SX(H:∀Q,ym (aL prog) 59 Q kn=some (.int .i64 c.K.length)):
  ∃V,cr (aL prog) O 78 m0 j8 j8.toList ⟨env,mem,d⟩=some ⟨V,mem,d⟩/\(aa V 1=.ptr p 0/\aa V 3=.ptr q 0/\aa V 4=.ptr r 0)/\aa V 46=.bool (nn2 c):=by
 obtain⟨h2,h3,U⟩:=h2;have S:=fun d=>fH d c.x12 c.x13 c.x14 [] [] []
 have N:=fun d=>fH d c.x16 c.x17 c.x18 [] [] []
 unfold nn2;obtain⟨M,Z⟩:=xE (xB (c.x12,c.x13,c.x14) ([],[],[]));obtain⟨F,X⟩:=xE (xB (c.x16,c.x17,c.x18) ([],[],[]));have f1:((c.x12==[])&&((c.x13==[])&&(c.x14==[])))=M:=Z.symm;have f2:((c.x16==[])&&((c.x17==[])&&(c.x18==[])))=F:=X.symm;rw[f1] at S;rw[f2] at N;rw[<-Z,<-X];clear f1 f2 Z X;obtain⟨z,G⟩:=xE c.K.length;rw[<-G] at H |-;simp only[Evc.cells] at hp;by_cases R:c.k=3
 .simp[j8,f64,h2,h3,U,hp,hq,hr,R]
 .cases M
  .simp[j8,f64,h2,h3,U,hp,hq,hr,R,S,aD,ag]
  .by_cases D:0<z
   .simp[j8,f64,h2,h3,U,hp,hq,hr,R,S,-ym,H,D,aD,ag]
   .obtain rfl:z=0:=by omega
    have H:∀Q,ym (aL prog) 59 Q kn=some (.int .i64 0):=H
    clear G;simp[j8,f64,h2,h3,U,hp,hq,hr,R,S,N,-ym,H,aD,ag]
theorem QE:
  ∃Z,cr (aL prog) O 78 m0 eV wh ⟨env,mem,d⟩=some ⟨Z,mem,d⟩/\(aa Z 1=.ptr p 0/\aa Z 3=.ptr q 0/\aa Z 4=.ptr r 0)/\aa Z 56=.bool (decide (c.k=2)||RW c zE):=by
 obtain⟨h2,h3,U⟩:=h2;have e:=fun d=>pe d c.x5 c.x6 c.x7 c.x8 c.x9 c.x10 c.x11 [] [] [] [] [] [] []
 obtain⟨v,V⟩:=xE (RW c zE);rw[<-V];have e:∀d,_=some v:=fun d=>(e d).trans (by rw[V];rfl)
 clear V;simp only[Evc.cells] at hp;by_cases X:c.k=2
 .simp[wh,eV,f64,h2,h3,U,hp,hq,hr,X]
 .simp[wh,eV,f64,h2,h3,U,hp,hq,hr,X,e,Na]
theorem QF(h1:aa env 56=.bool f):
  ∃Z,cr (aL prog) O 78 m0 eV rF ⟨env,mem,d⟩=some ⟨Z,mem,d⟩/\(aa Z 1=.ptr p 0/\aa Z 3=.ptr q 0/\aa Z 4=.ptr r 0)/\aa Z 67=.bool (f&&(decide (c.k=4)||T8 c zE)):=by
 obtain⟨h2,h3,V⟩:=h2;have e:=fun d=>rh d c.x19 c.x20 c.x21 c.x22 c.x23 c.x24 [] [] [] [] [] []
 obtain⟨v,U⟩:=xE (T8 c zE);rw[<-U];have e:∀d,_=some v:=fun d=>(e d).trans (by rw[U];rfl)
 clear U;simp only[Evc.cells] at hp;cases f
 .simp[rF,eV,f64,h2,h3,V,hp,hq,hr,h1]
 .by_cases X:c.k=4
  .simp[rF,eV,f64,h2,h3,V,hp,hq,hr,h1,X]
  .simp[rF,eV,f64,h2,h3,V,hp,hq,hr,h1,X,e,Na]
theorem QG(h1:aa env 67=.bool f):
  ∃Z,cr (aL prog) O 78 m0 eV rG ⟨env,mem,d⟩=some ⟨Z,mem,d⟩/\(aa Z 1=.ptr p 0/\aa Z 3=.ptr q 0/\aa Z 4=.ptr r 0)/\aa Z 2=.bool (f&&(decide (c.k=5)||Ve c zE)):=by
 obtain⟨h2,h3,V⟩:=h2;have e:=fun d=>rn d c.t1 c.t2 c.t3 c.t4 0 0 0 0 c.x29 c.x30 c.x31 [] [] []
 obtain⟨v,U⟩:=xE (Ve c zE);rw[<-U];have e:∀d,_=some v:=fun d=>(e d).trans (by rw[U];rfl)
 clear U;simp only[Evc.cells] at hp;cases f
 .simp[rG,eV,f64,h2,h3,V,hp,hq,hr,h1]
 .by_cases X:c.k=5
  .simp[rG,eV,f64,h2,h3,V,hp,hq,hr,h1,X]
  .simp[rG,eV,f64,h2,h3,V,hp,hq,hr,h1,X,e,Na]
end
theorem MF{M:Mem}{e:List AV}{c:Evc}(h:EvW M e c):bz prog 64 [.agg e] M (.bool (tK c)) M:=by
 obtain⟨b,u,s,kn,rfl,F,D,hS,y,hKl⟩:=h;have hG:bq prog 64=some f64:=by kernel_rfl
 obtain⟨vC,Z⟩:=hS.row;have R:(M++[.cells true 0 (c.cells b u s kn),.cells true 0 [b,u,s],.cells true 0 [.str c.x12,.str c.x13,.str c.x14,kn,.str c.x16,.str c.x17,.str c.x18]])[M.length]? =some (.cells true 0 (c.cells b u s kn)):=by rw[qc];rfl
 have Q:(M++[.cells true 0 (c.cells b u s kn),.cells true 0 [b,u,s],.cells true 0 [.str c.x12,.str c.x13,.str c.x14,kn,.str c.x16,.str c.x17,.str c.x18]])[M.length+1]? =some (.cells true 0 [b,u,s]):=by rw[jz];rfl
 have N:(M++[.cells true 0 (c.cells b u s kn),.cells true 0 [b,u,s],.cells true 0 [.str c.x12,.str c.x13,.str c.x14,kn,.str c.x16,.str c.x17,.str c.x18]])[M.length+2]? =some (.cells true 0 [.str c.x12,.str c.x13,.str c.x14,kn,.str c.x16,.str c.x17,.str c.x18]):=by rw[jz];rfl
 obtain⟨F1,K⟩:=dY (β:=Env) (p:=fun env _=>aa env 1=.ptr M.length 0/\aa env 3=.ptr (M.length+1) 0/\aa env 4=.ptr (M.length+2) 0) (q:=fun env d r=>cr (aL prog) bC 78 M.length lh lh.toList ⟨env,(M++[.cells true 0 (c.cells b u s kn),.cells true 0 [b,u,s],.cells true 0 [.str c.x12,.str c.x13,.str c.x14,kn,.str c.x16,.str c.x17,.str c.x18]]),d⟩=some ⟨r,(M++[.cells true 0 (c.cells b u s kn),.cells true 0 [b,u,s],.cells true 0 [.str c.x12,.str c.x13,.str c.x14,kn,.str c.x16,.str c.x17,.str c.x18]]),d⟩/\(fun env=>aa env 1=.ptr M.length 0/\aa env 3=.ptr (M.length+1) 0/\aa env 4=.ptr (M.length+2) 0) r/\aa r 25=.bool (nn1 c)) (fun env d h=>SW h R Q N (fun N' =>by rcases F.1 with⟨rfl,h,_⟩ | ⟨k,o,rfl,_⟩;rw[h];simp;simp) (fA D.1 (.inl rfl)) (fA Z (.inr (.inl rfl))) ⟨F.2,D.2,hS.1⟩);obtain⟨F2,G⟩:=dY (β:=Env) (p:=fun env _=>aa env 1=.ptr M.length 0/\aa env 3=.ptr (M.length+1) 0/\aa env 4=.ptr (M.length+2) 0) (q:=fun env d r=>cr (aL prog) bC 78 M.length j8 j8.toList ⟨env,(M++[.cells true 0 (c.cells b u s kn),.cells true 0 [b,u,s],.cells true 0 [.str c.x12,.str c.x13,.str c.x14,kn,.str c.x16,.str c.x17,.str c.x18]]),d⟩=some ⟨r,(M++[.cells true 0 (c.cells b u s kn),.cells true 0 [b,u,s],.cells true 0 [.str c.x12,.str c.x13,.str c.x14,kn,.str c.x16,.str c.x17,.str c.x18]]),d⟩/\(fun env=>aa env 1=.ptr M.length 0/\aa env 3=.ptr (M.length+1) 0/\aa env 4=.ptr (M.length+2) 0) r/\aa r 46=.bool (nn2 c)) (fun env d h=>SX h R Q N (fA y (.inr (.inr rfl))));obtain⟨F3,X⟩:=dY (β:=Env) (p:=fun env _=>aa env 1=.ptr M.length 0/\aa env 3=.ptr (M.length+1) 0/\aa env 4=.ptr (M.length+2) 0) (q:=fun env d r=>cr (aL prog) bC 78 M.length eV eV.toList ⟨env,(M++[.cells true 0 (c.cells b u s kn),.cells true 0 [b,u,s],.cells true 0 [.str c.x12,.str c.x13,.str c.x14,kn,.str c.x16,.str c.x17,.str c.x18]]),d⟩=some ⟨r,(M++[.cells true 0 (c.cells b u s kn),.cells true 0 [b,u,s],.cells true 0 [.str c.x12,.str c.x13,.str c.x14,kn,.str c.x16,.str c.x17,.str c.x18]]),d⟩/\aa r 2=.bool (nn3 c)) (fun env d h=>by rw[SV];obtain⟨e0,s0,k0,b0⟩:=QE (O:=bC) (m0:=M.length) (d:=d) h R Q N;obtain⟨e1,s1,k1,b1⟩:=QF (O:=bC) (m0:=M.length) (d:=d) k0 R Q N b0;obtain⟨e2,s2,k2,b2⟩:=QG (O:=bC) (m0:=M.length) (d:=d) k1 R Q N b1;exact⟨e2,cg s0 (cg s1 s2),b2⟩)
 have m:=fun env d h=>(K env d h).1
 have A2:=fun env d h=>(K env d h).2.1.1
 have A3:=fun env d h=>(K env d h).2.1.2.1
 have A4:=fun env d h=>(K env d h).2.1.2.2
 have A7:=fun env d h=>(K env d h).2.2
 have j:=fun env d h=>(G env d h).1
 have B2:=fun env d h=>(G env d h).2.1.1
 have B3:=fun env d h=>(G env d h).2.1.2.1
 have B4:=fun env d h=>(G env d h).2.1.2.2
 have B7:=fun env d h=>(G env d h).2.2
 have Y:=fun env d h=>(X env d h).1
 have C7:=fun env d h=>(X env d h).2
 clear K G X R Q N;have cb:=F.1.ck;have cu:=D.1.ck;have cs:=Z.ck;have cn:=y.ck;have kb:=F.1.kn;have ku:=D.1.kn;have ks:=Z.kn;have kk:=y.kn;have rb:=F.1.refs;have ru:=D.1.refs;have rs:=Z.refs;have rk:=y.refs;have W:∀s,(AV.str s).adM=true:=fun _=>rfl
 have J:∀k n,(AV.int k n).adM=true:=fun _ _=>rfl
 obtain⟨C,I⟩:∃C,bn f64=C :=⟨_,rfl⟩
 have PP :=cR I (ls:=[[0,1,0,4,0,0,51,127]]) (by kernel_rfl);simp only[bn,cU,f64,lA] at I;subst I;simp only[lB] at PP;obtain⟨x1,V⟩:=xE lh;obtain⟨x2,U⟩:=xE j8;obtain⟨x3,S⟩:=xE eV;rw[<-V] at m;rw[<-U] at j;rw[<-S] at Y;simp only[lh,f64] at V;simp only[j8,f64] at U;simp only[eV,f64] at S;have H:∃B,ao (aL prog) (fun _=>[]) (bq prog) bC 1 64 [.agg (c.cells b u s kn)] M=some (.bool (tK c),M++B):=by
  unfold tK;obtain⟨d1,hd1⟩:=xE (nn1 c);obtain⟨d2,hd2⟩:=xE (nn2 c);rw[<-hd1] at A7 |-;rw[<-hd2] at B7 |-;simp only[Evc.cells] at m j Y |-;cases d1<;>cases d2<;>
   simp (maxDischargeDepth:=8) [-getElem?_pos,-AV.adM,-AV.known,-AV.cells,-ay,-List.all_eq_true,vS,rS,mS,-bB,-bb,-aN,-AV.aft,-afz.aft,cW,bU,bD,fJ,dy,bL,cF,eI,bef,Nat.testBit,aK PP,W,J,ao,hG,f64,<-V,<-U,<-S,cb,cu,cs,cn,kb,ku,ks,kk,rb,ru,rs,rk,m,A2,A3,A4,A7,j,B2,B3,B4,B7,Y,C7]
 obtain⟨B,H⟩:=H;exact bz.forget rfl (aX ak (aI _) (ar _) (aQ _) H)
end Go.Proofs
