/- See H38. -/
import Derived.Test.YthpgbelancmpjaaGreatDoorH32
set_option linter.all false
set_option maxRecDepth 100000
set_option maxHeartbeats 40000000
namespace Go.Proofs
open Go.Eng
open Tryz
noncomputable def DP(n:Nat)(c:Evc):AV:=if c.k=1 then RU n c.B c.U c.S else if c.k=2 then .int .i64 (Xd c) else if c.k=3 then .int .i64 (Vo c) else if c.k=4 then .int .i64 (Xa c) else .int .i64 (Yz c)
noncomputable def RT(n:Nat)(c:Evc):AV:=if c.k<1\/5<c.k then .int .i64 12 else if jA c.nm=true then (if tK c=true then DP n c else .int .i64 7) else .int .i64 8
theorem OU(n:Nat)(c:Evc):∃k:Int,DP n c=.int .i64 k:=by
 unfold DP;split
 .exact AN _ _ _ _
 all_goals (repeat' split)<;>exact⟨_,rfl⟩
theorem AM(n:Nat)(c:Evc):∃k:Int,RT n c=.int .i64 k:=by
 unfold RT
 repeat' split
 all_goals first | exact OU _ _ | exact⟨_,rfl⟩
section
variable {c:Evc}{b u sv kn:AV}{m:Mem}{s:afI}
theorem ue(H:agE m s):bz prog 46 [shA s] m (.int .i64 0) m:=by obtain⟨_,o,Z,X,V⟩:=H;exact vT s _ 0 1 o Z X V
theorem PD(Y:agE m s)(hc:c.Br)(hd:c.Bd)(hnm:c.nm.length<=40)(J:TxW m b c.B)(W:TxW m u c.U)(hS:SfW m sv c.S)(I:af5 m kn 2 c.K.length (kC c.K))(H:c.K.length<=1000):bz prog 24 [shA s,.agg (c.cells b u sv kn)] m (RT s.P.length c) m:=by
 have hG:bq prog 24=some f24:=by kernel_rfl
 have hV:=fun M=>iY c.x29 c.x30 c.x31 (by have:=hc.n29.1;simp only[Evc.n29] at this;omega) (by have:=hc.n29.2.1;simp only[Evc.n29] at this;omega) (by have:=hc.n29.2.2;simp only[Evc.n29] at this;omega) M
 obtain⟨dv,X⟩:=AN s.P.length c.B c.U c.S;obtain⟨fv,V⟩:=xE (Xd c);obtain⟨gv,R⟩:=xE (Vo c);obtain⟨kv,Q⟩:=xE (Xa c);obtain⟨y,N⟩:=xE (Xq (c.t1,c.t2,c.t3,c.t4));obtain⟨o,G⟩:=xE (jj [c.x29,c.x30,c.x31]);obtain⟨j,F⟩:=xE (jA c.nm);obtain⟨wn,D⟩:=xE (tK c);have ht:Yz c=if y=0 then o else y:=by rw[N,G];rfl
 obtain⟨vs,_,C,_⟩:=hS.2;have kb:=And.intro J.1.ck (And.intro W.1.ck (And.intro C.ck I.ck));have nb:=And.intro J.1.kn (And.intro W.1.kn (And.intro C.kn I.kn));refine iK (M:=m) [(46,[shA s],.int .i64 0),(63,[.str c.nm],.bool j),(64,[.agg (c.cells b u sv kn)],.bool wn),(65,[shA s,.agg [b,u,sv]],.int .i64 dv),(66,[.agg [.str c.x5,.str c.x6,.str c.x7,.str c.x8,.str c.x9,.str c.x10,.str c.x11]],.int .i64 fv),(67,[.agg [.str c.x12,.str c.x13,.str c.x14,kn,.str c.x16,.str c.x17,.str c.x18]],.int .i64 gv),(68,[.agg [.str c.x19,.str c.x20,.str c.x21,.str c.x22,.str c.x23,.str c.x24]],.int .i64 kv),(69,[.agg [.int .i64 c.t1,.int .i64 c.t2,.int .i64 c.t3,.int .i64 c.t4]],.int .i64 y),(70,[.agg [.str c.x29,.str c.x30,.str c.x31]],.int .i64 o)] (by simp) (by simp only[List.forall_mem_cons];rw[V,R,Q,N,G,F,D,<-X];exact⟨fun Z=>ue (Y.more Z),fun Z=>ud c.nm (by omega) (m++Z),fun Z=>MF ⟨b,u,sv,kn,rfl,J.more Z,W.more Z,hS.more Z,I.more Z,H⟩,fun Z=>PE (Y.more Z) hd (J.more Z) (W.more Z) (hS.more Z),fun Z=>HT hc (m++Z),fun Z=>MD hc I.ck (I.more Z) H,fun Z=>MC hc (m++Z),fun Z=>EW (t:=(c.t1,c.t2,c.t3,c.t4)) hc.t (m++Z),fun Z=>hV (m++Z),fun x h=>by cases h⟩) (by obtain⟨k,h⟩:=AM s.P.length c;rw[h];rfl) fun O e=>?_
 simp only[List.forall_mem_cons] at e;obtain⟨e1,e2,e3,e4,e5,e6,e7,e8,e9,-⟩:=e;unfold RT DP;rw[X,ht,<-V,<-R,<-Q,<-F,<-D];clear Y hc hd J W hS I C hV X V R Q N G F D ht hnm H;simp only[shA,Evc.cells] at e1 e3 e4 |-;by_cases h:c.k<1
 rotate_left
 by_cases h5:5<c.k
 rotate_left
 cases j
 rotate_left
 cases wn
 rotate_left
 rcases (show c.k=1\/c.k=2\/c.k=3\/c.k=4\/c.k=5 by omega) with h | h | h | h | h;all_goals by_cases h0:y=0<;>(try simp only[h] at e3 |-)<;>simp[-getElem?_pos,-AV.adM,-AV.known,-AV.cells,-ay,-List.all_eq_true,vS,rS,mS,ao,f24,aD,ag, *]
end
theorem xw{v:AV}(h:v.under 8=true):v.under 11=true:=yN (by omega) h
section
variable {K:Int}{g g1 g2 g3 g4:FuncId}{onl:Evc->Evc}{x y:Bool}{N:Mem}{c:Evc}{b u s kn:AV}
theorem Vx(H:agC K g g1 g2 g3 g4 onl x y){n0 n1 n2 n3 n4 n5 n6 n7:Nat}{Y C1 C2 C3 C4 C5 C6 C7:List AV}{pv tv:AV}(hN:N=[.cells false n0 Y,.cells false n1 C1,.cells false n2 C2,.cells false n3 C3,.cells false n4 C4,.cells false n5 C5,.cells false n6 C6,.cells false n7 C7])(hU:AV.afB 8 Y=true/\AV.afB 8 C1=true/\AV.afB 8 C2=true/\AV.afB 8 C3=true/\AV.afB 8 C4=true/\AV.afB 8 C5=true/\AV.afB 8 C6=true/\AV.afB 8 C7=true)(c1:pv.adM=true)(c2:tv.adM=true)(hb:b.adM=true/\u.adM=true/\s.adM=true/\kn.adM=true)(I:(b.known=true/\b.cells=[b])/\(u.known=true/\u.cells=[u])/\(s.known=true/\s.cells=[s])/\(kn.known=true/\kn.cells=[kn]))(J:(pv.under 8=true/\tv.under 8=true)/\b.under 8=true/\u.under 8=true/\s.under 8=true/\kn.under 8=true)(hC:∀Z,bz prog 46 [.agg [pv,tv]] (N++Z) (.int .i64 0) (N++Z))(hn:jA c.nm=true)(hn4:c.nm.length<=40){eqv:Bool}(hE:∀Z,bz prog 26 [.agg ((onl c).cells (sG x b) (sG x u) (sG x s) (sG y kn)),.agg ((c.kd K).cells b u s kn)] (N++Z) (.bool eqv) (N++Z))(W:46≠g1/\71≠g1/\44≠g1/\26≠g1/\g≠g1){e:Int}(hK:∀Z,bz prog g1 [.agg [pv,tv],.agg ((c.kd K).cells b u s kn)] (N++Z) (.int .i64 e) (N++Z)):
  bz prog 25 [.agg [pv,tv],.agg ((c.kd K).cells b u s kn)] N (.int .i64 (if eqv=true then e else 7)) N:=by
 have hG:bq prog 25=some f25:=by kernel_rfl
 have Q:N.length=8:=by rw[hN];rfl
 obtain⟨L,V⟩:=xE (α:=List (FuncId×List AV×(Mem->Prop)×afw)) [(46,[.agg [pv,tv]],fun M=>∃Z,M=N++Z,⟨.int .i64 0,none,[]⟩),(71,[.str c.nm],fun _=>True,⟨.int .i64 0,none,[]⟩),(44,[.agg ((c.kd K).cells b u s kn)],fun _=>True,⟨.agg [.func g [],.func g1 [],.func g2 [],.func g3 [],.func g4 []],none,[]⟩),(26,[.agg ((onl c).cells (sG x b) (sG x u) (sG x s) (sG y kn)),.agg ((c.kd K).cells b u s kn)],fun M=>∃Z,M=N++Z,⟨.bool eqv,none,[]⟩),(g,[.agg ((c.kd K).cells b u s kn),.ptr 10 0],fun M=>M=N++[.cells true 0 [pv,tv],.cells true 0 ((c.kd K).cells b u s kn),.cells true 0 (({ k:=K,nm:=c.nm }:Evc).cells .kO .kO .kO .kO)],⟨.tuple [],some (N++[.cells true 0 [pv,tv],.cells true 0 ((c.kd K).cells b u s kn),.cells true 0 ((onl c).cells (sG x b) (sG x u) (sG x s) (sG y kn))]),[]⟩),(g1,[.agg [pv,tv],.agg ((c.kd K).cells b u s kn)],fun M=>∃Z,M=N++Z,⟨.int .i64 e,none,[]⟩)];have hO:afs prog (ie L):=wU fun z hz M G=>by
  rw[V] at hz;simp only[lM] at hz;rcases hz with rfl | rfl | rfl | rfl | rfl | rfl
  .obtain⟨Z,rfl⟩:=G
   exact cC (hC Z)
  .exact aA (by simpa [hn] using (by simpa [hn] using mI c.nm (by omega) M))
  .refine aA ?_
   rw[List.append_nil];exact VF H (R:=((c.kd K).cells b u s kn).drop 2) rfl (by simp[Evc.cells,hb,vS,-AV.adM])
  .obtain⟨Z,rfl⟩:=G
   exact cC (hE Z)
  .refine⟨?_,fun q hq=>by cases hq;rw[show M=_ from G];simp⟩
   have:=M9 H (N:=N) (X0:=.cells true 0 [pv,tv]) (X1:=.cells true 0 ((c.kd K).cells b u s kn)) (c:=c) hb I (by rw[Q];exact⟨xw J.2.1,xw J.2.2.1,xw J.2.2.2.1,xw J.2.2.2.2⟩);rw[Q] at this;rw[show M=_ from G];simpa [afw.mem] using this
  .obtain⟨Z,rfl⟩:=G
   exact cC (hK Z)
 have o:∀Z,ie L (.fn 46) [.agg [pv,tv]] (N++Z)=some ⟨.int .i64 0,none,[]⟩:=fun Z=>by rw[V];exact dn ⟨Z,rfl⟩
 have m:∀M,ie L (.fn 71) [.str c.nm] (M)=some ⟨.int .i64 0,none,[]⟩:=fun M=>by rw[V,bE (.inl (by decide))];exact dn trivial
 have j:∀M,ie L (.fn 44) [.agg ((c.kd K).cells b u s kn)] (M)=some ⟨.agg [.func g [],.func g1 [],.func g2 [],.func g3 [],.func g4 []],none,[]⟩:=fun M=>by rw[V,bE (.inl (by decide)),bE (.inl (by decide))];exact dn trivial
 have F:∀Z,ie L (.fn 26) [.agg ((onl c).cells (sG x b) (sG x u) (sG x s) (sG y kn)),.agg ((c.kd K).cells b u s kn)] (N++Z)=some ⟨.bool eqv,none,[]⟩:=fun Z=>by rw[V,bE (.inl (by decide)),bE (.inl (by decide)),bE (.inl (by decide))];exact dn ⟨Z,rfl⟩
 have D:ie L (.fn g) [.agg ((c.kd K).cells b u s kn),.ptr 10 0] (N++[.cells true 0 [pv,tv],.cells true 0 ((c.kd K).cells b u s kn),.cells true 0 (({ k:=K,nm:=c.nm }:Evc).cells .kO .kO .kO .kO)])=some ⟨.tuple [],some (N++[.cells true 0 [pv,tv],.cells true 0 ((c.kd K).cells b u s kn),.cells true 0 ((onl c).cells (sG x b) (sG x u) (sG x s) (sG y kn))]),[]⟩:=by rw[V,bE (.inl H.ne.1),bE (.inl H.ne.2.1),bE (.inl H.ne.2.2.1),bE (.inl H.ne.2.2.2)];exact dn rfl
 have e6:∀Z,ie L (.fn g1) [.agg [pv,tv],.agg ((c.kd K).cells b u s kn)] (N++Z)=some ⟨.int .i64 e,none,[]⟩:=fun Z=>by rw[V,bE (.inl W.1),bE (.inl W.2.1),bE (.inl W.2.2.1),bE (.inl W.2.2.2.1),bE (.inl W.2.2.2.2)];exact dn ⟨Z,rfl⟩
 obtain⟨O,U⟩:=xE (ie L);rw[<-U] at hO D;simp only[<-U] at o m j F e6;clear U V;have X:∀(z:Bool) (v:AV),v.adM=true->(v.known=true/\v.cells=[v])->v.under 8=true->∃S,sG z v=S /\S.adM=true/\(S.known=true/\S.cells=[S])/\S.under 8=true:=fun z v h1 h2 h3=>by
  cases z
  .exact⟨_,rfl,rfl,⟨rfl,rfl⟩,rfl⟩
  .exact⟨_,rfl,h1,h2,h3⟩
 obtain⟨b1,b2,b3,b4⟩:=hb;obtain⟨⟨q5,q6⟩,q1,q2,q3,q4⟩:=J;obtain⟨z1,s1,t1,⟨v1,x1⟩,y1⟩:=X x b b1 I.1 q1;obtain⟨z2,s2,t2,⟨v2,x2⟩,y2⟩:=X x u b2 I.2.1 q2;obtain⟨z3,s3,t3,⟨v3,x3⟩,y3⟩:=X x s b3 I.2.2.1 q3;obtain⟨z4,s4,t4,⟨v4,x4⟩,y4⟩:=X y kn b4 I.2.2.2 q4;rw[s1,s2,s3,s4] at D;simp only[s1,s2,s3,s4] at F;obtain⟨⟨k1,m1⟩,⟨k2,m2⟩,⟨k3,m3⟩,⟨k4,m4⟩⟩:=I;subst hN;simp only[List.cons_append,List.nil_append] at o m j F D e6;obtain⟨C,B'⟩:∃C,bn f25=C :=⟨_,rfl⟩
 have PP :=cR B' (ls:=[[0,1,3,0,15],[0,1,3,0,0,31,63]]) (by kernel_rfl);simp only[bn,cU,f25,lA] at B';subst B';simp only[lB] at PP;obtain⟨T',hb1⟩:=PP;obtain⟨u0,u1,u2,u3,u4,u5,u6,u7⟩:=hU;have f0:=(gd u0).2;have f1:=(gd u1).2;have f2:=(gd u2).2;have f3:=(gd u3).2;have f4:=(gd u4).2;have f5:=(gd u5).2;have f6:=(gd u6).2;have f7:=(gd u7).2;have r1:=(fK q1).2;have r2:=(fK q2).2;have r3:=(fK q3).2;have r4:=(fK q4).2;have r5:=(fK q5).2;have r6:=(fK q6).2;have p1:=(fK y1).2;have p2:=(fK y2).2;have p3:=(fK y3).2;have p4:=(fK y4).2;have a0:jr [0,1,3,0,15] 4=true:=by decide
 have a1:jr [0,1,3,0,0,31,63] 6=true:=by decide
 have h:∃B,ao (aL prog) (fun _=>[]) (bq prog) O 1 25 [.agg [pv,tv],.agg ((c.kd K).cells b u s kn)] [.cells false n0 Y,.cells false n1 C1,.cells false n2 C2,.cells false n3 C3,.cells false n4 C4,.cells false n5 C5,.cells false n6 C6,.cells false n7 C7]=some (.int .i64 (if eqv=true then e else 7),[.cells false n0 Y,.cells false n1 C1,.cells false n2 C2,.cells false n3 C3,.cells false n4 C4,.cells false n5 C5,.cells false n6 C6,.cells false n7 C7]++B):=by obtain⟨kr1,kr2⟩:=H.rng;clear hO hE hC hK H;simp only[Evc.cells,Evc.kd] at o m j F D e6 |-;cases eqv<;>simp[eF,-AV.adM,-AV.known,-AV.cells,-aN,-AV.aft,-List.all_eq_true,vS,rS,fnS,aY T',aY hb1,cX,cO,cV,a0,a1,Nat.testBit,-Cr,Kv,Kw,aD,ag,ao,hG,f25,o,m,j,F,D,e6,c1,c2,b1,b2,b3,b4,k1,k2,k3,k4,m1,m2,m3,m4,t1,t2,t3,t4,v1,v2,v3,v4,x1,x2,x3,x4,w0,kr1,kr2,f0,f1,f2,f3,f4,f5,f6,f7,r1,r2,r3,r4,r5,r6,p1,p2,p3,p4]
 obtain⟨B,h⟩:=h;exact(aX ak (aI _) hO (aQ _) h).forget rfl
end
theorem ZH{α:Type}(l:List α):([]=l)=(l=[]):=propext ⟨Eq.symm,Eq.symm⟩
theorem Wx(c:Evc):(c.k=1->eqC c.ag9 c=tK c)/\(c.k=2->eqC c.aha c=tK c)/\(c.k=3->eqC c.ahb c=tK c)/\(c.k=4->eqC c.ahc c=tK c)/\(c.k=5->eqC c.ahd c=tK c):=by
 have Z:(0<c.B.length+c.U.length+c.S.length)↔¬(c.B=[]/\c.U=[]/\c.S=[]):=by rw[<-List.length_eq_zero_iff,<-List.length_eq_zero_iff,<-List.length_eq_zero_iff];omega
 have X:(0<c.K.length)↔¬c.K=[]:=by rw[<-List.length_eq_zero_iff];omega
 refine⟨fun h=>?_,fun h=>?_,fun h=>?_,fun h=>?_,fun h=>?_⟩<;>
 .rw[Bool.eq_iff_iff]
  simp only[eqC,evB,tK,nn1,nn2,nn3,zE,Evc.ag9,Evc.aha,Evc.ahb,Evc.ahc,Evc.ahd,RW,xB,T8,Ve,h,Ar,Cs,beq_iff_eq,QQj,Bool.not_eq_true',Bool.and_eq_false_iff,Bool.or_eq_false_iff,decide_eq_false_iff_not,Bool.not_eq_false',beq_self_eq_true,decide_true,Bool.true_and,ZH,true_and,and_true,Bool.not_true,true_or,or_true,Bool.or_true,Bool.true_or];simp only[Z,X]
  grind
theorem Evc.ahv{c:Evc}{k:Int}(h:c.k=k):c.kd k=c:=by subst h;rfl
def Zv(N:Mem):Prop:=∃M K G F D n5 C B Z X V U S R Q O,N=[.cells false M Z,.cells false K X,.cells false G V,.cells false F U,.cells false D S,.cells false n5 R,.cells false C Q,.cells false B O]/\AV.afB 8 Z=true/\AV.afB 8 X=true/\AV.afB 8 V=true/\AV.afB 8 U=true/\AV.afB 8 S=true/\AV.afB 8 R=true/\AV.afB 8 Q=true/\AV.afB 8 O=true
theorem af5.under{N:Mem}{v:AV}{es n:Nat}{C:List AV}(h:af5 N v es n C):v.under N.length=true:=by
 rcases h with⟨rfl,_⟩ | ⟨b,o,rfl,h⟩
 .rfl
 .have:=gL h
  simp[AV.under,this]
theorem TxW.nil(N:Mem):TxW N .kO []:=⟨.inl ⟨rfl,rfl,rfl⟩,by simp⟩
theorem SfW.nil(N:Mem):SfW N .kO []:=⟨by simp,[],rfl,.inl ⟨rfl,rfl,rfl⟩,fun i x L h=>by simp at h⟩
section
variable {c:Evc}{b u sv kn:AV}{N:Mem}{s:afI}(hN:Zv N)(hM:agE N s)(hnm:c.nm.length<=40)(hB:TxW N b c.B)(hU:TxW N u c.U)(hS:SfW N sv c.S)(hk:af5 N kn 2 c.K.length (kC c.K))(hkl:c.K.length<=1000)
include hN hM hnm hB hU hS hk hkl
theorem kf{K:Int}{g g1 I g3 J:FuncId}{H:Evc->Evc}{x y:Bool}(W:agC K g g1 I g3 J H x y)(Y:46≠g1/\71≠g1/\44≠g1/\26≠g1/\g≠g1)(hn:jA c.nm=true)(h1:c.k=K)(hq:eqC (H c) c=tK c)(ho:∀Z,EvW (N++Z) ((H c).cells (sG x b) (sG x u) (sG x sv) (sG y kn)) (H c))(hf:∀Z,bz prog g1 [shA s,.agg (c.cells b u sv kn)] (N++Z) (DP s.P.length c) (N++Z)):bz prog 25 [shA s,.agg (c.cells b u sv kn)] N (if tK c=true then DP s.P.length c else .int .i64 7) N:=by
 obtain⟨R,G,Q,X,O⟩:=id hS;obtain⟨F,D,C,B,o,n5,m,j,C0,C1,C2,C3,C4,C5,C6,C7,rfl,V⟩:=id hN;have U:c.kd K=c:=Evc.ahv h1;obtain⟨e,M⟩:∃e:Int,DP s.P.length c=.int .i64 e:=OU _ _
 rw[M] at hf |-;have S:=fun Z=>xI (ho Z) ⟨_,_,_,_,rfl,hB.more Z,hU.more Z,hS.more Z,hk.more Z,hkl⟩
 rw[hq] at S;have h:=Vx (c:=c) (b:=b) (u:=u) (s:=sv) (kn:=kn) W rfl V (pv:=.slice 0 0 s.P.length none) (tv:=.slice 1 0 s.T.length none) rfl rfl ⟨hB.1.ck,hU.1.ck,X.ck,hk.ck⟩ ⟨hB.1.kn,hU.1.kn,X.kn,hk.kn⟩ ⟨⟨rfl,rfl⟩,hB.1.under,hU.1.under,X.under,hk.under⟩ (fun Z=>ue (hM.more Z)) hn hnm (eqv:=tK c) (by rw[U];exact S) Y (e:=e) (by rw[U];exact hf);rw[U] at h;cases hf:tK c<;>rw[hf] at h<;>exact h
theorem yR(h:(c.k<1\/5<c.k)\/jA c.nm=false):bz prog 25 [shA s,.agg (c.cells b u sv kn)] N (.int .i64 (if c.k<1\/5<c.k then 12 else 8)) N:=by
 have R:bq prog 25=some f25:=by kernel_rfl
 obtain⟨F,_,X,_⟩:=hS.2;have Q:=And.intro hB.1.ck (And.intro hU.1.ck (And.intro X.ck hk.ck));refine iK (M:=N) [(46,[shA s],.int .i64 0),(71,[.str c.nm],.int .i64 (if jA c.nm=true then 0 else 8))] (by simp) (by simp only[List.forall_mem_cons];exact⟨fun Z=>ue (hM.more Z),fun Z=>mI c.nm (by omega) (N++Z),fun x h=>by cases h⟩) rfl fun O e=>?_
 simp only[List.forall_mem_cons] at e;obtain⟨V,U,-⟩:=e;clear hN hM hnm hB hU hS hk X;simp only[shA,Evc.cells] at V |-;by_cases S:c.k<1
 .simp[-getElem?_pos,-AV.adM,-AV.known,-AV.cells,-ay,-List.all_eq_true,vS,rS,mS,ao,R,f25,aD,ag,Q,V,U,S]
 by_cases K:5<c.k
 .simp[-getElem?_pos,-AV.adM,-AV.known,-AV.cells,-ay,-List.all_eq_true,vS,rS,mS,ao,R,f25,aD,ag,Q,V,U,S,K]
 have G:jA c.nm=false:=h.resolve_left fun h=>h.elim S K
 rw[G] at U;simp[-getElem?_pos,-AV.adM,-AV.known,-AV.cells,-ay,-List.all_eq_true,vS,rS,mS,ao,R,f25,aD,ag,Q,V,U,S,K]
theorem Pt(hc:c.Br)(hd:c.Bd):bz prog 25 [shA s,.agg (c.cells b u sv kn)] N (RT s.P.length c) N:=by
 unfold RT;by_cases X:c.k<1\/5<c.k
 .have:=yR hN hM hnm hB hU hS hk hkl (.inl X)
  rw[if_pos X] at this |-;exact this
 rw[if_neg X];cases hn:jA c.nm
 .have:=yR hN hM hnm hB hU hS hk hkl (.inr hn)
  rw[if_neg X] at this;exact this
 rw[if_pos rfl];obtain⟨D,C,y,o,m⟩:=Wx c;obtain⟨j,Y,W,J,I⟩:=QC;obtain⟨H,_,F,_⟩:=hS.2;have V:=(⟨rfl,rfl⟩:(AV.slice 0 0 s.P.length none).adM=true/\(AV.slice 1 0 s.T.length none).adM=true);have R:=(⟨hB.1.ck,hU.1.ck,F.ck,hk.ck⟩:b.adM=true/\u.adM=true/\sv.adM=true/\kn.adM=true);have Q:∀Z,af5 (N++Z) .kO 2 ([]:List (List UInt8×List UInt8)).length (kC []):=fun Z=>.inl ⟨rfl,rfl,rfl⟩
 by_cases O:c.k=1
 .exact kf hN hM hnm hB hU hS hk hkl j (by decide) hn O (D O) (fun Z=>⟨_,_,_,_,rfl,hB.more Z,hU.more Z,hS.more Z,Q Z,Nat.zero_le _⟩) fun Z=>by rw[show DP s.P.length c=RU s.P.length c.B c.U c.S by simp[DP,O]];exact Po (hM.more Z) hd hk.ck (hB.more Z) (hU.more Z) (hS.more Z)
 by_cases M:c.k=2
 .exact kf hN hM hnm hB hU hS hk hkl Y (by decide) hn M (C M) (fun Z=>⟨_,_,_,_,rfl,.nil _,.nil _,.nil _,Q Z,Nat.zero_le _⟩) fun Z=>by rw[show DP s.P.length c=.int .i64 (Xd c) by simp[DP,M]];exact HL hc V R
 by_cases K:c.k=3
 .exact kf hN hM hnm hB hU hS hk hkl W (by decide) hn K (y K) (fun Z=>⟨_,_,_,_,rfl,.nil _,.nil _,.nil _,hk.more Z,hkl⟩) fun Z=>by rw[show DP s.P.length c=.int .i64 (Vo c) by simp[DP,K]];exact Mv hc V R (hk.more Z) hkl
 by_cases G:c.k=4
 .exact kf hN hM hnm hB hU hS hk hkl J (by decide) hn G (o G) (fun Z=>⟨_,_,_,_,rfl,.nil _,.nil _,.nil _,Q Z,Nat.zero_le _⟩) fun Z=>by rw[show DP s.P.length c=.int .i64 (Xa c) by simp[DP,G]];exact Mu hc V R _
 .exact kf hN hM hnm hB hU hS hk hkl I (by decide) hn (by omega) (m (by omega)) (fun Z=>⟨_,_,_,_,rfl,.nil _,.nil _,.nil _,Q Z,Nat.zero_le _⟩) fun Z=>by rw[show DP s.P.length c=.int .i64 (Yz c) by simp[DP,O,M,K,G]];exact Mw hc V R
end
def slx(x:AV)(j:Nat):AV:=match x with | .slice _ o n c=>.slice j o n c | _=>.kO
variable{j:Nat}
theorem xr{x:AV}(H:j<8):(slx x j).under 8=true:=by
 unfold slx;split
 .simp only[AV.under,Cs];exact H
 .rfl
def PkW(x:AV)(k e es n:Nat)(C D:List AV):Prop:=(x=.kO/\n=0/\C=[])\/(x=.slice k 0 n none/\e=es/\D=C)
variable{C D0:List AV}{e0 es n p:Nat}{o:Bool}
theorem mu{M:Mem}{x:AV}(h:af5 M x es n C)(H:AV.afA C=true)(I:M[p]? =some (.cells o e0 D0))(h0:AV.afA D0=true):
  ∃k e D,(∃o,M[k]? =some (.cells o e D))/\AV.afA D=true/\PkW x k e es n C D:=by
 rcases h with⟨Z,X,h3⟩ | ⟨b,V,Z,h3⟩
 .exact⟨p,e0,D0,⟨o,I⟩,h0,.inl ⟨Z,X,h3⟩⟩
 .exact⟨b,es,C,⟨V,h3⟩,H,.inr ⟨Z,rfl,rfl⟩⟩
variable{D:List AV}{e k:Nat}
theorem jX{m:Mem}{x:AV}(h:PkW x k e es n C D)(H:m[j]? =some (.cells false e D)):af5 m (slx x j) es n C:=by
 rcases h with⟨Z,X,h3⟩ | ⟨Z,rfl,rfl⟩
 .subst X Z;exact .inl ⟨rfl,rfl,h3⟩
 .subst Z;exact .inr ⟨j,false,rfl,H⟩
theorem qi{x:AV}{ks:List Nat}{L:Nat}(h:PkW x k e es n C D)(H:j<ks.length)(I:ks.getD j 0=k):(slx x j).ren (back ks L)=x:=by
 rcases h with⟨Z,X,_⟩ | ⟨Z,X,_⟩
 .subst Z;rfl
 .subst Z;simp only[slx,AV.ren,back,H,if_true,I]
variable{v:AV}
theorem WX{M:Mem}{S:List (List (List UInt8))}(h:SfW M v S)(hS:S.length<=2)(H:M[p]? =some (.cells o e0 D0))(h0:AV.afA D0=true):
  ∃N e5 D5 B K G U J I y,(∃o,M[N]? =some (.cells o e5 B))/\((∃o,M[K]? =some (.cells o G U))/\AV.afA U=true)/\((∃o,M[J]? =some (.cells o I y))/\AV.afA y=true)/\AV.afB 8 D5=true/\
   (∀(ks:List Nat) L,ks.length=8->ks.getD 6 0=K->ks.getD 7 0=J->∀(j:Nat) w,D5[j]? =some w->B[j]? =some (w.ren (back ks L)))/\
   (∀(ks:List Nat) L,ks.length=8->ks.getD 5 0=N->(slx v 5).ren (back ks L)=v)/\
   ∀m:Mem,m[5]? =some (.cells false e5 D5)->m[6]? =some (.cells false G U)->m[7]? =some (.cells false I y)->SfW m (slx v 5) S:=by
 obtain⟨hl3,vs,R,hv,F⟩:=h
 match S,hS,R with
 | [],_,R=>
  obtain rfl:vs=[]:=List.length_eq_zero_iff.1 R;obtain⟨k,e,D,⟨o1,hk⟩,hc,g⟩:=mu hv rfl H h0;refine⟨k,e,D,D,p,e0,D0,p,e0,D0,⟨o1,hk⟩,⟨⟨o,H⟩,h0⟩,⟨⟨o,H⟩,h0⟩,bx hc,fun ks L _ _ _ j w Z=>?_,fun ks L h1 h2=>qi g (by omega) h2,fun m u _ _=>⟨by simp,[],rfl,jX g u,fun i x L h=>by simp at h⟩⟩;have:=aS (ρ:=back ks L) hc;rw[gZ] at this;have h2:(D.map (AV.ren (back ks L)))[j]? =D[j]? :=by rw[this]
  rw[Y1,Z] at h2;rw[Z];exact h2.symm
 | [L1],_,R=>
  match vs,R with
  | [x1],_=>
   obtain⟨N,o5,rfl,h5⟩:=hv.pos (by simp);obtain⟨K,G,U,h6,c6,Y⟩:=mu (F 0 x1 L1 rfl rfl).1 (fY L1) H h0;refine⟨N,1,[slx x1 6],[x1],K,G,U,p,e0,D0,⟨o5,h5⟩,⟨h6,c6⟩,⟨⟨o,H⟩,h0⟩,by simp only[AV.afB,xr (show 6<8 by omega),Bool.and_self],fun ks L W Q _ j w Z=>?_,fun ks L W O =>?_,fun m u m6 m7=>⟨by simp,[slx x1 6],rfl,.inr ⟨5,false,rfl,u⟩,fun i x L X V=>?_⟩⟩
   .match j,Z with
    |0,Z=>cases Z;rw[qi Y (by omega) Q];rfl
    |j+1,Z=>simp at Z
   .show(AV.slice 5 0 1 none).ren (back ks L)=_
    simp only[AV.ren,back,W,O];rfl
   .match i,X,V with
    |0,X,V=>cases X;cases V;exact⟨jX Y m6,(F 0 x1 L1 rfl rfl).2⟩
    |i+1,X,_=>simp at X
 | [L1,L2],_,R=>
  match vs,R with
  | [x1,x2],_=>
   obtain⟨N,o5,rfl,h5⟩:=hv.pos (by simp);obtain⟨K,G,U,h6,c6,Y⟩:=mu (F 0 x1 L1 rfl rfl).1 (fY L1) H h0;obtain⟨J,I,y,h7,c7,g7⟩:=mu (F 1 x2 L2 rfl rfl).1 (fY L2) H h0;refine⟨N,1,[slx x1 6,slx x2 7],[x1,x2],K,G,U,J,I,y,⟨o5,h5⟩,⟨h6,c6⟩,⟨h7,c7⟩,by simp only[AV.afB,xr (show 6<8 by omega),xr (show 7<8 by omega),Bool.and_self],fun ks L W Q h7' j w Z=>?_,fun ks L W O =>?_,fun m u m6 m7=>⟨by simp,[slx x1 6,slx x2 7],rfl,.inr ⟨5,false,rfl,u⟩,fun i x L X V=>?_⟩⟩
   .match j,Z with
    |0,Z=>cases Z;rw[qi Y (by omega) Q];rfl
    |1,Z=>cases Z;rw[qi g7 (by omega) h7'];rfl
    |j+2,Z=>simp at Z
   .show(AV.slice 5 0 2 none).ren (back ks L)=_
    simp only[AV.ren,back,W,O];rfl
   .match i,X,V with
    |0,X,V=>cases X;cases V;exact⟨jX Y m6,(F 0 x1 L1 rfl rfl).2⟩
    |1,X,V=>cases X;cases V;exact⟨jX g7 m7,(F 1 x2 L2 rfl rfl).2⟩
    |i+2,X,_=>simp at X
variable{f:FuncId}
theorem BK{s:afI}{M:Mem}{t:Nat}{c:Evc}{b u sv kn:AV}{e:Int}(H:∃o,M[p]? =some (.cells o 2 (pC s.P)))(I:∃o,M[t]? =some (.cells o 3 (tC s.T)))(J:c.S.length<=2)(hE:EvW M (c.cells b u sv kn) c)(hS:∀(n2 n3 n4 n5 n6 n7:Nat)(W Y C4 C5 C6 C7:List AV)(m:Mem),m=[.cells false 2 (pC s.P),.cells false 3 (tC s.T),.cells false n2 W,.cells false n3 Y,.cells false n4 C4,.cells false n5 C5,.cells false n6 C6,.cells false n7 C7]->(AV.afB 8 (pC s.P)=true/\AV.afB 8 (tC s.T)=true/\AV.afB 8 W=true/\AV.afB 8 Y=true/\AV.afB 8 C4=true/\AV.afB 8 C5=true/\AV.afB 8 C6=true/\AV.afB 8 C7=true)->
   EvW m (c.cells (slx b 2) (slx u 3) (slx sv 5) (slx kn 4)) c->bz prog f [.agg [.slice 0 0 s.P.length none,.slice 1 0 s.T.length none],.agg (c.cells (slx b 2) (slx u 3) (slx sv 5) (slx kn 4))] m (.int .i64 e) m):
  bz prog f [.agg [.slice p 0 s.P.length none,.slice t 0 s.T.length none],.agg (c.cells b u sv kn)] M (.int .i64 e) M:=by
 obtain⟨o,H⟩:=H;obtain⟨o',I⟩:=I;obtain⟨b',u',s',kn',F,B,y,h3,h4,h5⟩:=hE;simp only[Evc.cells,List.cons.injEq,true_and,and_true] at F;obtain⟨rfl,rfl,rfl,rfl⟩:=F;obtain⟨V,e2,D2,⟨o2,m2⟩,c2,g2⟩:=mu B.1 (fY _) H (gW _);obtain⟨U,e3,D3,⟨o3,m3⟩,c3,g3⟩:=mu y.1 (fY _) H (gW _);obtain⟨R,e4,D4,⟨o4,m4⟩,c4,g4⟩:=mu h4 (wZ _) H (gW _);obtain⟨Q,e5,D5,K,O,e6,D6,N,e7,D7,⟨o5,m5⟩,⟨⟨o6,m6⟩,c6⟩,⟨⟨o7,m7⟩,c7⟩,u5,r5,rv,f5⟩:=WX h3 J H (gW _);obtain⟨m,X⟩:=xE (α:=Mem) [.cells false 2 (pC s.P),.cells false 3 (tC s.T),.cells false e2 D2,.cells false e3 D3,.cells false e4 D4,.cells false e5 D5,.cells false e6 D6,.cells false e7 D7];have G:EvW m (c.cells (slx b 2) (slx u 3) (slx sv 5) (slx kn 4)) c:=
  ⟨_,_,_,_,rfl,⟨jX g2 (by rw[X];rfl),B.2⟩,⟨jX g3 (by rw[X];rfl),y.2⟩,f5 m (by rw[X];rfl) (by rw[X];rfl) (by rw[X];rfl),jX g4 (by rw[X];rfl),h5⟩
 have h:=hS e2 e3 e4 e5 e6 e7 D2 D3 D4 D5 D6 D7 m X ⟨bx (gW _),bx (mz _),bx c2,bx c3,bx c4,u5,bx c6,bx c7⟩ G;have:=bz.frame (M:=M) (new:=[]) (args:=[.agg [.slice 0 0 s.P.length none,.slice 1 0 s.T.length none],.agg (c.cells (slx b 2) (slx u 3) (slx sv 5) (slx kn 4))]) [p,t,V,U,R,Q,O,N] (m:=m) (by rw[X];rfl) (by
  intro k hk;simp only[lM] at hk;rcases hk with rfl | rfl | rfl | rfl | rfl | rfl | rfl | rfl
  .exact fV H
  .exact fV I
  .exact fV m2
  .exact fV m3
  .exact fV m4
  .exact fV m5
  .exact fV m6
  .exact fV m7) (by simp[AV.afB,AV.under,Evc.cells,xr]) (fun i x Z=>by
  subst X
  match i,Z with
  |0,Z=>cases Z;exact gm (gW _) H V1
  |1,Z=>cases Z;exact gm (mz _) I V1
  |2,Z=>cases Z;exact gm c2 m2 V1
  |3,Z=>cases Z;exact gm c3 m3 V1
  |4,Z=>cases Z;exact gm c4 m4 V1
  |5,Z=>cases Z;exact⟨u5,o5,K,m5,r5 _ _ rfl rfl rfl⟩
  |6,Z=>cases Z;exact gm c6 m6 V1
  |7,Z=>cases Z;exact gm c7 m7 V1
  |i+8,Z=>simp at Z) rfl (by simpa using h)
 have q2:=qi (j:=2) (ks:=[p,t,V,U,R,Q,O,N]) (L:=M.length) g2 (by simp) rfl;have q3:=qi (j:=3) (ks:=[p,t,V,U,R,Q,O,N]) (L:=M.length) g3 (by simp) rfl;have q4:=qi (j:=4) (ks:=[p,t,V,U,R,Q,O,N]) (L:=M.length) g4 (by simp) rfl;have q5:=rv [p,t,V,U,R,Q,O,N] M.length rfl rfl;simp only[AV.afR,AV.ren,Evc.cells,q2,q3,q4,q5,List.map_nil,List.append_nil] at this;simpa [back,Evc.cells] using this
abbrev EvK(x y b u sv kn:AV):Prop:=(x.adM=true/\y.adM=true)/\(b.adM=true/\u.adM=true/\sv.adM=true/\kn.adM=true)/\(b.known=true/\b.cells=[b])/\(u.known=true/\u.cells=[u])/\(sv.known=true/\sv.cells=[sv])/\kn.known=true/\kn.cells=[kn]
theorem kY{g:FuncId}{a H:List AV}{I:AV}{M:Mem}(h1:∀Z,bz prog g H (M++Z) I (M++Z))(J:v.closed=true)(h:∀O:afu,(∀Z,O (.fn g) H (M++Z)=some ⟨I,none,[]⟩)->∃X,ao (aL prog) (fun _=>[]) (bq prog) O 1 f a M=some (v,M++X)):bz prog f a M v M:=by exact iK [(g,H,I)] (by simp) (by simp only[List.forall_mem_cons];exact⟨h1,fun x h=>by cases h⟩) J fun O e=>h O (e _ (List.mem_singleton.2 rfl))
section
variable {c:Evc}{b u sv kn x y:AV}{M:Mem}{r:Int}(H:EvK x y b u sv kn)
include H
theorem Pm(I:∀Z,bz prog 25 [.agg [x,y],.agg (c.cells b u sv kn)] (M++Z) (.int .i64 r) (M++Z))(h0:r≠0):bz prog 57 [.agg [x,y],.agg (c.cells b u sv kn),.agg [.str [],.str [],.str []]] M (.int .i64 r) M:=by
 refine kY I rfl fun O e=>?_
 clear I;have X:bq prog 57=some f57:=by kernel_rfl
 simp only[Evc.cells] at e |-;simp[-getElem?_pos,-AV.adM,-AV.known,-AV.cells,-ay,-List.all_eq_true,vS,rS,mS,ao,X,f57,aD,ag,H,e,h0]
section
variable (hC:∀Z,bz prog 57 [.agg [x,y],.agg (c.cells b u sv kn),.agg [.str [],.str [],.str []]] (M++Z) (.int .i64 r) (M++Z))
include hC
theorem PK(h0:r≠0):bz prog 18 [.agg [x,y],.agg (c.cells b u sv kn),.agg [.str [],.str [],.str []]] M (.tuple [.int .i64 0,.int .i64 r]) M:=by
 refine kY hC rfl fun O e=>?_
 clear hC;have Z:bq prog 18=some f18:=by kernel_rfl
 simp only[Evc.cells] at e |-;simp[-getElem?_pos,-AV.adM,-AV.known,-AV.cells,-ay,-List.all_eq_true,vS,rS,mS,ao,Z,f18,aD,ag,H,e,h0]
theorem PF{k:List UInt8}(h0:r≠0):bz prog 59 [.agg [x,y],.agg (c.cells b u sv kn),.agg [.str [],.str [],.str []],.str k] M (.tuple [.agg [.str [],.str [],.str []],.int .i64 r]) M:=by
 refine kY hC rfl fun O e=>?_
 clear hC;have Z:bq prog 59=some f59:=by kernel_rfl
 simp only[Evc.cells] at e |-;simp[-getElem?_pos,-AV.adM,-AV.known,-AV.cells,-ay,-List.all_eq_true,vS,rS,mS,ao,Z,f59,aD,ag,H,e,h0]
end
theorem M7(I:∀Z,bz prog 59 [.agg [x,y],.agg (c.cells b u sv kn),.agg [.str [],.str [],.str []],.str [45,49]] (M++Z) (.tuple [.agg [.str [],.str [],.str []],.int .i64 r]) (M++Z)):bz prog 21 [.agg [x,y],.agg (c.cells b u sv kn),.agg [.str [],.str [],.str []]] M (.tuple [.agg [.str [],.str [],.str []],.int .i64 r]) M:=by
 refine kY I rfl fun O e=>?_
 clear I;have X:bq prog 21=some f21:=by kernel_rfl
 simp only[Evc.cells] at e |-;simp[-getElem?_pos,-AV.adM,-AV.known,-AV.cells,-ay,-List.all_eq_true,vS,rS,mS,ao,X,f21,aD,ag,H,e]
theorem R4(I:∀Z,bz prog 59 [.agg [x,y],.agg (c.cells b u sv kn),.agg [.str [],.str [],.str []],.str [49]] (M++Z) (.tuple [.agg [.str [],.str [],.str []],.int .i64 r]) (M++Z)):bz prog 20 [.agg [x,y],.agg (c.cells b u sv kn),.agg [.str [],.str [],.str []]] M (.tuple [.agg [.str [],.str [],.str []],.int .i64 r]) M:=by
 refine kY I rfl fun O e=>?_
 clear I;have X:bq prog 20=some f20:=by kernel_rfl
 simp only[Evc.cells] at e |-;simp[-getElem?_pos,-AV.adM,-AV.known,-AV.cells,-ay,-List.all_eq_true,vS,rS,mS,ao,X,f20,aD,ag,H,e]
theorem PQ(I:∀Z,bz prog 25 [.agg [x,y],.agg (c.cells b u sv kn)] (M++Z) (.int .i64 r) (M++Z))(h0:r≠0):bz prog 58 [.agg [x,y],.agg (c.cells b u sv kn),.int .i64 0] M (.int .i64 r) M:=by
 refine kY I rfl fun O e=>?_
 clear I;have X:bq prog 58=some f58:=by kernel_rfl
 simp only[Evc.cells] at e |-;simp[-getElem?_pos,-AV.adM,-AV.known,-AV.cells,-ay,-List.all_eq_true,vS,rS,mS,ao,X,f58,aD,ag,H,e,h0]
section
variable (hC:∀Z,bz prog 58 [.agg [x,y],.agg (c.cells b u sv kn),.int .i64 0] (M++Z) (.int .i64 r) (M++Z))(h0:r≠0)
include hC h0
theorem Pz:bz prog 19 [.agg [x,y],.agg (c.cells b u sv kn),.int .i64 0] M (.tuple [.str [],.bool false,.int .i64 r]) M:=by
 refine kY hC rfl fun O e=>?_
 clear hC;have Z:bq prog 19=some f19:=by kernel_rfl
 simp only[Evc.cells] at e |-;simp[-getElem?_pos,-AV.adM,-AV.known,-AV.cells,-ay,-List.all_eq_true,vS,rS,mS,ao,Z,f19,aD,ag,H,e,h0]
theorem Mt:bz prog 29 [.agg [x,y],.agg (c.cells b u sv kn),.int .i64 0] M (.tuple [.agg [.str [],.str [],.str [],.str [],.str [],.str [],.str [],.str [],.str [],.str [],.str [],.str []],.int .i64 r]) M:=by
 refine kY hC rfl fun O e=>?_
 clear hC;have Z:bq prog 29=some f29:=by kernel_rfl
 simp only[Evc.cells] at e |-;simp[-getElem?_pos,-AV.adM,-AV.known,-AV.cells,-ay,-List.all_eq_true,vS,rS,mS,ao,Z,f29,aD,ag,H,e,h0]
end
theorem PO(I:∀Z,bz prog 25 [.agg [x,y],.agg (c.cells b u sv kn)] (M++Z) (.int .i64 r) (M++Z))(h0:r≠0):bz prog 11 [.agg [x,y],.agg (c.cells b u sv kn),.int .i64 0] M (.tuple [.kO,.int .i64 r]) M:=by
 refine kY I rfl fun O e=>?_
 clear I;have X:bq prog 11=some f11:=by kernel_rfl
 simp only[Evc.cells] at e |-;simp[-getElem?_pos,-AV.adM,-AV.known,-AV.cells,-ay,-List.all_eq_true,vS,rS,mS,ao,X,f11,aD,ag,H,e,h0]
theorem Pn(I:∀Z,bz prog 25 [.agg [x,y],.agg (c.cells b u sv kn)] (M++Z) (.int .i64 0) (M++Z)):bz prog 57 [.agg [x,y],.agg (c.cells b u sv kn),.agg [.str [],.str [],.str []]] M (.int .i64 2) M:=by
 have hV:=fun M=>iY [] [] [] (by decide) (by decide) (by decide) M
 rw[show jj [[],[],[]]=2 from by decide] at hV;refine iK (M:=M) [(25,[.agg [x,y],.agg (c.cells b u sv kn)],.int .i64 0),(70,[.agg [.str [],.str [],.str []]],.int .i64 2)] (by simp) (by simp only[List.forall_mem_cons];exact⟨I,fun Z=>hV _,fun x h=>by cases h⟩) rfl fun O e=>?_
 simp only[List.forall_mem_cons] at e;obtain⟨X,V,-⟩:=e;clear I hV;have U:bq prog 57=some f57:=by kernel_rfl
 simp only[Evc.cells] at X |-;simp[-getElem?_pos,-AV.adM,-AV.known,-AV.cells,-ay,-List.all_eq_true,vS,rS,mS,ao,U,f57,aD,ag,H,X,V]
end
end Go.Proofs
namespace Go.Proofs
open Go.Eng
open Tryz
variable{M:Mem}{c:Evc}{s:afI}
theorem Bj{p t:Nat}{e:List AV}(I:0<s.P.length/\s.P.length<=1000)(J:∃o,M[p]? =some (.cells o 2 (pC s.P)))(W:∃o,M[t]? =some (.cells o 3 (tC s.T)))(hS:c.S.length<=2)(hc:c.Br)(hd:c.Bd)(H:c.nm.length<=40)(hE:EvW M e c):bz prog 25 [.agg [.slice p 0 s.P.length none,.slice t 0 s.T.length none],.agg e] M (RT s.P.length c) M:=by
 obtain⟨b,u,D,kn,rfl,-⟩:=id hE;obtain⟨k,V⟩:=AM s.P.length c;rw[V];refine BK J W hS hE fun C B y j Y q7 C2 C3 C4 C5 C6 C7 m Z R X=>?_
 have Q:agE m s:=⟨I,false,false,by rw[Z];rfl,by rw[Z];rfl⟩;obtain⟨b',u',s',O,U,N,K,h3,G,F⟩:=id X;simp only[Evc.cells,List.cons.injEq,true_and,and_true] at U;obtain⟨rfl,rfl,rfl,rfl⟩:=U;subst Z;rw[<-V];exact Pt ⟨_,_,_,_,_,_,_,_,_,_,_,_,_,_,_,_,rfl,R⟩ Q H N K h3 G F hc hd
theorem MB{p t:Nat}{e:List AV}(I:0<s.P.length/\s.P.length<=1000)(J:∃o,M[p]? =some (.cells o 2 (pC s.P)))(W:∃o,M[t]? =some (.cells o 3 (tC s.T)))(hS:c.S.length<=2)(hc:c.Br)(hd:c.Bd)(H:c.nm.length<=40)(hE:EvW M e c):bz prog 24 [.agg [.slice p 0 s.P.length none,.slice t 0 s.T.length none],.agg e] M (RT s.P.length c) M:=by
 obtain⟨b,u,F,kn,rfl,-⟩:=id hE;obtain⟨k,V⟩:=AM s.P.length c;rw[V];refine BK J W hS hE fun D C B y j Y C2 C3 C4 C5 C6 C7 m Z hu X=>?_
 have R:agE m s:=⟨I,false,false,by rw[Z];rfl,by rw[Z];rfl⟩;obtain⟨b',u',s',Q,U,O,N,h3,K,G⟩:=id X;simp only[Evc.cells,List.cons.injEq,true_and,and_true] at U;obtain⟨rfl,rfl,rfl,rfl⟩:=U;subst Z;rw[<-V];exact PD R hc hd H O N h3 K G
end Go.Proofs
namespace Go.Eng
def rU(H:List Nat)(i:Nat)(r:Rec):Nat->List Rec->Bool
 |_,[]=>true
 |j,s::rest=>(bef H i j||((r.wr.all fun b=> !dj s.tm b)&&bL r.mem.length r.nx.length s))&&rU H i r (j+1) rest
def mW(H:List Nat):Nat->List (Nat×Rec)->List Rec->Bool
 |_,_,[]=>true
 |j,acc,r::rest=>r.v.aft (fun b=>decide (b<r.nx.length))&&(cF r||(rU H j r (j+1) rest&&(r.wr.isEmpty||(eI H j r acc&&r.wr.all (fun b=>dj r.tm b&&(match r.nx[b]? with | some s=>s.aft (fun b=>decide (b<r.nx.length)) | none=>true))))&&
   (r.nx.drop r.mem.length).all fun s=>(s.own||match s with | .y9=>true | _=>false)&&s.aft (fun b=>decide (b<r.nx.length))))&&mW H (j+1) ((j,r)::acc) rest
def oL(T:TypeId->Option TyI)(O:afu)(N m0:Nat)(ops:Array Oper)(H:List Nat)(s:XS):Option XS:=
 match mx T O N ops H 0 ops.toList s.env s.mem [] with
 |none=>none
 |some (R,env,mem)=>
  if mW H 0 [] R then some ⟨env,mem,s.afS||R.any fun r=>r.wr.any fun b=>decide (b<m0)⟩ else none
theorem zp{H:List Nat}{i:Nat}{r:Rec}:∀{j0:Nat} {R:List Rec},rU H i r j0 R=true->∀g∈aP j0 R,bef H i g.1=true\/((r.wr.all fun b=> !dj g.2.tm b)=true/\bL r.mem.length r.nx.length g.2=true)
 |_,[],_,g,hg=>by simp[aP] at hg
 |j0,s::rest,h,g,hg=>by
  simp only[rU,Ar,QQj,List.isEmpty_iff] at h;rw[aP,List.mem_cons] at hg;rcases hg with rfl | hg
  .exact h.1
  .exact zp h.2 g hg
structure ahw (bs:List Nat)(R:List (Nat×Rec))(f:Nat×Rec):Prop where
 refs:f.2.v.aft (fun b=>decide (b<f.2.nx.length))=true
 or:(f.2.nx.length=f.2.mem.length/\f.2.wr=[])\/((f.2.wr=[]\/∀g∈R,g.1<f.1->bef bs g.1 f.1=true\/((g.2.nx.length=g.2.mem.length/\g.2.wr=[])/\(f.2.wr.all fun b=> !dj g.2.tm b)=true))/\(∀g∈R,f.1<g.1->bef bs f.1 g.1=true\/((f.2.wr.all fun b=> !dj g.2.tm b)=true/\bL f.2.mem.length f.2.nx.length g.2=true))/\
  f.2.wr.all (fun b=>dj f.2.tm b&&(match f.2.nx[b]? with | some s=>s.aft (fun b=>decide (b<f.2.nx.length)) | none=>true))=true/\
  ((f.2.nx.drop f.2.mem.length).all fun s=>(s.own||match s with | .y9=>true | _=>false)&&s.aft (fun b=>decide (b<f.2.nx.length)))=true)
theorem wW{H:List Nat}{R0:List (Nat×Rec)}:∀{j0:Nat} {acc:List (Nat×Rec)} {R:List Rec},(∀g∈R0,g.1<j0\/g∈aP j0 R)->(∀g∈R0,g.1<j0->g∈acc)->mW H j0 acc R=true->∀f∈aP j0 R,ahw H R0 f
 |_,_,[],_,_,_,f,hf=>by simp[aP] at hf
 |j0,acc,r::rest,hR,abt,h,f,hf=>by
  simp only[mW,Ar] at h;obtain⟨⟨O,U⟩,N⟩:=h;have V :∀g∈R0,g.1<j0+1\/g∈aP (j0+1) rest:=by
   intro g X;rcases hR g X with h3 | h3
   .exact .inl (by omega)
   .rw[aP,List.mem_cons] at h3
    rcases h3 with rfl | h3
    .exact .inl (by simp)
    .exact .inr h3
  have Q :∀g∈R0,g.1<j0+1->g∈(j0,r)::acc:=by
   intro g X S;rcases hR g X with h3 | h3
   .exact List.mem_cons_of_mem _ (abt g X h3)
   .rw[aP,List.mem_cons] at h3
    rcases h3 with rfl | h3
    .exact List.mem_cons_self ..
    .have:=(gT h3).1;omega
  rw[aP,List.mem_cons] at hf;rcases hf with rfl | hf
  .refine⟨O,?_⟩
   simp only[cF,Ar,QQj,Cs,List.isEmpty_iff] at U;rcases U with U | ⟨⟨h3,Z⟩,M⟩
   .exact .inl U
   .refine .inr ⟨?_,fun g X S=>?_,?_,M⟩
    .rcases Z with Z | ⟨Z,_⟩
     .exact .inl Z
     .exact .inr fun g X S=>yq Z g (abt g X S)
    .rcases V g X with h6 | h6
     .simp only at S;omega
     .exact zp h3 g h6
    .rcases Z with Z | ⟨_,Z⟩
     .rw[Z];rfl
     .exact Z
  .exact wW V Q N f hf
variable{bs:List Nat}
theorem ED{R:List Rec}(h:mW bs 0 [] R=true){f:Nat×Rec}(hf:f∈aP 0 R):gO bs (aP 0 R) f.1 f.2=true:=by
 have C:=wW (R0:=aP 0 R) (fun g X=>.inr X) (fun g _ y=>absurd y (Nat.not_lt_zero _)) h;have S:=C f hf;unfold gO;have Q:∀g∈(aP 0 R).filter (fun g=>decide (g.1<f.1)&& !bef bs g.1 f.1),(g.2.nx.length=g.2.mem.length/\g.2.wr=[])\/((g.2.wr.all fun b=> !dj f.2.tm b)=true/\bL g.2.mem.length g.2.nx.length f.2=true):=by
  intro g X;have Z:=List.mem_filter.1 X;simp only[Ar,Cs,Bool.not_eq_true'] at Z;rcases (C g Z.1).or with U | ⟨_,U,_⟩
  .exact .inl U
  .rcases U f hf Z.2.1 with M | M
   .rw[M] at Z;exact absurd Z.2.2 (by simp)
   .exact .inr M
 have K:∀g∈(aP 0 R).filter (fun g=>decide (g.1<f.1)&& !bef bs g.1 f.1),(g.2.wr.all fun b=> !dj f.2.tm b)=true/\(f.2.wr.all fun b=> !dj g.2.tm b)=true/\(f.2.wr=[]\/g.2.nx.length=g.2.mem.length):=by
  intro g X;have Z:=List.mem_filter.1 X;simp only[Ar,Cs,Bool.not_eq_true'] at Z;rcases Q g X with⟨g1,V⟩ | ⟨g1,V⟩
  .refine⟨by rw[V];rfl,?_,.inr g1⟩
   rcases S.or with U | ⟨U,_⟩
   .rw[U.2];rfl
   .rcases U with U | U
    .rw[U];rfl
    .rcases U g Z.1 Z.2.1 with h3 | h3
     .rw[h3] at Z;exact absurd Z.2.2 (by simp)
     .exact h3.2
  .simp only[bL,Ar,List.isEmpty_iff] at V
   refine⟨g1,?_,.inl V.1.1.1⟩;rw[V.1.1.1];rfl
 have u:f.2.v.aft (iu f.2.nx.length ((aP 0 R).filter fun g=>decide (g.1<f.1)&& !bef bs g.1 f.1))=true:=afQ S.refs fun g X=>by
  rcases Q g X with⟨g1,_⟩ | ⟨_,V⟩
  .rw[ji g1];exact afK _
  .simp only[bL,Ar] at V
   exact V.1.1.2
 have F:(((aP 0 R).filter fun g=>decide (g.1<f.1)&& !bef bs g.1 f.1).all fun g=>g.2.wr.all (fun b=> !dj f.2.tm b)&&f.2.wr.all (fun b=> !dj g.2.tm b)&&
   ((f.2.tm.drop g.2.mem.length).take (g.2.nx.length-g.2.mem.length)).all fun s=>match s with | .y9=>true | _=>false)=true:=List.all_eq_true.2 fun g X=>by
  obtain⟨w1,w2,_⟩:=K g X;rw[w1,w2];simp only[Bool.true_and];rcases Q g X with⟨g1,_⟩ | ⟨_,V⟩
  .rw[g1,Nat.sub_self,List.take_zero];rfl
  .simp only[bL,Ar] at V
   refine List.all_eq_true.2 fun s N=>?_
   have:=List.all_eq_true.1 V.2 s N;cases s<;>simp_all[qI]
 have D:((f.2.nx.drop f.2.mem.length).all fun s=>(s.own||match s with | .y9=>true | _=>false)&&s.aft (iu f.2.nx.length ((aP 0 R).filter fun g=>decide (g.1<f.1)&& !bef bs g.1 f.1)))=true:=by
  refine List.all_eq_true.2 fun s N=>?_
  rcases S.or with⟨U,_⟩ | ⟨_,_,_,o⟩
  .rw[M6 (by rw[U];exact Es _)] at N;cases N
  .have O:=List.all_eq_true.1 o s N
   simp only[Ar] at O |-;refine⟨O.1,afz.afQ O.2 fun g X=>?_⟩;rcases Q g X with⟨g1,_⟩ | ⟨_,V⟩
   .rw[ji g1];exact afz.afK _
   .simp only[bL,Ar] at V
    exact List.all_eq_true.1 V.1.2 s N
 have B:f.2.wr.all (fun b=>dj f.2.tm b)=true/\(f.2.wr.all fun b=>match f.2.nx[b]? with | some s=>s.aft (iu f.2.nx.length ((aP 0 R).filter fun g=>decide (g.1<f.1)&& !bef bs g.1 f.1)) | none=>true)=true:=by
  rcases S.or with⟨_,M⟩ | ⟨_,_,h3,_⟩
  .rw[M];exact⟨rfl,rfl⟩
  .constructor
   .refine List.all_eq_true.2 fun b G=>?_
    have:=List.all_eq_true.1 h3 b G;simp only[Ar] at this;exact this.1
   .refine List.all_eq_true.2 fun b G=>?_
    have:=List.all_eq_true.1 h3 b G;simp only[Ar] at this;cases hn:f.2.nx[b]? with
    |none=>rfl
    |some s=>
     simp only[hn] at this |-;refine afz.afQ this.2 fun g X=>?_
     rcases (K g X).2.2 with O | O
     .rw[O] at G;cases G
     .rw[ji O];exact afz.afK _
 simp only[Ar];exact⟨⟨⟨⟨B.1,u⟩,B.2⟩,D⟩,F⟩
theorem qj{T:TypeId->Option TyI}{O:afu}{N m0:Nat}{ops:Array Oper}(H:eW ops.toList=bs)(s:XS):
  aN T O N m0 ops s=match oL T O N m0 ops bs s with
   |some s' =>some s'
   |none=>mw T O N m0 ops s:=by
 cases h:oL T O N m0 ops bs s with
 |none=>rfl
 |some s' =>
  simp only;unfold oL at h;unfold aN;simp only;rw[H];split at h
  .cases h
  .rename_i R env mem Z
   split at h
   .rename_i X
    cases h;rw[Z];simp only;rw[if_pos (List.all_eq_true.2 fun f V=>ED X V)]
   .cases h
end Go.Eng
namespace Go.Proofs
open Go.Eng
theorem rR(H:List Nat)(j:Nat)(acc:List (Nat×Rec))(r:Rec)(rest:List Rec):mW H j acc (r::rest)=(r.v.aft (fun b=>decide (b<r.nx.length))&&(cF r||(rU H j r (j+1) rest&&(r.wr.isEmpty||(eI H j r acc&&r.wr.all (fun b=>dj r.tm b&&(match r.nx[b]? with | some s=>s.aft (fun b=>decide (b<r.nx.length)) | none=>true))))&&
   (r.nx.drop r.mem.length).all fun s=>qA s&&s.aft (fun b=>decide (b<r.nx.length))))&&mW H (j+1) ((j,r)::acc) rest):=rfl
theorem rQ(H:List Nat)(j:Nat)(acc:List (Nat×Rec)):mW H j acc []=true:=rfl
end Go.Proofs
