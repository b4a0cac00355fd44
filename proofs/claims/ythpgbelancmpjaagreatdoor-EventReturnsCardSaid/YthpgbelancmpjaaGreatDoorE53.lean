/- See E54. -/
import Derived.Test.YthpgbelancmpjaaGreatDoorE52
set_option linter.all false
set_option maxRecDepth 100000
set_option maxHeartbeats 40000000
namespace Go.Proofs
open Go.Eng
open Tryz
noncomputable def mvS(x:aed)(b:Bool)(p:V3):V3:=match x.kind%5 with
 |1=>ru (zQ (dz x)) (hQ (gd (x.n 6))) (hV (yy x)) b p
 |2=>Kp (zQ (dz x)) (x.aeA (ctM x)) (zQ (yy x)) b p
 |4=>W9 (zM x) (zQ (dz x)) b p
 |_=>p
noncomputable def Wn(s:aeo)(x:aed)(p:V3):Int:=match x.kind%5 with
 |0=>XD s x p
 |1=>pr (zQ (dz x)) (hQ (gd (x.n 6))) p
 |2=>(dV (x.aeA (ctM x)) (dj (zQ (dz x)) p):Int)
 |3=>dkL (zQ (dz x)) (hQ (gd (x.n 6))) (hQ (ps9 (x.n 7))) p
 |_=>0
section
variable {x:aed}{s:aeo}{M:Mem}{p t:Nat}{o o' :Bool}{ev:List AV}{v:V3}
theorem BS(b:Bool)(p:V3):mvS x (!b) (mvS x b p)=p:=by
 have Z:=MS (dz x) (gd (x.n 3),gd (x.n 4),gd (x.n 5));unfold mvS;rcases iL x.kind with h | h | h | h | h<;>rw[h]
 ·rfl
 ·exact RG (RK Z) b p
 ·exact Uq (Oy Z) b p
 ·rfl
 ·exact Wb (wC x) _ b p
theorem F0(h:x.kind%5=1∨x.kind%5=2)(b:Bool)(p:V3):dj (zQ (dz x)) (mvS x b p)=dj (zQ (dz x)) p:=by
 have Z:=MS (dz x) (gd (x.n 3),gd (x.n 4),gd (x.n 5));unfold mvS;rcases h with h | h<;>rw[h]
 ·exact RF (RK Z) b p
 ·exact Up (Oy Z) b p
theorem FP(H:vDg 5 v):dg 40 40 (dj (zQ (dz x)) v):=VJ (Gq (lV x) (k:=1) (by decide) (by decide)) H (by omega)
theorem WM(b:Bool)(H:vDg 5 v):vDg 150 (mvS x b v):=by
 have Z:=Gq (lV x) (k:=1) (by decide) (by decide);have X:=FP (x:=x) H;have S:=mP x;unfold mvS;rcases iL x.kind with h | h | h | h | h<;>rw[h]
 ·exact H.mono (by omega)
 ·show vDg 150 (ru _ _ _ _ _)
  unfold ru;split
  ·exact(Gm H (VL (uk x) (k:=3) (by decide) (by decide)) (Ec b)).mono (by omega)
  ·exact H.mono (by omega)
 ·have V:=Lb (Q:=x.aeA (ctM x)) (fun q U=>vM (by omega) U) X
  exact(Gm H (Gq (uk x) (k:=3) (by decide) (by decide)) (dE (Ec b) V)).mono (by omega)
 ·exact H.mono (by omega)
 ·have r:=No (wz (Ag x) b) (wA (wC x) b)
  exact(Wf (BJ r H) (Nx Z (BJ r Z))).mono (by omega)
theorem VS(b:Bool)(p:V3):Wn s x (mvS x b p)=Wn s x p:=by
 unfold Wn;rcases iL x.kind with h | h | h | h | h
 ·have e:mvS x b p=p:=by unfold mvS;rw[h];rfl
  rw[e]
 ·have:=F0 (.inl h) b p
  rw[h];simp only[pr,this]
 ·have:=F0 (.inr h) b p
  rw[h];simp only[this]
 ·have e:mvS x b p=p:=by unfold mvS;rw[h];rfl
  rw[e]
 ·rw[h];rfl
theorem Mm(H:Bool)(I:vDg 150 v)(hd:x.kind%5=1∨x.kind%5=2→dg 40 40 (dj (zQ (dz x)) v))(hr:vDg 150 (mvS x H v))(W:M[p]? =some (.cells o 2 (pC s.P)))(Y:M[t]? =some (.cells o' 3 (tC s.T)))(J:ae9 M ev (cSk x s.P.length))(Z:Mem):
  kO prog 59 [KS s p t,.agg ev,vA v,.str (sgT H)] (M++Z) (.tuple [vA (mvS x H v),.int .i64 0]) (M++Z):=by
 have R:=Hh s x;have G:=Gq (lV x) (k:=1) (by decide) (by decide);have ck:∀Z,kO prog 25 [KS s p t,.agg ev] (M++Z) (.int .i64 0) (M++Z):=fun Z=>R _ p t o o' _ (di W Z) (di Y Z) (J.more Z)
 unfold mvS at hr ⊢;rcases iL x.kind with h | h | h | h | h
 ·rw[Wp h] at J
  rw[h] at hr ⊢;obtain⟨b,u,N,L,rfl,U,S,⟨_,_,h3,_⟩,V⟩:=J;exact mG (M:=M++Z) _ (.inl rfl) b u N L U.ck S.ck h3.ck V.ck ⟨_,_,rfl,rfl,rfl⟩ H v (nt (I.mono (by omega))) (ckz ck Z)
 ·rw[Wq h] at J
  have F:=hd (.inl h);rw[h] at hr ⊢;obtain⟨b,u,N,L,rfl,U,S,h3,V⟩:=J;obtain rfl:=U.aeS rfl;obtain rfl:=S.aeS rfl;obtain rfl:=h3.aeS rfl;obtain rfl:=V.aeS rfl;have D:=VL (uk x) (k:=3) (by decide) (by decide);have o6:=De (z:=gd (x.n 6)) (k:=1) (by have:=cS (x.n 6);omega) (by decide);exact wN (M:=M++Z) (vI (di W Z)) (vI (di Y Z)) [110] _ _ _ H v ⟨nt (I.mono (by omega)),gD (G.mono (m:=150) (by omega)) I (by omega) (by omega),fe F (by omega) (by omega),fe o6 (by omega) (by omega),DV I D (Ec H) (by omega) (by omega) (by omega) (by omega),nt ((Gm I D (Ec H)).mono (by omega))⟩ (ckz ck Z)
 ·rw[Wr h] at J R
  have F:=hd (.inr h);rw[h] at hr ⊢;have hc:=mP x;have X:(x.aeA (ctM x)).length=ctM x:=aed.aeL x _;have O:U8 2 (x.aeA (ctM x)):=fun q C=>vM (by omega) C
  have B:U8 40 (x.aeA (ctM x)):=fun q C=>⟨(O q C).1.mono (by decide),(O q C).2.mono (by decide)⟩
  obtain⟨b,u,N,L,rfl,U,S,h3,V⟩:=J;obtain rfl:=U.aeS rfl;obtain rfl:=S.aeS rfl;obtain rfl:=h3.aeS rfl;have e1:(dn [110] (zQ (dz x)) (x.aeA (ctM x)) (zQ (yy x))).K.length=ctM x:=by show(kT _).length=_;rw[eh,X]
  rw[e1] at V;obtain⟨kb,ko,rfl,A⟩:=V.pos (by omega);have A:M[kb]? =some (.cells ko 2 (kC (kT (x.aeA (ctM x))))):=A;have D:=Gq (uk x) (k:=3) (by decide) (by decide);have j:=Lb O F;have this:=yW (M:=M++Z) s [110] (zQ (dz x)) (x.aeA (ctM x)) (zQ (yy x)) H v ⟨nt (I.mono (by omega)),gD (G.mono (m:=150) (by omega)) I (by omega) (by omega),⟨B,by rw[X];omega,fun i a b ha hb=>UB ha hb⟩,F,fe j (by omega) (by omega),fe (Ec H) (by omega) (by omega),DV I D (dE (Ec H) j) (by omega) (by omega) (by omega) (by omega),nt (hr.mono (by omega))⟩ (by rw[X];omega) (by rw[X];omega) R (di W Z) (di Y Z) (di A Z);rw[X] at this;exact this
 ·rw[Wt h] at J
  rw[h] at hr ⊢;obtain⟨b,u,N,L,rfl,U,S,⟨_,_,h3,_⟩,V⟩:=J;exact mG (M:=M++Z) _ (.inr rfl) b u N L U.ck S.ck h3.ck V.ck ⟨_,_,rfl,rfl,rfl⟩ H v (nt (I.mono (by omega))) (ckz ck Z)
 ·rw[Wu h] at J
  rw[h] at hr ⊢;obtain⟨b,u,N,L,rfl,U,S,h3,V⟩:=J;obtain rfl:=U.aeS rfl;obtain rfl:=S.aeS rfl;obtain rfl:=h3.aeS rfl;obtain rfl:=V.aeS rfl;have r:=No (wz (Ag x) H) (wA (wC x) H);have mp:=BJ r I;have mc:=BJ r G;have sc:=Nx G mc;exact yX (M:=M++Z) [110] (Ag x) (wC x) (G.mono (by omega)) H v (nt (I.mono (by omega))) ⟨⟨nt (r.1.mono (by omega)),nt (r.2.1.mono (by omega)),nt (r.2.2.mono (by omega)),nt (sc.mono (by omega))⟩,nt (I.mono (by omega)),⟨gD (r.1.mono (m:=150) (by omega)) I (by omega) (by omega),gD (r.2.1.mono (m:=150) (by omega)) I (by omega) (by omega),gD (r.2.2.mono (m:=150) (by omega)) I (by omega) (by omega)⟩,⟨La mp (by omega) (by omega),La sc (by omega) (by omega)⟩,nt (hr.mono (by omega))⟩ (ckz ck Z)
theorem Dx(W:vDg 150 v)(hd:x.kind%5=1∨x.kind%5=2→dg 40 40 (dj (zQ (dz x)) v))(hs:x.kind%5=0∨x.kind%5=3→vDg 5 v)(I:M[p]? =some (.cells o 2 (pC s.P)))(J:M[t]? =some (.cells o' 3 (tC s.T)))(H:ae9 M ev (cSk x s.P.length))(Z:Mem):
  kO prog 18 [KS s p t,.agg ev,vA v] (M++Z) (.tuple [.int .i64 (Wn s x v),.int .i64 0]) (M++Z):=by
 have X:=Hh s x;have nN:=Gq (lV x) (k:=1) (by decide) (by decide);have B:=De (z:=gd (x.n 6)) (k:=1) (by have:=cS (x.n 6);omega) (by decide);have F:=nt (W.mono (m:=200) (by omega));have S:=gD (nN.mono (m:=150) (by omega)) W (by omega) (by omega);unfold Wn;rcases iL x.kind with h | h | h | h | h
 ·have h3:=jH x
  obtain⟨w1,w2,w3⟩:=SY (s:=s) (x:=x) h3;have W:=hs (.inl h);rw[Wp h] at H X;rw[h];exact kB fU.1 rfl X I J H F (fun Z=>Lk w1 w2 w3 rfl rfl (H.more Z) (di I Z) (di J Z) W) (by decide) (by decide) Z
 ·rw[Wq h] at H X
  have G:=hd (.inl h);rw[h];have V:=H;obtain⟨b,u,A,j,rfl,R,O,h3,U⟩:=H;obtain rfl:=R.aeS rfl;obtain rfl:=O.aeS rfl;obtain rfl:=h3.aeS rfl;obtain rfl:=U.aeS rfl;exact kB fU.2.1 rfl X I J V F (fun Z=>Am (M:=M++Z) (vI (di I Z)) (vI (di J Z)) [110] _ _ _ v S (fe G (by omega) (by omega)) (fe B (by omega) (by omega))) (by decide) (by decide) Z
 ·rw[Wr h] at H X
  have G:=hd (.inr h);rw[h];have V:=H;have hc:=mP x;have N:(x.aeA (ctM x)).length=ctM x:=aed.aeL x _;have D:U8 2 (x.aeA (ctM x)):=fun q C=>vM (by omega) C
  obtain⟨b,u,A,j,rfl,R,O,h3,U⟩:=H;obtain rfl:=R.aeS rfl;obtain rfl:=O.aeS rfl;obtain rfl:=h3.aeS rfl;have e1:(dn [110] (zQ (dz x)) (x.aeA (ctM x)) (zQ (yy x))).K.length=ctM x:=by show(kT _).length=_;rw[eh,N]
  rw[e1] at U;obtain⟨kb,ko,rfl,Y⟩:=U.pos (by omega);have Y:M[kb]? =some (.cells ko 2 (kC (kT (x.aeA (ctM x))))):=Y;refine kB fU.2.2.1 rfl X I J V F (fun Z=>?_) (by decide) (by decide) Z;have:=Lh (M:=M++Z) (nm:=[110]) (n:=zQ (dz x)) (v:=zQ (yy x)) (p:=v) (a:=s.P.length) (b:=s.T.length) (L:=x.aeA (ctM x)) (vI (di I Z)) (vI (di J Z)) (di Y Z) S (fun q C=>⟨fe (D q C).1 (by omega) (by omega),fe (D q C).2 (by omega) (by omega)⟩) (fe G (by omega) (by omega)) (by rw[N];omega);rw[N] at this;exact this
 ·have W:=hs (.inr h)
  have G:=FP (x:=x) W;have w7:=De (z:=ps9 (x.n 7)) (k:=1) (by have:=lX (x.n 7);omega) (by decide);rw[Wt h] at H X;rw[h];have V:=H;obtain⟨b,u,A,j,rfl,R,O,h3,U⟩:=H;obtain rfl:=R.aeS rfl;obtain rfl:=O.aeS rfl;obtain rfl:=h3.aeS rfl;obtain rfl:=U.aeS rfl;exact kB fU.2.2.2.1 rfl X I J V F (fun Z=>Li (M:=M++Z) ⟨rfl,rfl⟩ S (fe G (by omega) (by omega)) (fe B (by omega) (by omega)) (fe w7 (by omega) (by omega)) (fe (ur G B) (by omega) (by omega))) (by decide) (by decide) Z
 ·rw[Wu h] at H X
  rw[h];have V:=H;obtain⟨b,u,A,j,rfl,R,O,h3,U⟩:=H;obtain rfl:=R.aeS rfl;obtain rfl:=O.aeS rfl;obtain rfl:=h3.aeS rfl;obtain rfl:=U.aeS rfl;exact kB fU.2.2.2.2 rfl X I J V F (fun Z=>Lj ⟨rfl,rfl⟩ _ _) (by decide) (by decide) Z
end
def Tryz.afM(M:Mem)(H:AV)(I:List AV)(p:V3)(x:aed):Prop:=
 ∃(n:Int) (q r:V3),((∀Z,kO prog 18 [H,.agg I,vA p] (M++Z) (.tuple [.int .i64 n,.int .i64 0]) (M++Z))∧∀Z,kO prog 18 [H,.agg I,vA q] (M++Z) (.tuple [.int .i64 n,.int .i64 0]) (M++Z))∧
  ((∀Z,kO prog 20 [H,.agg I,vA p] (M++Z) (.tuple [vA q,.int .i64 0]) (M++Z))∧∀Z,kO prog 21 [H,.agg I,vA q] (M++Z) (.tuple [vA p,.int .i64 0]) (M++Z))∧
  ((∀Z,kO prog 21 [H,.agg I,vA p] (M++Z) (.tuple [vA r,.int .i64 0]) (M++Z))∧∀Z,kO prog 20 [H,.agg I,vA r] (M++Z) (.tuple [vA p,.int .i64 0]) (M++Z))∧
  ((vDg 150 p∧vDg 150 q)∧(r=p→q=p)∧(q=p→r=p))∧(x.kind%5=1∨x.kind%5=2→dg 40 40 (dj (zQ (dz x)) p)∧dj (zQ (dz x)) q=dj (zQ (dz x)) p)
theorem Tryz.afM.pad{M:Mem}{H:AV}{I:List AV}{p:V3}{x:aed}(h:afM M H I p x)(Z:Mem):afM (M++Z) H I p x:=by
 obtain⟨n,q,r,⟨X,V⟩,⟨U,S⟩,⟨R,O⟩,h⟩:=h;refine⟨n,q,r,⟨fun Y=>?_,fun Y=>?_⟩,⟨fun Y=>?_,fun Y=>?_⟩,⟨fun Y=>?_,fun Y=>?_⟩,h⟩<;>rw[List.append_assoc]
 ·exact X _
 ·exact V _
 ·exact U _
 ·exact S _
 ·exact R _
 ·exact O _
section
variable {x:aed}{s:aeo}{M:Mem}{p t:Nat}{o o' :Bool}{ev:List AV}{v:V3}
theorem AA(H:Bool)(J:vDg 150 v)(hd:x.kind%5=1∨x.kind%5=2→dg 40 40 (dj (zQ (dz x)) v))(hr:vDg 150 (mvS x H v))(W:M[p]? =some (.cells o 2 (pC s.P)))(Y:M[t]? =some (.cells o' 3 (tC s.T)))(I:ae9 M ev (cSk x s.P.length))(Z:Mem):
  kO prog (if H then 21 else 20) [KS s p t,.agg ev,vA v] (M++Z) (.tuple [vA (mvS x H v),.int .i64 0]) (M++Z):=
 Lm (M:=M++Z) ⟨_,_,rfl,rfl,rfl⟩ I.l32 I.cok H fun X =>by rw[List.append_assoc];exact Mm H J hd hr W Y I _
theorem WN(h:x.kind%5=0∨x.kind%5=3)(b:Bool)(p:V3):mvS x b p=p:=by
 unfold mvS;rcases h with h | h
 ·rw[h];rfl
 ·rw[h];rfl
theorem Pr(J:vDg 5 v)(H:M[p]? =some (.cells o 2 (pC s.P)))(I:M[t]? =some (.cells o' 3 (tC s.T))):afM (M++Qb M.length x s.P.length) (KS s p t) (Un M.length x s.P.length) v x:=by
 have V:=RC x s.P.length (np s).1 M;have H:=di H (Qb M.length x s.P.length);have I:=di I (Qb M.length x s.P.length);have X :=J.mono (m:=150) (by omega);have R:x.kind%5=1∨x.kind%5=2→dg 40 40 (dj (zQ (dz x)) v):=fun _=>FP J
 have U :∀b,x.kind%5=1∨x.kind%5=2→dg 40 40 (dj (zQ (dz x)) (mvS x b v)):=fun b h=>by rw[F0 h];exact FP J
 have S:=fun b=>WM (x:=x) b J
 have O:∀b,vDg 150 (mvS x (!b) (mvS x b v)):=fun b=>by rw[BS];exact X
 have fq:=fun b Z=>AA (!b) (S b) (U b) (O b) H I V Z
 refine⟨Wn s x v,mvS x false v,mvS x true v,⟨fun Z=>Dx X R (fun _=>J) H I V Z,fun Z=>?_⟩,⟨fun Z=>AA false X R (S _) H I V Z,fun Z=>?_⟩,⟨fun Z=>AA true X R (S _) H I V Z,fun Z=>?_⟩,⟨⟨X,S _⟩,fun h=>?_,fun h=>?_⟩,fun h=>⟨R h,F0 h _ _⟩⟩
 ·have:=Dx (S false) (U false) (fun h=>by rw[WN h];exact J) H I V Z
  rw[VS] at this;exact this
 ·have:=fq false Z
  rw[BS] at this;exact this
 ·have:=fq true Z
  rw[BS] at this;exact this
 ·have:=BS (x:=x) true v
  rwa [h] at this
 ·have:=BS (x:=x) false v
  rwa [h] at this
end
theorem zY{f:FuncId}{a b:List AV}{p:Mem→Prop}{r r' :aee}{m:Mem}{L:List (FuncId×List AV×(Mem→Prop)×aee)}(h:b=a→r=r')(h2:dy L (.fn f) b m=some r'):dy ((f,a,p,r)::L) (.fn f) b m=some r' :=by
 rw[dy];split
 next e=>rw[h e.2.1]
 ·exact h2
theorem Vn{m e:AV}{a b:V3}(h:[m,e,vA a]=[m,e,vA b]):a=b:=by
 have k:∀{x y:Rat},aj x=aj y→x=y:=fun e=>Option.some.inj (by rw[←ar,e,ar])
 obtain⟨V,U,S⟩:=a;obtain⟨R,O,N⟩:=b;simp only[vA,List.cons.injEq,AV.agg.injEq,AV.str.injEq,and_true,true_and] at h;obtain⟨Z,X,h3⟩:=h;rw[k Z,k X,k h3]
theorem Fm:(aJ f5).map (fun o=>dT o.toList)=[[0,0,3,0,15,0,0,127,255]]:=by kernel_rfl
def rtC(H:List AV)(k:Int)(N:V3):Prop:=H[0]? =some (.int .i64 k)∧(∃a b c,(H.drop 5).take 3=[.str a,.str b,.str c]∧(k=2→a=aj N.1∧b=aj N.2.1∧c=aj N.2.2))∧(k=3→(H.drop 12).take 3=[.str (aj N.1),.str (aj N.2.1),.str (aj N.2.2)])
variable{x:aed}
theorem My(s:aeo)(hs:s.Ok)(C H:List AV)(hC:C.length=34)(hCc:AV.aej C=true)(hl:H.length=32)(YU:∀x∈H,x.aei=true)(I d1 J d2 W d3:Int)(p:V3){X:Nat→aek}{k:Int}(hX:Wy X)(hx:rtC H k (zQ (dz x)))(Y:k=2∨k=3→x.kind%5=1∨x.kind%5=2)(Zd:∀i,AV.ael (fun b=>decide (b<11+i)) H=true)(hP:∀M,kO prog 10 [.agg [.int .i16 I,.int .u8 d1,.int .i16 J,.int .u8 d2,.int .i16 W,.int .u8 d3]] M (vA p) M)(hM:kO prog 9 [KS s 3 4,.agg C,.str [110]] (lwM s C I d1 J d2 W d3) (.agg H) (lwM s C I d1 J d2 W d3++vH X))(hG:afM (lwM s C I d1 J d2 W d3++vH X) (KS s 3 4) H p x):
  kO prog 5 [s.av,.agg C,.agg [.int .i16 I,.int .u8 d1,.int .i16 J,.int .u8 d2,.int .i16 W,.int .u8 d3]] [] (.bool true) []:=by
 have hF:aT prog 5=some f5:=by kernel_rfl
 have r0:=er hCc;have o0:=gn hCc;have pO:=fun f=>gn (ei s.P) f
 have tO:=fun f=>gn (fR s.T) f
 have w0:=fun i=>(hX i).1
 have wa:∀es cs,jW (.cells true es cs)=true:=fun _ _=>rfl
 have wb:oU .qK=true:=rfl;have v0:∀i,(X i).aef (fun b=>decide (b<11))=true:=fun i=>(hX i).2 0
 have v1:∀i,(X i).aef (fun b=>decide (b<12))=true:=fun i=>(hX i).2 1
 have v2:∀i,(X i).aef (fun b=>decide (b<13))=true:=fun i=>(hX i).2 2
 have v3:∀i,(X i).aef (fun b=>decide (b<14))=true:=fun i=>(hX i).2 3
 have G:AV.ael (fun b=>decide (b<11)) H=true:=Zd 0;have ev1:AV.ael (fun b=>decide (b<12)) H=true:=Zd 1;have F:AV.ael (fun b=>decide (b<13)) H=true:=Zd 2;have ev3:AV.ael (fun b=>decide (b<14)) H=true:=Zd 3;have ev4:AV.ael (fun b=>decide (b<15)) H=true:=Zd 4;have t34:C.take 34=C:=List.take_of_length_le (by omega);have t32:H.take 32=H:=List.take_of_length_le (by omega);have g1:H.all AV.aei=true:=List.all_eq_true.2 YU;obtain⟨n,q,r,⟨a1,a2⟩,⟨b1,b2⟩,⟨c1,c2⟩,⟨⟨dp,dq⟩,u1,u2⟩,B⟩:=hG;obtain⟨N,hN⟩:=xE (zQ (dz x));have D:=Gq (lV x) (k:=1) (by decide) (by decide);rw[←hN] at hx B D;have lens:∀{z:Rat},dg 40 40 z→(au z.num.natAbs).length≤200∧(au z.den).length≤200:=fun h=>by have:=h.lens (by omega) (by omega);omega
 have z1:k=2∨k=3→∀M,kO prog 22 [vA N,vA p] M (.tuple [.str (aj (dj N p)),.int .i64 0]) M:=fun h M=>Dv N p (nt (D.mono (by omega))) (nt (dp.mono (by omega))) (gD (D.mono (m:=150) (by omega)) dp (by omega) (by omega)) (lens (B (Y h)).1) M
 have z2:k=2∨k=3→∀M,kO prog 22 [vA N,vA q] M (.tuple [.str (aj (dj N p)),.int .i64 0]) M:=fun h M=>by have e:=(B (Y h)).2;rw[←e];exact Dv N q (nt (D.mono (by omega))) (nt (dq.mono (by omega))) (gD (D.mono (m:=150) (by omega)) dq (by omega) (by omega)) (lens (by rw[e];exact(B (Y h)).1)) M
 clear B Y dp dq D hN lens;obtain⟨L,S⟩:=xE (α:=List (FuncId×List AV×(Mem→Prop)×aee)) [(7,[],(fun _=>True),⟨.bool true,none,[]⟩),(8,[s.av],(fun M=>M.length=3),⟨KS s 3 4,none,[.cells true 2 (pC s.P),.cells true 3 (tC s.T)]⟩),(9,[KS s 3 4,.agg C,.str [110]],(fun M=>M=(lwM s C I d1 J d2 W d3)),⟨.agg H,none,vH X⟩),(10,[.agg [.int .i16 I,.int .u8 d1,.int .i16 J,.int .u8 d2,.int .i16 W,.int .u8 d3]],(fun _=>True),⟨vA p,none,[]⟩),(18,[KS s 3 4,.agg H,vA p],(fun M=>∃Z,M=(lwM s C I d1 J d2 W d3++vH X)++Z),⟨.tuple [.int .i64 n,.int .i64 0],none,[]⟩),(18,[KS s 3 4,.agg H,vA q],(fun M=>∃Z,M=(lwM s C I d1 J d2 W d3++vH X)++Z),⟨.tuple [.int .i64 n,.int .i64 0],none,[]⟩),(20,[KS s 3 4,.agg H,vA p],(fun M=>∃Z,M=(lwM s C I d1 J d2 W d3++vH X)++Z),⟨.tuple [vA q,.int .i64 0],none,[]⟩),(20,[KS s 3 4,.agg H,vA r],(fun M=>∃Z,M=(lwM s C I d1 J d2 W d3++vH X)++Z),⟨.tuple [vA p,.int .i64 0],none,[]⟩),(21,[KS s 3 4,.agg H,vA q],(fun M=>∃Z,M=(lwM s C I d1 J d2 W d3++vH X)++Z),⟨.tuple [vA p,.int .i64 0],none,[]⟩),(21,[KS s 3 4,.agg H,vA p],(fun M=>∃Z,M=(lwM s C I d1 J d2 W d3++vH X)++Z),⟨.tuple [vA r,.int .i64 0],none,[]⟩),(22,[vA N,vA p],(fun _=>k=2∨k=3),⟨.tuple [.str (aj (dj N p)),.int .i64 0],none,[]⟩),(22,[vA N,vA q],(fun _=>k=2∨k=3),⟨.tuple [.str (aj (dj N p)),.int .i64 0],none,[]⟩)];have hO:qS prog (dy L):=lO fun z hz M R=>by
  rw[S] at hz;simp only[lM] at hz;rcases hz with rfl | rfl | rfl | rfl | rfl | rfl | rfl | rfl | rfl | rfl | rfl | rfl
  ·exact aW (Ls M)
  ·have R:M.length=3:=R
   have:=Lt s hs M;rw[R] at this;exact aC this
  ·have R:M=_:=R
   rw[R];exact aC hM
  ·exact aW (hP M)
  ·obtain⟨Z,rfl⟩:=R
   exact aW (a1 Z)
  ·obtain⟨Z,rfl⟩:=R
   exact aW (a2 Z)
  ·obtain⟨Z,rfl⟩:=R
   exact aW (b1 Z)
  ·obtain⟨Z,rfl⟩:=R
   exact aW (c2 Z)
  ·obtain⟨Z,rfl⟩:=R
   exact aW (b2 Z)
  ·obtain⟨Z,rfl⟩:=R
   exact aW (c1 Z)
  ·exact aW (z1 R M)
  ·exact aW (z2 R M)
 have e1:∀M,dy L (.fn 7) [] M=some ⟨.bool true,none,[]⟩:=fun M=>by rw[S];exact cr trivial
 have e2:∀M:Mem,M.length=3→dy L (.fn 8) [.agg [.int .u8 s.kind,.int .i8 s.sx,.int .i8 s.sy,.bool s.half]] M=some ⟨.agg [.slice 3 0 s.P.length none,.slice 4 0 s.T.length none],none,[.cells true 2 (pC s.P),.cells true 3 (tC s.T)]⟩:=fun M hM=>by rw[S,aB (.inl (by decide))];exact cr hM
 have e3:dy L (.fn 9) [.agg [.slice 3 0 s.P.length none,.slice 4 0 s.T.length none],.agg C,.str [110]] [.cells true 0 [.int .u8 s.kind,.int .i8 s.sx,.int .i8 s.sy,.bool s.half],.cells true 0 C,.cells true 0 [.int .i16 I,.int .u8 d1,.int .i16 J,.int .u8 d2,.int .i16 W,.int .u8 d3],.cells true 2 (pC s.P),.cells true 3 (tC s.T),.cells true 0 [.slice 3 0 s.P.length none,.slice 4 0 s.T.length none]]=some ⟨.agg H,none,[X 0,X 1,X 2,X 3,X 4]⟩:=by rw[S,aB (.inl (by decide)),aB (.inl (by decide))];exact cr rfl
 have e4:∀M,dy L (.fn 10) [.agg [.int .i16 I,.int .u8 d1,.int .i16 J,.int .u8 d2,.int .i16 W,.int .u8 d3]] M=some ⟨vA p,none,[]⟩:=fun M=>by rw[S,aB (.inl (by decide)),aB (.inl (by decide)),aB (.inl (by decide))];exact cr trivial
 have e5:∀Z,dy L (.fn 18) [.agg [.slice 3 0 s.P.length none,.slice 4 0 s.T.length none],.agg H,vA p] (.cells true 0 [.int .u8 s.kind,.int .i8 s.sx,.int .i8 s.sy,.bool s.half]::.cells true 0 C::.cells true 0 [.int .i16 I,.int .u8 d1,.int .i16 J,.int .u8 d2,.int .i16 W,.int .u8 d3]::.cells true 2 (pC s.P)::.cells true 3 (tC s.T)::.cells true 0 [.slice 3 0 s.P.length none,.slice 4 0 s.T.length none]::X 0::X 1::X 2::X 3::X 4::Z)=some ⟨.tuple [.int .i64 n,.int .i64 0],none,[]⟩:=fun Z=>by rw[S,aB (.inl (by decide)),aB (.inl (by decide)),aB (.inl (by decide)),aB (.inl (by decide))];exact cr ⟨Z,rfl⟩
 have e6:∀Z,dy L (.fn 18) [.agg [.slice 3 0 s.P.length none,.slice 4 0 s.T.length none],.agg H,vA q] (.cells true 0 [.int .u8 s.kind,.int .i8 s.sx,.int .i8 s.sy,.bool s.half]::.cells true 0 C::.cells true 0 [.int .i16 I,.int .u8 d1,.int .i16 J,.int .u8 d2,.int .i16 W,.int .u8 d3]::.cells true 2 (pC s.P)::.cells true 3 (tC s.T)::.cells true 0 [.slice 3 0 s.P.length none,.slice 4 0 s.T.length none]::X 0::X 1::X 2::X 3::X 4::Z)=some ⟨.tuple [.int .i64 n,.int .i64 0],none,[]⟩:=fun Z=>by rw[S,aB (.inl (by decide)),aB (.inl (by decide)),aB (.inl (by decide)),aB (.inl (by decide))];exact zY (fun _=>rfl) (cr ⟨Z,rfl⟩)
 have e7:∀Z,dy L (.fn 20) [.agg [.slice 3 0 s.P.length none,.slice 4 0 s.T.length none],.agg H,vA p] (.cells true 0 [.int .u8 s.kind,.int .i8 s.sx,.int .i8 s.sy,.bool s.half]::.cells true 0 C::.cells true 0 [.int .i16 I,.int .u8 d1,.int .i16 J,.int .u8 d2,.int .i16 W,.int .u8 d3]::.cells true 2 (pC s.P)::.cells true 3 (tC s.T)::.cells true 0 [.slice 3 0 s.P.length none,.slice 4 0 s.T.length none]::X 0::X 1::X 2::X 3::X 4::Z)=some ⟨.tuple [vA q,.int .i64 0],none,[]⟩:=fun Z=>by rw[S,aB (.inl (by decide)),aB (.inl (by decide)),aB (.inl (by decide)),aB (.inl (by decide)),aB (.inl (by decide)),aB (.inl (by decide))];exact cr ⟨Z,rfl⟩
 have e8:∀Z,dy L (.fn 20) [.agg [.slice 3 0 s.P.length none,.slice 4 0 s.T.length none],.agg H,vA r] (.cells true 0 [.int .u8 s.kind,.int .i8 s.sx,.int .i8 s.sy,.bool s.half]::.cells true 0 C::.cells true 0 [.int .i16 I,.int .u8 d1,.int .i16 J,.int .u8 d2,.int .i16 W,.int .u8 d3]::.cells true 2 (pC s.P)::.cells true 3 (tC s.T)::.cells true 0 [.slice 3 0 s.P.length none,.slice 4 0 s.T.length none]::X 0::X 1::X 2::X 3::X 4::Z)=some ⟨.tuple [vA p,.int .i64 0],none,[]⟩:=fun Z=>by rw[S,aB (.inl (by decide)),aB (.inl (by decide)),aB (.inl (by decide)),aB (.inl (by decide)),aB (.inl (by decide)),aB (.inl (by decide))];exact zY (fun h=>by rw[u1 (Vn h)]) (cr ⟨Z,rfl⟩)
 have e9:∀Z,dy L (.fn 21) [.agg [.slice 3 0 s.P.length none,.slice 4 0 s.T.length none],.agg H,vA q] (.cells true 0 [.int .u8 s.kind,.int .i8 s.sx,.int .i8 s.sy,.bool s.half]::.cells true 0 C::.cells true 0 [.int .i16 I,.int .u8 d1,.int .i16 J,.int .u8 d2,.int .i16 W,.int .u8 d3]::.cells true 2 (pC s.P)::.cells true 3 (tC s.T)::.cells true 0 [.slice 3 0 s.P.length none,.slice 4 0 s.T.length none]::X 0::X 1::X 2::X 3::X 4::Z)=some ⟨.tuple [vA p,.int .i64 0],none,[]⟩:=fun Z=>by rw[S,aB (.inl (by decide)),aB (.inl (by decide)),aB (.inl (by decide)),aB (.inl (by decide)),aB (.inl (by decide)),aB (.inl (by decide)),aB (.inl (by decide)),aB (.inl (by decide))];exact cr ⟨Z,rfl⟩
 have K:∀Z,dy L (.fn 21) [.agg [.slice 3 0 s.P.length none,.slice 4 0 s.T.length none],.agg H,vA p] (.cells true 0 [.int .u8 s.kind,.int .i8 s.sx,.int .i8 s.sy,.bool s.half]::.cells true 0 C::.cells true 0 [.int .i16 I,.int .u8 d1,.int .i16 J,.int .u8 d2,.int .i16 W,.int .u8 d3]::.cells true 2 (pC s.P)::.cells true 3 (tC s.T)::.cells true 0 [.slice 3 0 s.P.length none,.slice 4 0 s.T.length none]::X 0::X 1::X 2::X 3::X 4::Z)=some ⟨.tuple [vA r,.int .i64 0],none,[]⟩:=fun Z=>by rw[S,aB (.inl (by decide)),aB (.inl (by decide)),aB (.inl (by decide)),aB (.inl (by decide)),aB (.inl (by decide)),aB (.inl (by decide)),aB (.inl (by decide)),aB (.inl (by decide))];exact zY (fun h=>by rw[u2 (Vn h).symm]) (cr ⟨Z,rfl⟩)
 have V:∀M (A:k=2∨k=3),dy L (.fn 22) [vA N,vA p] M=some ⟨.tuple [.str (aj (dj N p)),.int .i64 0],none,[]⟩:=fun M A=>by rw[S,aB (.inl (by decide)),aB (.inl (by decide)),aB (.inl (by decide)),aB (.inl (by decide)),aB (.inl (by decide)),aB (.inl (by decide)),aB (.inl (by decide)),aB (.inl (by decide)),aB (.inl (by decide)),aB (.inl (by decide))];exact cr A
 have U:∀M (A:k=2∨k=3),dy L (.fn 22) [vA N,vA q] M=some ⟨.tuple [.str (aj (dj N p)),.int .i64 0],none,[]⟩:=fun M A=>by rw[S,aB (.inl (by decide)),aB (.inl (by decide)),aB (.inl (by decide)),aB (.inl (by decide)),aB (.inl (by decide)),aB (.inl (by decide)),aB (.inl (by decide)),aB (.inl (by decide)),aB (.inl (by decide)),aB (.inl (by decide))];exact zY (fun _=>rfl) (cr A)
 have eV:∀a b c,jU (aV prog) 20 54 (.agg [.str a,.str b,.str c]) (.agg [.str a,.str b,.str c])=some true:=fun a b c=>kh (d:=18) a b c
 obtain⟨O,u⟩:=xE (dy L);rw[←u] at hO e1 e2 e3 e4 e5 e6 e7 e8 e9 K V U;clear u S a1 a2 b1 c2 b2 c1 z1 z2 u1 u2 hM hP;obtain⟨w,hw⟩:=xE (aj (dj N p));rw[←hw] at V U;unfold vA at*;obtain⟨os,D'⟩:∃os,aJ f5=os:=⟨_,rfl⟩
 have UV:=cc D' Fm;simp only[aJ,bR,f5,List.nil_append,List.append_nil] at D';subst D';simp only[lB] at UV;have XN:=UV;obtain⟨o,⟨x1,x2,x3,q5,q2⟩,q3⟩:=hx;obtain⟨_,o⟩:=List.getElem?_eq_some_iff.1 o;have hr:∃j,cJ (aV prog) (fun _=>[]) (aT prog) O 1 5 [s.av,.agg C,.agg [.int .i16 I,.int .u8 d1,.int .i16 J,.int .u8 d2,.int .i16 W,.int .u8 d3]] []=some (.bool true,[]++j):=by
  by_cases k2:k=2
  ·obtain⟨rfl,rfl,rfl⟩:=q2 k2
   subst k2;have V:=fun M=>V M (.inl rfl)
   have U:=fun M=>U M (.inl rfl)
   simp (maxSteps:=1000000) [-AV.aei,-AV.known,-List.all_eq_true,-aek.aef,vS,rS,cJ,hF,f5,aeo.av,e1,e2,e3,e4,e5,e6,e7,e8,e9,K,V,U,eV,hC,o0,w0,wa,wb,v0,G,F,t34,t32,hl,g1,-aK,bd XN,bZ,du,oP,ef,cw,cM,gQ,bef,Nat.testBit,o,q5]
  ·by_cases k3:k=3
   ·have q12:=q3 k3
    subst k3;have V:=fun M=>V M (.inr rfl)
    have U:=fun M=>U M (.inr rfl)
    simp (maxSteps:=1000000) [-AV.aei,-AV.known,-List.all_eq_true,-aek.aef,vS,rS,cJ,hF,f5,aeo.av,e1,e2,e3,e4,e5,e6,e7,e8,e9,K,V,U,eV,hC,o0,w0,wa,wb,v0,G,F,t34,t32,hl,g1,-aK,bd XN,bZ,du,oP,ef,cw,cM,gQ,bef,Nat.testBit,o,q5,q12]
   ·simp (maxSteps:=1000000) [-AV.aei,-AV.known,-List.all_eq_true,-aek.aef,vS,rS,cJ,hF,f5,aeo.av,e1,e2,e3,e4,e5,e6,e7,e8,e9,K,eV,hC,o0,w0,wa,wb,v0,G,F,t34,t32,hl,g1,-aK,bd XN,bZ,du,oP,ef,cw,cM,gQ,bef,Nat.testBit,o,q5,k2,k3]
 obtain⟨j,hr⟩:=hr;exact kO.forget rfl (bY ai (aO _) hO (aR _) hr)
theorem WW{m n:Nat}:∃k,rtC (Un m x n) k (zQ (dz x))∧(k=2∨k=3→x.kind%5=1∨x.kind%5=2):=by
 unfold Un;rcases iL x.kind with h | h | h | h | h
 ·rw[Wp h]
  exact⟨1,⟨rfl,⟨_,_,_,rfl,fun h=>absurd h (by decide)⟩,fun h=>absurd h (by decide)⟩,fun h=>absurd h (by decide)⟩
 ·rw[Wq h]
  exact⟨2,⟨rfl,⟨_,_,_,rfl,fun _=>⟨rfl,rfl,rfl⟩⟩,fun h=>absurd h (by decide)⟩,fun _=>.inl h⟩
 ·rw[Wr h]
  exact⟨3,⟨rfl,⟨_,_,_,rfl,fun h=>absurd h (by decide)⟩,fun _=>rfl⟩,fun _=>.inr h⟩
 ·rw[Wt h]
  exact⟨4,⟨rfl,⟨_,_,_,rfl,fun h=>absurd h (by decide)⟩,fun h=>absurd h (by decide)⟩,fun h=>absurd h (by decide)⟩
 ·rw[Wu h]
  exact⟨5,⟨rfl,⟨_,_,_,rfl,fun h=>absurd h (by decide)⟩,fun h=>absurd h (by decide)⟩,fun h=>absurd h (by decide)⟩
theorem uP(s:aeo)(J:s.Ok)(x:aed)(H:x.Ok)(pl:Pl)(I:Xa pl):kO prog 5 [s.av,.agg x.cells,.agg (plC pl)] [] (.bool true) []:=by
 obtain⟨R,L⟩:=np s;obtain⟨M,Z⟩:=xE (lwM s x.cells pl.1.1 (pl.1.2:Int) pl.2.1.1 (pl.2.1.2:Int) pl.2.2.1 (pl.2.2.2:Int));have U:=G9 x H s.P.length s.T.length R L M 3 4 (by rw[Z];show 3<6;omega) (by rw[Z];show 4<6;omega);have S:=Pr (x:=x) (s:=s) (M:=M) (p:=3) (t:=4) (o:=true) (o' :=true) (WT I) (by rw[Z];rfl) (by rw[Z];rfl);have V:=RC x s.P.length R M;have O:M.length=6:=by rw[Z];rfl
 rw[O] at U S V;obtain⟨X,k,K,e⟩:=VT (x:=x) (n:=s.P.length);have U:=U.pad k;have S:=S.pad (List.replicate k .qK);have V:=V.more (List.replicate k .qK);rw[List.append_assoc,e] at U S V;have G:(M++vH X).length=11:=by rw[List.length_append,O];rfl
 have N:=fun i=>V.refs i
 rw[G] at N;subst Z;obtain⟨C,F,D⟩:=WW (x:=x) (m:=6) (n:=s.P.length);exact My s J _ _ (aed.aem H) x.closed V.l32 V.cok _ _ _ _ _ _ _ K F D N (fun M=>GV pl I M) U S
end Go.Proofs
