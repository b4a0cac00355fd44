/- See H38. -/
import Derived.Test.YthpgbelancmpjaaGreatDoorH31
set_option linter.all false
set_option maxRecDepth 100000
set_option maxHeartbeats 40000000
namespace Go.Proofs
open Go.Eng
open Tryz
noncomputable def qL(s:List UInt8):Rat:=(dZ s).getD 0
noncomputable def leZ(Z:List (List UInt8×List UInt8)):Bool:=Z.all fun p=> !decide (0<vf (qL p.1) (qL p.2))
theorem NP(v:AV):∀(i:Nat) (Z:List (List UInt8×List UInt8)),jK (fun _ p=>if 0<vf (qL p.1) (qL p.2) then some v else none) i Z=if leZ Z=true then none else some v
 |_,[]=>rfl
 |i,p::Z=>by
  rw[jK,NP v (i+1) Z];unfold leZ;by_cases h:0<vf (qL p.1) (qL p.2)
  .rw[if_pos h,QQX,decide_eq_true h];rfl
  .rw[if_neg h,QQX,decide_eq_false h];rfl
theorem Xe{a b:Rat}:0<kU (a-b)↔0<vf a b:=by
 have Z:=Hz (a:=a) (b:=b);have X:=Hb (a:=a) (b:=b);constructor
 .intro h;have:=mt X.1 (fun k=>by have:=Z.2 k;omega);omega
 .intro h;have:=mt Z.1 (fun k=>by have:=X.2 k;omega);omega
theorem Hu{s:List UInt8}(h:iz s=0)(H:s.length<=40):∃q,s=aJ q/\qL s=q/\dg 40 40 q:=by obtain⟨q,_,rfl,_⟩:=mT h;exact⟨q,rfl,by simp[qL,aE],OF H⟩
theorem xj:∀{L:List (List UInt8)},jj L=0->∀s∈L,iz s=0
 | [],_,s,h=>by cases h
 |x::L,h,s,hs=>by
  obtain⟨Z,X⟩:=jD.1 h;rcases List.mem_cons.1 hs with rfl | hs
  .exact Z
  .exact xj X s hs
noncomputable def jl(f:FuncId)(args:List AV):Option AV:=match f,args with
 |136,[.str s,.str t]=>if (s.length<=40/\t.length<=40)/\(iz s=0/\iz t=0) then some (.int .i64 (vf (qL s) (qL t))) else none
 |56,[.str s,.str t]=>if (s.length<=40/\t.length<=40)/\(iz s=0/\iz t=0) then some (.int .i64 (kU (qL s-qL t))) else none
 |_,_=>none
theorem EX:afs prog (ai jl):=bT fun f U v h mem=>by
 unfold jl at h;split at h
 .rename_i s t
  split at h
  .rename_i Z
   cases h;obtain⟨a,rfl,X,d1⟩:=Hu Z.2.1 Z.1.1;obtain⟨b,rfl,V,d2⟩:=Hu Z.2.2 Z.1.2;rw[X,V];exact tL a b (dC d1 (by decide) (by decide) (by decide) (by decide)) (dC d2 (by decide) (by decide) (by decide) (by decide)) mem
  .cases h
 .rename_i s t
  split at h
  .rename_i Z
   cases h;obtain⟨a,rfl,X,d1⟩:=Hu Z.2.1 Z.1.1;obtain⟨b,rfl,V,d2⟩:=Hu Z.2.2 Z.1.2;rw[X,V];exact tM a b (sV d1 (by decide) (by decide)) (sV d2 (by decide) (by decide)) mem
  .cases h
 .cases h
variable{L L2:List (List UInt8)}
theorem Xx{i:Nat}{x:List UInt8×List UInt8}(h:(L.zip L2)[i]? =some x):L[i]? =some x.1/\L2[i]? =some x.2:=by rw[List.getElem?_zip_eq_some] at h;exact h
variable{M:Mem}{b:Code}{f g:AV}
theorem Gf{O:afu}{K m0:Nat}(J:∀s t:List UInt8,(s.length<=40/\t.length<=40)/\(iz s=0/\iz t=0)->O (.fn 136) [.str s,.str t] M=some ⟨.int .i64 (vf (qL s) (qL t)),none,[]⟩)(hf:TxW M f L)(hg:TxW M g L2)(W:∀s∈L,s.length<=40)(Z':∀s∈L2,s.length<=40)(hn:jj L=0)(I:jj L2=0)(he:L2.length=L.length)(hK:L.length<K)(H:ah f235=[b]):
  ∃G:Env->Bool->Env×Bool,∀env d,((aa env 19=f/\aa env 20=.int .i64 (L.length:Int)/\aa env 2=g)/\aa env 21=.int .i64 0)->
   aO (aL prog) (fun _=>[21,21,21]) O K 34 m0 true (.loop b) ⟨env,M,d⟩=some (if leZ (L.zip L2)=true then .exit 0 else .ret,⟨(G env d).1,M,(G env d).2⟩)/\(leZ (L.zip L2)=false->aa (G env d).1 6=.bool false/\aa (G env d).1 7=.int .i64 0):=by
 have R:(L.zip L2).length=L.length:=by rw[List.length_zip];omega
 obtain⟨G,hG⟩:=CN (T:=aL prog) (lv:=fun _=>[21,21,21]) (O:=O) (K:=K) (N:=34) (m0:=m0) (ex:=0) (cnt:=21) (b:=b) (M:=M) (L:=L.zip L2) (err:=fun _ p=>if 0<vf (qL p.1) (qL p.2) then some (.int .i64 0) else none) (Q:=fun _ env=>aa env 19=f/\aa env 20=.int .i64 (L.length:Int)/\aa env 2=g) (P:=fun _ env=>aa env 6=.bool false/\aa env 7=.int .i64 0) rfl rfl (by omega)
  (fun env i x d ⟨a1,a2,a3⟩ ac hx=>by
   obtain⟨Z,S⟩:=Xx hx;obtain⟨C,B⟩:=x;simp only at Z S;have X:i<L.length:=gL Z;have hi:=hf.2;obtain⟨fb,fo,rfl,y⟩:=hf.1.pos (by omega);obtain⟨gb,go,rfl,V⟩:=hg.1.pos (by omega);have u:=qD Z;have o:=qD S;have m:=J C B ⟨⟨W _ (Lo Z),Z' _ (Lo S)⟩,xj hn _ (Lo Z),xj I _ (Lo S)⟩;have F:IntKind.i64.wrap ((i:Int)+1)=((i+1:Nat):Int):=by rw[af];omega
   have U:i<L2.length:=by omega
   simp[ah,aw,f235] at H;subst H;obtain⟨m1,D⟩:=xE (i+1);rw[<-D] at F |-;by_cases j:0<vf (qL C) (qL B)
   .simp[a1,a2,a3,ac,X,U,F,y,V,u,o,m,j]
   .simp[a1,a2,a3,ac,X,U,F,y,V,u,o,m,j])
  (fun env d ⟨a1,a2,a3⟩ ac=>by rw[R] at ac;simp[ah,aw,f235] at H;subst H;simp[a1,a2,a3,ac])
  (fun i z' env h h' =>by simp[ah,aw,f235] at H;subst H;simpa [au] using h)
 refine⟨G,fun env d h=>?_⟩;obtain⟨g1,Y,_⟩:=hG env d h;rw[NP] at g1 Y;refine⟨?_,fun h=>Y (.int .i64 0) (by rw[h];rfl)⟩;rw[g1];cases h:leZ (L.zip L2)<;>simp
noncomputable def YA(n:Nat)(L L2:List (List UInt8)):AV:=if mF n L2=0 then .tuple [.bool (leZ (L.zip L2)),.int .i64 0] else .tuple [.bool false,.int .i64 (mF n L2)]
theorem FQ{s:afI}{m:Mem}(H:agE m s)(hf:TxW m f L)(I:∀s∈L,s.length<=40)(h0:mF s.P.length L=0)(hg:TxW m g L2)(J:∀s∈L2,s.length<=40):bz prog 235 [shA s,f,g] m (YA s.P.length L L2) m:=by
 have B:bq prog 235=some f235:=by kernel_rfl
 obtain⟨E,y⟩:=xE (α:=Mem) [.cells true 0 [.slice 0 0 s.P.length none,.slice 1 0 s.T.length none],.cells true 1 [f,g]];have u:=My (H.more E) (hf.more E) I h0 (hg.more E) J (c:=m.length+1) (o4:=true) (by rw[y];simp);obtain⟨r,D⟩:=xE (mF s.P.length L2);unfold YA;rw[<-D] at u |-;have o:afs prog (afu.or (ai jl) (nD [(201,[shA s,.slice (m.length+1) 0 2 none],m++E,⟨.int .i64 r,none,[]⟩)])):=afs.or' EX (wT fun e he=>by simp only[lM] at he;subst he;exact⟨by simpa [afw.mem] using u,by simp⟩)
 obtain⟨O,V⟩:=xE (afu.or (ai jl) (nD [(201,[shA s,.slice (m.length+1) 0 2 none],m++E,⟨.int .i64 r,none,[]⟩)]));have Z:O (.fn 201) [shA s,.slice (m.length+1) 0 2 none] (m++E)=some ⟨.int .i64 r,none,[]⟩:=by rw[V];simp[afu.or,ai,jl,nD]
 have U:∀s t:List UInt8,(s.length<=40/\t.length<=40)/\(iz s=0/\iz t=0)->O (.fn 136) [.str s,.str t] (m++E)=some ⟨.int .i64 (vf (qL s) (qL t)),none,[]⟩:=fun s t h=>by rw[V];simp[afu.or,ai,jl,h]
 rw[<-V] at o;clear V u;have tf:=hf.1.two;have tg:=hg.1.two;by_cases X:r=0
 .rw[if_pos X]
  have hn:jj L=0/\L.length=s.P.length:=by
   unfold mF at h0;split at h0
   .exact⟨h0,by omega⟩
   .omega
  have j:jj L2=0/\L2.length=s.P.length:=by
   rw[X] at D;unfold mF at D;split at D
   .exact⟨D.symm,by omega⟩
   .omega
  have hp:=H.1.1;have hfm:=hf.2;obtain⟨b,Y⟩:∃b,ah f235=[b]:=⟨_,rfl⟩
  obtain⟨G,S⟩:=Gf (O:=O) (K:=1001) (m0:=m.length) U (hf.more E) (hg.more E) I J hn.1 j.1 (by omega) (by omega) Y;have F:=fun env d R Q h3 N=>(S env d ⟨⟨R,Q,h3⟩,N⟩).1
  have C:=fun env d R Q h3 N=>(S env d ⟨⟨R,Q,h3⟩,N⟩).2
  clear S U;simp[ah,aw,f235] at Y;subst Y;rcases tf with⟨rfl,e⟩ | ⟨fb,rfl⟩
  .omega
  rcases tg with⟨rfl,e⟩ | ⟨gb,rfl⟩
  .omega
  have W:ao (aL prog) (fun _=>[21,21,21]) (bq prog) O 1001 235 [shA s,.slice fb 0 L.length none,.slice gb 0 L2.length none] m=some (.tuple [.bool (leZ (L.zip L2)),.int .i64 0],m++E):=by
   subst y X;simp only[shA] at Z |-;cases hz:leZ (L.zip L2)
   .rw[hz] at F C
    have B1:=fun env d R Q h3 N=>(C env d R Q h3 N rfl).1
    have B2:=fun env d R Q h3 N=>(C env d R Q h3 N rfl).2
    clear C;simp only[Bool.false_eq_true,if_false] at F;simp (maxDischargeDepth:=8) [ao,B,f235,Z,F,B1,B2]
   .rw[hz] at F
    simp only[if_true] at F;simp (maxDischargeDepth:=8) [ao,B,f235,Z,F]
  exact bz.forget rfl (aX ak (aI _) o (aQ _) W)
 .rw[if_neg X]
  have W:ao (aL prog) (fun _=>[21,21,21]) (bq prog) O 1001 235 [shA s,f,g] m=some (.tuple [.bool false,.int .i64 r],m++E):=by subst y;simp only[shA] at Z |-;clear U;rcases tf with⟨rfl,e⟩ | ⟨fb,rfl⟩<;>rcases tg with⟨rfl,e⟩ | ⟨gb,rfl⟩<;>simp[ao,B,f235,Z,X]
  exact bz.forget rfl (aX ak (aI _) o (aQ _) W)
def eN(s:afI)(m:Mem)(f:Go.Eng.Callee)(a:List AV)(N:Mem)(r:afw):Prop:=(∃Z,N=m++Z)/\
 ((f=.fn 71/\∃t,a=[.str t]/\t.length<=1000/\r=⟨.int .i64 (if jA t=true then 0 else 8),none,[]⟩)\/
 (f=.fn 63/\∃t,a=[.str t]/\t.length<=1000/\r=⟨.bool (jA t),none,[]⟩)\/
 (f=.fn 234/\∃x t L,a=[x,.str t]/\L.length<=1000/\sts N x=some L/\r=⟨.bool (decide (t∈L)),none,[]⟩)\/
 (f=.fn 118/\∃x L,a=[shA s,x]/\TxW m x L/\(∀t∈L,t.length<=40)/\r=⟨.int .i64 (mF s.P.length L),none,[]⟩)\/
 (f=.fn 235/\∃x y L L2,a=[shA s,x,y]/\TxW m x L/\(∀t∈L,t.length<=40)/\mF s.P.length L=0/\TxW m y L2/\(∀t∈L2,t.length<=40)/\r=⟨YA s.P.length L L2,none,[]⟩))
variable{t:List UInt8}{x:AV}
section
variable {s:afI}{m:Mem}
theorem EY(H:agE m s):afs prog (kW (eN s m)):=HA fun f a N r U=>by
 obtain⟨⟨Z,rfl⟩,⟨rfl,t,rfl,X,rfl⟩ | ⟨rfl,t,rfl,X,rfl⟩ | ⟨rfl,x,t,L,rfl,X,S,rfl⟩ | ⟨rfl,x,L,rfl,V,X,rfl⟩ | ⟨rfl,x,y,L,L2,rfl,V,X,R,Q,O,rfl⟩⟩:=U
 .exact cC (mI t X (m++Z))
 .exact cC (ud t X (m++Z))
 .exact cC (Bh t (by omega) S)
 .exact cC (FR (H.more Z) (V.more Z) X)
 .exact cC (FQ (H.more Z) (V.more Z) X R (Q.more Z) O)
theorem lP{f:FuncId}{a:List AV}{N:Mem}{r:afw}(h:eN s m (.fn f) a N r):kW (eN s m) (.fn f) a N=some r:=DJ h fun Y F =>by
 obtain⟨_,⟨V,t,rfl,_,rfl⟩ | ⟨V,t,rfl,_,rfl⟩ | ⟨V,x,t,L,rfl,_,D,rfl⟩ | ⟨V,x,L,rfl,S,C,rfl⟩ | ⟨V,x,y,L,L2,rfl,S,C,W,B,J,rfl⟩⟩:=h<;>
  obtain⟨_,⟨X,O,e,_,rfl⟩ | ⟨X,O,e,_,rfl⟩ | ⟨X,K,O,G,e,_,U,rfl⟩ | ⟨X,K,G,e,Z,R,rfl⟩ | ⟨X,K,I,G,u,e,Z,R,o,Q,j,rfl⟩⟩:=F <;>
  first
  |(rw[V] at X;cases X;done)
  |(cases e;rfl)
  |(cases e;rw[D] at U;cases U;rfl)
  |(cases e;rw[S.uniq Z];done)
  |(cases e;rw[S.uniq Z,B.uniq Q];done)
theorem IC(H:t.length<=1000)(Z:Mem):kW (eN s m) (.fn 71) [.str t] (m++Z)=some ⟨.int .i64 (if jA t=true then 0 else 8),none,[]⟩:=lP ⟨⟨Z,rfl⟩,.inl ⟨rfl,t,rfl,H,rfl⟩⟩
theorem Nd(H:t.length<=1000)(Z:Mem):kW (eN s m) (.fn 63) [.str t] (m++Z)=some ⟨.bool (jA t),none,[]⟩:=lP ⟨⟨Z,rfl⟩,.inr (.inl ⟨rfl,t,rfl,H,rfl⟩)⟩
theorem Nc{Z:Mem}(H:L.length<=1000)(h:sts (m++Z) x=some L):kW (eN s m) (.fn 234) [x,.str t] (m++Z)=some ⟨.bool (decide (t∈L)),none,[]⟩:=lP ⟨⟨Z,rfl⟩,.inr (.inr (.inl ⟨rfl,x,t,L,rfl,H,h,rfl⟩))⟩
theorem uj(hx:TxW m x L)(H:∀t∈L,t.length<=40)(Z:Mem):kW (eN s m) (.fn 118) [shA s,x] (m++Z)=some ⟨.int .i64 (mF s.P.length L),none,[]⟩:=lP ⟨⟨Z,rfl⟩,.inr (.inr (.inr (.inl ⟨rfl,x,L,rfl,hx,H,rfl⟩)))⟩
theorem Nb{y:AV}(hx:TxW m x L)(H:∀t∈L,t.length<=40)(h0:mF s.P.length L=0)(I:TxW m y L2)(J:∀t∈L2,t.length<=40)(Z:Mem):kW (eN s m) (.fn 235) [shA s,x,y] (m++Z)=some ⟨YA s.P.length L L2,none,[]⟩:=lP ⟨⟨Z,rfl⟩,.inr (.inr (.inr (.inr ⟨rfl,x,y,L,L2,rfl,hx,H,h0,I,J,rfl⟩)))⟩
end
def qK(U:List (List UInt8))(i:Nat)(t:List UInt8):Option AV:=if jA t=true then (if t∈U.take i then some (.int .i64 9) else none) else some (.int .i64 8)
noncomputable def sH(n:Nat)(B:List (List UInt8))(S:List (List (List UInt8)))(i:Nat)(X:List (List UInt8)):Option AV:=if mF n X=0 then (if leZ (((B::S)[i]?.getD []).zip X)=true then none else some (.int .i64 6)) else some (.int .i64 (mF n X))
noncomputable def RU(n:Nat)(B U:List (List UInt8))(S:List (List (List UInt8))):AV:=
 if mF n B=0 then (if U.length=0 then .int .i64 13 else if 60<U.length then .int .i64 4 else (match jK (qK U) 0 U with
  |some v=>v
  |none=>if S.length+1=U.length then (jK (sH n B S) 0 S).getD (.int .i64 0) else .int .i64 5)) else .int .i64 (mF n B)
theorem W2{u:Nat}{o:Bool}{U:List (List UInt8)}{k:Nat}(H:M[u]? =some (.cells o 1 (stC U)))(I:k<=U.length):sts M (.slice u 0 k none)=some (U.take k):=by
 have Z:(stC U).take (k*1)=stC (U.take k):=by simp[stC,List.map_take]
 unfold sts;rw[TZ H (by rw[eu];omega) Z];exact Vc _
def lL(c:Code):List Nat:=if (ae c).contains 35 then [35,35,35] else [65,65,65,10]
variable{b2:Code}
section
variable {O:afu}{K m0:Nat}{s:afI}{m:Mem}{E:Mem}{p2:AV}{q5:Nat}
theorem Ef{u:AV}{U:List (List UInt8)}(I:TxW m u U)(hl:∀t∈U,t.length<=40)(hK:U.length<K)(h5:∃Y W J,(m++E)[q5]? =some (.cells J 0 [Y,u,W]))(H:ah f155=[b,b2]):
  ∃G:Env->Bool->Env×Bool,∀env d,((aa env 33=u/\aa env 34=.int .i64 (U.length:Int)/\aa env 2=p2/\aa env 5=.ptr q5 0)/\aa env 35=.int .i64 0)->
   aO (aL prog) lL (kW (eN s m)) K 83 m0 true (.loop b) ⟨env,m++E,d⟩=some (if jK (qK U) 0 U=none then .exit 0 else .ret,⟨(G env d).1,m++E,(G env d).2⟩)/\(∀v,jK (qK U) 0 U=some v->aa (G env d).1 4=v)/\(jK (qK U) 0 U=none->aa (G env d).1 2=p2/\aa (G env d).1 5=.ptr q5 0):=by
 have o:lL b=[35,35,35]:=by simp[ah,aw,f155] at H;rw[<-H.1];rfl
 obtain⟨Y,W,J,h5⟩:=h5;obtain⟨G,hG⟩:=pV (T:=aL prog) (lv:=lL) (O:=kW (eN s m)) (K:=K) (N:=83) (m0:=m0) (ex:=0) (cnt:=35) (res:=4) (b:=b) (M:=m++E) (L:=U) (err:=qK U) (Q:=fun env=>aa env 33=u/\aa env 34=.int .i64 (U.length:Int)/\aa env 2=p2/\aa env 5=.ptr q5 0) o hK
  (fun env i x d ⟨a1,a2,a3,a4⟩ ac hx=>by
   have Z:i<U.length:=gL hx;have hi:=I.2;obtain⟨ub,uo,rfl,D⟩:=(I.more E).1.pos (by omega);have C:=qD hx;have X:=IC (s:=s) (m:=m) (t:=x) (by have:=hl x (Lo hx);omega) E;have V:=Nc (s:=s) (t:=x) (L:=U.take i) (by rw[M0];omega) (W2 D (k:=i) (by omega));have B:IntKind.i64.wrap ((i:Int)+1)=((i+1:Nat):Int):=by rw[af];omega
   have S:i<=U.length:=by omega
   obtain⟨A',R⟩:=Hi.1 C;have F:(stC U).length=U.length:=eu _;obtain⟨O,hO⟩:=xE (kW (eN s m));rw[<-hO] at X V |-;unfold qK;simp[ah,aw,f155] at H;obtain⟨rfl,_⟩:=H;obtain⟨m1,j⟩:=xE (i+1);rw[<-j] at B |-;cases hn:jA x
   .rw[hn] at X
    simp[a1,a2,a3,a4,ac,Z,B,D,C,X]
   .rw[hn] at X
    by_cases y:x∈U.take i
    .rw[decide_eq_true y] at V
     simp[a1,a2,a3,a4,ac,Z,S,B,D,h5,F,R,C,X,V,y]
    .rw[decide_eq_false y] at V
     simp[a1,a2,a3,a4,ac,Z,S,B,D,h5,F,R,C,X,V,y])
  (fun env d ⟨a1,a2,a3,a4⟩ ac=>by simp[ah,aw,f155] at H;obtain⟨rfl,_⟩:=H;simp[a1,a2,a3,a4,ac])
  (fun z' env h=>by simp[ah,aw,f155] at H;obtain⟨rfl,_⟩:=H;simpa [au] using h)
 refine⟨G,fun env d h=>?_⟩;obtain⟨g1,g2,g3⟩:=hG env d h;exact⟨g1,g2,fun h=>⟨(g3 h).2.2.1,(g3 h).2.2.2⟩⟩
theorem Gi{b0 sf:AV}{B:List (List UInt8)}{S:List (List (List UInt8))}{q2:Nat}(hB:TxW m b0 B)(hS:SfW m sf S)(hlB:∀t∈B,t.length<=40)(hlS:∀X∈S,∀t∈X,t.length<=40)(h0:mF s.P.length B=0)(hK:S.length<K)(h2:∃o2,(m++E)[q2]? =some (.cells o2 0 [.slice 0 0 s.P.length none,.slice 1 0 s.T.length none]))(H:ah f155=[b2,b]):
  ∃G:Env->Bool->Env×Bool,∀env d,((aa env 63=sf/\aa env 64=.int .i64 (S.length:Int)/\aa env 2=.ptr q2 0/\aa env 10=b0)/\aa env 65=.int .i64 0)->
   aO (aL prog) lL (kW (eN s m)) K 83 m0 true (.loop b) ⟨env,m++E,d⟩=some (if jK (sH s.P.length B S) 0 S=none then .exit 2 else .ret,⟨(G env d).1,m++E,(G env d).2⟩)/\(∀v,jK (sH s.P.length B S) 0 S=some v->aa (G env d).1 4=v):=by
 have hlv:lL b=[65,65,65,10]:=by simp[ah,aw,f155] at H;rw[<-H.2];rfl
 obtain⟨o2,h2⟩:=h2;obtain⟨hi,vs,hvl,Y',hvs⟩:=hS;obtain⟨n,hn⟩:=xE s.P.length;obtain⟨Pv,U⟩:=xE (α:=Nat->AV->Prop) (fun i v=>(b0::vs)[i]? =some v/\mF s.P.length ((B::S)[i]?.getD [])=0);obtain⟨G,hG⟩:=CN (T:=aL prog) (lv:=lL) (O:=kW (eN s m)) (K:=K) (N:=83) (m0:=m0) (ex:=2) (cnt:=65) (b:=b) (M:=m++E) (L:=S) (err:=sH s.P.length B S) (Q:=fun i env=>aa env 63=sf/\aa env 64=.int .i64 (S.length:Int)/\aa env 2=.ptr q2 0/\Pv i (aa env 10)) (P:=fun v env=>aa env 4=v) hlv rfl hK
  (fun env i X d ⟨a1,a2,a3,a6⟩ ac hx=>by
   obtain⟨a4,a5⟩:(b0::vs)[i]? =some (aa env 10)/\mF s.P.length ((B::S)[i]?.getD [])=0:=by rw[U] at a6;exact a6
   have R:i<S.length:=gL hx;obtain⟨sb,so,rfl,hm⟩:=(Y'.more E).pos (by omega);obtain⟨y,W⟩:∃y,vs[i]? =some y:=⟨_,LB (by omega)⟩
   have F:=hvs i y X W hx;have D:=F.1.ck;have C:=F.1.kn;obtain⟨x0,hx0⟩:=xE (aa env 10);obtain⟨J,Z⟩:∃J,(B::S)[i]? =some J:=⟨_,LB (by simp only[List.length_cons];omega)⟩
   have hxL:TxW m x0 J/\∀t∈J,t.length<=40:=by
    rw[<-hx0] at a4;cases i with
    |zero=>
     simp only[List.getElem?_cons_zero,Mp] at a4 Z;subst a4 Z;exact⟨hB,hlB⟩
    |succ i=>
     simp only[List.getElem?_cons_succ] at a4 Z;exact⟨hvs i x0 J a4 Z,hlS _ (Lo Z)⟩
   rw[Z,Option.getD_some] at a5;have V:=Nb (s:=s) (m:=m) hxL.1 hxL.2 a5 F (hlS X (Lo hx)) E;have wi:IntKind.i64.wrap ((i:Int)+1)=((i+1:Nat):Int):=by rw[af];omega
   have hnx:((b0::vs)[i+1]? =some y):=by rw[List.getElem?_cons_succ];exact W
   have hnX:(B::S)[i+1]? =some X:=by rw[List.getElem?_cons_succ];exact hx
   have I:mF s.P.length X=0->Pv (i+1) y:=fun e=>by rw[U];exact⟨hnx,by rw[hnX];exact e⟩
   obtain⟨u,o⟩:=Hi.1 W;obtain⟨O,hO⟩:=xE (kW (eN s m));rw[<-hO] at V |-;simp only[sH,Z,Option.getD_some];unfold YA at V;simp only[shA] at V;rw[<-hn] at V h2 I |-;obtain⟨r,hr⟩:=xE (mF n X);rw[<-hr] at V I |-;simp[ah,aw,f155] at H;obtain⟨_,rfl⟩:=H;obtain⟨z,hz⟩:=xE (leZ (J.zip X));rw[<-hz] at V |-;obtain⟨m1,hm1⟩:=xE (i+1);rw[<-hm1] at wi I |-;have j:=hx0.symm;by_cases Y:r=0
   .subst Y
    rw[if_pos rfl] at V;have I:=I rfl;cases z
    .simp[-AV.adM,-AV.known,-AV.cells,a1,a2,a3,j,ac,R,u,wi,hm,h2,W,o,D,C,V]
    .simp[-AV.adM,-AV.known,-AV.cells,a1,a2,a3,j,ac,R,u,wi,hm,h2,W,o,D,C,V,I]
   .rw[if_neg Y] at V
    simp[-AV.adM,-AV.known,-AV.cells,a1,a2,a3,j,ac,R,u,wi,hm,h2,W,o,D,C,V,Y])
  (fun env d ⟨a1,a2,a3,a6⟩ ac=>by simp[ah,aw,f155] at H;obtain⟨_,rfl⟩:=H;simp[a1,a2,a3,ac,a6])
  (fun i z' env h h' =>by simp[ah,aw,f155] at H;obtain⟨_,rfl⟩:=H;simpa [au,h.1,h.2.1,h.2.2.1] using h'.2.2.2)
 refine⟨G,fun env d h=>?_⟩;obtain⟨g1,g2,g3⟩:=hG env d ⟨⟨h.1.1,h.1.2.1,h.1.2.2.1,by rw[U,h.1.2.2.2];exact⟨rfl,h0⟩⟩,h.2⟩;exact⟨g1,g2⟩
end
end Go.Proofs
namespace Go.Proofs
open Go.Eng
open Tryz
theorem Hf{α:Type}{err:Nat->α->Option AV}(h:∀i x v,err i x=some v->∃k:Int,v=.int .i64 k):∀(i:Nat) (L:List α) (v:AV),jK err i L=some v->∃k:Int,v=.int .i64 k
 |_,[],v,e=>by cases e
 |i,x::L,v,e=>by
  rw[jK] at e;cases hx:err i x with
  |none=>rw[hx] at e;exact Hf h (i+1) L v e
  |some w=>rw[hx] at e;cases e;exact h i x _ hx
variable{v:AV}
theorem Dm{U:List (List UInt8)}(h:jK (qK U) 0 U=some v):∃k:Int,v=.int .i64 k:=Hf (fun i x v h=>by
 unfold qK at h;split at h
 .split at h
  .cases h;exact⟨_,rfl⟩
  .cases h
 .cases h;exact⟨_,rfl⟩) _ _ _ h
theorem DH{n:Nat}{B:List (List UInt8)}{S:List (List (List UInt8))}(h:jK (sH n B S) 0 S=some v):∃k:Int,v=.int .i64 k:=Hf (fun i x v h=>by
 unfold sH at h;split at h
 .split at h
  .cases h
  .cases h;exact⟨_,rfl⟩
 .cases h;exact⟨_,rfl⟩) _ _ _ h
theorem AN(n:Nat)(B U:List (List UInt8))(S:List (List (List UInt8))):∃k:Int,RU n B U S=.int .i64 k:=by
 unfold RU;split
 .split
  .exact⟨_,rfl⟩
  .split
   .exact⟨_,rfl⟩
   .split
    next h=>exact Dm h
    .split
     .cases h:jK (sH n B S) 0 S with
      |none=>exact⟨0,rfl⟩
      |some v=>obtain⟨k,rfl⟩:=DH h;exact⟨k,rfl⟩
     .exact⟨_,rfl⟩
 .exact⟨_,rfl⟩
structure Evc.Bd (c:Evc):Prop where
 B:∀t∈c.B,t.length<=40
 U:∀t∈c.U,t.length<=40
 S:∀X∈c.S,∀t∈X,t.length<=40
section
variable {c:Evc}{b u sv kn x y:AV}{m:Mem}{s:afI}
theorem Po(hM:agE m s)(hd:c.Bd)(ck:kn.adM=true)(hB:TxW m b c.B)(hU:TxW m u c.U)(hS:SfW m sv c.S):bz prog 155 [shA s,.agg (c.cells b u sv kn)] m (RU s.P.length c.B c.U c.S) m:=by
 have j:bq prog 155=some f155:=by kernel_rfl
 have hO:=EY hM;obtain⟨E,hE⟩:=xE (α:=Mem) [.cells true 0 [.slice 0 0 s.P.length none,.slice 1 0 s.T.length none],.cells true 0 (c.cells b u sv kn),.cells true 0 [b,u,sv]];obtain⟨hSl,vs,hvl,Y',_⟩:=id hS;obtain⟨kk,hkk⟩:=xE 1001;have hUl:=hU.2;have F:=uj (s:=s) hB hd.B E;obtain⟨b1,b2,hbb⟩:∃b1 b2,ah f155=[b1,b2]:=⟨_,_,rfl⟩
 obtain⟨G,X⟩:=Ef (s:=s) (E:=E) (K:=kk) (m0:=m.length) (p2:=.ptr m.length 0) (q5:=m.length+2) hU hd.U (by omega) ⟨b,sv,true,by rw[hE];simp⟩ hbb;have Z:=fun h0=>Gi (s:=s) (E:=E) (K:=kk) (m0:=m.length) (q2:=m.length) hB hS hd.B hd.S h0 (by omega) ⟨true,by rw[hE];simp⟩ hbb
 have Y:=hB.1.ck;have W:=hU.1.ck;have J:=Y'.ck;have I:=hB.1.kn;have nu:=hU.1.kn;have ns:=Y'.kn;have tU:=hU.1.two;have tS:=Y'.two;clear hS Y' hB hM hkk;simp[ah,aw,f155] at hbb;obtain⟨rfl,rfl⟩:=hbb;obtain⟨O,hOe⟩:=xE (kW (eN s m));rw[<-hOe] at hO F X Z;clear hOe;have IR:ao (aL prog) lL (bq prog) O kk 155 [shA s,.agg (c.cells b u sv kn)] m=some (RU s.P.length c.B c.U c.S,m++E):=by
  clear hO;simp only[shA] at F |-;obtain⟨n,hn⟩:=xE s.P.length;unfold RU;rw[<-hn] at F Z hE |-;subst hE;simp only[Evc.cells] at F X Z |-;obtain⟨r,hr⟩:=xE (mF n c.B);rw[<-hr] at F Z |-;by_cases h0:r=0
  .subst h0
   rw[if_pos rfl];have Z:=Z rfl;rcases tU with⟨rfl,eU⟩ | ⟨ub,rfl⟩
   .rw[if_pos eU]
    clear X Z;simp[-getElem?_pos,-AV.adM,-AV.known,-AV.cells,-ay,-List.all_eq_true,vS,rS,mS,ao,j,f155,aD,ag,F,Y,W,J,I,nu,ns,ck]
   .by_cases hu0:c.U.length=0
    .rw[if_pos hu0]
     clear X Z;rw[hu0] at F |-;simp[-getElem?_pos,-AV.adM,-AV.known,-AV.cells,-ay,-List.all_eq_true,vS,rS,mS,ao,j,f155,aD,ag,F,Y,W,J,I,nu,ns,ck]
    .rw[if_neg hu0]
     have D:¬c.U=[]:=fun e=>hu0 (by rw[e];rfl)
     by_cases hu6:60<c.U.length
     .rw[if_pos hu6]
      clear X Z;have V :(60:Int)<(c.U.length:Int):=by omega
      have C :¬(c.U.length:Int)=0:=by omega
      simp[-getElem?_pos,-AV.adM,-AV.known,-AV.cells,-ay,-List.all_eq_true,vS,rS,mS,ao,j,f155,aD,ag,F,Y,W,J,I,nu,ns,ck,D,V]
     .rw[if_neg hu6]
      have V :¬(60:Int)<(c.U.length:Int):=by omega
      have C :¬(c.U.length:Int)=0:=by omega
      have wu:IntKind.i64.wrap ((c.U.length:Int)-1)=(c.U.length:Int)-1:=af;have A1:=fun env d R Q h3 N M=>(X env d ⟨⟨R,Q,h3,N⟩,M⟩).1
      have A2:=fun env d R Q h3 N M=>(X env d ⟨⟨R,Q,h3,N⟩,M⟩).2.1
      have A3:=fun env d R Q h3 N M=>(X env d ⟨⟨R,Q,h3,N⟩,M⟩).2.2
      clear X;cases hnm:jK (qK c.U) 0 c.U with
      |some v=>
       obtain⟨k,rfl⟩:=Dm hnm;rw[hnm] at A1 A2;simp only[reduceCtorEq,if_false] at A1;have A2:=fun env d R Q h3 N M=>A2 env d R Q h3 N M _ rfl
       clear A3 Z;simp (maxDischargeDepth:=12) [-getElem?_pos,-AV.adM,-AV.known,-AV.cells,-ay,-List.all_eq_true,vS,rS,mS,ao,j,f155,aD,ag,F,Y,W,J,I,nu,ns,ck,D,C,V,A1,A2]
      |none=>
       simp only;rw[hnm] at A1 A3;simp only[if_true] at A1;have A4:=fun env d R Q h3 N M=>(A3 env d R Q h3 N M rfl).1
       have A5:=fun env d R Q h3 N M=>(A3 env d R Q h3 N M rfl).2
       clear A2 A3;by_cases hsz:c.S.length+1=c.U.length
       .rw[if_pos hsz]
        obtain⟨H,hHH⟩:=Z;have o :(c.U.length:Int)-1=(c.S.length:Int):=by omega
        rw[o] at wu;have B1:=fun env d R Q h3 N M=>(hHH env d ⟨⟨R,Q,h3,N⟩,M⟩).1
        have B2:=fun env d R Q h3 N M=>(hHH env d ⟨⟨R,Q,h3,N⟩,M⟩).2
        clear hHH;cases hsf:jK (sH n c.B c.S) 0 c.S with
        |some v=>
         obtain⟨k,rfl⟩:=DH hsf;rw[hsf] at B1 B2;simp only[reduceCtorEq,if_false] at B1;have B2:=fun env d R Q h3 N M=>B2 env d R Q h3 N M _ rfl
         rcases tS with⟨rfl,eS⟩ | ⟨sb,rfl⟩
         .rw[List.length_eq_zero_iff.1 eS] at hsf;cases hsf
         .simp (maxDischargeDepth:=12) [-getElem?_pos,-AV.adM,-AV.known,-AV.cells,-ay,-List.all_eq_true,vS,rS,mS,ao,j,f155,aD,ag,F,Y,W,J,I,nu,ns,ck,D,C,V,A1,A4,A5,B1,B2,wu,o]
        |none=>
         rw[hsf] at B1;simp only[if_true] at B1;clear B2;rcases tS with⟨rfl,eS⟩ | ⟨sb,rfl⟩
         .rw[eS] at B1 o
          have wu:IntKind.i64.wrap 0=0:=rfl;simp (maxDischargeDepth:=12) [-getElem?_pos,-AV.adM,-AV.known,-AV.cells,-ay,-List.all_eq_true,vS,rS,mS,ao,j,f155,aD,ag,F,Y,W,J,I,nu,ns,ck,D,C,V,A1,A4,A5,B1,wu,o]
         .simp (maxDischargeDepth:=12) [-getElem?_pos,-AV.adM,-AV.known,-AV.cells,-ay,-List.all_eq_true,vS,rS,mS,ao,j,f155,aD,ag,F,Y,W,J,I,nu,ns,ck,D,C,V,A1,A4,A5,B1,wu,o]
       .rw[if_neg hsz]
        clear Z;have o :¬(c.S.length:Int)=(c.U.length:Int)-1:=by omega
        rcases tS with⟨rfl,eS⟩ | ⟨sb,rfl⟩
        .have ado:¬(0:Int)=(c.U.length:Int)-1:=by omega
         simp (maxDischargeDepth:=12) [-getElem?_pos,-AV.adM,-AV.known,-AV.cells,-ay,-List.all_eq_true,vS,rS,mS,ao,j,f155,aD,ag,F,Y,W,J,I,nu,ns,ck,D,C,V,A1,A4,A5,wu,ado]
        .simp (maxDischargeDepth:=12) [-getElem?_pos,-AV.adM,-AV.known,-AV.cells,-ay,-List.all_eq_true,vS,rS,mS,ao,j,f155,aD,ag,F,Y,W,J,I,nu,ns,ck,D,C,V,A1,A4,A5,wu,o]
  .rw[if_neg h0]
   clear X Z;simp[-getElem?_pos,-AV.adM,-AV.known,-AV.cells,-ay,-List.all_eq_true,vS,rS,mS,ao,j,f155,aD,ag,F,Y,W,J,I,nu,ns,ck,h0]
 obtain⟨k,hk⟩:=AN s.P.length c.B c.U c.S;rw[hk] at IR |-;exact bz.forget rfl (aX ak (aI _) hO (aQ _) IR)
end
end Go.Proofs
namespace Go.Proofs
open Go.Eng
open Tryz
def dT(c:Code):List Nat:=if (ae c).contains 6 then [6,6,6] else if (ae c).contains 7 then [7,7,7] else if (ae c).contains 9 then [9,9,9,8] else [11,11,11]
theorem rE:(bn f65).map (fun o=>eW o.toList)=[[0,1,0,7,15,0,32,0,224,480,1023],[0,0,2,0,14,30,63,127],[0,0,3,7,0,16,0,112,240,0,1008,2032,4095,8191]]:=by kernel_rfl
theorem VE:∃Z X V U,ah f65=[Z,X,V,U]/\dT Z=[6,6,6]/\dT X=[7,7,7]/\dT V=[9,9,9,8]/\dT U=[11,11,11]:=⟨_,_,_,_,rfl,by decide,by decide,by decide,by decide⟩
theorem OM(v:AV)(x:List UInt8):∀(i:Nat) (L:List (List UInt8)),jK (fun _ y=>if y=x then some v else none) i L=if x∈L then some v else none
 |_,[]=>rfl
 |i,y::L=>by
  rw[jK,OM v x (i+1) L];by_cases h:y=x
  .subst h;simp
  .have Z :¬x=y:=fun e=>h e.symm
   simp[h,Z]
section
variable {O:afu}{m0:Nat}{M:Mem}{b u sv p2:AV}{q2 q3:Nat}{o3:Bool}{U:List (List UInt8)}{b1 b2 b3 b4:Code}
theorem QD(H:ah f65=[b1,b2,b3,b4])(I:dT b2=[7,7,7])(J:TxW M u U)(h3:M[q3]? =some (.cells o3 0 [b,u,sv])){i:Nat}{x:List UInt8}(hx:U[i]? =some x):
  ∃G:Env->Bool->Env×Bool,∀env d,((aa env 2=p2/\aa env 3=.ptr q3 0/\aa env 6=.int .i64 (i:Int))/\aa env 7=.int .i64 0)->
   aO (aL prog) dT O 1100 111 m0 true (.loop b2) ⟨env,M,d⟩=some (if x∈U.take i then .ret else .exit 3,⟨(G env d).1,M,(G env d).2⟩)/\(x∈U.take i->aa (G env d).1 4=.int .i64 9)/\(x∉U.take i->aa (G env d).1 2=p2/\aa (G env d).1 3=.ptr q3 0/\aa (G env d).1 6=.int .i64 (i:Int)):=by
 have V:i<U.length:=gL hx;have hUl:=J.2;obtain⟨ub,uo,rfl,F⟩:=J.1.pos (by omega);have g3:=gL h3;have Y:=gL F;have W:=qD hx;obtain⟨S,D⟩:∃S,bn f65=S :=⟨_,rfl⟩
 have C :=cR D rE;simp only[bn,cU,f65,lA] at D;subst D;simp only[lB] at C;have B:(U.take i).length=i:=by rw[M0];omega
 obtain⟨G,hG⟩:=pV (T:=aL prog) (lv:=dT) (O:=O) (K:=1100) (N:=111) (m0:=m0) (ex:=3) (cnt:=7) (res:=4) (b:=b2) (M:=M) (L:=U.take i) (err:=fun _ y=>if y=x then some (.int .i64 9) else none) (Q:=fun env=>aa env 2=p2/\aa env 3=.ptr q3 0/\aa env 6=.int .i64 (i:Int)) I (by omega)
  (fun env k y d ⟨a1,a2,a3⟩ ac hy=>by
   have Z:k<i:=by have:=gL hy;omega
   rw[V2 Z] at hy;have ky:=qD hy;have R:k<U.length:=by omega
   have o:IntKind.i64.wrap ((k:Int)+1)=((k+1:Nat):Int):=by rw[af];omega
   simp[ah,aw,f65] at H;obtain⟨rfl,rfl,rfl,rfl⟩:=H;obtain⟨m1,m⟩:=xE (k+1);rw[<-m] at o |-;by_cases X:y=x
   .simp[-getElem?_pos,-AV.adM,-AV.known,-AV.cells,-ay,-List.all_eq_true,vS,rS,mS,-bB,-bb,-aN,-AV.aft,-afz.aft,cW,bU,bD,fJ,dy,bL,cF,eI,bef,Nat.testBit,a1,a2,a3,ac,Z,V,R,o,h3,F,g3,Y,W,ky,aK C.1,X]
   .have j:(y==x)=false:=beq_eq_false_iff_ne.2 X
    simp[-getElem?_pos,-AV.adM,-AV.known,-AV.cells,-ay,-List.all_eq_true,vS,rS,mS,-bB,-bb,-aN,-AV.aft,-afz.aft,cW,bU,bD,fJ,dy,bL,cF,eI,bef,Nat.testBit,a1,a2,a3,ac,Z,V,R,o,h3,F,g3,Y,W,ky,aK C.1,X,j])
  (fun env d ⟨a1,a2,a3⟩ ac=>by rw[B] at ac;simp[ah,aw,f65] at H;obtain⟨rfl,rfl,rfl,rfl⟩:=H;simp[a1,a2,a3,ac])
  (fun z' env h=>by simp[ah,aw,f65] at H;obtain⟨rfl,rfl,rfl,rfl⟩:=H;simpa [au] using h)
 refine⟨G,fun env d h=>?_⟩;obtain⟨g1,g2,g3⟩:=hG env d h;rw[OM] at g1 g2 g3;refine⟨?_,fun h=>g2 _ (if_pos h),fun h=>g3 (if_neg h)⟩;rw[g1];by_cases h:x∈U.take i<;>simp[h]
theorem GH(H:ah f65=[b1,b2,b3,b4])(J:dT b1=[6,6,6])(W:dT b2=[7,7,7])(I:TxW M u U)(hl:∀t∈U,t.length<=40)(h3:M[q3]? =some (.cells o3 0 [b,u,sv]))(hN:∀t:List UInt8,t.length<=40->O (.fn 63) [.str t] M=some ⟨.bool (jA t),none,[]⟩):
  ∃G:Env->Bool->Env×Bool,∀env d,((aa env 2=p2/\aa env 3=.ptr q3 0)/\aa env 6=.int .i64 0)->
   aO (aL prog) dT O 1100 111 m0 true (.loop b1) ⟨env,M,d⟩=some (if jK (qK U) 0 U=none then .exit 1 else .ret,⟨(G env d).1,M,(G env d).2⟩)/\(∀v,jK (qK U) 0 U=some v->aa (G env d).1 4=v)/\(jK (qK U) 0 U=none->aa (G env d).1 2=p2/\aa (G env d).1 3=.ptr q3 0):=by
 have hUl:=I.2;exact pV (T:=aL prog) (lv:=dT) (O:=O) (K:=1100) (N:=111) (m0:=m0) (ex:=1) (cnt:=6) (res:=4) (b:=b1) (M:=M) (L:=U) (err:=qK U) (Q:=fun env=>aa env 2=p2/\aa env 3=.ptr q3 0) J (by omega)
  (fun env i x d ⟨a1,a2⟩ ac hx=>by
   have R:i<U.length:=gL hx;obtain⟨G,y⟩:=QD (O:=O) (m0:=m0) (p2:=p2) H W I h3 hx;obtain⟨ub,uo,rfl,m⟩:=I.1.pos (by omega);have j:=qD hx;have D:=hN x (hl x (Lo hx));have o:IntKind.i64.wrap ((i:Int)+1)=((i+1:Nat):Int):=by rw[af];omega
   simp[ah,aw,f65] at H;obtain⟨rfl,rfl,rfl,rfl⟩:=H;obtain⟨m1,Y⟩:=xE (i+1);unfold qK;rw[<-Y] at o |-;have C:=fun env d Z X h3 V=>(y env d ⟨⟨Z,X,h3⟩,V⟩).1
   have B:=fun env d Z X h3 V=>(y env d ⟨⟨Z,X,h3⟩,V⟩).2.1
   have F:=fun env d Z X h3 V=>(y env d ⟨⟨Z,X,h3⟩,V⟩).2.2
   clear y;cases hn:jA x
   .rw[hn] at D
    clear C B F;simp[-getElem?_pos,-AV.adM,-AV.known,-AV.cells,-ay,-List.all_eq_true,vS,rS,mS,a1,a2,ac,R,o,h3,m,j,D]
   .rw[hn] at D
    by_cases S:x∈U.take i
    .simp only[if_pos S] at C
     have B:=fun env d Z X h3 V=>B env d Z X h3 V S
     clear F;simp (maxDischargeDepth:=12) [-getElem?_pos,-AV.adM,-AV.known,-AV.cells,-ay,-List.all_eq_true,vS,rS,mS,a1,a2,ac,R,o,h3,m,j,D,C,B,S]
    .simp only[if_neg S] at C
     have A4:=fun env d Z X h3 V=>(F env d Z X h3 V S).1
     have A5:=fun env d Z X h3 V=>(F env d Z X h3 V S).2.1
     have A6:=fun env d Z X h3 V=>(F env d Z X h3 V S).2.2
     clear B F;simp (maxDischargeDepth:=12) [-getElem?_pos,-AV.adM,-AV.known,-AV.cells,-ay,-List.all_eq_true,vS,rS,mS,a1,a2,ac,R,o,h3,m,j,D,C,A4,A5,A6,S])
  (fun env d ⟨a1,a2⟩ ac=>by
   rcases I.1.two with⟨rfl,e⟩ | ⟨ub,rfl⟩
   .rw[e] at ac
    simp[ah,aw,f65] at H;obtain⟨rfl,rfl,rfl,rfl⟩:=H;simp[-getElem?_pos,-AV.adM,-AV.known,-AV.cells,-ay,-List.all_eq_true,vS,rS,mS,a1,a2,ac,h3]
   .clear I
    simp[ah,aw,f65] at H;obtain⟨rfl,rfl,rfl,rfl⟩:=H;simp[-getElem?_pos,-AV.adM,-AV.known,-AV.cells,-ay,-List.all_eq_true,vS,rS,mS,a1,a2,ac,h3])
  (fun z' env h=>by simp[ah,aw,f65] at H;obtain⟨rfl,rfl,rfl,rfl⟩:=H;simpa [au] using h)
end
section
variable {O:afu}{m0:Nat}{M:Mem}{b u sf p2:AV}{q2 q3:Nat}{o3:Bool}{S:List (List (List UInt8))}{vs:List AV}{b1 b2 b3 b4:Code}
theorem Nn(H:ah f65=[b1,b2,b3,b4])(I:dT b4=[11,11,11])(hO:∀s t:List UInt8,(s.length<=40/\t.length<=40)/\(iz s=0/\iz t=0)->O (.fn 56) [.str s,.str t] M=some ⟨.int .i64 (kU (qL s-qL t)),none,[]⟩)(Y':af5 M sf 1 S.length vs)(hvl:vs.length=S.length)(hSl:S.length<=1000)(h3:M[q3]? =some (.cells o3 0 [b,u,sf])){i:Nat}{J y:AV}{L X:List (List UInt8)}(hy:vs[i]? =some y)(hX:TxW M y X)(hL:TxW M J L)(hl:∀t∈L,t.length<=40)(hlX:∀t∈X,t.length<=40)(hn:jj L=0)(hnX:jj X=0)(C':X.length=L.length)(h0:0<L.length):
  ∃G:Env->Bool->Env×Bool,∀env d,((aa env 2=p2/\aa env 3=.ptr q3 0/\aa env 9=.int .i64 (i:Int)/\aa env 8=J)/\aa env 11=.int .i64 0)->
   aO (aL prog) dT O 1100 111 m0 true (.loop b4) ⟨env,M,d⟩=some (if leZ (L.zip X)=true then .exit 7 else .ret,⟨(G env d).1,M,(G env d).2⟩)/\(leZ (L.zip X)=false->aa (G env d).1 4=.int .i64 6)/\(leZ (L.zip X)=true->aa (G env d).1 2=p2/\aa (G env d).1 3=.ptr q3 0/\aa (G env d).1 9=.int .i64 (i:Int)/\aa (G env d).1 8=J):=by
 obtain⟨hvi,hy'⟩:=Hi.1 hy;have R:i<S.length:=by omega
 obtain⟨sb,so,rfl,hs⟩:=Y'.pos (by omega);have hLl:=hL.2;obtain⟨xb,xo,rfl,hx⟩:=hL.1.pos (by omega);obtain⟨yb,yo,rfl,V⟩:=hX.1.pos (by omega);have g3:=gL h3;have gs:=gL hs;have gx:=gL hx;have gy:=gL V;have hzl:(L.zip X).length=L.length:=by rw[List.length_zip];omega
 obtain⟨F,B'⟩:∃F,bn f65=F :=⟨_,rfl⟩
 have PP :=cR B' rE;simp only[bn,cU,f65,lA] at B';subst B';simp only[lB] at PP;obtain⟨G,hG⟩:=pV (T:=aL prog) (lv:=dT) (O:=O) (K:=1100) (N:=111) (m0:=m0) (ex:=7) (cnt:=11) (res:=4) (b:=b4) (M:=M) (L:=L.zip X) (err:=fun _ p=>if 0<vf (qL p.1) (qL p.2) then some (.int .i64 6) else none) (Q:=fun env=>aa env 2=p2/\aa env 3=.ptr q3 0/\aa env 9=.int .i64 (i:Int)/\aa env 8=.slice xb 0 L.length none) I (by omega)
  (fun env k z d ⟨a1,a2,a3,a4⟩ ac hz=>by
   obtain⟨D,o⟩:=Xx hz;obtain⟨m,j⟩:=z;simp only at D o;have C:k<L.length:=gL D;have B:k<X.length:=by omega
   have k1:=qD D;have k2:=qD o;have Y:=hO m j ⟨⟨hl _ (Lo D),hlX _ (Lo o)⟩,xj hn _ (Lo D),xj hnX _ (Lo o)⟩;have wi:IntKind.i64.wrap ((k:Int)+1)=((k+1:Nat):Int):=by rw[af];omega
   simp[ah,aw,f65] at H;obtain⟨rfl,rfl,rfl,rfl⟩:=H;obtain⟨m1,hm1⟩:=xE (k+1);rw[<-hm1] at wi |-;by_cases W:0<vf (qL m) (qL j)
   .have Z :=Xe.2 W
    obtain⟨c,U⟩:=xE (kU (qL m-qL j));rw[<-U] at Z Y;simp[-getElem?_pos,-AV.adM,-AV.known,-AV.cells,-ay,-List.all_eq_true,vS,rS,mS,-bB,-bb,-aN,-AV.aft,-afz.aft,cW,bU,bD,fJ,dy,bL,cF,eI,bef,Nat.testBit,a1,a2,a3,a4,ac,C,B,R,wi,h3,hs,hx,V,hy,g3,gs,gx,gy,k1,k2,Y,aK PP.2.2,W,Z]
   .have Z :=mt Xe.1 W
    obtain⟨c,U⟩:=xE (kU (qL m-qL j));rw[<-U] at Z Y;simp[-getElem?_pos,-AV.adM,-AV.known,-AV.cells,-ay,-List.all_eq_true,vS,rS,mS,-bB,-bb,-aN,-AV.aft,-afz.aft,cW,bU,bD,fJ,dy,bL,cF,eI,bef,Nat.testBit,a1,a2,a3,a4,ac,C,B,R,wi,h3,hs,hx,V,hy,g3,gs,gx,gy,k1,k2,Y,aK PP.2.2,W,Z])
  (fun env d ⟨a1,a2,a3,a4⟩ ac=>by rw[hzl] at ac;simp[ah,aw,f65] at H;obtain⟨rfl,rfl,rfl,rfl⟩:=H;simp[a1,a2,a3,a4,ac])
  (fun z' env h=>by simp[ah,aw,f65] at H;obtain⟨rfl,rfl,rfl,rfl⟩:=H;simpa [au] using h)
 refine⟨G,fun env d h=>?_⟩;obtain⟨g1,g2,g3⟩:=hG env d h;rw[NP] at g1 g2 g3;refine⟨?_,fun h=>g2 _ (by rw[h];rfl),fun h=>g3 (if_pos h)⟩;rw[g1];cases h:leZ (L.zip X)<;>simp
theorem rP{n:Nat}{L:List (List UInt8)}(h:mF n L=0):L.length=n/\jj L=0:=by
 unfold mF at h;split at h
 .exact⟨by omega,h⟩
 .omega
theorem KC{s:afI}{B:List (List UInt8)}{o2:Bool}(I:ah f65=[b1,b2,b3,b4])(afb:dT b3=[9,9,9,8])(afc:dT b4=[11,11,11])(hO:∀s t:List UInt8,(s.length<=40/\t.length<=40)/\(iz s=0/\iz t=0)->O (.fn 56) [.str s,.str t] M=some ⟨.int .i64 (kU (qL s-qL t)),none,[]⟩)(hC:∀(i:Nat) y X,vs[i]? =some y->S[i]? =some X->O (.fn 118) [shA s,y] M=some ⟨.int .i64 (mF s.P.length X),none,[]⟩)(hp:0<s.P.length)(gM:1<M.length)(J:af5 M sf 1 S.length vs)(hvl:vs.length=S.length)(hSl:S.length<=1000)(H:∀(i:Nat)(x:AV)(L:List (List UInt8)),vs[i]? =some x->S[i]? =some L->TxW M x L)(hB:TxW M b B)(hlB:∀t∈B,t.length<=40)(hlS:∀X∈S,∀t∈X,t.length<=40)(h0:mF s.P.length B=0)(h2:M[q2]? =some (.cells o2 0 [.slice 0 0 s.P.length none,.slice 1 0 s.T.length none]))(h3:M[q3]? =some (.cells o3 0 [b,u,sf])):
  ∃G:Env->Bool->Env×Bool,∀env d,((aa env 2=.ptr q2 0/\aa env 3=.ptr q3 0/\aa env 8=b)/\aa env 9=.int .i64 0)->
   aO (aL prog) dT O 1100 111 m0 true (.loop b3) ⟨env,M,d⟩=some (if jK (sH s.P.length B S) 0 S=none then .exit 5 else .ret,⟨(G env d).1,M,(G env d).2⟩)/\(∀v,jK (sH s.P.length B S) 0 S=some v->aa (G env d).1 4=v):=by
 obtain⟨n,hn⟩:=xE s.P.length;have g2:=gL h2;have g3:=gL h3;have o:0<M.length:=by omega
 obtain⟨Pv,D⟩:=xE (α:=Nat->AV->Prop) (fun i v=>(b::vs)[i]? =some v/\mF s.P.length ((B::S)[i]?.getD [])=0);obtain⟨G,hG⟩:=CN (T:=aL prog) (lv:=dT) (O:=O) (K:=1100) (N:=111) (m0:=m0) (ex:=5) (cnt:=9) (b:=b3) (M:=M) (L:=S) (err:=sH s.P.length B S) (Q:=fun i env=>aa env 2=.ptr q2 0/\aa env 3=.ptr q3 0/\Pv i (aa env 8)) (P:=fun v env=>aa env 4=v) afb rfl (by omega)
  (fun env i X d ⟨a1,a2,a6⟩ ac hx=>by
   obtain⟨a4,a5⟩:(b::vs)[i]? =some (aa env 8)/\mF s.P.length ((B::S)[i]?.getD [])=0:=by rw[D] at a6;exact a6
   have m:i<S.length:=gL hx;obtain⟨y,C⟩:∃y,vs[i]? =some y:=⟨_,LB (by omega)⟩
   have F:=H i y X C hx;have j:=F.1.ck;have Y:=F.1.kn;have hyr:=F.1.refs 0;obtain⟨W,hy'⟩:=Hi.1 C;obtain⟨x0,hx0⟩:=xE (aa env 8);obtain⟨L0,Z⟩:∃L0,(B::S)[i]? =some L0:=⟨_,LB (by simp only[List.length_cons];omega)⟩
   have hxL:TxW M x0 L0/\∀t∈L0,t.length<=40:=by
    rw[<-hx0] at a4;cases i with
    |zero=>
     simp only[List.getElem?_cons_zero,Mp] at a4 Z;subst a4 Z;exact⟨hB,hlB⟩
    |succ i=>
     simp only[List.getElem?_cons_succ] at a4 Z;exact⟨H i x0 L0 a4 Z,hlS _ (Lo Z)⟩
   rw[Z,Option.getD_some] at a5;have l1:=hC i y X C hx;have wi:IntKind.i64.wrap ((i:Int)+1)=((i+1:Nat):Int):=by rw[af];omega
   have pn:mF s.P.length X=0->Pv (i+1) y:=fun e=>by rw[D,];exact⟨by rw[List.getElem?_cons_succ];exact C,by rw[List.getElem?_cons_succ,hx];exact e⟩
   have hD:=fun(e:mF s.P.length X=0)=>Nn (O:=O) (m0:=m0) (p2:=.ptr q2 0) I afc hO J hvl hSl h3 C F hxL.1 hxL.2 (hlS X (Lo hx)) (rP a5).2 (rP e).2 (by rw[(rP e).1,(rP a5).1]) (by rw[(rP a5).1];exact hp)
   obtain⟨sb,rfl⟩:∃sb,sf=.slice sb 0 S.length none:=by obtain⟨sb,so,e,_⟩:=J.pos (by omega);exact⟨sb,e⟩
   obtain⟨so,hs⟩:∃so,M[sb]? =some (.cells so 1 vs):=by obtain⟨sb',so,e,h⟩:=J.pos (by omega);cases e;exact⟨so,h⟩
   have gs:=gL hs;simp only[sH,Z,Option.getD_some];simp only[shA] at l1;rw[<-hn] at l1 h2 pn hD |-;obtain⟨r,hr⟩:=xE (mF n X);rw[<-hr] at l1 pn hD |-;obtain⟨os',B'⟩:∃os',bn f65=os' :=⟨_,rfl⟩
   have PP :=cR B' rE;simp only[bn,cU,f65,lA] at B';subst B';simp only[lB] at PP;simp[ah,aw,f65] at I;obtain⟨rfl,rfl,rfl,rfl⟩:=I;obtain⟨z,hz⟩:=xE (leZ (L0.zip X));rw[<-hz] at hD |-;obtain⟨m1,hm1⟩:=xE (i+1);rw[<-hm1] at wi pn |-;have a10:=hx0.symm;have adp :y.aft (fun b=>decide (b<M.length))=true:=hyr;clear D a6 hxL F hC hO hB J H hx0 a4 hyr;by_cases hr0:r=0
   .subst hr0
    obtain⟨G,hG⟩:=hD rfl;have pn:=pn rfl;have A1:=fun env d V h2 h3 U R=>(hG env d ⟨⟨V,h2,h3,U⟩,R⟩).1
    have A2:=fun env d V h2 h3 U R=>(hG env d ⟨⟨V,h2,h3,U⟩,R⟩).2.1
    have A3:=fun env d V h2 h3 U R=>(hG env d ⟨⟨V,h2,h3,U⟩,R⟩).2.2
    clear hG hD;cases z
    .simp only[Bool.false_eq_true,if_false] at A1
     have A2:=fun env d V h2 h3 U R=>A2 env d V h2 h3 U R rfl
     clear A3;simp (maxDischargeDepth:=12) [-getElem?_pos,-AV.adM,-AV.known,-AV.cells,-ay,-List.all_eq_true,vS,rS,mS,-bB,-bb,-aN,-AV.aft,-afz.aft,cW,bU,bD,fJ,dy,bL,cF,eI,bef,Nat.testBit,a1,a2,a10,ac,m,W,wi,hs,h2,h3,C,hy',j,Y,adp,g2,g3,gs,gM,o,l1,A1,A2,aK PP.2.1]
    .simp only[if_true] at A1
     have A4:=fun env d V h2 h3 U R=>(A3 env d V h2 h3 U R rfl).1
     have A5:=fun env d V h2 h3 U R=>(A3 env d V h2 h3 U R rfl).2.1
     have A6:=fun env d V h2 h3 U R=>(A3 env d V h2 h3 U R rfl).2.2.1
     clear A2 A3;simp (maxDischargeDepth:=12) [-getElem?_pos,-AV.adM,-AV.known,-AV.cells,-ay,-List.all_eq_true,vS,rS,mS,-bB,-bb,-aN,-AV.aft,-afz.aft,cW,bU,bD,fJ,dy,bL,cF,eI,bef,Nat.testBit,a1,a2,a10,ac,m,W,wi,hs,h2,h3,C,hy',j,Y,adp,g2,g3,gs,gM,o,l1,A1,A4,A5,A6,pn,aK PP.2.1]
   .clear hD
    simp (maxDischargeDepth:=12) [-getElem?_pos,-AV.adM,-AV.known,-AV.cells,-ay,-List.all_eq_true,vS,rS,mS,-bB,-bb,-aN,-AV.aft,-afz.aft,cW,bU,bD,fJ,dy,bL,cF,eI,bef,Nat.testBit,a1,a2,a10,ac,m,W,wi,hs,h2,h3,C,hy',j,Y,adp,g2,g3,gs,gM,o,l1,hr0,aK PP.2.1])
  (fun env d ⟨a1,a2,a6⟩ ac=>by
   rcases J.two with⟨rfl,e⟩ | ⟨ub,rfl⟩
   .rw[e] at ac a6 |-
    clear hB hO hC J H;simp[ah,aw,f65] at I;obtain⟨rfl,rfl,rfl,rfl⟩:=I;simp[-getElem?_pos,-AV.adM,-AV.known,-AV.cells,-ay,-List.all_eq_true,vS,rS,mS,a1,a2,ac,h3,a6]
   .clear hB hO hC J H
    simp[ah,aw,f65] at I;obtain⟨rfl,rfl,rfl,rfl⟩:=I;simp[-getElem?_pos,-AV.adM,-AV.known,-AV.cells,-ay,-List.all_eq_true,vS,rS,mS,a1,a2,ac,h3,a6])
  (fun i z' env h h' =>by simp[ah,aw,f65] at I;obtain⟨rfl,rfl,rfl,rfl⟩:=I;simpa [au,h.1,h.2.1] using h'.2.2)
 refine⟨G,fun env d h=>?_⟩;obtain⟨k1,k2,k3⟩:=hG env d ⟨⟨h.1.1,h.1.2.1,by rw[D,h.1.2.2];exact⟨rfl,h0⟩⟩,h.2⟩;exact⟨k1,k2⟩
end
section
variable {c:Evc}{b u sv kn x y:AV}{m:Mem}{s:afI}
theorem PE(hM:agE m s)(hd:c.Bd)(hB:TxW m b c.B)(hU:TxW m u c.U)(hS:SfW m sv c.S):bz prog 65 [shA s,.agg [b,u,sv]] m (RU s.P.length c.B c.U c.S) m:=by
 have o:bq prog 65=some f65:=by kernel_rfl
 have hO:=afs.or' EX (EY hM);obtain⟨E,hE⟩:=xE (α:=Mem) [.cells true 0 [.slice 0 0 s.P.length none,.slice 1 0 s.T.length none],.cells true 0 [b,u,sv]];obtain⟨hSl,vs,hvl,Y',hvs⟩:=id hS;have hUl:=hU.2;have hp:=hM.1.1;obtain⟨O,C⟩:=xE (afu.or (ai jl) (kW (eN s m)));have D:O (.fn 118) [shA s,b] (m++E)=some ⟨.int .i64 (mF s.P.length c.B),none,[]⟩:=by rw[C];simpa [afu.or,ai,jl] using uj (s:=s) hB hd.B E
 have lN:∀t:List UInt8,t.length<=40->O (.fn 63) [.str t] (m++E)=some ⟨.bool (jA t),none,[]⟩:=fun t ht=>by rw[C];simpa [afu.or,ai,jl] using Nd (s:=s) (m:=m) (t:=t) (by omega) E
 have lO:∀s t:List UInt8,(s.length<=40/\t.length<=40)/\(iz s=0/\iz t=0)->O (.fn 56) [.str s,.str t] (m++E)=some ⟨.int .i64 (kU (qL s-qL t)),none,[]⟩:=fun s t h=>by rw[C];simp[afu.or,ai,jl,h]
 have lC:∀(i:Nat) y X,vs[i]? =some y->c.S[i]? =some X->O (.fn 118) [shA s,y] (m++E)=some ⟨.int .i64 (mF s.P.length X),none,[]⟩:=fun i y X R V=>by rw[C];simpa [afu.or,ai,jl] using uj (s:=s) (hvs i y X R V) (hd.S X (Lo V)) E
 rw[<-C] at hO;clear C;obtain⟨b1,b2,b3,b4,hbb,v1,v2,v3,v4⟩:=VE;obtain⟨G,Q⟩:=GH (O:=O) (m0:=m.length) (p2:=.ptr m.length 0) (q3:=m.length+1) (b:=b) (sv:=sv) (o3:=true) hbb v1 v2 (hU.more E) hd.U (by rw[hE];simp) lN;have Z:=fun h0=>KC (O:=O) (m0:=m.length) (q2:=m.length) (q3:=m.length+1) (u:=u) (o2:=true) (o3:=true) hbb v3 v4 lO lC hp (by rw[hE];simp) (Y'.more E) hvl hSl (fun i x L a1 a2=>(hvs i x L a1 a2).more E) (hB.more E) hd.B hd.S h0 (by rw[hE];simp) (by rw[hE];simp)
 clear lN lO lC;have j:=hB.1.ck;have Y:=hU.1.ck;have W:=Y'.ck;have J:=hB.1.kn;have I:=hU.1.kn;have ns:=Y'.kn;have tU:=hU.1.two;have tS:=Y'.two;clear hS Y' hB hM hvs v1 v2 v3 v4;simp[ah,aw,f65] at hbb;obtain⟨rfl,rfl,rfl,rfl⟩:=hbb;have IR:ao (aL prog) dT (bq prog) O 1100 65 [shA s,.agg [b,u,sv]] m=some (RU s.P.length c.B c.U c.S,m++E):=by
  clear hO;simp only[shA] at D |-;obtain⟨n,hn⟩:=xE s.P.length;unfold RU;rw[<-hn] at D Z hE |-;subst hE;obtain⟨r,hr⟩:=xE (mF n c.B);rw[<-hr] at D Z |-;by_cases h0:r=0
  .subst h0
   rw[if_pos rfl];have Z:=Z rfl;rcases tU with⟨rfl,eU⟩ | ⟨ub,rfl⟩
   .rw[if_pos eU]
    clear Q Z;simp[-getElem?_pos,-AV.adM,-AV.known,-AV.cells,-ay,-List.all_eq_true,vS,rS,mS,ao,o,f65,aD,ag,D,j,Y,W,J,I,ns]
   .by_cases hu0:c.U.length=0
    .rw[if_pos hu0]
     clear Q Z;rw[hu0] at D |-;simp[-getElem?_pos,-AV.adM,-AV.known,-AV.cells,-ay,-List.all_eq_true,vS,rS,mS,ao,o,f65,aD,ag,D,j,Y,W,J,I,ns]
    .rw[if_neg hu0]
     have M:¬c.U=[]:=fun e=>hu0 (by rw[e];rfl)
     by_cases hu6:60<c.U.length
     .rw[if_pos hu6]
      clear Q Z;have N :(60:Int)<(c.U.length:Int):=by omega
      have K :¬(c.U.length:Int)=0:=by omega
      simp[-getElem?_pos,-AV.adM,-AV.known,-AV.cells,-ay,-List.all_eq_true,vS,rS,mS,ao,o,f65,aD,ag,D,j,Y,W,J,I,ns,M,N]
     .rw[if_neg hu6]
      have N :¬(60:Int)<(c.U.length:Int):=by omega
      have K :¬(c.U.length:Int)=0:=by omega
      have wu:IntKind.i64.wrap ((c.U.length:Int)-1)=(c.U.length:Int)-1:=af;have A1:=fun env d R V h3=>(Q env d ⟨⟨R,V⟩,h3⟩).1
      have A2:=fun env d R V h3=>(Q env d ⟨⟨R,V⟩,h3⟩).2.1
      have A3:=fun env d R V h3=>(Q env d ⟨⟨R,V⟩,h3⟩).2.2
      clear Q;cases hnm:jK (qK c.U) 0 c.U with
      |some v=>
       obtain⟨k,rfl⟩:=Dm hnm;rw[hnm] at A1 A2;simp only[reduceCtorEq,if_false] at A1;have A2:=fun env d R V h3=>A2 env d R V h3 _ rfl
       clear A3 Z;simp (maxDischargeDepth:=12) [-getElem?_pos,-AV.adM,-AV.known,-AV.cells,-ay,-List.all_eq_true,vS,rS,mS,ao,o,f65,aD,ag,D,j,Y,W,J,I,ns,M,K,N,A1,A2]
      |none=>
       simp only;rw[hnm] at A1 A3;simp only[if_true] at A1;have A4:=fun env d R V h3=>(A3 env d R V h3 rfl).1
       have A5:=fun env d R V h3=>(A3 env d R V h3 rfl).2
       clear A2 A3;by_cases hsz:c.S.length+1=c.U.length
       .rw[if_pos hsz]
        obtain⟨H,hHH⟩:=Z;have F :(c.U.length:Int)-1=(c.S.length:Int):=by omega
        rw[F] at wu;have B1:=fun env d R V h3 h4=>(hHH env d ⟨⟨R,V,h3⟩,h4⟩).1
        have B2:=fun env d R V h3 h4=>(hHH env d ⟨⟨R,V,h3⟩,h4⟩).2
        clear hHH;cases hsf:jK (sH n c.B c.S) 0 c.S with
        |some v=>
         obtain⟨k,rfl⟩:=DH hsf;rw[hsf] at B1 B2;simp only[reduceCtorEq,if_false] at B1;have B2:=fun env d R V h3 h4=>B2 env d R V h3 h4 _ rfl
         rcases tS with⟨rfl,eS⟩ | ⟨sb,rfl⟩
         .rw[List.length_eq_zero_iff.1 eS] at hsf;cases hsf
         .simp (maxDischargeDepth:=12) [-getElem?_pos,-AV.adM,-AV.known,-AV.cells,-ay,-List.all_eq_true,vS,rS,mS,ao,o,f65,aD,ag,D,j,Y,W,J,I,ns,M,K,N,A1,A4,A5,B1,B2,wu,F]
        |none=>
         rw[hsf] at B1;simp only[if_true] at B1;clear B2;rcases tS with⟨rfl,eS⟩ | ⟨sb,rfl⟩
         .rw[eS] at F
          have wu:IntKind.i64.wrap 0=0:=rfl;simp (maxDischargeDepth:=12) [-getElem?_pos,-AV.adM,-AV.known,-AV.cells,-ay,-List.all_eq_true,vS,rS,mS,ao,o,f65,aD,ag,D,j,Y,W,J,I,ns,M,K,N,A1,A4,A5,B1,wu,F]
         .simp (maxDischargeDepth:=12) [-getElem?_pos,-AV.adM,-AV.known,-AV.cells,-ay,-List.all_eq_true,vS,rS,mS,ao,o,f65,aD,ag,D,j,Y,W,J,I,ns,M,K,N,A1,A4,A5,B1,wu,F]
       .rw[if_neg hsz]
        clear Z;have F :¬(c.S.length:Int)=(c.U.length:Int)-1:=by omega
        rcases tS with⟨rfl,eS⟩ | ⟨sb,rfl⟩
        .have ado:¬(0:Int)=(c.U.length:Int)-1:=by omega
         simp (maxDischargeDepth:=12) [-getElem?_pos,-AV.adM,-AV.known,-AV.cells,-ay,-List.all_eq_true,vS,rS,mS,ao,o,f65,aD,ag,D,j,Y,W,J,I,ns,M,K,N,A1,A4,A5,wu,ado]
        .simp (maxDischargeDepth:=12) [-getElem?_pos,-AV.adM,-AV.known,-AV.cells,-ay,-List.all_eq_true,vS,rS,mS,ao,o,f65,aD,ag,D,j,Y,W,J,I,ns,M,K,N,A1,A4,A5,wu,F]
  .rw[if_neg h0]
   clear Q Z;simp[-getElem?_pos,-AV.adM,-AV.known,-AV.cells,-ay,-List.all_eq_true,vS,rS,mS,ao,o,f65,aD,ag,D,j,Y,W,J,I,ns,h0]
 obtain⟨k,hk⟩:=AN s.P.length c.B c.U c.S;rw[hk] at IR |-;exact bz.forget rfl (aX ak (aI _) hO (aQ _) IR)
end
end Go.Proofs
