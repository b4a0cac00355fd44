/- See G38. -/
import Derived.Test.YthpgbelancmpjaaGreatDoorG35
import Derived.Test.YthpgbelancmpjaaGreatDoorG33
set_option linter.all false
set_option maxRecDepth 100000
set_option maxHeartbeats 40000000
namespace Go.Proofs
open Go.Eng
open Tryz
def Wi(s:afv)(j:Nat):Tr:=s.T.getD j (0,0,0)
def crS(s:afv)(i:Nat):P2:=s.P.getD i (0,0)
noncomputable def plS(s:afv)(x:adM)(j:Nat):List (V3×Rat):=match x.kind%5 with
 |0=>((x.base.l s.P.length::iW x s.P.length (ctN x)).map qH).map (Dp (crS s (Wi s j).1) (crS s (Wi s j).2.1) (crS s (Wi s j).2.2) (Wi s j))
 |1=>[(zQ (fW x),hQ (ir (x.n 6)))]
 |2=>(x.afM (ctM x)).map fun q=>(zQ (fW x),q.1)
 |3=>[(zQ (fW x),hQ (ir (x.n 6))),(zQ (fW x),hQ (ir (x.n 6))+hQ (ps9 (x.n 7)))]
 |_=>[]
def Zg(X:List (V3×Rat)):Prop:=∀x∈X,vDg 200 x.1/\dg 200 200 x.2/\¬tY x.1
section
variable {K:Int}{g g1 g2 g3 g4:FuncId}{onl:Evc->Evc}{x y:Bool}{s:afv}{c:Evc}{M:Mem}{p t j:Nat}{o o' :Bool}{ev:List AV}{X:List (V3×Rat)}
theorem HV(H:agq K g g1 g2 g3 g4 onl x y)(I:c.k=K)(J:agc M ev c)(Z:Mem):kO prog 44 [.agg ev] (M++Z) (.agg [.func g [],.func g1 [],.func g2 [],.func g3 [],.func g4 []]) (M++Z):=by obtain⟨b,u,V,U,rfl,S,O,⟨_,_,h3,_⟩,L⟩:=J;have:=O0 H (N:=M++Z) (nm:=c.nm) (R:=((c.cells b u V U).drop 2)) rfl (by simp[Evc.cells,S.ck,O.ck,h3.ck,L.ck,vS,-AV.afp]);rw[<-I] at this;exact this
theorem Qh{x:V3×Rat}(h:vDg 200 x.1/\dg 200 200 x.2/\¬tY x.1)(N:Mem):kO prog 45 [plA x] N (.int .i64 0) N:=qM x.1 x.2 h.1 h.2.1 h.2.2 N
section
variable (kp:agq K g g1 g2 g3 g4 onl x y)(hk:c.k=K)(hCk:km s c)(hp:M[p]? =some (.cells o 2 (pC s.P)))(ht:M[t]? =some (.cells o' 3 (tC s.T)))(hE:agc M ev c)(hj:j<s.T.length)
include kp hk hCk hp ht hE hj
theorem sJ(hX:0<X.length/\X.length<=4)(H:Zg X)(hP:∀N:Mem,(∃Z,N=M++Z)->∃k n,k<n/\kO prog g4 [nt s p t,.agg ev,.int .i64 (j:Int)] N (.tuple [.slice (N.length+k) 0 X.length none,.int .i64 0]) (N++agr n k (.cells true 4 (pnC X))))(n1:25≠g4)(n2:44≠g4)(n3:45≠g4):
  ∃w G,kO prog 11 [nt s p t,.agg ev,.int .i64 (j:Int)] M (.tuple [w,.int .i64 0]) (M++G)/\afw (M++G) w 4 X.length (pnC X):=by
 have lp:=wP hp;have lt:=wP ht;have hT:=mq s;obtain⟨B,hB⟩:=xE (α:=Mem) [.cells true 0 [.slice p 0 s.P.length none,.slice t 0 s.T.length none],.cells true 0 ev];obtain⟨k,n,Y,hC⟩:=hP (M++B) ⟨_,rfl⟩;obtain⟨V,hV⟩:=xE (agr n k (.cells true 4 (pnC X)));have hVl:V.length=n:=by rw[hV,CQ]
 have hB2:B.length=2:=by rw[hB];rfl
 have U:(M++(B++V))[(M++B).length+k]? =some (.cells true 4 (pnC X)):=by rw[<-QQQ,hV];exact TX Y _
 rw[<-hV] at hC;obtain⟨L,F⟩:=xE (α:=List (FuncId×List AV×(Mem->Prop)×afl)) [(25,[nt s p t,.agg ev],(fun N=>∃Z,N=M++Z),⟨.int .i64 0,none,[]⟩),(44,[.agg ev],(fun N=>∃Z,N=M++Z),⟨.agg [.func g [],.func g1 [],.func g2 [],.func g3 [],.func g4 []],none,[]⟩),(g4,[nt s p t,.agg ev,.int .i64 (j:Int)],(fun N=>N=M++B),⟨.tuple [.slice ((M++B).length+k) 0 X.length none,.int .i64 0],none,V⟩)];obtain⟨S,C⟩:=xE (jV fun c a (_:Mem) r=>∃x∈X,c=Go.Eng.Callee.fn 45/\a=[plA x]/\r=⟨.int .i64 0,none,[]⟩);have J:qS prog S:=by
  rw[C];exact mX fun c a N r h=>by obtain⟨x,R,rfl,rfl,rfl⟩:=h;exact bz (Qh (H x R) N)
 have e4:∀x∈X,∀N,S (.fn 45) [plA x] N=some ⟨.int .i64 0,none,[]⟩:=fun x R N=>by
  rw[C];exact dL ⟨x,R,rfl,rfl,rfl⟩ fun r' h' =>by obtain⟨_,_,_,_,rfl⟩:=h';rfl
 have hO:qS prog (y9.or (fD L) S):=qS.or (pH fun z I N hq=>by
  rw[F] at I;simp only[lM] at I;rcases I with rfl | rfl | rfl
  .obtain⟨Z,rfl⟩:=hq
   exact au (by simpa [nt] using hCk _ p t o o' ev (fm hp Z) (fm ht Z) (hE.more Z))
  .obtain⟨Z,rfl⟩:=hq
   exact bz (HV kp hk hE Z)
  .rw[show N=_ from hq]
   exact au hC) J
 have e1:∀Z,y9.or (fD L) S (.fn 25) [.agg [.slice p 0 s.P.length none,.slice t 0 s.T.length none],.agg ev] (M++Z)=some ⟨.int .i64 0,none,[]⟩:=fun Z=>by rw[F];exact qm ⟨Z,rfl⟩
 have e2:∀Z,y9.or (fD L) S (.fn 44) [.agg ev] (M++Z)=some ⟨.agg [.func g [],.func g1 [],.func g2 [],.func g3 [],.func g4 []],none,[]⟩:=fun Z=>by rw[F,ff (.inl (by decide))];exact qm ⟨Z,rfl⟩
 have e3:y9.or (fD L) S (.fn g4) [.agg [.slice p 0 s.P.length none,.slice t 0 s.T.length none],.agg ev,.int .i64 (j:Int)] (M++B)=some ⟨.tuple [.slice ((M++B).length+k) 0 X.length none,.int .i64 0],none,V⟩:=by rw[F,ff (.inl n1),ff (.inl n2)];exact qm rfl
 have e5:∀x∈X,∀N,y9.or (fD L) S (.fn 45) [plA x] N=some ⟨.int .i64 0,none,[]⟩:=fun x R N=>by rw[F,ff (.inl (by decide)),ff (.inl (by decide)),ff (.inl (Ne.symm n3)),OB];exact e4 x R N
 obtain⟨O,u⟩:=xE (y9.or (fD L) S);rw[<-u] at hO e1 e2 e3 e5;clear u;subst hB;have ZJ:(M++[afq.cells true 0 [.slice p 0 s.P.length none,.slice t 0 s.T.length none],.cells true 0 ev]).length=M.length+2:=by simp
 rw[ZJ] at e3 U;have:=KH (O:=O) (M:=M) (V:=V) (ev:=ev) (pv:=.slice p 0 s.P.length none) (X:=X) (tb:=t) (m:=s.T.length) (wb:=M.length+2+k) (j:=(j:Int)) hO rfl (fun x=>by simp only[AV.afm,GE];omega) lt (fun x=>hE.refs x) hE.l32 (List.all_eq_true.2 hE.cok) hT (by omega) e1 e2 e3
  (fun f=>by rw[hV];exact V2 f rfl (by show AV.afs f (pnC X)=true;exact PB f X)) (by omega) ⟨⟨true,U⟩,hX.2,fun x R Z=>e5 x R _⟩
 refine⟨_,_,this,.inr ⟨_,true,rfl,hX.1,?_⟩⟩;have e:∀(a b c d:Mem),a++(b++(c++d))=(a++(b++c))++d:=fun a b c d=>by simp
 rw[e,GT (gL U)];exact U
theorem Qk(H:∀N:Mem,kO prog g4 [nt s p t,.agg ev,.int .i64 (j:Int)] N (.tuple [.qF,.int .i64 0]) N)(I:25≠g4)(J:44≠g4):
  kO prog 11 [nt s p t,.agg ev,.int .i64 (j:Int)] M (.tuple [.qF,.int .i64 0]) M:=by
 have G:=wP hp;have R:=wP ht;have hT:=mq s;obtain⟨L,V⟩:=xE (α:=List (FuncId×List AV×(Mem->Prop)×afl)) [(25,[nt s p t,.agg ev],(fun N=>∃Z,N=M++Z),⟨.int .i64 0,none,[]⟩),(44,[.agg ev],(fun N=>∃Z,N=M++Z),⟨.agg [.func g [],.func g1 [],.func g2 [],.func g3 [],.func g4 []],none,[]⟩),(g4,[nt s p t,.agg ev,.int .i64 (j:Int)],(fun _=>True),⟨.tuple [.qF,.int .i64 0],none,[]⟩)];have O:qS prog (fD L):=pH fun z U N S=>by
  rw[V] at U;simp only[lM] at U;rcases U with rfl | rfl | rfl
  .obtain⟨Z,rfl⟩:=S
   exact au (by simpa [nt] using hCk _ p t o o' ev (fm hp Z) (fm ht Z) (hE.more Z))
  .obtain⟨Z,rfl⟩:=S
   exact bz (HV kp hk hE Z)
  .exact bz (H N)
 exact KG (M:=M) (ev:=ev) (pv:=.slice p 0 s.P.length none) (tb:=t) (m:=s.T.length) (j:=(j:Int)) O rfl (fun x=>by simp only[AV.afm,GE];omega) R (fun x=>hE.refs x) hE.l32 (List.all_eq_true.2 hE.cok) hT (by omega)
  (fun Z=>by rw[V];exact iz ⟨Z,rfl⟩) (fun Z=>by rw[V,dX (.inl (by decide))];exact iz ⟨Z,rfl⟩) (by rw[V,dX (.inl I),dX (.inl J)];exact iz trivial)
end
theorem HY(H:km s c)(J:M[p]? =some (.cells o 2 (pC s.P)))(Y:M[t]? =some (.cells o' 3 (tC s.T)))(I:agc M ev c){i:Int}(hi:i<0\/(s.T.length:Int)<=i):
  kO prog 11 [nt s p t,.agg ev,.int .i64 i] M (.tuple [.qF,.int .i64 3]) M:=by
 have hT:=mq s;obtain⟨L,V⟩:=xE (α:=List (FuncId×List AV×(Mem->Prop)×afl)) [(25,[nt s p t,.agg ev],(fun N=>∃Z,N=M++Z),⟨.int .i64 0,none,[]⟩)];have S:qS prog (fD L):=pH fun z U N R=>by rw[V,List.mem_singleton] at U;subst U;obtain⟨Z,rfl⟩:=R;exact au (by simpa [nt] using H _ p t o o' ev (fm J Z) (fm Y Z) (I.more Z))
 exact Gw (M:=M) (ev:=ev) (pv:=.slice p 0 s.P.length none) (tb:=t) (m:=s.T.length) S rfl I.l32 (List.all_eq_true.2 I.cok) hT hi (fun Z=>by rw[V];exact iz ⟨Z,rfl⟩)
end
end Go.Proofs
namespace Go.Proofs
open Go.Eng
theorem Xk{A B C:P2}{t:Tr}{Q:List Rat}(H:pDg 5 A)(I:pDg 5 B)(J:pDg 5 C)(hf:∀i,dg 4 4 (Q.getD i 0))(hS:bD A B C≠0):vDg 200 (Dp A B C t Q).1/\dg 200 200 (Dp A B C t Q).2/\¬tY (Dp A B C t Q).1:=by
 have Z:=TR H I J (hf t.1) (hf t.2.1) (hf t.2.2) hS;refine⟨Z.mono (by omega),?_,fun h=>?_⟩
 .have s:=nP (dp Z.1 H.1) (dp Z.2.1 H.2) (m:=192) (by omega) (by omega)
  have z:=dp (YK:dg 1 1 (UH A B C (Q.getD t.1 0) (Q.getD t.2.1 0) (Q.getD t.2.2 0)).2.2) (hf t.1);exact(nP s z (m:=198) (by omega) (by omega)).mono (by omega) (by omega)
 .have:(1:Rat)=0:=h.2.2
  exact absurd this (by decide)
theorem Lt(p n:V3):∀L:List P2,EJ p (L.map fun q=>(n,q.1))=mh L (iK n p)
 | []=>rfl
 |q::L=>by rw[List.map_cons,EJ,mh,Lt p n L]
theorem XX{d o w:Rat}(H:0<w):(if d-o<0 then (0:Int) else if d-o<w then 1 else 2)=(((if o<=d then 1 else 0)+((if o+w<=d then 1 else 0)+0):Nat):Int):=by
 by_cases a:d-o<0
 .have X:¬o<=d:=by grind
  have Z:¬o+w<=d:=by grind
  rw[if_pos a,if_neg X,if_neg Z];rfl
 .have X:o<=d:=by grind
  by_cases b:d-o<w
  .have Z:¬o+w<=d:=by grind
   rw[if_neg a,if_pos b,if_pos X,if_neg Z];rfl
  .have Z:o+w<=d:=by grind
   rw[if_neg a,if_neg b,if_pos X,if_pos Z];rfl
section
variable {s:afv}{x:adM}{j:Nat}{v:V3}
theorem T2(H:j<s.T.length):∃t A B C,s.T[j]? =some t/\s.P[t.1]? =some A/\s.P[t.2.1]? =some B/\s.P[t.2.2]? =some C/\0<bD A B C/\Wi s j=t/\crS s t.1=A/\crS s t.2.1=B/\crS s t.2.2=C:=by
 obtain⟨t,Z⟩:∃t,s.T[j]? =some t:=⟨_,G2 H⟩
 obtain⟨A,B,C,X,V,h3,U⟩:=sF s Z;exact⟨t,A,B,C,Z,X,V,h3,U,by simp[Wi,List.getD,Z],by simp[crS,List.getD,X],by simp[crS,List.getD,V],by simp[crS,List.getD,h3]⟩
theorem Fh(c:Nat)(hc:c=1\/c=2\/c=3):(iW x s.P.length c).length+1=c:=by rcases hc with rfl | rfl | rfl<;>rfl
theorem T3(H:j<s.T.length):Zg (plS s x j):=by
 have X:=Wn (xa x) (k:=1) (by decide) (by decide);have V:=YE (Px x);have U:=yf (z:=ir (x.n 6)) (k:=1) (by have:=dx (x.n 6);omega) (by decide);have w7:=yf (z:=ps9 (x.n 7)) (k:=1) (by have:=kV (x.n 7);omega) (by decide);have F:=kN x;unfold plS;rcases jH x.kind with h | h | h | h | h<;>rw[h]
 .obtain⟨t,A,B,C,u,S,R,h3,o,O,N,M,L⟩:=T2 (s:=s) H
  simp only[O,N,M,L];obtain⟨w1,w2,w3⟩:=Dj (s:=s) (x:=x) (fR x);intro y Z;rw[List.map_map] at Z;obtain⟨Y,K,rfl⟩:=QQm.1 Z;exact Xk (gF s (J1 S)) (gF s (J1 R)) (gF s (J1 h3)) (fun i=>su (w1 Y K).2 i) (by grind)
 .intro y Z
  simp only[List.mem_singleton] at Z;subst Z;exact⟨X.mono (by omega),U.mono (by omega) (by omega),V⟩
 .intro y Z
  obtain⟨q,G,rfl⟩:=QQm.1 Z;exact⟨X.mono (by omega),(show dg 2 2 q.1 from(Cx (x:=x) (c:=ctM x) (by omega) G).1).mono (by omega) (by omega),V⟩
 .intro y Z
  simp only[lM] at Z;rcases Z with rfl | rfl
  .exact⟨X.mono (by omega),U.mono (by omega) (by omega),V⟩
  .exact⟨X.mono (by omega),(S0 U w7).mono (by omega) (by omega),V⟩
 .intro y Z
  cases Z
theorem WY(I:j<s.T.length)(h0:x.kind%5=0)(H:inQ (qc s.P (v.1,v.2.1) (Wi s j))):XK s x v= -1+(EJ v (plS s x j):Int):=by
 obtain⟨t,A,B,C,V,N,M,h3,u,U,L,K,G⟩:=T2 (s:=s) I;obtain⟨w1,w2,w3⟩:=Dj (s:=s) (x:=x) (fR x);rw[U] at H;have S:∀{t:Tr}{A B C:P2},s.P[t.1]? =some A->s.P[t.2.1]? =some B->s.P[t.2.2]? =some C->qc s.P (v.1,v.2.1) t=gZ A B C (v.1,v.2.1):=fun a b c=>by unfold qc;simp[List.getD,a,b,c]
 unfold plS XK;rw[h0];simp only[U,L,K,G];cases hl:MH s.P (v.1,v.2.1) s.T 0 with
 |none=>exact absurd H (CB hl j t V)
 |some jw=>
  obtain⟨i,w⟩:=jw;obtain⟨k,o,rfl,Z,X,rfl,_⟩:=se hl;obtain⟨m,Y,J,R,O,g3,F⟩:=sF s Z;rw[VG (p:=v) w1 w3 hl (by rw[QQb];exact Z) R O g3 F,O8 (by grind),O8 (by grind),<-S R O g3,<-S N M h3];congr 2;congr 1;exact List.map_congr_left fun Q _=>VO s Z V X H fun i=>Q.getD i 0
theorem WZ(h0:x.kind%5≠0):VY s x v=(EJ v (plS s x j):Int):=by
 unfold VY plS;rcases jH x.kind with h | h | h | h | h
 .exact absurd h h0
 .rw[h]
  simp only[Pd,EJ];split<;>rfl
 .rw[h]
  simp only[Lt]
 .rw[h]
  simp only[dkL,EJ];exact XX (Wu (by have:=kV (x.n 7);omega))
 .rw[h];rfl
end
end Go.Proofs
namespace Go.Proofs
open Go.Eng
open Tryz
section
variable {x:adM}{s:afv}{M:Mem}{p t j:Nat}{o o' :Bool}{ev:List AV}{v:V3}
theorem Ql(I:M[p]? =some (.cells o 2 (pC s.P)))(J:M[t]? =some (.cells o' 3 (tC s.T)))(H:agc M ev (cSk x s.P.length))(Y:j<s.T.length):
  ∃w G,kO prog 11 [nt s p t,.agg ev,.int .i64 (j:Int)] M (.tuple [w,.int .i64 0]) (M++G)/\afw (M++G) w 4 (plS s x j).length (pnC (plS s x j)):=by
 have X:=Bm s x;have V:=T3 (x:=x) Y;have hT:=mq s;unfold plS at V |-;rcases jH x.kind with h | h | h | h | h
 .rw[XF h] at H X
  rw[h] at V |-;obtain⟨t',A,B,C,F,O,L,h3,R,m,e2,e3,e4⟩:=T2 (s:=s) Y;obtain⟨w1,w2,w3⟩:=Dj (s:=s) (x:=x) (fR x);simp only[m,e2,e3,e4] at V |-;refine sJ gO.1 rfl X I J H Y ⟨by simp,by simp;omega⟩ V (fun N ⟨Z,hZ⟩=>?_) (by decide) (by decide) (by decide);subst hZ;have:=Dv (c:=uX x s.P.length (ctN x)) (lH s).1 (lH s).2 w1 w2 rfl rfl (H.more Z) (fm I Z) (fm J Z) F O L h3 R;simpa [nt] using this
 .rw[XG h] at H X
  rw[h] at V |-;have U:=H;obtain⟨b,u,sv,kn,rfl,O,L,h3,R⟩:=H;obtain rfl:=O.af0 rfl;obtain rfl:=L.af0 rfl;obtain rfl:=h3.af0 rfl;obtain rfl:=R.af0 rfl;refine sJ gO.2.1 rfl X I J U Y ⟨by simp,by simp⟩ V (fun N _=>?_) (by decide) (by decide) (by decide);exact R8 [110] _ _ _ _
 .rw[XH h] at H X
  rw[h] at V |-;have U:=H;have hc:=kN x;have S:(x.afM (ctM x)).length=ctM x:=adM.afN x _;obtain⟨b,u,sv,kn,rfl,O,L,h3,R⟩:=H;obtain rfl:=O.af0 rfl;obtain rfl:=L.af0 rfl;obtain rfl:=h3.af0 rfl;have m:(eL [110] (zQ (fW x)) (x.afM (ctM x)) (zQ (Aw x))).K.length=ctM x:=by show(kT _).length=_;rw[lV,S]
  rw[m] at R;obtain⟨kb,ko,rfl,hk⟩:=R.pos (by omega);have hk:M[kb]? =some (.cells ko 2 (kC (kT (x.afM (ctM x))))):=hk;refine sJ gO.2.2.1 rfl X I J U Y ⟨by simp[S];omega,by simp[S];omega⟩ V (fun N ⟨Z,hZ⟩=>?_) (by decide) (by decide) (by decide);subst hZ;have:=R9 (M:=M++Z) (pb:=p) (tb:=t) (a:=s.P.length) (b:=s.T.length) [110] (zQ (fW x)) (zQ (Aw x)) (x.afM (ctM x)) (by omega) (fm hk Z) (j:Int);rw[S] at this;simpa [S,nt] using this
 .rw[XI h] at H X
  rw[h] at V |-;have U:=H;have o6:=yf (z:=ir (x.n 6)) (k:=1) (by have:=dx (x.n 6);omega) (by decide);have w7:=yf (z:=ps9 (x.n 7)) (k:=1) (by have:=kV (x.n 7);omega) (by decide);obtain⟨b,u,sv,kn,rfl,O,L,h3,R⟩:=H;obtain rfl:=O.af0 rfl;obtain rfl:=L.af0 rfl;obtain rfl:=h3.af0 rfl;obtain rfl:=R.af0 rfl;refine sJ gO.2.2.2.1 rfl X I J U Y ⟨by simp,by simp⟩ V (fun N ⟨Z,hZ⟩=>?_) (by decide) (by decide) (by decide);subst hZ;exact Sa (M:=M++Z) [110] _ _ _ _ _ (pI o6 (by omega) (by omega)) (pI w7 (by omega) (by omega)) (wP (fm I Z)) (wP (fm J Z))
 .rw[XJ h] at H X
  rw[h];refine⟨.qF,[],?_,.inl ⟨rfl,rfl,rfl⟩⟩;rw[List.append_nil];exact Qk gO.2.2.2.2 rfl X I J H Y (fun N=>Sb H.cok H.l32 _) (by decide) (by decide)
theorem NI(I:vDg 5 v)(J:M[p]? =some (.cells o 2 (pC s.P)))(Y:M[t]? =some (.cells o' 3 (tC s.T)))(H:agc M ev (cSk x s.P.length)):
  kO prog 17 [nt s p t,.agg ev,vA v] M (.int .i64 (VY s x v)) M:=by
 have F:=Wn (xa x) (k:=1) (by decide) (by decide);have R:=yf (z:=ir (x.n 6)) (k:=1) (by have:=dx (x.n 6);omega) (by decide);have w7:=yf (z:=ps9 (x.n 7)) (k:=1) (by have:=kV (x.n 7);omega) (by decide);have S:=Tc (k:=40) F I (by omega);have O:=Tf (F.mono (m:=5) (by omega)) I (by omega) (by omega);unfold VY;rcases jH x.kind with h | h | h | h | h
 .rw[XF h] at H
  rw[h];exact NM I J Y H
 .rw[XG h] at H
  rw[h];obtain⟨b,u,N,L,rfl,X,V,h3,Z⟩:=H;obtain rfl:=X.af0 rfl;obtain rfl:=V.af0 rfl;obtain rfl:=h3.af0 rfl;obtain rfl:=Z.af0 rfl;exact MM ⟨rfl,rfl⟩ [110] _ _ _ v O (dO S (by omega) (by omega)) (dO R (by omega) (by omega))
 .rw[XH h] at H
  rw[h];have hc:=kN x;have U:(x.afM (ctM x)).length=ctM x:=adM.afN x _;obtain⟨b,u,N,L,rfl,X,V,h3,Z⟩:=H;obtain rfl:=X.af0 rfl;obtain rfl:=V.af0 rfl;obtain rfl:=h3.af0 rfl;have C:(eL [110] (zQ (fW x)) (x.afM (ctM x)) (zQ (Aw x))).K.length=ctM x:=by show(kT _).length=_;rw[lV,U]
  rw[C] at Z;obtain⟨B,ko,rfl,G⟩:=Z.pos (by omega);have G:M[B]? =some (.cells ko 2 (kC (kT (x.afM (ctM x))))):=G;have:=MN (M:=M) (a0:=s.P.length) (a1:=s.T.length) (wP J) (wP Y) [110] (zQ (fW x)) (zQ (Aw x)) v (x.afM (ctM x)) O (dO S (by omega) (by omega)) (by rw[U];omega) (fun q hq=>dO (Cx (x:=x) (c:=ctM x) (by omega) hq).1 (by omega) (by omega)) G;rw[U] at this;exact this
 .rw[XI h] at H
  rw[h];obtain⟨b,u,N,L,rfl,X,V,h3,Z⟩:=H;obtain rfl:=X.af0 rfl;obtain rfl:=V.af0 rfl;obtain rfl:=h3.af0 rfl;obtain rfl:=Z.af0 rfl;exact MO ⟨rfl,rfl⟩ [110] _ _ _ _ v O (dO S (by omega) (by omega)) (dO R (by omega) (by omega)) (dO (pF S R) (by omega) (by omega)) (dO w7 (by omega) (by omega))
 .rw[XJ h] at H
  rw[h];obtain⟨b,u,N,L,rfl,X,V,h3,Z⟩:=H;obtain rfl:=X.af0 rfl;obtain rfl:=V.af0 rfl;obtain rfl:=h3.af0 rfl;obtain rfl:=Z.af0 rfl;exact MP ⟨rfl,rfl⟩ _ _ _ _
end
def cE(b:Code):List Nat:=if (aa b).contains 16 then [16,16,16] else if (aa b).contains 20 then [20,20,20,19] else [22,22,22,21]
theorem DV:∃b Z X,ag f3=[b,Z,X]/\cE b=[16,16,16]/\cE Z=[20,20,20,19]/\cE X=[22,22,22,21]:=⟨_,_,_,rfl,by decide,by decide,by decide⟩
variable{b b1 b2:Code}{env:Env}
section
variable {O:y9}{N:Mem}{n i wb j c bp:Nat}{o g:Bool}{W:List Int}{z:Int}{w:AV}
section
variable (hb:ag f3=[b,b1,b2])
include hb
theorem Gt(hw:N[wb]? =some (.cells o 1 (W.map fun n=>.int .i64 n)))(hn:W.length=n)(hz:W[i]? =some z)(hn3:n<=1000)(H:ad env 14=.slice wb 0 n none)(Y:ad env 16=.int .i64 (j:Int))(I:ad env 19=.bool g)(J:ad env 20=.int .i64 (i:Int))(m0:Nat)(d:Bool):
  ∃Z,aL (aX prog) cE O 1100 144 m0 true b1 ⟨env,N,d⟩=some (.normal,Z)/\ad Z.env 20=.int .i64 ((i+1:Nat):Int)/\ad Z.env 19=.bool (g||z==(j:Int))/\Z.mem=N:=by
 simp[ag,aE,f3] at hb;obtain⟨-,hb,-⟩:=hb;subst hb;obtain⟨X,hz⟩:=O2.1 hz;have V:IntKind.i64.wrap ((i:Int)+1)=((i+1:Nat):Int):=by rw[af];omega
 obtain⟨S,U⟩:=xE (i+1);rw[<-U] at V |-;rw[hn] at X;cases g
 .simp[-AV.known,-AV.cells,H,Y,I,J,X,hw,hn,hz,V]
  rfl
 .simp[-AV.known,-AV.cells,H,I,J,X,V]
theorem Ky(H:(ad env 14=.slice wb 0 n none)\/n=0/\ad env 14=.qF)(I:ad env 20=.int .i64 (n:Int))(m0:Nat)(d:Bool):
  ∃Z,aL (aX prog) cE O 1100 144 m0 true b1 ⟨env,N,d⟩=some (.exit 2,⟨Z,N,d⟩)/\ad Z 19=ad env 19/\(ad Z 7=ad env 7/\ad Z 8=ad env 8/\ad Z 9=ad env 9/\ad Z 14=ad env 14/\ad Z 16=ad env 16/\ad Z 17=ad env 17):=by
 simp[ag,aE,f3] at hb;obtain⟨-,hb,-⟩:=hb;subst hb;rcases H with H | ⟨rfl,H⟩
 .simp[H,I]
 .simp[H,I]
theorem wj(H env:Env):ad (an [20,20,20,19] (aa b1) H env) 20=ad env 20/\ad (an [20,20,20,19] (aa b1) H env) 19=ad env 19/\(ad (an [20,20,20,19] (aa b1) H env) 7=ad H 7/\ad (an [20,20,20,19] (aa b1) H env) 8=ad H 8/\ad (an [20,20,20,19] (aa b1) H env) 9=ad H 9/\ad (an [20,20,20,19] (aa b1) H env) 14=ad H 14/\ad (an [20,20,20,19] (aa b1) H env) 16=ad H 16/\ad (an [20,20,20,19] (aa b1) H env) 17=ad H 17):=by simp[ag,aE,f3] at hb;obtain⟨-,hb,-⟩:=hb;subst hb;simp[an]
end
theorem wh{b b1 b2:Code}(J:ag f3=[b,b1,b2])(hw:afw N w 1 W.length (W.map fun n=>.int .i64 n))(Y:W.length<=1000)
  {H:Env}(I:ad H 14=w) (l16:ad H 16=.int .i64 (j:Int)) (m1 m0:Nat):
  ∀(k i:Nat) (g:Bool) (env:Env) (d:Bool) (K:Nat),i+k=W.length->k<K->ad env 20=.int .i64 (i:Int)->ad env 19=.bool g->
   ∃r:Env×Bool,fj [20,20,20,19] (aa b1) H m1 (aL (aX prog) cE O 1100 144 m0 true b1) K ⟨an [20,20,20,19] (aa b1) H env,N,d⟩=some (.exit 2,⟨r.1,N,r.2⟩)/\ad r.1 19=.bool (g||(W.drop i).contains (j:Int))/\(ad r.1 7=ad H 7/\ad r.1 8=ad H 8/\ad r.1 9=ad H 9/\ad r.1 14=ad H 14/\ad r.1 16=ad H 16/\ad r.1 17=ad H 17)
 |0,i,g,env,d,K,hk,hK,h20,h19=>by
  obtain⟨K,rfl⟩:∃k,K=k+1:=⟨K-1,by omega⟩
  obtain rfl:i=W.length:=by omega
  obtain⟨U,S,X⟩:=wj J H env;have R:∃wb,(w=.slice wb 0 W.length none)\/W.length=0/\w=.qF:=by
   rcases hw with⟨V,M,_⟩ | ⟨b,_,V,_⟩
   .exact⟨0,.inr ⟨M,V⟩⟩
   .exact⟨b,.inl V⟩
  obtain⟨wb,R⟩:=R;obtain⟨C,V,M,h3⟩:=Ky (O:=O) (N:=N) (wb:=wb) (n:=W.length) J (env:=an [20,20,20,19] (aa b1) H env) (by rw[X.2.2.2.1,I];exact R) (by rw[U];exact h20) m0 d;rw[List.drop_length];refine⟨(C,d),by rw[fj,V],by rw[M,S,h19];simp,?_⟩;obtain⟨B,u,m,a4,a5,a6⟩:=h3;obtain⟨c1,c2,c3,c4,c5,c6⟩:=X;exact⟨B.trans c1,u.trans c2,m.trans c3,a4.trans c4,a5.trans c5,a6.trans c6⟩
 |k+1,i,g,env,d,K,hk,hK,h20,h19=>by
  obtain⟨K,rfl⟩:∃k,K=k+1:=⟨K-1,by omega⟩
  obtain⟨U,S,X⟩:=wj J H env;obtain⟨z,F⟩:∃t,W[i]? =some t:=⟨_,G2 (by omega)⟩
  obtain⟨wb,o,L,G⟩:=hw.pos (by omega);have ed:W.drop i=z::W.drop (i+1):=by obtain⟨FS,e⟩:=O2.1 F;rw[N0 FS,e]
  obtain⟨Z,t1,t2,t3,t4⟩:=Gt (O:=O) (n:=W.length) (i:=i) (g:=g) J G rfl F Y
   (env:=an [20,20,20,19] (aa b1) H env) (by rw[X.2.2.2.1,I];exact L) (by rw[X.2.2.2.2.1];exact l16) (by rw[S];exact h19) (by rw[U];exact h20) m0 d
  rw[ed,fj,t1];simp only;have hs:jP [20,20,20,19] (aa b1) H m1 Z =⟨an [20,20,20,19] (aa b1) H Z.env,Z.mem,Z.afH⟩:=by simp[jP,mY]
  rw[hs,t4];obtain⟨r,r1,r2,r3⟩:=wh J hw Y I l16 m1 m0 k (i+1) (g||z==(j:Int)) Z.env Z.afH K (by omega) (by omega) t2 t3;refine⟨r,r1,?_,r3⟩;have e:(z==(j:Int))=((j:Int)==z):=by rw[Bool.eq_iff_iff,beq_iff_eq,beq_iff_eq];exact eq_comm
  rw[r2,List.contains_cons,Bool.or_assoc,e]
theorem Gs(I:ag f3=[b,b1,b2])(J:cE b1=[20,20,20,19])(Y:afw N w 1 W.length (W.map fun n=>.int .i64 n))(H:W.length<=1000)(m0:Nat):
  ∃G:Env->Bool->Env×Bool,∀env d,(ad env 14=w/\ad env 16=.int .i64 (j:Int)/\ad env 19=.bool g/\ad env 20=.int .i64 0)->
   aL (aX prog) cE O 1100 144 m0 true (.loop b1) ⟨env,N,d⟩=some (.exit 2,⟨(G env d).1,N,(G env d).2⟩)/\ad (G env d).1 19=.bool (g||W.contains (j:Int))/\(ad (G env d).1 7=ad env 7/\ad (G env d).1 8=ad env 8/\ad (G env d).1 9=ad env 9/\ad (G env d).1 14=ad env 14/\ad (G env d).1 16=ad env 16/\ad (G env d).1 17=ad env 17):=by
 obtain⟨G,Z⟩:=sG (β:=Env×Bool) (p:=fun env _=>ad env 14=w/\ad env 16=.int .i64 (j:Int)/\ad env 19=.bool g/\ad env 20=.int .i64 0)
  (q:=fun env d r=>aL (aX prog) cE O 1100 144 m0 true (.loop b1) ⟨env,N,d⟩=some (.exit 2,⟨r.1,N,r.2⟩)/\ad r.1 19=.bool (g||W.contains (j:Int))/\(ad r.1 7=ad env 7/\ad r.1 8=ad env 8/\ad r.1 9=ad env 9/\ad r.1 14=ad env 14/\ad r.1 16=ad env 16/\ad r.1 17=ad env 17)) (fun env d ⟨a14,a16,a19,a20⟩=>by
  obtain⟨r,r1,r2⟩:=wh (O:=O) I Y H a14 a16 N.length m0 W.length 0 g env d 1100 (by omega) (by omega) a20 a19;refine⟨r,?_,r2⟩;rw[<-r1,aM,J])
 exact⟨G,Z⟩
end
end Go.Proofs
namespace Go.Proofs
open Go.Eng
open Tryz
def qA(O:y9)(N:Mem)(p:V3)(X:List (V3×Rat)):Prop:=∀x∈X,∀Z,O (.fn 14) [plA x] (N++Z)=some ⟨.int .i64 0,none,[]⟩/\O (.fn 16) [plA x,vA p] (N++Z)=some ⟨.str (aq (iK x.1 p-x.2)),none,[]⟩/\O (.fn 15) [.str (aq (iK x.1 p-x.2))] (N++Z)=some ⟨.int .i64 (ga (iK x.1 p-x.2)),none,[]⟩
theorem yY:(aJ f3).map (fun o=>dT o.toList)=[[0,0,3,0,15,0,0,127,255],[0,0,3,7,0,31,63,127]]:=by kernel_rfl
section
variable {O:y9}{N:Mem}{n i wb j c bp:Nat}{o g:Bool}{X:List (V3×Rat)}{x:V3×Rat}{w:AV}{p:V3}{dt:Rat}{sg:Int}
theorem Gv{b b1 b2:Code}(Y:ag f3=[b,b1,b2])(hv:N[bp]? =some (.cells true 0 (vL p)))(hw:N[wb]? =some (.cells o 4 (pnC X)))(hn:X.length=n)(hx:X[i]? =some x)(hn3:n<=4)(hc:c<=4)(eC:O (.fn 14) [plA x] N=some ⟨.int .i64 0,none,[]⟩)(eB:O (.fn 16) [plA x,vA p] N=some ⟨.str (aq dt),none,[]⟩)(eS:O (.fn 15) [.str (aq dt)] N=some ⟨.int .i64 sg,none,[]⟩){env:Env}(l9:ad env 9=.ptr bp 0)(H:ad env 17=.slice wb 0 n none)(I:ad env 21=.int .i64 (c:Int))(J:ad env 22=.int .i64 (i:Int))(m0:Nat)(d:Bool):
  ∃U,aL (aX prog) cE O 1100 144 m0 true b2 ⟨env,N,d⟩=some (.normal,U)/\ad U.env 22=.int .i64 ((i+1:Nat):Int)/\ad U.env 21=.int .i64 ((c+(if 0<=sg then 1 else 0):Nat):Int)/\U.mem=N:=by
 obtain⟨Z,S⟩:∃Z,aJ f3=Z :=⟨_,rfl⟩
 have L :=cG S yY;simp only[aJ,cB,f3,lA] at S;subst S;simp only[lB] at L;obtain⟨-,V⟩:=L;simp[ag,aE,f3] at Y;obtain⟨-,-,Y⟩:=Y;subst Y;have K:i<n:=by have:=gL hx;omega
 obtain⟨G,F⟩:=T4 hx;have m:=gL hv;have C:=gL hw;have R:IntKind.i64.wrap ((i:Int)+1)=((i+1:Nat):Int):=by rw[af];omega
 have B:IntKind.i64.wrap ((c:Int)+1)=((c+1:Nat):Int):=by rw[af];omega
 obtain⟨m1,u⟩:=xE (i+1);rw[<-u] at R |-;unfold plA vA vL at*;simp only[List.cons_append,List.nil_append] at eC eB;by_cases h:0<=sg
 .rw[if_pos h]
  obtain⟨m2,M⟩:=xE (c+1);rw[<-M] at B |-;simp[-getElem?_pos,-AV.afp,-AV.known,-AV.cells,-cN,-List.all_eq_true,rS,mS,l9,H,I,J,K,hv,hw,eC,eB,eS,R,B,C,G,F,h,-bP,-bw,-aR,-AV.afm,-afq.afm,bW V,dq,dZ,fT,dD,dR,jB,bef,Nat.testBit]
 .rw[if_neg h]
  simp[-getElem?_pos,-AV.afp,-AV.known,-AV.cells,-cN,-List.all_eq_true,rS,mS,l9,H,I,J,K,hv,hw,eC,eB,eS,R,C,G,F,h,-bP,-bw,-aR,-AV.afm,-afq.afm,bW V,dq,dZ,fT,dD,dR,jB,bef,Nat.testBit]
theorem Kz{b b1 Y:Code}(J:ag f3=[b,b1,Y]){env:Env}(H:(ad env 17=.slice wb 0 n none)\/n=0/\ad env 17=.qF)(I:ad env 22=.int .i64 (n:Int))(m0:Nat)(d:Bool):
  ∃Z,aL (aX prog) cE O 1100 144 m0 true Y ⟨env,N,d⟩=some (.exit 4,⟨Z,N,d⟩)/\ad Z 21=ad env 21/\(ad Z 7=ad env 7/\ad Z 8=ad env 8/\ad Z 9=ad env 9/\ad Z 16=ad env 16/\ad Z 19=ad env 19):=by
 simp[ag,aE,f3] at J;obtain⟨-,-,J⟩:=J;subst J;rcases H with H | ⟨rfl,H⟩
 .simp[H,I]
 .simp[H,I]
theorem wo{b b1 I:Code}(J:ag f3=[b,b1,I])(H env:Env):ad (an [22,22,22,21] (aa I) H env) 22=ad env 22/\ad (an [22,22,22,21] (aa I) H env) 21=ad env 21/\ad (an [22,22,22,21] (aa I) H env) 17=ad H 17/\(ad (an [22,22,22,21] (aa I) H env) 7=ad H 7/\ad (an [22,22,22,21] (aa I) H env) 8=ad H 8/\ad (an [22,22,22,21] (aa I) H env) 9=ad H 9/\ad (an [22,22,22,21] (aa I) H env) 16=ad H 16/\ad (an [22,22,22,21] (aa I) H env) 19=ad H 19):=by simp[ag,aE,f3] at J;obtain⟨-,-,J⟩:=J;subst J;simp[an]
theorem wk{b b1 I:Code}(Y:ag f3=[b,b1,I])(hv:N[bp]? =some (.cells true 0 (vL p)))(hw:afw N w 4 X.length (pnC X))(hn3:X.length<=4)(hC:qA O N p X)
  {H:Env}(l9:ad H 9=.ptr bp 0) (J:ad H 17=w) (m1 m0:Nat):
  ∀(k i c:Nat) (env:Env) (d:Bool) (K:Nat),i+k=X.length->k<K->c<=i->ad env 22=.int .i64 (i:Int)->ad env 21=.int .i64 (c:Int)->
   ∃r:Env×Bool,fj [22,22,22,21] (aa I) H m1 (aL (aX prog) cE O 1100 144 m0 true I) K ⟨an [22,22,22,21] (aa I) H env,N,d⟩=some (.exit 4,⟨r.1,N,r.2⟩)/\ad r.1 21=.int .i64 ((c+EJ p (X.drop i):Nat):Int)/\(ad r.1 7=ad H 7/\ad r.1 8=ad H 8/\ad r.1 9=ad H 9/\ad r.1 16=ad H 16/\ad r.1 19=ad H 19)
 |0,i,c,env,d,K,hk,hK,hc,h22,h21=>by
  obtain⟨K,rfl⟩:∃k,K=k+1:=⟨K-1,by omega⟩
  obtain rfl:i=X.length:=by omega
  obtain⟨U,S,R,M⟩:=wo Y H env;have L:∃wb,(w=.slice wb 0 X.length none)\/X.length=0/\w=.qF:=by
   rcases hw with⟨V,G,_⟩ | ⟨b,_,V,_⟩
   .exact⟨0,.inr ⟨G,V⟩⟩
   .exact⟨b,.inl V⟩
  obtain⟨wb,L⟩:=L;obtain⟨D',V,G,h3⟩:=Kz (O:=O) (N:=N) (wb:=wb) (n:=X.length) Y (env:=an [22,22,22,21] (aa I) H env) (by rw[R,J];exact L) (by rw[U];exact h22) m0 d;rw[List.drop_length];refine⟨(D',d),by rw[fj,V],by rw[G,S,h21];rfl,?_⟩;obtain⟨a1,a2,a3,a4,a5⟩:=h3;obtain⟨c1,c2,c3,c4,c5⟩:=M;exact⟨a1.trans c1,a2.trans c2,a3.trans c3,a4.trans c4,a5.trans c5⟩
 |k+1,i,c,env,d,K,hk,hK,hc,h22,h21=>by
  obtain⟨K,rfl⟩:∃k,K=k+1:=⟨K-1,by omega⟩
  obtain⟨U,S,R,M⟩:=wo Y H env;obtain⟨x,F⟩:∃t,X[i]? =some t:=⟨_,G2 (by omega)⟩
  obtain⟨wb,o,C,B⟩:=hw.pos (by omega);have ed:X.drop i=x::X.drop (i+1):=by obtain⟨FS,e⟩:=O2.1 F;rw[N0 FS,e]
  obtain⟨u,m,e3⟩:=hC x (J1 F) [];rw[List.append_nil] at u m e3;obtain⟨Z,t1,t2,t3,t4⟩:=Gv (O:=O) (n:=X.length) (i:=i) (c:=c) Y hv B rfl F hn3 (by omega) u m e3
   (env:=an [22,22,22,21] (aa I) H env) (by rw[M.2.2.1];exact l9) (by rw[R,J];exact C) (by rw[S];exact h21) (by rw[U];exact h22) m0 d
  rw[ed,fj,t1];simp only;have hs:jP [22,22,22,21] (aa I) H m1 Z =⟨an [22,22,22,21] (aa I) H Z.env,Z.mem,Z.afH⟩:=by simp[jP,mY]
  rw[hs,t4];have hs2:(if (0:Int)<=ga (iK x.1 p-x.2) then 1 else 0)=if x.2<=iK x.1 p then 1 else 0:=by
   have:=OM (a:=iK x.1 p) (b:=x.2);by_cases h:x.2<=iK x.1 p
   .rw[if_pos h,if_pos (this.2 h)]
   .rw[if_neg h,if_neg fun k=>h (this.1 k)]
  rw[hs2] at t3;obtain⟨r,r1,r2,r3⟩:=wk Y hv hw hn3 hC l9 J m1 m0 k (i+1) (c+if x.2<=iK x.1 p then 1 else 0) Z.env Z.afH K (by omega) (by omega) (by split<;>omega) t2 t3;refine⟨r,r1,?_,r3⟩;rw[r2,EJ,QXb]
theorem Gu{b b1 H:Code}(J:ag f3=[b,b1,H])(Y:cE H=[22,22,22,21])(hv:N[bp]? =some (.cells true 0 (vL p)))(hw:afw N w 4 X.length (pnC X))(I:X.length<=4)(hC:qA O N p X)(m0:Nat):
  ∃G:Env->Bool->Env×Bool,∀env d,(ad env 9=.ptr bp 0/\ad env 17=w/\ad env 21=.int .i64 0/\ad env 22=.int .i64 0)->
   aL (aX prog) cE O 1100 144 m0 true (.loop H) ⟨env,N,d⟩=some (.exit 4,⟨(G env d).1,N,(G env d).2⟩)/\ad (G env d).1 21=.int .i64 (EJ p X:Int)/\(ad (G env d).1 7=ad env 7/\ad (G env d).1 8=ad env 8/\ad (G env d).1 9=ad env 9/\ad (G env d).1 16=ad env 16/\ad (G env d).1 19=ad env 19):=by
 obtain⟨G,Z⟩:=sG (β:=Env×Bool) (p:=fun env _=>ad env 9=.ptr bp 0/\ad env 17=w/\ad env 21=.int .i64 0/\ad env 22=.int .i64 0)
  (q:=fun env d r=>aL (aX prog) cE O 1100 144 m0 true (.loop H) ⟨env,N,d⟩=some (.exit 4,⟨r.1,N,r.2⟩)/\ad r.1 21=.int .i64 (EJ p X:Int)/\(ad r.1 7=ad env 7/\ad r.1 8=ad env 8/\ad r.1 9=ad env 9/\ad r.1 16=ad env 16/\ad r.1 19=ad env 19)) (fun env d ⟨a9,a17,a21,a22⟩=>by
  obtain⟨r,r1,r2,V⟩:=wk (O:=O) J hv hw I hC a9 a17 N.length m0 X.length 0 0 env d 1100 (by omega) (by omega) (by omega) a22 a21;rw[List.drop_zero,QQb] at r2;refine⟨r,?_,r2,V⟩;rw[<-r1,aM,Y])
 exact⟨G,Z⟩
end
theorem afw.two{N:Mem}{v:AV}{es n:Nat}{C:List AV}(h:afw N v es n C):(v=.qF/\n=0)\/∃b,v=.slice b 0 n none:=by
 rcases h with⟨Z,X,_⟩ | ⟨b,_,Z,_⟩
 .exact .inl ⟨Z,X⟩
 .exact .inr ⟨b,Z⟩
section
variable {O:y9}{N V:Mem}{n j bm be bp tb:Nat}{K num:Int}{W:List Int}{X:List (V3×Rat)}{w w0 pv:AV}{ev:List AV}{p:V3}
theorem KE{b b1 b2:Code}(I:ag f3=[b,b1,b2])(aa1:cE b1=[20,20,20,19])(aa2:cE b2=[22,22,22,21])(cp:pv.afp=true)(hl:ev.length=32)(hck:ev.all AV.afp=true)(hk:ev[0]? =some (.int .i64 K))(hm:N[bm]? =some (.cells true 0 [pv,.slice tb 0 n none]))(he:N[be]? =some (.cells true 0 ev))(hv:N[bp]? =some (.cells true 0 (vL p)))(hw:afw N w0 1 W.length (W.map fun n=>.int .i64 n))(hW:W.length<=1000)(hj:j<n)(hn:n<=1000)(eP:O (.fn 11) [.agg [pv,.slice tb 0 n none],.agg ev,.int .i64 (j:Int)] N=some ⟨.tuple [w,.int .i64 0],none,V⟩)(hwv:afw (N++V) w 4 X.length (pnC X))(hX:X.length<=4)(eC:O (.fn 13) [.agg ev] (N++V)=some ⟨.int .i64 (X.length:Int),none,[]⟩)(hPc:qA O (N++V) p X)(eN:O (.fn 17) [.agg [pv,.slice tb 0 n none],.agg ev,vA p] (N++V)=some ⟨.int .i64 num,none,[]⟩)(H:K≠1\/W.contains (j:Int)=true->(EJ p X:Int)-(if K=1 then 1 else 0)=num){env:Env}(l7:ad env 7=.ptr bm 0)(l8:ad env 8=.ptr be 0)(l9:ad env 9=.ptr bp 0)(J:ad env 14=w0)(Y:ad env 16=.int .i64 (j:Int))(m0:Nat)(d:Bool):
  ∃L,aL (aX prog) cE O 1100 144 m0 true b ⟨env,N,d⟩=some (.normal,L)/\ad L.env 16=.int .i64 ((j+1:Nat):Int)/\L.mem=N++V:=by
 have t0:ev.take 32=ev:=B5 (by omega);have g1:=gL hm;have g2:=gL he;have g3:=gL hv;have up:∀{b:Nat}{S:afq},N[b]? =some S->(N++V)[b]? =some S:=fun {b S} I=>gU I _
 have um:=up hm;have ue:=up he;have uv:=up hv;have hcn:=SX p X;have wi:IntKind.i64.wrap ((j:Int)+1)=((j+1:Nat):Int):=by rw[af];omega
 obtain⟨m1,ZA⟩:=xE (j+1);rw[<-ZA] at wi |-;have wl:=hwv.two;obtain⟨m,Z⟩:=Gu (O:=O) (N:=N++V) I aa2 uv hwv hX hPc m0;have G:=fun env d h=>(Z env d h).1
 have R:=fun env d h=>(Z env d h).2.1
 obtain⟨q7,q8,q9,F,C⟩:(∀env d,(ad env 9=.ptr bp 0/\ad env 17=w/\ad env 21=.int .i64 0/\ad env 22=.int .i64 0)->ad (m env d).1 7=ad env 7)/\(∀env d,(ad env 9=.ptr bp 0/\ad env 17=w/\ad env 21=.int .i64 0/\ad env 22=.int .i64 0)->ad (m env d).1 8=ad env 8)/\(∀env d,(ad env 9=.ptr bp 0/\ad env 17=w/\ad env 21=.int .i64 0/\ad env 22=.int .i64 0)->ad (m env d).1 9=ad env 9)/\(∀env d,(ad env 9=.ptr bp 0/\ad env 17=w/\ad env 21=.int .i64 0/\ad env 22=.int .i64 0)->ad (m env d).1 16=ad env 16)/\(∀env d,(ad env 9=.ptr bp 0/\ad env 17=w/\ad env 21=.int .i64 0/\ad env 22=.int .i64 0)->ad (m env d).1 19=ad env 19):=
  ⟨fun e d h=>(Z e d h).2.2.1,fun e d h=>(Z e d h).2.2.2.1,fun e d h=>(Z e d h).2.2.2.2.1,fun e d h=>(Z e d h).2.2.2.2.2.1,fun e d h=>(Z e d h).2.2.2.2.2.2⟩
 clear Z;have fin:∀g:Bool,g=decide (K≠1)->∃L,aL (aX prog) cE O 1100 144 m0 true b ⟨env,N,d⟩=some (.normal,L)/\ad L.env 16=.int .i64 (m1:Int)/\L.mem=N++V:=fun g hg=>by
  obtain⟨G1,U⟩:=Gs (O:=O) (N:=N++V) (j:=j) (g:=g) I aa1 (hw.more V) hW m0;have B:=fun env d h=>(U env d h).1
  have M:=fun env d h=>(U env d h).2.1
  have p7:=fun env d h=>(U env d h).2.2.1
  have p8:=fun env d h=>(U env d h).2.2.2.1
  have p9:=fun env d h=>(U env d h).2.2.2.2.1
  have u:=fun env d h=>(U env d h).2.2.2.2.2.2.1
  have o:=fun env d h=>(U env d h).2.2.2.2.2.2.2
  clear U;obtain⟨cn,ae5⟩:=xE (EJ p X);rw[<-ae5] at R H hcn;have ws:IntKind.i64.wrap ((cn:Int)-1)=(cn:Int)-1:=by rw[af]
  obtain⟨hs,hhs⟩:=xE (W.contains (j:Int));rw[<-hhs] at M H;obtain⟨xl,hxl⟩:=xE X.length;rw[<-hxl] at eC wl;simp[ag,aE,f3] at I;obtain⟨I,hb1,ZV⟩:=I;subst hb1 ZV I;unfold vA vL at*;by_cases hK:K=1
  .subst hK
   obtain rfl:g=false:=by rw[hg];rfl
   cases hs
   .rcases wl with⟨rfl,rfl⟩ | ⟨wb,rfl⟩<;>
     simp[-getElem?_pos,-AV.afp,-AV.known,-AV.cells,-cN,-List.all_eq_true,mS,l7,l8,l9,J,Y,hj,hm,he,ue,hl,t0,hk,eP,eC,wi,ws,B,M,p8,p9,u,o,G,R,q8,F,C]
   .have H:=H (.inr rfl)
    simp only[if_true] at H;have wn:IntKind.i64.wrap num=num:=by rw[<-H];exact ws
    rcases wl with⟨rfl,rfl⟩ | ⟨wb,rfl⟩<;>
     simp[-getElem?_pos,-AV.afp,-AV.known,-AV.cells,-cN,-List.all_eq_true,mS,l7,l8,l9,J,Y,hj,hm,he,um,ue,uv,hl,t0,hk,eP,eC,eN,wi,B,M,p7,p8,p9,u,o,G,R,q7,q8,q9,F,C,H,wn]
  .obtain rfl:g=true:=by rw[hg];simp[hK]
   have H:=H (.inl hK);rw[if_neg hK,Int.sub_zero] at H;rcases wl with⟨rfl,rfl⟩ | ⟨wb,rfl⟩<;>
    simp[-getElem?_pos,-AV.afp,-AV.known,-AV.cells,-cN,-List.all_eq_true,mS,l7,l8,l9,J,Y,hj,hm,he,um,ue,uv,hl,t0,hk,hK,eP,eC,eN,wi,B,M,p7,p8,p9,u,o,G,R,q7,q8,q9,F,C,H]
 exact fin _ rfl
theorem y7{b b1 J:Code}(I:ag f3=[b,b1,J])(H env:Env):ad (an [16,16,16] (aa b) H env) 16=ad env 16/\ad (an [16,16,16] (aa b) H env) 7=ad H 7/\ad (an [16,16,16] (aa b) H env) 8=ad H 8/\ad (an [16,16,16] (aa b) H env) 9=ad H 9/\ad (an [16,16,16] (aa b) H env) 14=ad H 14:=by simp[ag,aE,f3] at I;obtain⟨I,-⟩:=I;subst I;simp[an]
theorem NQ{b b1 J:Code}(H:ag f3=[b,b1,J])(Y:N[bm]? =some (.cells true 0 [pv,.slice tb 0 n none])){env:Env}(l7:ad env 7=.ptr bm 0)(I:ad env 16=.int .i64 (n:Int))(m0:Nat)(d:Bool):
  ∃Z,aL (aX prog) cE O 1100 144 m0 true b ⟨env,N,d⟩=some (.exit 0,⟨Z,N,d⟩):=by
 simp[ag,aE,f3] at H;obtain⟨H,-⟩:=H;subst H;simp[-getElem?_pos,mS,l7,I,Y]
structure Tryz.ah1 (O:y9)(N:Mem)(pv:AV)(tb n:Nat)(ev:List AV)(p:V3)(W:List Int)(K num:Int)(Xf:Nat->List (V3×Rat)):Prop where
 pl:∀j,j<n->∀Z,∃w V,O (.fn 11) [.agg [pv,.slice tb 0 n none],.agg ev,.int .i64 (j:Int)] (N++Z)=some ⟨.tuple [w,.int .i64 0],none,V⟩/\afw (N++Z++V) w 4 (Xf j).length (pnC (Xf j))
 ct:∀j,j<n->∀Z,O (.fn 13) [.agg ev] (N++Z)=some ⟨.int .i64 ((Xf j).length:Int),none,[]⟩
 pc:∀j,j<n->qA O N p (Xf j)
 nu:∀Z,O (.fn 17) [.agg [pv,.slice tb 0 n none],.agg ev,vA p] (N++Z)=some ⟨.int .i64 num,none,[]⟩
 xl:∀j,j<n->(Xf j).length<=4
 h:∀j,j<n->(K≠1\/W.contains (j:Int)=true)->(EJ p (Xf j):Int)-(if K=1 then 1 else 0)=num
variable {Xf:Nat->List (V3×Rat)}
theorem yZ{b b1 b2:Code}(I:ag f3=[b,b1,b2])(aa1:cE b1=[20,20,20,19])(aa2:cE b2=[22,22,22,21])(J:ah1 O N pv tb n ev p W K num Xf)(cp:pv.afp=true)(hl:ev.length=32)(hck:ev.all AV.afp=true)(hk:ev[0]? =some (.int .i64 K))
  (hm:N[bm]? =some (.cells true 0 [pv,.slice tb 0 n none])) (he:N[be]? =some (.cells true 0 ev)) (hv:N[bp]? =some (.cells true 0 (vL p))) (hw:afw N w0 1 W.length (W.map fun n=>.int .i64 n)) (hW:W.length<=1000) (hn:n<=1000)
  {H:Env}(l7:ad H 7=.ptr bm 0) (l8:ad H 8=.ptr be 0) (l9:ad H 9=.ptr bp 0) (l14:ad H 14=w0) (m1 m0:Nat):
  ∀(k i:Nat) (Z:Mem) (env:Env) (d:Bool) (F:Nat),i+k=n->k<F->ad env 16=.int .i64 (i:Int)->
   ∃r:Env×Mem×Bool,fj [16,16,16] (aa b) H m1 (aL (aX prog) cE O 1100 144 m0 true b) F ⟨an [16,16,16] (aa b) H env,N++Z,d⟩=some (.exit 0,⟨r.1,N++r.2.1,r.2.2⟩)
 |0,i,Z,env,d,F,hi,hF,h16=>by
  obtain⟨F,rfl⟩:∃k,F=k+1:=⟨F-1,by omega⟩
  obtain rfl:i=n:=by omega
  obtain⟨M,L,_⟩:=y7 I H env;obtain⟨u,o⟩:=NQ (O:=O) (N:=N++Z) I (gU hm _) (env:=an [16,16,16] (aa b) H env) (by rw[L];exact l7) (by rw[M];exact h16) m0 d;exact⟨(u,Z,d),by rw[fj,o]⟩
 |k+1,i,Z,env,d,F,hi,hF,h16=>by
  obtain⟨F,rfl⟩:∃k,F=k+1:=⟨F-1,by omega⟩
  obtain⟨M,L,m,q4,q5⟩:=y7 I H env;have U:i<n:=by omega
  have G:∀{b:Nat}{S:afq},N[b]? =some S->(N++Z)[b]? =some S:=fun {b S} I=>gU I _
  obtain⟨w,V,e1,e2⟩:=J.pl i U Z;have C:=J.ct i U (Z++V);have B:=J.nu (Z++V);rw[<-QQQ] at C B;obtain⟨R,t1,t2,t3⟩:=KE (O:=O) (n:=n) (j:=i) I aa1 aa2 cp hl hck hk (G hm) (G he) (G hv) (hw.more Z) hW U hn e1 e2 (J.xl i U) C (fun x hx Y=>by
   have:=J.pc i U x hx (Z++V++Y);simpa only[QQQ] using this) B (J.h i U)
   (env:=an [16,16,16] (aa b) H env) (by rw[L];exact l7) (by rw[m];exact l8) (by rw[q4];exact l9) (by rw[q5];exact l14) (by rw[M];exact h16) m0 d
  rw[fj,t1];simp only;have hs:jP [16,16,16] (aa b) H m1 R =⟨an [16,16,16] (aa b) H R.env,R.mem,R.afH⟩:=by simp[jP,mY]
  rw[hs,t3,QQQ];exact yZ I aa1 aa2 J cp hl hck hk hm he hv hw hW hn l7 l8 l9 l14 m1 m0 k (i+1) (Z++V) R.env R.afH F (by omega) (by omega) t2
theorem KD{b b1 Y:Code}(hb:ag f3=[b,b1,Y])(Zz:cE b=[16,16,16])(H:cE b1=[20,20,20,19])(I:cE Y=[22,22,22,21])(H0:ah1 O N pv tb n ev p W K num Xf)(cp:pv.afp=true)(hl:ev.length=32)(J:ev.all AV.afp=true)(hk:ev[0]? =some (.int .i64 K))(hm:N[bm]? =some (.cells true 0 [pv,.slice tb 0 n none]))(he:N[be]? =some (.cells true 0 ev))(hv:N[bp]? =some (.cells true 0 (vL p)))(hw:afw N w0 1 W.length (W.map fun n=>.int .i64 n))(hW:W.length<=1000)(hn:n<=1000)(m0:Nat):
  ∃G:Env->Bool->Env×Mem×Bool,∀env d,(ad env 7=.ptr bm 0/\ad env 8=.ptr be 0/\ad env 9=.ptr bp 0/\ad env 14=w0/\ad env 16=.int .i64 0)->
   aL (aX prog) cE O 1100 144 m0 true (.loop b) ⟨env,N,d⟩=some (.exit 0,⟨(G env d).1,N++(G env d).2.1,(G env d).2.2⟩):=
 sG (β:=Env×Mem×Bool) (p:=fun env _=>ad env 7=.ptr bm 0/\ad env 8=.ptr be 0/\ad env 9=.ptr bp 0/\ad env 14=w0/\ad env 16=.int .i64 0)
  (q:=fun env d r=>aL (aX prog) cE O 1100 144 m0 true (.loop b) ⟨env,N,d⟩=some (.exit 0,⟨r.1,N++r.2.1,r.2.2⟩)) (fun env d ⟨a7,a8,a9,a14,a16⟩=>by
  obtain⟨r,r1⟩:=yZ (O:=O) (N:=N) hb H I H0 cp hl J hk hm he hv hw hW hn a7 a8 a9 a14 N.length m0 n 0 [] env d 1100 (by omega) (by omega) a16;refine⟨r,?_⟩;rw[<-r1,aM,Zz,List.append_nil])
end
section
variable {c:Evc}{b u sv kn:AV}{M:Mem}{r:Nat}
theorem Qa(H:b.afp=true)(I:u.afp=true)(hs:sv.afp=true)(J:kn.afp=true)(h:(c.k=1/\∃Z,u=.slice Z 0 r none)\/(c.k=2/\r=1)\/(c.k=3/\∃X,kn=.slice X 0 r none)\/(c.k=4/\r=2)\/(c.k=5/\r=0)):kO prog 13 [.agg (c.cells b u sv kn)] M (.int .i64 (r:Int)) M:=by
 have V:aZ prog 13=some f13:=by kernel_rfl
 refine nG (az _) ?_;rcases h with⟨h,Z,rfl⟩ | ⟨h,rfl⟩ | ⟨h,X,rfl⟩ | ⟨h,rfl⟩ | ⟨h,rfl⟩<;>
  simp[-AV.afp,ae,V,f13,Evc.cells,h]
end
variable{N:Mem}
section
variable {x:adM}{s:afv}{M:Mem}{p t j:Nat}{o o' :Bool}{ev:List AV}{v:V3}
theorem HH(H:agc M ev (cSk x s.P.length)):kO prog 13 [.agg ev] M (.int .i64 ((plS s x j).length:Int)) M:=by
 have h3:=fR x;have B:=kN x;have Z:(x.afM (ctM x)).length=ctM x:=adM.afN x _;obtain⟨b,u,O,m,rfl,L,V,S,R⟩:=H;have G:O.afp=true:=by obtain⟨_,_,h,_⟩:=S;exact h.ck
 refine Qa L.ck V.ck G R.ck ?_;unfold plS;rcases jH x.kind with h | h | h | h | h
 .rw[XF h] at V |-
  rw[h];refine .inl ⟨rfl,?_⟩;have X:(uX x s.P.length (ctN x)).U.length=ctN x:=Ut h3;obtain⟨F,Y,rfl,_⟩:=V.pos (by rw[X];omega);refine⟨F,?_⟩;rw[X];simp[Fh (s:=s) (x:=x) (ctN x) h3]
 .rw[XG h,h]
  exact .inr (.inl ⟨rfl,rfl⟩)
 .rw[XH h] at R |-
  rw[h];refine .inr (.inr (.inl ⟨rfl,?_⟩));have X:(eL [110] (zQ (fW x)) (x.afM (ctM x)) (zQ (Aw x))).K.length=ctM x:=by show(kT _).length=_;rw[lV,Z]
  obtain⟨C,J,rfl,_⟩:=R.pos (by rw[X];omega);refine⟨C,?_⟩;rw[X];simp[Z]
 .rw[XI h,h]
  exact .inr (.inr (.inr (.inl ⟨rfl,rfl⟩)))
 .rw[XJ h,h]
  exact .inr (.inr (.inr (.inr ⟨rfl,rfl⟩)))
theorem Xj(j i:Nat):(plS s x j).length=(plS s x i).length:=by unfold plS;split<;>simp
theorem Yt(j:Nat):(plS s x j).length<=4:=by have h3:=Fh (s:=s) (x:=x) (ctN x) (fR x);have:=fR x;have X:=kN x;have Z:(x.afM (ctM x)).length=ctM x:=adM.afN x _;unfold plS;split<;>simp<;>omega
theorem XR(n:Nat):((cSk x n).k=1↔x.kind%5=0)/\(W4 6 x n)[0]? =some (.int .i64 (cSk x n).k):=by
 refine⟨?_,rfl⟩;rcases jH x.kind with h | h | h | h | h
 .rw[XF h];exact⟨fun _=>h,fun _=>rfl⟩
 .rw[XG h];exact⟨fun e=>absurd e (by show¬(2:Int)=1;decide),fun e=>by omega⟩
 .rw[XH h];exact⟨fun e=>absurd e (by show¬(3:Int)=1;decide),fun e=>by omega⟩
 .rw[XI h];exact⟨fun e=>absurd e (by show¬(4:Int)=1;decide),fun e=>by omega⟩
 .rw[XJ h];exact⟨fun e=>absurd e (by show¬(5:Int)=1;decide),fun e=>by omega⟩
theorem yn{P:List P2}{q:P2}:∀{T:List Tr} {k:Nat} {z:Int},z∈mM P q T k->∃(i:Nat) (t:Tr),z=(k:Int)+i/\T[i]? =some t/\inQ (qc P q t)
 | [],k,z,h=>by simp[mM] at h
 |t::r,k,z,h=>by
  rw[mM] at h;split at h
  .rename_i U
   rcases List.mem_cons.1 h with rfl | h
   .exact⟨0,t,by omega,rfl,U⟩
   .obtain⟨i,Z,e,X,V⟩:=yn h
    exact⟨i+1,Z,by omega,by simpa using X,V⟩
  .obtain⟨i,Z,e,X,V⟩:=yn h
   exact⟨i+1,Z,by omega,by simpa using X,V⟩
theorem Xg{n:Nat}(H:j<s.T.length)(h:(cSk x n).k≠1\/(mM s.P (v.1,v.2.1) s.T 0).contains (j:Int)=true):(EJ v (plS s x j):Int)-(if (cSk x n).k=1 then 1 else 0)=VY s x v:=by
 have X:=(XR (x:=x) n).1;by_cases Z:x.kind%5=0
 .rw[if_pos (X.2 Z)]
  have h:(mM s.P (v.1,v.2.1) s.T 0).contains (j:Int)=true:=by
   rcases h with h | h
   .exact absurd (X.2 Z) h
   .exact h
  obtain⟨i,t,e,V,U⟩:=yn (List.contains_iff_mem.1 h);obtain rfl:i=j:=by omega
  have S:Wi s i=t:=by simp[Wi,List.getD,V]
  have:=WY (v:=v) H Z (by rw[S];exact U);unfold VY;rw[Z];show _=XK s x v
  omega
 .rw[if_neg fun e=>Z (X.1 e),WZ (j:=j) Z]
  omega
def iM(s:afv)(x:adM)(ev:List AV)(p:V3)(pb tb:Nat)(c:Go.Eng.Callee)(a:List AV)(M:Mem)(r:afl):Prop:=
 (∃(j:Nat) (w:AV) (V:Mem),j<s.T.length/\c=.fn 11/\a=[nt s pb tb,.agg ev,.int .i64 (j:Int)]/\r=⟨.tuple [w,.int .i64 0],none,V⟩/\kO prog 11 [nt s pb tb,.agg ev,.int .i64 (j:Int)] M (.tuple [w,.int .i64 0]) (M++V)/\afw (M++V) w 4 (plS s x j).length (pnC (plS s x j)))\/
 (∃(j:Nat) (y:V3×Rat),j<s.T.length/\y∈plS s x j/\((c=.fn 14/\a=[plA y]/\r=⟨.int .i64 0,none,[]⟩)\/(c=.fn 16/\a=[plA y,vA p]/\r=⟨.str (aq (iK y.1 p-y.2)),none,[]⟩)))\/
 (∃q:Rat,c=.fn 15/\a=[.str (aq q)]/\r=⟨.int .i64 (ga q),none,[]⟩)
theorem KA(H:vDg 5 v):qS prog (jV (iM s x ev v p t)):=mX fun c a M r h=>by
 rcases h with⟨j,w,V,_,rfl,rfl,rfl,h,_⟩ | ⟨j,y,U,S,⟨rfl,rfl,rfl⟩ | ⟨rfl,rfl,rfl⟩⟩ | ⟨q,rfl,rfl,rfl⟩
 .exact au h
 .obtain⟨Z,X,h3⟩:=T3 (x:=x) U y S
  exact bz (DA Z X h3 M)
 .obtain⟨Z,X,h3⟩:=T3 (x:=x) U y S
  have d:=Tc (k:=1035) Z H (by omega);have R:=Tf Z (H.mono (m:=200) (by omega)) (by omega) (by omega);have:=oH y.1 v y.2 R (dO d (by omega) (by omega)) (dO X (by omega) (by omega)) M;exact au (by simpa [plA,vL] using this)
 .exact bz (ud q M)
theorem TZ{f g:FuncId}{a b:List AV}{p:Mem->Prop}{r:afl}{m:Mem}{L:List (FuncId×List AV×(Mem->Prop)×afl)}{O:y9}(h:b≠a):y9.or (fD ((f,a,p,r)::L)) O (.fn g) b m=y9.or (fD L) O (.fn g) b m:=by unfold y9.or;rw[fD,if_neg fun e=>h e.2.1]
theorem Xi{x y:V3×Rat}(h:plA x=plA y):x=y:=by unfold plA vL at h;simp only[AV.agg.injEq,List.cons_append,List.nil_append,List.cons.injEq,AV.str.injEq,and_true] at h;exact Prod.ext (Prod.ext (dy h.1) (Prod.ext (dy h.2.1) (dy h.2.2.1))) (dy h.2.2.2)
theorem KC(I:N[p]? =some (.cells o 2 (pC s.P)))(J:N[t]? =some (.cells o' 3 (tC s.T)))(Y:agc N ev (cSk x s.P.length))(H:j<s.T.length)(Z:Mem):∃w V,jV (iM s x ev v p t) (.fn 11) [nt s p t,.agg ev,.int .i64 (j:Int)] (N++Z)=some ⟨.tuple [w,.int .i64 0],none,V⟩/\afw (N++Z++V) w 4 (plS s x j).length (pnC (plS s x j)):=by
 obtain⟨w,V,X,U⟩:=Ql (fm I Z) (fm J Z) (Y.more Z) H;obtain⟨r,R,O⟩:=Fg (S:=iM s x ev v p t) (c:=.fn 11) (a:=[nt s p t,.agg ev,.int .i64 (j:Int)]) (M:=N++Z) ⟨_,.inl ⟨j,w,V,H,rfl,rfl,rfl,X,U⟩⟩;rcases O with⟨L,w',K,_,_,e,rfl,_,h⟩ | ⟨j,y,H,G,⟨e,_⟩ | ⟨e,_⟩⟩ | ⟨q,e,_⟩
 .simp only[List.cons.injEq,AV.int.injEq,true_and,and_true] at e
  obtain rfl:j=L :=by omega
  exact⟨_,_,R,h⟩
 .cases e
 .cases e
 .cases e
theorem KB(H:j<s.T.length):qA (jV (iM s x ev v p t)) N v (plS s x j):=fun y X Z=>by
 refine⟨dL (.inr (.inl ⟨j,y,H,X,.inl ⟨rfl,rfl,rfl⟩⟩)) fun r h=>?_,dL (.inr (.inl ⟨j,y,H,X,.inr ⟨rfl,rfl,rfl⟩⟩)) fun r h=>?_,dL (.inr (.inr ⟨_,rfl,rfl,rfl⟩)) fun r h=>?_⟩
 .rcases h with⟨_,_,_,_,e,_⟩ | ⟨_,_,_,_,⟨_,_,rfl⟩ | ⟨e,_⟩⟩ | ⟨_,e,_⟩
  .cases e
  .rfl
  .cases e
  .cases e
 .rcases h with⟨_,_,_,_,e,_⟩ | ⟨_,V,_,_,⟨e,_⟩ | ⟨_,e,rfl⟩⟩ | ⟨_,e,_⟩
  .cases e
  .cases e
  .simp only[List.cons.injEq,and_true] at e
   rw[Xi e]
  .cases e
 .rcases h with⟨_,_,_,_,e,_⟩ | ⟨_,_,_,_,⟨e,_⟩ | ⟨e,_⟩⟩ | ⟨q,_,e,rfl⟩
  .cases e
  .cases e
  .cases e
  .simp only[List.cons.injEq,AV.str.injEq,and_true] at e
   rw[dy e]
end
end Go.Proofs
