/- See F54. -/
import Derived.Test.YtgafjliihahjgaaGreatDoorF27
import Derived.Test.YtgafjliihahjgaaGreatDoorF28
set_option linter.all false
namespace Go.Proofs
open Go.Eng
open Tryz
theorem fR(s:aeX):0<s.P.length∧s.P.length≤1000:=by
 have h:∀k<8,0<(dM k).length∧(dM k).length≤1000:=by decide
 have:=h (s.kind%8) (Nat.mod_lt _ (by decide));unfold aeX.P
 rwa [List.length_map]
theorem gj{m n:Nat}{v:Z3}(h:fq m v)(A:m≤n):fq n v:=by obtain⟨Z,X,h3⟩:=h;exact⟨by omega,by omega,by omega⟩
theorem Qc(d:ae6)(j k:Nat):0≤MC d j k∧MC d j k≤3:=by unfold MC;have:=Nat.mod_lt (Mf d.K ((j+k)%4)) (show 0<4 by decide);omega
theorem mF(d:ae6)(n:Nat):∀z∈bI d n,z.natAbs≤8:=by intro z Z;simp only[bI,List.mem_map] at Z;obtain⟨k,_,rfl⟩:=Z;exact Ae k
theorem Hl(d:ae6)(j n:Nat)(L:List Int)(m:Nat)(A:∀z∈L,z.natAbs≤m)(G:n≤L.length):∀z∈cH d j L n,z.natAbs≤m+3:=by
 intro z Z;simp only[cH,List.mem_map,List.mem_range] at Z;obtain⟨k,W,rfl⟩:=Z;have V:=Qc d j k;have X:L.getD k 0∈L:=by rw[List.getD_eq_getElem?_getD,List.getElem?_eq_getElem (by omega)];exact List.getElem_mem _
 have:=A _ X;omega
theorem sH(d:ae6)(j n:Nat)(L:List Int):∀(i:Nat) z y,L[i]? =some z→(cH d j L n)[i]? =some y→z≤y:=by
 intro i z y W Z;have V:=Qc d j i;simp only[cH,List.getElem?_map,Option.map_eq_some_iff] at Z;obtain⟨k,X,rfl⟩:=Z;have e:k=i:=by rw[List.getElem?_eq_some_iff] at X;obtain⟨_,h⟩:=X;rw[List.getElem_range] at h;exact h.symm
 subst e;rw[List.getD_eq_getElem?_getD,W];simp only[Option.getD_some];omega
theorem hN5(n:Int):(n.tmod 5).natAbs≤1000:=by have: -5<n.tmod 5∧n.tmod 5<5:=nT n 5 (by decide);omega
def shB(s:aeX)(p t:Nat):AV:=.agg [.slice p 0 s.P.length none,.slice t 0 s.T.length none]
def VD(s:aeX)(U:List (List UInt8))(b:Nat)(new:Mem)(A:List AV):Prop:=∃c:Evc,afN s c∧unE c=U∧∀Z,afk b new Z →afv Z A c
def iU(s:aeX)(p t:Nat)(U:List (List UInt8))(b:Nat)(new:Mem)(A:List AV):Prop:=(∀(Z :Mem) (o X :Bool),Z[p]? =some (.cells o 2 (pC s.P))→Z[t]? =some (.cells X 3 (tC s.T))→afk b new Z →kO prog 61 [shB s p t,.agg A] Z (.int .i64 0) Z)∧VD s U b new A
theorem ji{s:aeX}{d:ae6}{i:Nat}{A:List AV}{new M:Mem}{p t:Nat}(G:p<M.length)(H:t<M.length)(I:new.all (fun s=>s.own||match s with | .aeP=>true | _=>false)=true)(h:kO prog 28 [.agg [.slice 0 0 s.P.length none,.slice 1 0 s.T.length none],.agg d.cells,.int .i64 i] [.aeP,.aeP] (.agg A) ([.aeP,.aeP]++new)):
  kO prog 28 [shB s p t,.agg d.cells,.int .i64 i] M (.agg (AV.ae3 (dL [p,t] M.length) A)) (M++new.map (aeY.ren (dL [p,t] M.length))):=by
 have:=kO.frame (M:=M) (new:=new) [p,t] rfl (by simp[G,H]) (by rfl) (fun i q Z=>by
  match i with
  |0=>simp at Z;subst Z;trivial
  |1=>simp at Z;subst Z;trivial
  |i+2=>simp at Z) I h
 simpa [shB,AV.ae3,AV.ren,dL,ae6.cells] using this
section
variable (s:aeX)(d:ae6)(hd:d.Ok)(i:Nat)(hi:i<6)
include s d hd i hi
theorem zv(G:d.kind%5=1)(M:Mem)(p t:Nat)(o o' :Bool)(H:M[p]? =some (.cells o 2 (pC s.P)))(I:M[t]? =some (.cells o' 3 (tC s.T))):
  ∃X Z,kO prog 28 [shB s p t,.agg d.cells,.int .i64 i] M (.agg X) (M++Z)∧iU s p t (bS d i) M.length Z X∧gr M.length Z X (bS d i)∧Z.length≤5∧(X.length=32∧X[1]? =some (.str (bO i)))∧pF M Z∧AV.aeW (fun b=>decide (b<M.length+5)) X=true∧sO X:=by
 have O:=gL H;have K:=gL I;obtain⟨J,F⟩:=fR s;have h:=ji O K rfl (zc d hd s.P.length s.T.length i hi J F G);refine⟨_,_,h,⟨fun S w w' W V D=>?_,?_⟩,?_,by simp,⟨by rfl,by rfl⟩,?_,?_,?_⟩
 rotate_left
 ·exact⟨BO (bO i) (bN d.A) (d.N.tmod 5) (eJ (bN d.A) (tz d.B)),Bk s (bO i) (bN d.A) (d.N.tmod 5) (eJ (bN d.A) (tz d.B)) (dY hi) (gj (cw _) (by decide)) (kI _) (hN5 d.N) (gj (kF (cw d.A) (gp d.B)) (by decide)) (sk _ _) (cw _) (by have: -5<d.N.tmod 5∧d.N.tmod 5<5:=nT d.N 5 (by decide);omega) (kF (cw d.A) (gp d.B)),by rw[show bS d i=[] by simp[bS,G]];rfl,fun S _=>BY (by simp[bo,BO,Evc.cells,AV.ae3,AV.ren]) rfl rfl rfl rfl⟩
 ·rw[show bS d i=[] by simp[bS,G]]
  refine qN fun M=>?_
  simpa [bo,AV.ae3,AV.ren] using nj (bO i) (bN d.A) (d.N.tmod 5) (eJ (bN d.A) (tz d.B)) M
 ·simp[pF,aeY.own,aeY.aeR]
 ·simp[bo,AV.ae3,AV.ren,AV.aeW,AV.aeR]
 ·simp[sO,bo,AV.ae3,AV.ren]
 have z: -5<d.N.tmod 5∧d.N.tmod 5<5:=nT d.N 5 (by decide);have C:=kF (cw d.A) (gp d.B);have:=kM s (bO i) (bN d.A) (d.N.tmod 5) (eJ (bN d.A) (tz d.B)) (dY hi) (gj (cw _) (by decide)) (kI _) (by omega) (gj C (by decide)) (sk _ _) S p t w w' W V;simpa [shB,bo,AV.ae3,AV.ren] using this
theorem Ba(G:d.kind%5=3)(M:Mem)(p t:Nat)(o o' :Bool)(H:M[p]? =some (.cells o 2 (pC s.P)))(I:M[t]? =some (.cells o' 3 (tC s.T))):
  ∃X Z,kO prog 28 [shB s p t,.agg d.cells,.int .i64 i] M (.agg X) (M++Z)∧iU s p t (bS d i) M.length Z X∧gr M.length Z X (bS d i)∧Z.length≤5∧(X.length=32∧X[1]? =some (.str (bO i)))∧pF M Z∧AV.aeW (fun b=>decide (b<M.length+5)) X=true∧sO X:=by
 have O:=gL H;have J:=gL I;obtain⟨F,D⟩:=fR s;have h:=ji O J rfl (Ay d hd s.P.length s.T.length i hi F D G);refine⟨_,_,h,⟨fun S w w' W V C=>?_,?_⟩,?_,by simp,⟨by rfl,by rfl⟩,?_,?_,?_⟩
 rotate_left
 ·exact⟨Ow (bO i) (bN d.A) (d.N.tmod 5) (1+(d.K.1%4:Nat)) (iw i),Dq s (bO i) (bN d.A) (d.N.tmod 5) (1+(d.K.1%4:Nat)) (iw i) (dY hi) (gj (cw _) (by decide)) (kI _) (hN5 d.N) (by have:=Nat.mod_lt d.K.1 (show 0<4 by decide);omega) (by have:=Nat.mod_lt d.K.1 (show 0<4 by decide);omega) (yw hi) (cw _) (by have: -5<d.N.tmod 5∧d.N.tmod 5<5:=nT d.N 5 (by decide);omega) (by have:=Nat.mod_lt d.K.1 (show 0<4 by decide);omega),by rw[show bS d i=[iw i] by simp[bS,G]];rfl,fun S _=>BY (by simp[cX,Ow,Evc.cells,AV.ae3,AV.ren]) rfl rfl rfl rfl⟩
 ·rw[show bS d i=[iw i] by simp[bS,G]]
  simpa [cX,AV.ae3,AV.ren] using vD (b:=M.length) (new:=[]) (bO i) (bN d.A) (d.N.tmod 5) (1+(d.K.1%4:Nat)) (iw i)
 ·simp[pF,aeY.own,aeY.aeR]
 ·simp[cX,AV.ae3,AV.ren,AV.aeW,AV.aeR]
 ·simp[sO,cX,AV.ae3,AV.ren]
 have B: -5<d.N.tmod 5∧d.N.tmod 5<5:=nT d.N 5 (by decide);have z:=Nat.mod_lt d.K.1 (show 0<4 by decide);have:=lQ s (bO i) (bN d.A) (d.N.tmod 5) (1+(d.K.1%4:Nat)) (iw i) (dY hi) (gj (cw _) (by decide)) (kI _) (by omega) (by omega) (by omega) (yw hi) S p t w w' W V;simpa [shB,cX,AV.ae3,AV.ren] using this
theorem Bc(A:d.kind%5=4)(M:Mem)(p t:Nat)(o o' :Bool)(G:M[p]? =some (.cells o 2 (pC s.P)))(H:M[t]? =some (.cells o' 3 (tC s.T))):
  ∃X Z,kO prog 28 [shB s p t,.agg d.cells,.int .i64 i] M (.agg X) (M++Z)∧iU s p t (bS d i) M.length Z X∧gr M.length Z X (bS d i)∧Z.length≤5∧(X.length=32∧X[1]? =some (.str (bO i)))∧pF M Z∧AV.aeW (fun b=>decide (b<M.length+5)) X=true∧sO X:=by
 have O:=gL G;have J:=gL H;obtain⟨F,D⟩:=fR s;have h:=ji O J rfl (AA d hd s.P.length s.T.length i hi F D A);refine⟨_,_,h,⟨fun S w w' W V C=>?_,?_⟩,?_,by simp,⟨by rfl,by rfl⟩,?_,?_,?_⟩
 rotate_left
 ·exact⟨Ox (bO i) (bC (d.K.1%6)) (tz d.B),Ds s _ _ _ (dY hi) (gj (gp _) (by decide)) (by have:=Nat.mod_lt d.K.1 (show 0<6 by decide);omega) (gp _),by rw[show bS d i=[] by simp[bS,A]];rfl,fun S _=>BY (by simp[cL,Ox,Evc.cells,AV.ae3,AV.ren]) rfl rfl rfl rfl⟩
 ·rw[show bS d i=[] by simp[bS,A]]
  refine qN fun M=>?_
  simpa [cL,AV.ae3,AV.ren] using pd (bO i) (bC (d.K.1%6)) (tz d.B) M
 ·simp[pF,aeY.own,aeY.aeR]
 ·simp[cL,AV.ae3,AV.ren,AV.aeW,AV.aeR]
 ·simp[sO,cL,AV.ae3,AV.ren]
 have:=lS s (bO i) (d.K.1%6) (tz d.B) (dY hi) (gj (gp _) (by decide)) S p t w w' W V;simpa [shB,cL,AV.ae3,AV.ren] using this
theorem Bb(G:d.kind%5=2)(M:Mem)(p t:Nat)(o o' :Bool)(H:M[p]? =some (.cells o 2 (pC s.P)))(I:M[t]? =some (.cells o' 3 (tC s.T))):
  ∃X Z,kO prog 28 [shB s p t,.agg d.cells,.int .i64 i] M (.agg X) (M++Z)∧iU s p t (bS d i) M.length Z X∧gr M.length Z X (bS d i)∧Z.length≤5∧(X.length=32∧X[1]? =some (.str (bO i)))∧pF M Z∧AV.aeW (fun b=>decide (b<M.length+5)) X=true∧sO X:=by
 have J:=gL H;have F:=gL I;obtain⟨D,C⟩:=fR s;have h3:=Nat.mod_lt d.K.1 (show 0<3 by decide);have h:=ji J F rfl (Az d hd s.P.length s.T.length i hi D C G);refine⟨_,_,h,⟨fun V w w' S O W=>?_,?_⟩,?_,by simp,⟨by rfl,by rfl⟩,?_,?_,?_⟩
 rotate_left
 ·refine⟨zP (bO i) (bN d.A) (kT (bQ d (1+d.K.1%3))) (eJ (bN d.A) (tz d.B)),Dr s _ _ _ d _ (by omega) (by omega) (dY hi) (gj (cw _) (by decide)) (kI _) (gj (kF (cw d.A) (gp d.B)) (by decide)) (sk _ _) (cw _) (kF (cw d.A) (gp d.B)),by rw[show bS d i=[] by simp[bS,G]];rfl,fun V W=>?_⟩
  have:=Uf (N:=V) (nm:=bO i) (n:=bN d.A) (s:=eJ (bN d.A) (tz d.B)) (L:=bQ d (1+d.K.1%3)) (b:=M.length) (o:=true) (by rw[bP];omega) (by have:=W 0 _ rfl;simpa [aeY.ren,gx] using this);rw[bP] at this;simpa [bw,AV.ae3,AV.ren,dL] using this
 ·rw[show bS d i=[] by simp[bS,G]]
  refine qN fun V =>?_
  simpa [bw,AV.ae3,AV.ren,dL] using pc (bO i) (bN d.A) (eJ (bN d.A) (tz d.B)) (.slice M.length 0 (1+d.K.1%3) none) V
 ·simp[pF,aeY.own,aeY.aeR,aeY.ren,gx,Cv]
 ·simp[bw,AV.ae3,AV.ren,dL,AV.aeW,AV.aeR]
 ·simp[sO,bw,AV.ae3,AV.ren,dL]
 have z:=kF (cw d.A) (gp d.B);have:=lR s (bO i) (bN d.A) (eJ (bN d.A) (tz d.B)) d (1+d.K.1%3) (by omega) (by omega) (dY hi) (gj (cw _) (by decide)) (kI _) (gj z (by decide)) (sk _ _) V p t w w' S O M.length true (by have:=W 0 _ rfl;simpa [aeY.ren,gx] using this);simpa [shB,bw,AV.ae3,AV.ren,aeY.ren,dL,gx] using this
theorem A7(A:d.kind%5=0)(G:d.K.1%3=0)(M:Mem)(p t:Nat)(o o' :Bool)(H:M[p]? =some (.cells o 2 (pC s.P)))(I:M[t]? =some (.cells o' 3 (tC s.T))):
  ∃X Z,kO prog 28 [shB s p t,.agg d.cells,.int .i64 i] M (.agg X) (M++Z)∧iU s p t (bS d i) M.length Z X∧gr M.length Z X (bS d i)∧Z.length≤5∧(X.length=32∧X[1]? =some (.str (bO i)))∧pF M Z∧AV.aeW (fun b=>decide (b<M.length+5)) X=true∧sO X:=by
 have R:=gL H;have l1:=gL I;obtain⟨hn,hl⟩:=fR s;have h:=ji R l1 rfl (Av d hd s.P.length s.T.length i hi hn hl A G);have D:∀z∈(bI d s.P.length),z.natAbs<1000:=fun z C=>by have:=mF d _ z C;omega
 have m:((bI d s.P.length)).length=s.P.length:=dT d _;refine⟨_,_,h,⟨fun V w w' j Y W=>?_,?_⟩,?_,by simp[iT],⟨by rfl,by rfl⟩,?_,?_,?_⟩
 rotate_left
 ·have k0:(hT (bI d s.P.length)).length=s.P.length:=by rw[cS];exact dT d _
  refine⟨xu (bO i) (hT (bI d s.P.length)) (bE i 0) [],Dl s (bO i) [cJ i,49] (bI d s.P.length) (dY hi) (iz (J:=0) hi (by decide) _ (by simp[bE]))  D (by omega) (by omega) m (fun z C=>by have:=mF d _ z C;omega),by rw[show bS d i=bE i 0 by simp[bS,A,G]];rfl,fun V W=>?_⟩;obtain⟨N,O⟩:=xE (α:=Mem) [jB (bI d s.P.length),.cells true 1 [.str [cJ i,49]]];have F:∀(k:Nat) x,N[k]? =some x→V[M.length+k]? =some x:=fun k x h=>W k x (by rw[O] at h;simpa [iT,jB,aeY.ren,AV.ae3,AV.ren,dL,fj,bE] using h)
  subst O;have:=GM (N:=V) (nm:=bO i) (B:=hT (bI d s.P.length)) (U:=bE i 0) (S:=[]) (b:=M.length) (u:=M.length+1) (o:=true) (o2:=true) (by omega) (by simp[bE]) (by have:=F 0 _ rfl;rwa [xA] at this) (F 1 _ rfl) (Ap V);rw[k0] at this;simpa [bf,AV.ae3,AV.ren,dL,bE] using this
 ·rw[show bS d i=bE i 0 by simp[bS,A,G]]
  have:=iJ (b0:=M.length) (new:=[jB (bI d s.P.length),.cells true 1 [.str [cJ i,49]]]) (bO i) (.slice M.length 0 s.P.length none) (.y9) (bE i 0) (by simp[bE]) (by simp[bE]) 1 true rfl;simpa [bf,AV.ae3,AV.ren,aeY.ren,dL,iT,jB,fj,bE] using this
 ·simp[pF,iT,jB,aeY.own,aeY.aeR,aeY.ren,AV.ae3,AV.ren,AV.aeW,AV.aeR,fj,Mq,bE]
 ·simp[bf,AV.ae3,AV.ren,dL,AV.aeW,AV.aeR]
 ·simp[sO,bf,AV.ae3,AV.ren,dL]
 obtain⟨N,O⟩:=xE (α:=Mem) [jB (bI d s.P.length),.cells true 1 [.str [cJ i,49]]];have F:∀(k:Nat) x,N[k]? =some x→V[M.length+k]? =some x:=fun k x h=>W k x (by rw[O] at h;simpa [iT,jB,aeY.ren,AV.ae3,AV.ren,dL,fj,bE] using h)
 subst O;have:=lN s (bO i) [cJ i,49] (bI d s.P.length) (dY hi) (iz (J:=0) hi (by decide) _ (by simp[bE]))  D (by omega) m  V p t w w' j Y M.length (M.length+1) true true (F 0 _ rfl) (F 1 _ rfl);rw[m] at this;simpa [shB,bf,AV.ae3,AV.ren,aeY.ren,dL,iT,jB,fj,bE] using this
theorem A8(A:d.kind%5=0)(G:d.K.1%3=1)(M:Mem)(p t:Nat)(o o' :Bool)(hp:M[p]? =some (.cells o 2 (pC s.P)))(ht:M[t]? =some (.cells o' 3 (tC s.T))):
  ∃W Z,kO prog 28 [shB s p t,.agg d.cells,.int .i64 i] M (.agg W) (M++Z)∧iU s p t (bS d i) M.length Z W∧gr M.length Z W (bS d i)∧Z.length≤5∧(W.length=32∧W[1]? =some (.str (bO i)))∧pF M Z∧AV.aeW (fun b=>decide (b<M.length+5)) W=true∧sO W:=by
 have l0:=gL hp;have l1:=gL ht;obtain⟨hn,hl⟩:=fR s;have h:=ji l0 l1 rfl (Aw d hd s.P.length s.T.length i hi hn hl A G);have m:∀z∈(bI d s.P.length),z.natAbs<1000:=fun z V=>by have:=mF d _ z V;omega
 have C:((bI d s.P.length)).length=s.P.length:=dT d _;have R:=Hl d 0 s.P.length (bI d s.P.length) 8 (mF d s.P.length) (by simp[dT]);have I:∀z∈(cH d 0 (bI d s.P.length) s.P.length),z.natAbs<1000:=fun z V=>by have:=R z V;omega
 have H:((cH d 0 (bI d s.P.length) s.P.length)).length=s.P.length:=fc d _ _ _;refine⟨_,_,h,⟨fun F w w' j Y O=>?_,?_⟩,?_,by simp[iT],⟨by rfl,by rfl⟩,?_,?_,?_⟩
 rotate_left
 ·have k0:(hT (bI d s.P.length)).length=s.P.length:=by rw[cS];exact dT d _
  have k1:(hT (cH d 0 (bI d s.P.length) s.P.length)).length=s.P.length:=by rw[cS];exact fc d _ _ _
  refine⟨xu (bO i) (hT (bI d s.P.length)) (bE i 1) [hT (cH d 0 (bI d s.P.length) s.P.length)],Dm s (bO i) [cJ i,49] [cJ i,50] (bI d s.P.length) (cH d 0 (bI d s.P.length) s.P.length) (dY hi) (iz (J:=1) hi (by decide) _ (by simp[bE])) (iz (J:=1) hi (by decide) _ (by simp[bE])) (by simp) m (by omega) (by omega) C I H (sH d 0 s.P.length (bI d s.P.length)) (fun z V=>by have:=mF d _ z V;omega) (fun z V=>by have:=R z V;omega),by rw[show bS d i=bE i 1 by simp[bS,A,G]];rfl,fun F O=>?_⟩;obtain⟨N,D⟩:=xE (α:=Mem) [jB (bI d s.P.length),.cells true 1 [.str [cJ i,49],.str [cJ i,50]],.cells true 1 [.slice (M.length+3) 0 s.P.length none],jB (cH d 0 (bI d s.P.length) s.P.length)];have X:∀(k:Nat) x,N[k]? =some x→F[M.length+k]? =some x:=fun k x h=>O k x (by rw[D] at h;simpa [iT,jB,aeY.ren,AV.ae3,AV.ren,dL,fj,bE] using h)
  subst D;have:=GM (N:=F) (nm:=bO i) (B:=hT (bI d s.P.length)) (U:=bE i 1) (S:=[hT (cH d 0 (bI d s.P.length) s.P.length)]) (b:=M.length) (u:=M.length+1) (o:=true) (o2:=true) (by omega) (by simp[bE]) (by have:=X 0 _ rfl;rwa [xA] at this) (X 1 _ rfl) (Zi (c:=M.length+2) (r1:=M.length+3) (o:=true) (o1:=true) (by rw[k1];exact X 2 _ rfl) (by have:=X 3 _ rfl;rwa [xA] at this) (by omega));rw[k0] at this;simpa [bf,AV.ae3,AV.ren,dL,bE] using this
 ·rw[show bS d i=bE i 1 by simp[bS,A,G]]
  have:=iJ (b0:=M.length) (new:=[jB (bI d s.P.length),.cells true 1 [.str [cJ i,49],.str [cJ i,50]],.cells true 1 [.slice (M.length+3) 0 s.P.length none],jB (cH d 0 (bI d s.P.length) s.P.length)]) (bO i) (.slice M.length 0 s.P.length none) (.slice (M.length+2) 0 1 none) (bE i 1) (by simp[bE]) (by simp[bE]) 1 true rfl;simpa [bf,AV.ae3,AV.ren,aeY.ren,dL,iT,jB,fj,bE] using this
 ·simp[pF,iT,jB,aeY.own,aeY.aeR,aeY.ren,AV.ae3,AV.ren,dL,AV.aeW,AV.aeR,fj,Mq,bE]
 ·simp[bf,AV.ae3,AV.ren,dL,AV.aeW,AV.aeR]
 ·simp[sO,bf,AV.ae3,AV.ren,dL]
 obtain⟨N,D⟩:=xE (α:=Mem) [jB (bI d s.P.length),.cells true 1 [.str [cJ i,49],.str [cJ i,50]],.cells true 1 [.slice (M.length+3) 0 s.P.length none],jB (cH d 0 (bI d s.P.length) s.P.length)];have X:∀(k:Nat) x,N[k]? =some x→F[M.length+k]? =some x:=fun k x h=>O k x (by rw[D] at h;simpa [iT,jB,aeY.ren,AV.ae3,AV.ren,dL,fj,bE] using h)
 subst D;have:=lO s (bO i) [cJ i,49] [cJ i,50] (bI d s.P.length) (cH d 0 (bI d s.P.length) s.P.length) (dY hi) (iz (J:=1) hi (by decide) _ (by simp[bE])) (iz (J:=1) hi (by decide) _ (by simp[bE])) (by simp) m (by omega) C I H (sH d 0 s.P.length (bI d s.P.length)) F p t w w' j Y M.length (M.length+1) true true (X 0 _ rfl) (X 1 _ rfl) (M.length+2) (M.length+3) true true (by rw[C];exact X 2 _ rfl) (X 3 _ rfl);rw[C] at this;simpa [shB,bf,AV.ae3,AV.ren,aeY.ren,dL,iT,jB,fj,bE] using this
theorem A9(A:d.kind%5=0)(G:d.K.1%3=2)(M:Mem)(p t:Nat)(o o' :Bool)(hp:M[p]? =some (.cells o 2 (pC s.P)))(ht:M[t]? =some (.cells o' 3 (tC s.T))):
  ∃V Z,kO prog 28 [shB s p t,.agg d.cells,.int .i64 i] M (.agg V) (M++Z)∧iU s p t (bS d i) M.length Z V∧gr M.length Z V (bS d i)∧Z.length≤5∧(V.length=32∧V[1]? =some (.str (bO i)))∧pF M Z∧AV.aeW (fun b=>decide (b<M.length+5)) V=true∧sO V:=by
 have l0:=gL hp;have l1:=gL ht;obtain⟨hn,hl⟩:=fR s;have h:=ji l0 l1 rfl (Ax d hd s.P.length s.T.length i hi hn hl A G);have m:∀z∈(bI d s.P.length),z.natAbs<1000:=fun z X=>by have:=mF d _ z X;omega
 have C:((bI d s.P.length)).length=s.P.length:=dT d _;have j:=Hl d 0 s.P.length (bI d s.P.length) 8 (mF d s.P.length) (by simp[dT]);have I:∀z∈(cH d 0 (bI d s.P.length) s.P.length),z.natAbs<1000:=fun z X=>by have:=j z X;omega
 have H:((cH d 0 (bI d s.P.length) s.P.length)).length=s.P.length:=fc d _ _ _;have s2:=Hl d 1 s.P.length (cH d 0 (bI d s.P.length) s.P.length) 11 (j) (by simp[fc]);have b2:∀z∈(cH d 1 (cH d 0 (bI d s.P.length) s.P.length) s.P.length),z.natAbs<1000:=fun z X=>by have:=s2 z X;omega
 have c2:((cH d 1 (cH d 0 (bI d s.P.length) s.P.length) s.P.length)).length=s.P.length:=fc d _ _ _;refine⟨_,_,h,⟨fun F w w' Y R O=>?_,?_⟩,?_,by simp[iT],⟨by rfl,by rfl⟩,?_,?_,?_⟩
 rotate_left
 ·have k0:(hT (bI d s.P.length)).length=s.P.length:=by rw[cS];exact dT d _
  have k1:(hT (cH d 0 (bI d s.P.length) s.P.length)).length=s.P.length:=by rw[cS];exact fc d _ _ _
  have k2:(hT (cH d 1 (cH d 0 (bI d s.P.length) s.P.length) s.P.length)).length=s.P.length:=by rw[cS];exact fc d _ _ _
  refine⟨xu (bO i) (hT (bI d s.P.length)) (bE i 2) [hT (cH d 0 (bI d s.P.length) s.P.length),hT (cH d 1 (cH d 0 (bI d s.P.length) s.P.length) s.P.length)],Dp s (bO i) [cJ i,49] [cJ i,50] [cJ i,51] (bI d s.P.length) (cH d 0 (bI d s.P.length) s.P.length) (cH d 1 (cH d 0 (bI d s.P.length) s.P.length) s.P.length) (dY hi) (iz (J:=2) hi (by decide) _ (by simp[bE])) (iz (J:=2) hi (by decide) _ (by simp[bE])) (iz (J:=2) hi (by decide) _ (by simp[bE])) (by simp) (by simp) (by simp) m (by omega) (by omega) C I H (sH d 0 s.P.length (bI d s.P.length)) b2 c2 (sH d 1 s.P.length (cH d 0 (bI d s.P.length) s.P.length)) (fun z X=>by have:=mF d _ z X;omega) (fun z X=>by have:=j z X;omega) (fun z X=>by have:=s2 z X;omega),by rw[show bS d i=bE i 2 by simp[bS,A,G]];rfl,fun F O=>?_⟩;obtain⟨N,D⟩:=xE (α:=Mem) [jB (bI d s.P.length),.cells true 1 [.str [cJ i,49],.str [cJ i,50],.str [cJ i,51]],.cells true 1 [.slice (M.length+3) 0 s.P.length none,.slice (M.length+4) 0 s.P.length none],jB (cH d 0 (bI d s.P.length) s.P.length),jB (cH d 1 (cH d 0 (bI d s.P.length) s.P.length) s.P.length)];have W:∀(k:Nat) x,N[k]? =some x→F[M.length+k]? =some x:=fun k x h=>O k x (by rw[D] at h;simpa [iT,jB,aeY.ren,AV.ae3,AV.ren,dL,fj,bE] using h)
  subst D;have:=GM (N:=F) (nm:=bO i) (B:=hT (bI d s.P.length)) (U:=bE i 2) (S:=[hT (cH d 0 (bI d s.P.length) s.P.length),hT (cH d 1 (cH d 0 (bI d s.P.length) s.P.length) s.P.length)]) (b:=M.length) (u:=M.length+1) (o:=true) (o2:=true) (by omega) (by simp[bE]) (by have:=W 0 _ rfl;rwa [xA] at this) (W 1 _ rfl) (Zj (c:=M.length+2) (r1:=M.length+3) (r2:=M.length+4) (o:=true) (o1:=true) (o2:=true) (by rw[k1,k2];exact W 2 _ rfl) (by have:=W 3 _ rfl;rwa [xA] at this) (by have:=W 4 _ rfl;rwa [xA] at this) (by omega) (by omega));rw[k0] at this;simpa [bf,AV.ae3,AV.ren,dL,bE] using this
 ·rw[show bS d i=bE i 2 by simp[bS,A,G]]
  have:=iJ (b0:=M.length) (new:=[jB (bI d s.P.length),.cells true 1 [.str [cJ i,49],.str [cJ i,50],.str [cJ i,51]],.cells true 1 [.slice (M.length+3) 0 s.P.length none,.slice (M.length+4) 0 s.P.length none],jB (cH d 0 (bI d s.P.length) s.P.length),jB (cH d 1 (cH d 0 (bI d s.P.length) s.P.length) s.P.length)]) (bO i) (.slice M.length 0 s.P.length none) (.slice (M.length+2) 0 2 none) (bE i 2) (by simp[bE]) (by simp[bE]) 1 true rfl;simpa [bf,AV.ae3,AV.ren,aeY.ren,dL,iT,jB,fj,bE] using this
 ·simp[pF,iT,jB,aeY.own,aeY.aeR,aeY.ren,AV.ae3,AV.ren,dL,AV.aeW,AV.aeR,fj,Mq,bE]
 ·simp[bf,AV.ae3,AV.ren,dL,AV.aeW,AV.aeR]
 ·simp[sO,bf,AV.ae3,AV.ren,dL]
 obtain⟨N,D⟩:=xE (α:=Mem) [jB (bI d s.P.length),.cells true 1 [.str [cJ i,49],.str [cJ i,50],.str [cJ i,51]],.cells true 1 [.slice (M.length+3) 0 s.P.length none,.slice (M.length+4) 0 s.P.length none],jB (cH d 0 (bI d s.P.length) s.P.length),jB (cH d 1 (cH d 0 (bI d s.P.length) s.P.length) s.P.length)];have W:∀(k:Nat) x,N[k]? =some x→F[M.length+k]? =some x:=fun k x h=>O k x (by rw[D] at h;simpa [iT,jB,aeY.ren,AV.ae3,AV.ren,dL,fj,bE] using h)
 subst D;have:=lP s (bO i) [cJ i,49] [cJ i,50] [cJ i,51] (bI d s.P.length) (cH d 0 (bI d s.P.length) s.P.length) (cH d 1 (cH d 0 (bI d s.P.length) s.P.length) s.P.length) (dY hi) (iz (J:=2) hi (by decide) _ (by simp[bE])) (iz (J:=2) hi (by decide) _ (by simp[bE])) (iz (J:=2) hi (by decide) _ (by simp[bE])) (by simp) (by simp) (by simp) m (by omega) C I H (sH d 0 s.P.length (bI d s.P.length)) b2 c2 (sH d 1 s.P.length (cH d 0 (bI d s.P.length) s.P.length)) F p t w w' Y R M.length (M.length+1) true true (W 0 _ rfl) (W 1 _ rfl) (M.length+2) (M.length+3) (M.length+4) true true true (by rw[C];exact W 2 _ rfl) (W 3 _ rfl) (W 4 _ rfl);rw[C] at this;simpa [shB,bf,AV.ae3,AV.ren,aeY.ren,dL,iT,jB,fj,bE] using this
theorem QQ(M:Mem)(p t:Nat)(o o' :Bool)(A:M[p]? =some (.cells o 2 (pC s.P)))(G:M[t]? =some (.cells o' 3 (tC s.T))):
  ∃X Z,kO prog 28 [shB s p t,.agg d.cells,.int .i64 i] M (.agg X) (M++Z)∧iU s p t (bS d i) M.length Z X∧gr M.length Z X (bS d i)∧Z.length≤5∧(X.length=32∧X[1]? =some (.str (bO i)))∧pF M Z∧AV.aeW (fun b=>decide (b<M.length+5)) X=true∧sO X:=by
 have W:=Nat.mod_lt d.kind (show 0<5 by decide);have h3:=Nat.mod_lt d.K.1 (show 0<3 by decide);have:d.kind%5=0∨d.kind%5=1∨d.kind%5=2∨d.kind%5=3∨d.kind%5=4:=by omega
 rcases this with h | h | h | h | h
 ·have:d.K.1%3=0∨d.K.1%3=1∨d.K.1%3=2:=by omega
  rcases this with g | g | g
  ·exact A7 s d hd i hi h g M p t o o' A G
  ·exact A8 s d hd i hi h g M p t o o' A G
  ·exact A9 s d hd i hi h g M p t o o' A G
 ·exact zv s d hd i hi h M p t o o' A G
 ·exact Bb s d hd i hi h M p t o o' A G
 ·exact Ba s d hd i hi h M p t o o' A G
 ·exact Bc s d hd i hi h M p t o o' A G
end
theorem Gx{P:Program}{f:FuncId}{args:List AV}{m A :Mem}{v:AV}(h:kO P f args m v A):kO P f args m v (A ++[.aeP]):=by refine⟨h.1,fun base μ w Vs h0 h1 h2=>(h.2 base μ w Vs h0 h1 h2).mono ?_⟩;rintro e w' ⟨V,v',m1,μ',he,hv,hh,hs,rfl,rfl⟩;obtain⟨X,Z⟩:=hh.aeP (μ' 0);exact⟨V,_,_,_,he,hv.mono (by simp) Z.agree,X,hs.trans (Z.mono hs.len),rfl,rfl⟩
theorem vK{P:Program}{f:FuncId}{args:List AV}{m:Mem}{v:AV}:∀(k:Nat) {A :Mem},kO P f args m v A →kO P f args m v (A ++List.replicate k .aeP)
 |0,A,h=>by simpa using h
 |k+1,A,h=>by
  have:=vK k (Gx h)
  rwa [List.append_assoc,List.singleton_append,←List.replicate_succ] at this
theorem Nu(s:aeX)(d:ae6)(A:d.Ok)(i:Nat)(G:i<6)(M:Mem)(p t:Nat)(o o' :Bool)(H:M[p]? =some (.cells o 2 (pC s.P)))(I:M[t]? =some (.cells o' 3 (tC s.T))):
  ∃X S O K J F,kO prog 28 [shB s p t,.agg d.cells,.int .i64 i] M (.agg X) (M++[S,O,K,J,F])∧iU s p t (bS d i) M.length [S,O,K,J,F] X∧gr M.length [S,O,K,J,F] X (bS d i)∧(X.length=32∧X[1]? =some (.str (bO i)))∧pF M [S,O,K,J,F]∧AV.aeW (fun b=>decide (b<M.length+5)) X=true∧sO X:=by
 obtain⟨X,Z,j,z,h3,h4,Y,u,R,h8⟩:=QQ s d A i G M p t o o' H I;have e:(Z++List.replicate (5-Z.length) aeY.aeP).length=5:=by simp;omega
 have D:=vK (5-Z.length) j;rw[List.append_assoc] at D;have m:∀W,afk M.length (Z++List.replicate (5-Z.length) aeY.aeP) W →afk M.length Z W :=fun W c k x V=>c k x (gU V _)
 have C:iU s p t (bS d i) M.length (Z++List.replicate (5-Z.length) aeY.aeP) X:=by obtain⟨z,cc,ho,hu,V⟩:=z;exact⟨fun W w w' a b c=>z W w w' a b (m W c),cc,ho,hu,fun W c=>V W (m W c)⟩
 have g3:gr M.length (Z++List.replicate (5-Z.length) aeY.aeP) X (bS d i):=fun W c=>
  h3 W fun k x V=>c k x (gU V _)
 have B:pF M (Z++List.replicate (5-Z.length) aeY.aeP):=by unfold pF at u ⊢;rw[List.all_append,u,Bool.true_and,List.all_eq_true];intro x V;rw[List.eq_of_mem_replicate V];rfl
 obtain⟨N,hN⟩:=xE (Z++List.replicate (5-Z.length) aeY.aeP);rw[←hN] at e D C g3 B
 match N,e,D,C,g3,B with
 | [S,O,K,J,F],_,D,C,g3,B=>exact⟨X,S,O,K,J,F,D,C,g3,Y,B,R,h8⟩
end Go.Proofs
