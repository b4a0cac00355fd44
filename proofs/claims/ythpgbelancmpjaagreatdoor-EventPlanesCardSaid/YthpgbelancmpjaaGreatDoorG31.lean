/- See G38. -/
import Derived.Test.YthpgbelancmpjaaGreatDoorG30
import Derived.Test.YthpgbelancmpjaaGreatDoorG29
set_option linter.all false
namespace Go.Proofs
open Go.Eng
def afC(r:M3)(s:V3):Prop:=vC r.1/\vC r.2.1/\vC r.2.2/\vC s
structure ahX (r:M3)(s p:V3):Prop where
 ck:afC r s
 pk:vC p
 mm:mOk r p
 fk:vF (YM r p)/\vF s
 rk:vC (Y9 (YM r p) s)
def Zj(k:Nat)(Q:List (Rat×Rat)):Prop:=∀q∈Q,big k q.1/\big k q.2
def Yk(Q:List (Rat×Rat)):Prop:=Zj 40 Q/\Q.length<=1000000000/\∀i a b,Q[i]? =some a->Q[i+1]? =some b->b.1-a.1≠0
def v0:V3:=(0,0,0)
section
variable {pv tv b u sv kn:AV}{c:Evc}{x:Int}{M:Mem}{us:List (List UInt8)}{ub:Nat}{o:Bool}
end
section
variable {c:Evc}{b u sv kn:AV}{M:Mem}{ub kb nu nk:Nat}{n:Int}
end
section
variable {O:y9}{m0:Nat}{ops:Array Oper}{env:Env}{mem:Mem}{d:Bool}{w x y z A B C D E F G H I J K1 K2 K3 K4 K5 K6 K7 K8 K9 S1 S4 S5 S6 S7 S8 S9 S10 S11 S12 S13:Int}{r1 r2 r3:V3}
end
theorem Zk:dg 1 1 (0:Rat):=⟨by decide,by decide⟩
section
variable {pv tv:AV}{M:Mem}
end
theorem XD{a b:V3}{n m:Nat}(H:vDg n a)(I:vDg m b):dg (5*(n+m)+10) (5*(n+m)+10) (iK a b):=by obtain⟨Z,X,V⟩:=H;obtain⟨U,S,R⟩:=I;have O:=dp Z U;have P2:=dp X S;have N:=dp V R;have M:=nP O P2 (m:=2*(n+m)) (by omega) (by omega);have L:=nP M N (m:=3*(n+m)+2) (by omega) (by omega);exact L.mono (by omega) (by omega)
section
variable {pv tv kn:AV}{M:Mem}
end
def sgB(H:Bool):Rat:=if H then -1 else 1
def Pd(n:V3)(o:Rat)(p:V3):Int:=if o<=iK n p then 1 else 0
structure ahY (n:V3)(o:Rat)(v:V3)(bck:Bool)(p:V3):Prop where
 pk:vC p
 dk:GZ n p
 fd:fI (iK n p)
 fo:fI o
 pl:WA p v (sgB bck)
 rk:vC (Y9 p (Zh v (sgB bck)))
structure ahZ (n:V3)(L:List P2)(v:V3)(bck:Bool)(p:V3):Prop where
 pk:vC p
 dk:GZ n p
 lk:Yk L
 vk:big 40 (iK n p)
 fw:fI (Uv L (iK n p))
 fk:fI (sgB bck)
 pl:WA p v (sgB bck*Uv L (iK n p))
 rk:vC (Y9 p (Zh v (sgB bck*Uv L (iK n p))))
theorem T4:∀{X:List (V3×Rat)} {i:Nat} {x:V3×Rat},X[i]? =some x->((pnC X).drop (i*4)).take 4=vL x.1++[.str (aq x.2)]/\i*4+4<=(pnC X).length
 |y::X,0,x,h=>by rw[List.getElem?_cons_zero] at h;cases h;rw[pnC];exact⟨by simp[vL],by simp[vL]⟩
 |y::X,i+1,x,h=>by rw[List.getElem?_cons_succ] at h;obtain⟨Z,U⟩:=T4 h;rw[pnC];have V:(vL y.1++[AV.str (aq y.2)]).length=4:=rfl;refine⟨?_,by rw[Qs,V];omega⟩;rw[show(i+1)*4=4+i*4 by omega,<-QXY,show List.drop 4 (vL y.1++[AV.str (aq y.2)]++pnC X)=pnC X from rfl];exact Z
section
variable {O:y9}{N:Mem}{n i b5 wb:Nat}{o:Bool}{X:List (V3×Rat)}{x:V3×Rat}{p:V3}{c:Nat}{dt:Rat}
end
structure aif (O:y9)(N:Mem)(dF cF:Go.Eng.Callee)(b5 wb:Nat)(p:V3)(X:List (V3×Rat)):Prop where
 v:N[b5]? =some (.cells true 0 (vL p))
 w:∃o,N[wb]? =some (.cells o 4 (pnC X))
 l:X.length<=3
 d:∀x∈X,(∀Z,O dF [vA x.1,vA p] (N++Z)=some ⟨.str (aq (iK x.1 p)),none,[]⟩)/\∀Z,O cF [.str (aq (iK x.1 p)),.str (aq x.2)] (N++Z)=some ⟨.int .i64 (AL (iK x.1 p) x.2),none,[]⟩
section
variable {O:y9}{N:Mem}{b5 wb:Nat}{p:V3}{X:List (V3×Rat)}
end
section
variable {O:y9}{M Z1 V:Mem}{ev L:List AV}{pv tv w:AV}{p:V3}{X:List (V3×Rat)}{lb wb nL j:Nat}{o:Bool}
end
end Go.Proofs
namespace Go.Proofs
open Go.Eng
open Tryz
variable{k:Nat}
theorem LB{n:Int}(h:n.natAbs<10 ^ k)(h0:0<k):dg k k ((n:Int):Rat):=⟨h,by show(1:Nat)<10 ^ k;have:10 ^ 1<=10 ^ k:=P3 (by omega) h0;omega⟩
theorem yf{z:Int}(h:z.natAbs<10 ^ k)(h0:0<k):dg k k (hQ z):=pG (by decide) h (by have:10 ^ 1<=10 ^ k:=P3 (by omega) h0;omega)
variable{n:Nat}
section
variable{v:Z3}(h:PO n v)(hn:n<10 ^ k)(h0:0<k)
include v h hn h0
theorem Wn:vDg k (zQ v):=⟨LB (by have:=h.1;omega) h0,LB (by have:=h.2.1;omega) h0,LB (by have:=h.2.2;omega) h0⟩
theorem YW:vDg k (hV v):=⟨yf (by have:=h.1;omega) h0,yf (by have:=h.2.1;omega) h0,yf (by have:=h.2.2;omega) h0⟩
end
theorem YE{v:Z3}(h:Wo v=false):¬tY (zQ v):=by
 rintro ⟨Z,X,h3⟩;have V:v.1=0:=by have:((v.1:Int):Rat)=0:=Z;exact_mod_cast this
 have U:v.2.1=0:=by have:((v.2.1:Int):Rat)=0:=X;exact_mod_cast this
 have S:v.2.2=0:=by have:((v.2.2:Int):Rat)=0:=h3;exact_mod_cast this
 simp[Wo,V,U,S] at h
theorem W0(n v:Z3):(rP n v).1*n.1+(rP n v).2.1*n.2.1+(rP n v).2.2*n.2.2=0:=by
 unfold rP
 grind
variable{a b:Z3}
section
variable (h:a.1*b.1+a.2.1*b.2.1+a.2.2*b.2.2=0)
include h
theorem WJ:iK (zQ a) (zQ b)=0:=by
 unfold iK zQ;have:(((a.1*b.1+a.2.1*b.2.1+a.2.2*b.2.2:Int)):Rat)=0:=by rw[h];rfl
 simpa [Rat.intCast_add,Rat.intCast_mul] using this
theorem Yd:iK (hV a) (zQ b)=0:=by
 have k:=WJ h;unfold iK zQ hV at*;simp only[mL] at*
 grind
end
theorem lH(s:afv):0<s.P.length/\s.P.length<=1000:=by
 have h:∀k<8,0<(ef k).length/\(ef k).length<=1000:=by decide
 have:=h (s.kind%8) (Nat.mod_lt _ (by decide));unfold afv.P
 rwa [QXf]
def ctM(x:adM):Nat:=(ct3 (x.n 7)).toNat
theorem SY{x:adM}:ct3 (x.n 7)=(ctM x:Int):=by have:=O9 (x.n 7);unfold ctM;omega
theorem kN(x:adM):ctM x=1\/ctM x=2\/ctM x=3:=by have:=O9 (x.n 7);unfold ctM;omega
def cSk(x:adM)(n:Nat):Evc:=match x.kind%5 with
 |0=>uX x n (ctN x)
 |1=>ie [110] (zQ (fW x)) (hQ (ir (x.n 6))) (hV (Aw x))
 |2=>eL [110] (zQ (fW x)) (x.afM (ctM x)) (zQ (Aw x))
 |3=>kL [110] (zQ (fW x)) (hQ (ir (x.n 6))) (hQ (ps9 (x.n 7))) [110,95,114,111,99,107]
 |_=>rN [110] (Dk x) (zQ (fW x))
variable{c:Nat}
theorem Cx{x:adM}(hc:c<=3){q:Rat×Rat}(h:q∈x.afM c):big 2 q.1/\big 2 q.2:=by unfold adM.afM at h;obtain⟨i,Z,rfl⟩:=QQm.1 h;have Z:=List.mem_range.1 Z;have X:=x.ahz i;have V:=dx (x.n ((i+7)%8));exact⟨LB (k:=2) (by omega) (by decide),yf (k:=2) (by show(ir _).natAbs<_;omega) (by decide)⟩
variable{i:Nat}
theorem Pp{x:adM}{a:Rat×Rat}(h:(x.afM c)[i]? =some a):a=x.ah3 i:=by
 unfold adM.afM at h;rw[QQJ] at h;by_cases Z:i<c
 .rw[List.getElem?_range Z] at h
  exact(QQX h).symm
 .rw[List.getElem?_eq_none (by simp;omega)] at h
  cases h
theorem VS{x:adM}{a b:Rat×Rat}(H:(x.afM c)[i]? =some a)(I:(x.afM c)[i+1]? =some b):a.1<b.1:=by
 rw[Pp H,Pp I];have:=x.ahU i;show((x.at i:Int):Rat)<((x.at (i+1):Int):Rat)
 exact_mod_cast this
theorem Bm(s:afv)(x:adM):km s (cSk x s.P.length):=by
 obtain⟨S,R⟩:=lH s;have Z:=(Wn (xa x) (k:=1) (by decide) (by decide));have X:=YE (Px x);have V:=yf (z:=ir (x.n 6)) (k:=1) (by have:=dx (x.n 6);omega) (by decide);have U:=W0 (fW x) (ir (x.n 3),ir (x.n 4),ir (x.n 5));unfold cSk;split
 .exact Iw s x _ _ rfl S R (fR x)
 .exact DG s [110] _ _ _ (by decide) (Z.mono (by omega)) X (V.mono (by omega) (by omega)) ((YW (N5 x) (k:=3) (by decide) (by decide)).mono (by omega)) (Yd U)
 .have K:=kN x
  refine FU s [110] _ _ _ (by decide) (Z.mono (by omega)) X (by rw[adM.afN];omega) (by rw[adM.afN];omega) (fun q O=>?_) (fun i a b N L=>VS N L) ((Wn (N5 x) (k:=3) (by decide) (by decide)).mono (by omega)) (WJ U);have:=Cx (c:=ctM x) (by omega) O;exact⟨this.1.mono (by omega),this.2.mono (by omega)⟩
 .have G:=kV (x.n 7)
  exact FT s [110] _ _ _ _ (by decide) (Z.mono (by omega)) X (V.mono (by omega) (by omega)) ((yf (z:=ps9 (x.n 7)) (k:=1) (by omega) (by decide)).mono (by omega) (by omega)) (Wu (by omega)) (by decide)
 .exact FV s [110] _ _ (by decide) (fun M=>FC (Wk x) (Wl x) M) (Z.mono (by omega))
def W4(m:Nat)(x:adM)(n:Nat):List AV:=(cSk x n).cells (if x.kind%5=0 then .slice m 0 n none else .qF) (if x.kind%5=0 then .slice (m+1) 0 (ctN x) none else .qF) (if x.kind%5=0 then dqS m n (ctN x) else .qF) (if x.kind%5=2 then .slice m 0 (ctM x) none else .qF)
def UI(m:Nat)(x:adM)(n:Nat):Mem:=if x.kind%5=0 then dqN m x n (ctN x) else if x.kind%5=2 then [.cells true 2 (kC (kT (x.afM (ctM x))))] else []
theorem jH(k:Nat):k%5=0\/k%5=1\/k%5=2\/k%5=3\/k%5=4:=by omega
section
variable{x:adM}
include x
theorem XF(h:x.kind%5=0):cSk x n=uX x n (ctN x):=by unfold cSk;rw[h];rfl
theorem XG(h:x.kind%5=1):cSk x n=ie [110] (zQ (fW x)) (hQ (ir (x.n 6))) (hV (Aw x)):=by unfold cSk;rw[h];rfl
theorem XH(h:x.kind%5=2):cSk x n=eL [110] (zQ (fW x)) (x.afM (ctM x)) (zQ (Aw x)):=by unfold cSk;rw[h];rfl
theorem XI(h:x.kind%5=3):cSk x n=kL [110] (zQ (fW x)) (hQ (ir (x.n 6))) (hQ (ps9 (x.n 7))) [110,95,114,111,99,107]:=by unfold cSk;rw[h];rfl
theorem XJ(h:x.kind%5=4):cSk x n=rN [110] (Dk x) (zQ (fW x)):=by unfold cSk;rw[h];rfl
end
theorem Il(x:adM)(H:x.Ok)(n k:Nat)(I:0<n)(J:n<=1000):kO prog 9 [.agg [.slice 0 0 n none,.slice 1 0 k none],.agg x.cells,.str [110]] [.qK,.qK] (.agg (W4 2 x n)) ([.qK,.qK]++UI 2 x n):=by
 unfold W4 UI;rcases jH x.kind with h | h | h | h | h
 .rw[XF h,h];exact FL x H n k I J h
 .rw[XG h,h];exact FM x H n k h
 .rw[XH h,h]
  rcases kN x with h3 | h3 | h3
  .rw[h3];exact DC x H n k h (by rw[SY,h3];rfl)
  .rw[h3];exact DD x H n k h (by rw[SY,h3];rfl)
  .rw[h3];exact DE x H n k h (by rw[SY,h3];rfl)
 .rw[XI h,h];exact FN x H n k h
 .rw[XJ h,h];exact FO x H n k h
theorem Im(x:adM)(H:x.Ok)(n k:Nat)(I:0<n)(J:n<=1000)(M:Mem)(p t:Nat)(Y:p<M.length)(ht:t<M.length):
  kO prog 9 [.agg [.slice p 0 n none,.slice t 0 k none],.agg x.cells,.str [110]] M (.agg (W4 M.length x n)) (M++UI M.length x n):=by
 have Z:=fun f=>aT (ρ:=f) x.closed
 have h3:=fR x;have U:=Il x H n k I J;have:=kO.frame (M:=M) (new:=UI 2 x n) [p,t] (m:=[.qK,.qK]) rfl (by
  intro k V;simp only[lM] at V;rcases V with rfl | rfl
  .exact Y
  .exact ht) (by simp[AV.afu,AV.under,bl x.closed]) (fun i s X=>by
  match i with
  |0=>simp at X;subst X;trivial
  |1=>simp at X;subst X;trivial
  |i+2=>simp at X) (by
   unfold UI;rcases jH x.kind with h | h | h | h | h<;>rw[h]<;>try rfl
   rcases h3 with h3 | h3 | h3<;>rw[h3]<;>rfl) U
 unfold W4 UI at this |-;obtain⟨C,S⟩:=xE (cSk x n);rw[<-S] at this |-;have R:∀f,AV.afI f (kC (kT (x.afM (ctM x))))=kC (kT (x.afM (ctM x))):=fun f=>aT (kR _)
 rcases jH x.kind with h | h | h | h | h
 .obtain⟨c,O⟩:=xE (ctN x)
  rw[<-O] at this h3 |-;rcases h3 with rfl | rfl | rfl<;>simpa [h,AV.afI,AV.ren,fA,afq.ren,dqS,dqN,kW,uNm,nmE,stC,Z,Evc.cells] using this
 .simpa [h,AV.afI,AV.ren,fA,afq.ren,Z,Evc.cells] using this
 .simpa [h,AV.afI,AV.ren,fA,afq.ren,Z,Evc.cells,R] using this
 .simpa [h,AV.afI,AV.ren,fA,afq.ren,Z,Evc.cells] using this
 .simpa [h,AV.afI,AV.ren,fA,afq.ren,Z,Evc.cells] using this
theorem Ca(M N:Mem)(k:Nat):(M++N)[M.length+k]? =N[k]? :=by rw[V1 (by omega)];congr 1;omega
theorem SI(M N:Mem):(M++N)[M.length]? =N[0]? :=Ca M N 0
variable{C:List AV}{N:Mem}{es:Nat}
theorem mU{b:Nat}{o:Bool}(h0:0<n)(h:N[b]? =some (.cells o es C)):afw N (.slice b 0 n none) es n C:=.inr ⟨b,o,rfl,h0,h⟩
theorem kg:afw N .qF es 0 []:=.inl ⟨rfl,rfl,rfl⟩
theorem Ms:agI N .qF []:=⟨[],rfl,kg,fun i x L h=>by simp at h⟩
theorem Ut(h:c=1\/c=2\/c=3):(uNm c).length=c:=by rcases h with rfl | rfl | rfl<;>rfl
theorem W3(x:adM)(n:Nat)(H:0<n)(M:Mem):agc (M++UI M.length x n) (W4 M.length x n) (cSk x n):=by
 unfold W4 UI;have h3:=fR x;rcases jH x.kind with h | h | h | h | h
 .rw[XF h,h]
  refine⟨_,_,_,_,rfl,?_,?_,?_,kg⟩
  .simp only[if_true]
   have V:(uX x n (ctN x)).B.length=n:=by show(hS _).length=n;rw[kP,Hts.afP]
   rw[V];refine mU (o:=true) H ?_;rw[SI];show _=some (afq.cells true 1 (stC (hS _)))
   rw[Pg];rcases h3 with h3 | h3 | h3<;>rw[h3]<;>rfl
  .simp only[if_true]
   have V:(uX x n (ctN x)).U.length=ctN x:=Ut h3;rw[V];refine mU (o:=true) (by omega) ?_;rw[Ca];show _=some (afq.cells true 1 (stC (uNm (ctN x))))
   rcases h3 with h3 | h3 | h3<;>rw[h3]<;>rfl
  .simp only[if_true]
   show agI _ _ ((iW x n (ctN x)).map hS)
   rcases h3 with h3 | h3 | h3<;>rw[h3]
   .exact Ms
   .refine⟨[.slice (M.length+3) 0 n none],rfl,mU (o:=true) (by show 0<1;omega) (by rw[Ca];rfl),fun i x L Z X=>?_⟩
    match i,Z,X with
    |0,Z,X=>
     cases Z;cases X;rw[kP,fE];refine mU (o:=true) H ?_;rw[Ca,Pg];rfl
    |i+1,Z,_=>simp at Z
   .refine⟨[.slice (M.length+3) 0 n none,.slice (M.length+4) 0 n none],rfl,mU (o:=true) (by show 0<2;omega) (by rw[Ca];rfl),fun i x L Z X=>?_⟩
    match i,Z,X with
    |0,Z,X=>
     cases Z;cases X;rw[kP,fE];refine mU (o:=true) H ?_;rw[Ca,Pg];rfl
    |1,Z,X=>
     cases Z;cases X;rw[kP,fE];refine mU (o:=true) H ?_;rw[Ca,Pg];rfl
    |i+2,Z,_=>simp at Z
 .rw[XG h,h];exact⟨_,_,_,_,rfl,kg,kg,Ms,kg⟩
 .rw[XH h,h]
  refine⟨_,_,_,_,rfl,kg,kg,Ms,?_⟩;have V:(eL [110] (zQ (fW x)) (x.afM (ctM x)) (zQ (Aw x))).K.length=ctM x:=by show(kT _).length=_;rw[lV,adM.afN]
  rw[V];have:=kN x;exact mU (o:=true) (by omega) (by rw[SI];rfl)
 .rw[XI h,h];exact⟨_,_,_,_,rfl,kg,kg,Ms,kg⟩
 .rw[XJ h,h];exact⟨_,_,_,_,rfl,kg,kg,Ms,kg⟩
section
variable{M:Mem}{p:Nat}{s:afq}(h:M[p]? =some s)
include M p s h
theorem fm(Z:Mem):(M++Z)[p]? =some s:=by rw[GT (gL h)];exact h
theorem wP:p<M.length:=gL h
end
theorem afw.refs{v:AV}(h:afw N v es n C)(x:Nat):v.afm (fun b=>decide (b<N.length+x))=true:=by
 rcases h with⟨rfl,_⟩ | ⟨b,o,rfl,_,h⟩
 .rfl
 .have:=wP h
  simp only[AV.afm,GE];omega
theorem agc.refs{e:List AV}{c:Evc}(h:agc N e c)(x:Nat):AV.afs (fun b=>decide (b<N.length+x)) e=true:=by obtain⟨b,u,M,L,rfl,Z,X,⟨_,_,h3,_⟩,V⟩:=h;have U:=Z.refs x;have S:=X.refs x;have R:=h3.refs x;have O:=V.refs x;simp only[Evc.cells,AV.afs,U,S,R,O,AV.afm,Bool.and_self]
def nt(s:afv)(p t:Nat):AV:=.agg [.slice p 0 s.P.length none,.slice t 0 s.T.length none]
section
variable {x:adM}{s:afv}{M:Mem}{p t:Nat}{o o' :Bool}{ev:List AV}
end
end Go.Proofs
namespace Go.Proofs
open Go.Eng
open Tryz
theorem FF{v:V3}(h:vDg 200 v)(M:Mem):kO prog 50 [vA v] M (.bool true) M:=by
 have X:aZ prog 50=some f50:=by kernel_rfl
 have k:∀{q:Rat},dg 200 200 q->∀M,kO prog 51 [.str (aq q)] M (.bool true) M:=fun h M=>by have:=qL (aq _) (jW h (by decide) (by decide)) M;rw[gB h] at this;exact this
 have V:qS prog (ah (eR [(51,[.str (aq v.1)],.bool true),(51,[.str (aq v.2.1)],.bool true),(51,[.str (aq v.2.2)],.bool true)])):=gi fun e Z M=>by
  simp only[lM] at Z;rcases Z with rfl | rfl | rfl
  .exact k h.1 M
  .exact k h.2.1 M
  .exact k h.2.2 M
 refine aA V ?_ M;simp[ae,X,f50,vA,eR,ah]
theorem H8(a b c:List UInt8)(M:Mem):kO prog 52 [.agg [.str a,.str b,.str c]] M (.bool (a==[48]&&b==[48]&&c==[48])) M:=by
 have Z:aZ prog 52=some f52:=by kernel_rfl
 refine aA (az _) ?_ M;cases h1:a==[48]<;>cases h2:b==[48]<;>cases h3:c==[48]<;>simp[ae,Z,f52,h1,h2,h3]
def plA(x:V3×Rat):AV:=.agg (vL x.1++[.str (aq x.2)])
theorem DA{x:V3×Rat}(h:vDg 200 x.1)(H:dg 200 200 x.2)(hz:¬tY x.1)(M:Mem):kO prog 14 [plA x] M (.int .i64 0) M:=by
 have V:aZ prog 14=some f14:=by kernel_rfl
 have U:=fun M=>by have:=qL (aq x.2) (jW H (by decide) (by decide)) M;rw[gB H] at this;exact this
 have Z:=Dm hz;have S:qS prog (ah (eR [(50,[vA x.1],.bool true),(51,[.str (aq x.2)],.bool true),(52,[vA x.1],.bool false)])):=gi fun e X M=>by
  simp only[lM] at X;rcases X with rfl | rfl | rfl
  .exact FF h M
  .exact U M
  .have:=H8 (aq x.1.1) (aq x.1.2.1) (aq x.1.2.2) M
   rw[Z] at this;exact this
 refine aA S ?_ M;obtain⟨⟨a,b,c⟩,o⟩:=x;simp[ae,V,f14,plA,vA,vL,eR,ah]
end Go.Proofs
