/- See C54. -/
import Derived.Test.YtffdedmakncfmaaGreatDoorC26
set_option linter.all false
set_option maxRecDepth 100000
set_option maxHeartbeats 40000000
namespace Go.Proofs
open Go.Eng
open Tryz
def FA(j:Nat):AV:=if j=0 then .slice 4 0 0 none else .slice 5 0 j none
def Df(h:Hts)(n k j:Nat):Mem:=if j=0 then [.qK,.qK,.cells true 0 [.slice 0 0 n none,.slice 1 0 k none],.cells true 0 h.cells,.cells true 1 []] else [.qK,.qK,.cells true 0 [.slice 0 0 n none,.slice 1 0 k none],.cells true 0 h.cells,.qK,.cells true 1 (qC (qH (h.l j)))]
theorem UT(L:List Int):(qC (qH L)).length=L.length:=by rw[MD];simp[qH]
variable{K:Nat}{b:Code}
theorem GV(h:Hts)(y:h.Ok)(n k:Nat)(hn0:0<n)(hl:n≤1000)(hK:n<K)(hb:ah f67=[b]):
  ∃F:Env→Bool→Env,∀Z S,(ad Z 2=.ptr 2 0∧ad Z 3=.ptr 3 0∧ad Z 6=.int .i64 h.d∧ad Z 5=.slice 4 0 0 none∧ad Z 7=.int .i64 0)→
   aW (bh prog) (fun _=>[5,7]) (ag ea) K 31 2 true (.loop b) ⟨Z,Df h n k 0,S⟩=some (.exit 0,⟨F Z S,Df h n k n,S⟩)∧ad (F Z S) 5=.slice 5 0 n none:=by
 refine bj (L:=[5,7]) rfl (fun Z=>ad Z 2=.ptr 2 0∧ad Z 3=.ptr 3 0∧ad Z 6=.int .i64 h.d∧ad Z 5=.slice 4 0 0 none∧ad Z 7=.int .i64 0) (fun _ AC =>ad AC 5=.slice 5 0 n none) ?_;rintro Z S ⟨h2,h3,h6,h5,h7⟩;simp[ah,aE,f67] at hb;have M:aA [5,7] (ae b) Z ((5,FA 0)::(7,.int .i64 ((0:Nat):Int))::Z)=aA [5,7] (ae b) Z Z:=by simp[aA,h5,h7,FA]
 rw[←M];have l0:=Hts.afW y;have u:=eG h.closed;have o0:=gV h.closed;have e0:=fun f=>aO (ρ:=f) h.closed
 refine bz (α:=Nat) (fun i=>⟨aA [5,7] (ae b) Z ((5,FA i)::(7,.int .i64 (i:Int))::Z),Df h n k i,S⟩) (fun i=>n-i) (fun i=>i≤n) (.exit 0) _ S _ (by simp) ?_ K 0 (by omega) (by omega);intro i hi;clear M;subst hb;by_cases FS:i<n
 ·left
  have R:i%6<6:=Nat.mod_lt _ (by decide);have G:=Hts.ahJ y R;have o:=Hts.aiw y R;have O:=h.aix i;have hs:=h.ah2 i;have t6:((i:Int)).tmod 6=((i%6:Nat):Int):=rfl;obtain⟨r,hr⟩:=xE (i%6);rw[←hr] at R G o O t6;obtain⟨X,hX⟩:=xE (h.v.getD r 0);rw[←hX] at G o O;have q4:=A9 X 20 (by decide);simp only[Int.cast_ofNat_Int] at q4;obtain⟨x,j⟩:=xE (X.tmod 20);rw[←j] at O q4;unfold Bn at o;have g1:x.natAbs<100000000:=by omega
  have d1:0<h.d∧h.d<100000000:=by unfold Hts.d;split<;>omega
  obtain⟨D,hD⟩:=xE h.d;rw[←hD] at O d1 h6;obtain⟨d1,d2⟩:=d1;have w3:IntKind.i64.wrap X=X:=jN (by omega) (by omega);have w1:IntKind.i64.wrap ((i:Int)+1)=((i+1:Nat):Int):=by rw[af];omega
  have Y :(r:Int)<6:=by omega
  have j1:=cH G;obtain⟨C,W⟩:=xE h.cells;rw[←W] at l0 u o0 e0 G j1;obtain⟨z,hz⟩:=xE (hQ (h.z i));rw[←hz] at O;obtain⟨m,hm⟩:=xE (i+1);rw[←hm] at w1 hs;refine⟨m,?_⟩;have J:¬m=0:=by omega
  have V:qC (qH (h.l m))=qC (qH (h.l i))++[.str (ax z)]:=by rw[hs,hz];simp[qH,qC]
  by_cases U:i=0
  ·subst U
   have B:m=1:=by omega
   have w0:IntKind.i64.wrap 1=1:=rfl;have b0:qC (qH (h.l 0))=[]:=rfl;rw[b0,B,List.nil_append] at V;have I:r=0:=by omega
   subst I;have tj:Int.tmod 0 6=0:=rfl;simp[Df,FA,V,B,h2,h3,h6,FS,←W,j1,tj,l0,u,w0,w3,←j,g1,d1,d2,O,ag,ea];omega
  ·obtain⟨Q,N⟩:=xE (qH (h.l i))
   have H:(qC Q).length=i:=by rw[N,UT,Hts.agj]
   rw[←N] at V;have g3:(qC Q).take i=qC Q:=List.take_of_length_le (by omega);have g4:m*16≤140737488355328:=by omega
   have g5:m≤140737488355328:=by omega
   simp[Df,FA,U,J,V,←N,←hm,h2,h3,h6,FS,←W,G,t6,Y,u,w1,w3,←j,g1,g3,g4,g5,d1,d2,O,H,fV,kN,ag,ea];omega
 ·right
  have e:i=n:=by omega
  subst e;have U:¬i=0:=by omega
  simp[Df,FA,U,h2]
theorem NR(h:Hts)(y:h.Ok)(n k:Nat)(H:0<n)(I:n≤1000):
  kO prog 67 [.agg [.slice 0 0 n none,.slice 1 0 k none],.agg h.cells] [.qK,.qK] (.slice 2 0 n none) ([.qK,.qK]++[.cells true 1 (qC (qH (h.l n)))]):=by
 have G:aS prog 67=some f67:=by kernel_rfl
 obtain⟨b,O⟩:∃b,ah f67=[b]:=⟨_,rfl⟩
 obtain⟨F,U⟩:=GV (K:=n+5) h y n k H I (by omega) O;simp[ah,aE,f67] at O;subst O;have D:¬n=0:=by omega
 simp only[Df,if_true,if_neg D] at U;have Z:=fun N M h=>(U N M h).1
 have X:=fun N M h=>(U N M h).2
 clear U;have L:=Hts.afW y;have B:=eG h.closed;have u:=gV h.closed;have o:=fun f=>aO (ρ:=f) h.closed
 have S:=Hts.aha y;have V:=cH S;have R:h.d=if h.half then 2 else 1:=rfl
 obtain⟨C,m⟩:=xE h.cells;rw[←m] at L B u o S V Z ⊢;obtain⟨Q,hQ⟩:=xE (qH (h.l n));rw[←hQ] at Z ⊢;have j:C.take 7=C:=List.take_of_length_le (by omega);have h:aa (bh prog) (fun _=>[5,7]) (aS prog) (ag ea) (n+5) 67 [.agg [.slice 0 0 n none,.slice 1 0 k none],.agg C] [.qK,.qK]=some ⟨.slice 2 0 n none,none,[.cells true 1 (qC Q)]⟩:=by
  cases hf:h.half
  ·rw[hf] at R S V
   simp[aa,G,f67,L,V,Z,X,R,fV,kN]
  ·rw[hf] at R S V
   simp[aa,G,f67,L,V,Z,X,R,fV,kN]
 have:=(ar aj (aK _) vJ (aR _) h).1;simpa [y9.mem] using this
theorem Ru(h:Hts)(H:h.Ok)(n k:Nat)(y:0<n)(I:n≤1000)(M:Mem)(p t:Nat)(J:p<M.length)(W:t<M.length):
  kO prog 67 [.agg [.slice p 0 n none,.slice t 0 k none],.agg h.cells] M (.slice M.length 0 n none) (M++[.cells true 1 (qC (qH (h.l n)))]):=by
 have X:=fun f=>aO (ρ:=f) h.closed
 have:=kO.frame (M:=M) (new:=[.cells true 1 (qC (qH (h.l n)))]) (args:=[.agg [.slice 0 0 n none,.slice 1 0 k none],.agg h.cells]) [p,t] (m:=[.qK,.qK]) rfl (by simp[J,W]) (by simp[AV.afX,AV.under,bl h.closed]) (fun i s Z=>by
  match i with
  |0=>simp at Z;subst Z;trivial
  |1=>simp at Z;subst Z;trivial
  |i+2=>simp at Z) (by rfl) (NR h H n k y I)
 simpa [AV.af9,AV.ren,fj,afU.ren,kN,X] using this
theorem BP(q:Rat)(mem:Mem):kO prog 52 [.str (ax q)] mem (.int .i64 (fL q)) mem:=by
 have X:aS prog 52=some f52:=by kernel_rfl
 refine ao (aw _) ?_ mem;by_cases Z:q=0
 ·subst Z
  have:fL 0=0:=by decide
  simp[aa,X,f52,aY,this]
 ·have R:¬q.num=0:=fun e=>Z (ni.1 e)
  by_cases V:q.num<0
  ·have e:=jd V
   have U:(45::ax (-q)==[48])=false:=by rw[←e,aY];simpa using Z
   rw[e];simp[aa,X,f52,U,fL,kf,V]
  ·obtain⟨c,r,S,Q⟩:=kP (q:=q) (by omega)
   have U:(c::r==[48])=false:=by rw[←S,aY];simpa using Z
   have O:=eP Q;rw[S];simp[aa,X,f52,U,O,fL,kf,V,R]
noncomputable def xd(f:FuncId)(args:List AV):Option AV:=
 match f,args with
 |52,[.str s]=>match dY s with
  |some a=>some (.int .i64 (fL a))
  |none=>none
 |f,args=>ek f args
theorem OM:qS prog (ag xd):=bF fun f Z v h mem=>by
 unfold xd at h;split at h
 ·split at h
  next a X=>cases h;rw[az X];exact BP a mem
  ·cases h
 ·have:=gR.fn _ _ mem ⟨v,none,[]⟩ (by unfold ag;simp only;rw[h])
  simpa [y9.mem] using this
theorem YQ(z:Int): -(hQ z)=hQ (-z):=by
 rw[nf,nf,Rat.intCast_neg]
 grind
theorem ZB{z:Int}:hQ z<0↔z<0:=by
 rw[nf];constructor
 ·intro h
  have:(z:Rat)<0:=by grind
  exact_mod_cast this
 ·intro h
  have:(z:Rat)<0:=by exact_mod_cast h
  grind
theorem UK{q:Rat}:q.num<0↔q<0:=by
 have h:=Rat.num_nonneg (q:=q);constructor
 ·intro X
  exact Rat.not_le.1 fun Z=>by have:=h.2 Z;omega
 ·intro X
  have Z:¬0≤q:=Rat.not_le.2 X;have h3:¬0≤q.num:=fun h3=>Z (h.1 h3)
  omega
theorem Qv(q:Rat):fL q<0↔q.num<0:=by
 unfold fL kf;by_cases Z:q.num<0
 ·simp[Z]
 ·by_cases X:q.num=0
  ·simp[X]
  ·simp[Z,X]
theorem YS(z:Int):fL (hQ z)<0↔z<0:=by rw[Qv,UK,ZB]
theorem Rt(z:Int)(hz:z.natAbs<1000)(M:Mem):kO prog 69 [.str (ax (hQ z))] M (.str (ax (hQ z.natAbs))) M:=by
 have S:aS prog 69=some f69:=by kernel_rfl
 refine ao OM ?_ M;have l:=CZ hz;have X:=YS z;obtain⟨g,V⟩:=xE (fL (hQ z));rw[←V] at X;by_cases h:z<0
 ·have Z :g<0:=X.2 h
  have e: -(hQ z)=hQ (z.natAbs:Int):=by rw[YQ,show -z=(z.natAbs:Int) by omega]
  obtain⟨n,U⟩:=xE (α:=Int) (z.natAbs:Int);rw[←U] at e ⊢;simp[aa,S,f69,ag,xd,ek,ay,l,←V,Z,e]
 ·have Z :¬g<0:=fun R =>h (X.1 R)
  have e:z=(z.natAbs:Int):=by omega
  obtain⟨n,U⟩:=xE (α:=Int) (z.natAbs:Int);rw[←U] at e ⊢;simp[aa,S,f69,ag,xd,ay,←V,Z,←e]
def Zo:List AV→Option Hts
 | [.int .i8 a,.int .i8 b,.int .i8 c,.int .i8 d,.int .i8 e,.int .i8 f,.bool g]=>some ⟨[a,b,c,d,e,f],g⟩
 |_=>none
variable{h:Hts}
theorem oJ(y:h.Ok):Zo h.cells=some h:=by
 obtain⟨v,g⟩:=h;have Z:=y.len;simp only at Z
 match v,Z with
 | [a,b,c,d,e,f],_=>rfl
theorem Ug{cs:List AV}(e:Zo cs=some h):cs=h.cells:=by
 unfold Zo at e;split at e
 ·cases e;rfl
 ·cases e
open Classical in
noncomputable def fK:afF:=fun c Z M=>match c,Z with
 |.fn 67,[.agg [.slice p 0 n none,.slice t 0 _ none],.agg cs]=>match Zo cs with
  |some h=>if h.Ok∧0<n∧n≤1000∧p<M.length∧t<M.length then some ⟨.slice M.length 0 n none,none,[.cells true 1 (qC (qH (h.l n)))]⟩ else none
  |none=>none
 |.fn 69,[.str s]=>match dY s with
  |some q=>if q.den≤2∧(q*2).num.natAbs<1000∧q=hQ (q*2).num then some ⟨.str (ax (hQ (q*2).num.natAbs)),none,[]⟩ else none
  |none=>none
 |c,Z=>ag ek c Z M
theorem uO:qS prog fK:=by
 refine cf fun c X M r h=>?_
 unfold fK at h;split at h
 ·split at h
  ·rename_i S V
   split at h
   ·rename_i Z
    cases h;rw[Ug V];exact aC (Ru _ Z.1 _ _ Z.2.1 Z.2.2.1 M _ _ Z.2.2.2.1 Z.2.2.2.2)
   ·cases h
  ·cases h
 ·split at h
  ·rename_i q U
   split at h
   ·rename_i Z
    cases h;refine aC ?_;rw[List.append_nil,az U];have:=Rt (q*2).num Z.2.1 M;rw[←Z.2.2] at this;exact this
   ·cases h
  ·cases h
 ·exact dN gR h
theorem Ue(z:Int):(hQ z*2).num=z:=by
 have:hQ z*2=(z:Rat):=by rw[nf];grind
 rw[this];rfl
theorem DE(L:List Int):(qC (qH L)).length=L.length:=UT L
theorem US{L:List Int}{k:Nat}(h:k<L.length):(qC (qH L))[k]? =some (.str (ax (hQ (L.getD k 0)))):=by
 have Z:L[k]? =some (L.getD k 0):=by rw[List.getD_eq_getElem?_getD,List.getElem?_eq_getElem h];rfl
 exact Yc (by simp only[qH,List.getElem?_map,Z];rfl)
theorem Xm(z:Int):(hQ z).den≤2:=(HC z (by decide)).2
def nmE(c:UInt8):List UInt8:=[110,95,c]
def uNm:Nat→List (List UInt8)
 |1=>[nmE 97]
 |2=>[nmE 97,nmE 98]
 |_=>[nmE 97,nmE 98,nmE 99]
def iC(c:Code):List Nat:=if (ae c).contains 29 then [9,9,8] else [10,11]
theorem yP{X:Int}(y:Bn X):IntKind.i64.wrap (X.tmod 3+3)=X.tmod 3+3∧IntKind.i64.wrap (1+(X.tmod 3+3).tmod 3)=ct3 X:=by have h:=A9 X 3 (by decide);have Z:=A9 (X.tmod 3+3) 3 (by decide);simp only[Int.cast_ofNat_Int] at h Z;exact⟨af,af⟩
theorem IN(x:afO)(y:x.Ok)(n k:Nat)(H:0<n)(I:n≤1000)(J:ct3 (x.n 0)=1):
  kO prog 25 [.agg [.slice 0 0 n none,.slice 1 0 k none],.agg x.cells,.str [110]] [.qK,.qK] (.agg [.slice 2 0 n none,.slice 3 0 1 none,.qF]) ([.qK,.qK]++[.cells true 1 (qC (qH (x.base.l n))),.cells true 1 (stC (uNm 1))]):=by
 have Y:aS prog 25=some f25:=by kernel_rfl
 have M:=afO.afW y;have L:=eG x.closed;have W:=gV x.closed;have G:=fun f=>aO (ρ:=f) x.closed
 have V:=afO.afZ y (k:=0) (by decide);simp only[Nat.reduceAdd] at V;have S:=cH V;have U:=afO.agJ y;have R:=oJ y.base;have Z:=y.base;obtain⟨F,u⟩:=afO.agt y (k:=0) (by decide);obtain⟨w3,w4⟩:=yP ⟨F,u⟩;rw[J] at w4;obtain⟨C,hC⟩:=xE x.cells;rw[←hC] at M L W G V S U ⊢;obtain⟨X,hX⟩:=xE (x.n 0);rw[←hX] at V S w3 w4 F u;have wX:IntKind.i64.wrap X=X:=jN (by omega) (by omega);obtain⟨B,hB⟩:=xE x.base;rw[←hB] at U R Z ⊢;obtain⟨D,o⟩:=xE B.cells;rw[←o,List.drop_one] at U;rw[←o] at R;obtain⟨Q,hQ⟩:=xE (qC (qH (B.l n)));have Qr:∀n,AV.af6 n Q=[]:=fun n=>by rw[hQ,fV]
 have Qn:∀f,AV.af9 f Q=Q:=fun f=>by rw[hQ,kN]
 rw[←hQ];have tk:C.take 34=C:=List.take_of_length_le (by omega);obtain⟨m,O⟩:∃m,aG f25=m:=⟨_,rfl⟩
 have j:=cr O (ls:=[[0,1,0,0,0,24,56,124,252,511,1023,2047],[0,0,0,6,14,0,0,64,0,448,960,2016,0,8160,16352,32736,65534,131070,262143,524287]]) (by kernel_rfl);simp only[aG,bQ,f25,lA] at O;subst O;simp only[lB] at j;obtain⟨N,hb2⟩:=j;have h:aa (bh prog) iC (aS prog) fK 5 25 [.agg [.slice 0 0 n none,.slice 1 0 k none],.agg C,.str [110]] [.qK,.qK]=some ⟨.agg [.slice 2 0 n none,.slice 3 0 1 none,.qF],some [.qK,.qK],[.cells true 1 Q,.cells true 1 (stC (uNm 1))]⟩:=by simp (maxSteps:=3000000) [aa,Y,f25,iC,fK,M,L,G,S,U,R,Z,wX,w1,w3,w4,H,I,←hQ,Qr,Qn,aT,ga,-aH,bE N,dh,fu,fJ,dw,dE,jQ,bef,oO,Nat.testBit,bN,aF,uNm,nmE,stC,fm];exact⟨rfl,rfl⟩
 have:=(ar aj (aK _) uO (aR _) h).1;simpa [y9.mem] using this
def dq0(x:afO)(n k:Nat)(y:List Int)(i:Nat):Mem:=if i=0 then [.qK,.qK,.cells true 0 [.slice 0 0 n none,.slice 1 0 k none],.cells true 0 x.cells,.cells true 0 [.qF,.qF,.qF],.cells true 1 (qC (qH y)),.cells true 0 [.slice 5 0 n none,.slice 10 0 2 none,.qF],.qK,.cells true 1 [.str [95,97],.str [95,98],.str [95,99]],.cells true 1 [.str [110,95,98]],.cells true 1 [.str [110,95,97],.str [110,95,98]],.cells true 1 []] else [.qK,.qK,.cells true 0 [.slice 0 0 n none,.slice 1 0 k none],.cells true 0 x.cells,.cells true 0 [.qF,.qF,.qF],.cells true 1 (qC (qH y)),.cells true 0 [.slice 5 0 n none,.slice 10 0 2 none,.qF],.qK,.cells true 1 [.str [95,97],.str [95,98],.str [95,99]],.cells true 1 [.str [110,95,98]],.cells true 1 [.str [110,95,97],.str [110,95,98]],.qK,.cells true 1 (qC (qH (upL x.s0 y i)))]
def YC(i:Nat):AV:=if i=0 then .slice 11 0 0 none else .slice 12 0 i none
theorem BV(x:afO)(hx:x.Ok)(n k:Nat)(H:List Int)(hL:H.length=n)(hb9:∀z∈H,z.natAbs≤300)(hn0:0<n)(hl:n≤1000)(hK:n<K){b2:Code}(I:ah f25=[b2,b]):
  ∃F:Env→Bool→Env,∀Z S,(ad Z 3=.ptr 2 0∧ad Z 4=.ptr 3 0∧ad Z 8=.slice 5 0 n none∧ad Z 9=.int .i64 1∧ad Z 10=.slice 11 0 0 none∧ad Z 11=.int .i64 0)→
   aW (bh prog) iC fK K 78 2 true (.loop b) ⟨Z,dq0 x n k H 0,S⟩=some (.exit 2,⟨F Z S,dq0 x n k H n,S⟩)∧ad (F Z S) 10=.slice 12 0 n none∧
    (∀t,t∈[2,3,4,6,7,8,9]→ad (F Z S) t=ad Z t):=by
 refine bj (L:=[10,11]) (by simp[ah,aE,f25] at I;rw[←I.2];rfl) (fun Z=>ad Z 3=.ptr 2 0∧ad Z 4=.ptr 3 0∧ad Z 8=.slice 5 0 n none∧ad Z 9=.int .i64 1∧ad Z 10=.slice 11 0 0 none∧ad Z 11=.int .i64 0) (fun Z AC =>ad AC 10=.slice 12 0 n none∧(∀t,t∈[2,3,4,6,7,8,9]→ad AC t=ad Z t)) ?_;rintro Z S ⟨h3,h4,h8,h9,h10,h11⟩;obtain⟨os,D'⟩:∃os,aG f25=os:=⟨_,rfl⟩
 have PP:=cr D' (ls:=[[0,1,0,0,0,24,56,124,252,511,1023,2047],[0,0,0,6,14,0,0,64,0,448,960,2016,0,8160,16352,32736,65534,131070,262143,524287]]) (by kernel_rfl);simp only[aG,bQ,f25,lA] at D';subst D';simp only[lB] at PP;obtain⟨-,Y⟩:=PP;simp[ah,aE,f25] at I;obtain⟨-,I⟩:=I;have W:aA [10,11] (ae b) Z ((10,YC 0)::(11,.int .i64 ((0:Nat):Int))::Z)=aA [10,11] (ae b) Z Z:=by simp[aA,h10,h11,YC]
 rw[←W];have hm1:(dq0 x n k H 0).length=12:=rfl;have l0:=afO.afW hx;have r0:=eG x.closed;have o0:=gV x.closed;have e0:=fun f=>aO (ρ:=f) x.closed
 have J:=afO.ahu hx;have hP:=oJ hx.s0;have O:=hx.s0;have tk:x.cells.take 34=x.cells:=List.take_of_length_le (by omega);refine bz (α:=Nat) (fun i=>⟨aA [10,11] (ae b) Z ((10,YC i)::(11,.int .i64 (i:Int))::Z),dq0 x n k H i,S⟩) (fun i=>n-i) (fun i=>i≤n) (.exit 2) _ S _ (by simp) ?_ K 0 (by omega) (by omega);intro i hi;clear W;subst I;by_cases FS:i<n
 ·left
  have k1:=US (L:=H) (k:=i) (by omega);have hzl:(H.getD i 0).natAbs≤300:=hb9 _ (qs (by omega));have hs:=QE x.s0 H i;have hzz:=x.s0.ahH i;have k2:=US (L:=x.s0.l n) (k:=i) (by rw[Hts.agj];exact FS);have gl:(x.s0.l n).getD i 0=x.s0.z i:=by simp[Hts.l,List.getD_eq_getElem?_getD,FS]
  rw[gl] at k2;have V:=DE (x.s0.l n);rw[Hts.agj] at V;obtain⟨R,j⟩:=xE (qC (qH (x.s0.l n)));rw[←j] at k2 V;have Rr:∀n,AV.af6 n R=[]:=fun n=>by rw[j,fV]
  have Ro:∀f,AV.afV f R=true:=fun f=>by rw[j,UR]
  obtain⟨z,hz⟩:=xE (H.getD i 0);rw[←hz] at k1 hzl hs;obtain⟨y,hy⟩:=xE (x.s0.z i);rw[←hy] at k2 hzz hs;have N:=Xl z (y.natAbs:Int);have l1:=CZ (z:=z) (by omega);have l2:=CZ (z:=(y.natAbs:Int)) (by omega);have acf:=Ue y;have hd2:=Xm y;have M:y.natAbs<1000:=by omega
  have G :=DE H;rw[hL] at G;have k1' :=cH k1;have k2' :=cH k2;have w1:IntKind.i64.wrap ((i:Int)+1)=((i+1:Nat):Int):=by rw[af];omega
  obtain⟨m,hm⟩:=xE (i+1);rw[←hm] at w1 hs;refine⟨m,?_⟩;have hmp:¬m=0:=by omega
  have X:qC (qH (upL x.s0 H m))=qC (qH (upL x.s0 H i))++[.str (ax (hQ (z+(y.natAbs:Int))))]:=by rw[hs];simp[qH,qC]
  obtain⟨B,hB⟩:=xE x.s0;rw[←hB] at J hP O j X;obtain⟨D,hD⟩:=xE B.cells;have Dr:∀n,AV.af6 n D=[]:=fun n=>by rw[hD];exact eG B.closed n
  have Do:∀f,AV.afV f D=true:=fun f=>by rw[hD];exact gV B.closed f
  rw[←hD] at J hP;obtain⟨C,hC⟩:=xE x.cells;rw[←hC] at l0 r0 o0 e0 J tk;obtain⟨y',u⟩:=xE y.natAbs;rw[←u] at N l2 X M;have w0:IntKind.i64.wrap 1=1:=rfl;have w00:IntKind.i64.wrap 0=0:=rfl;by_cases U:i=0
  ·subst U
   have hm0:m=1:=by omega
   have b0:qC (qH (upL B H 0))=[]:=rfl;rw[b0,hm0,List.nil_append] at X;simp (maxSteps:=1000000) [dq0,YC,X,hm0,h3,h4,h8,h9,FS,hl,←hB,←hC,←j,k1',k2',l0,r0,J,hP,O,Ro,Do,V,w0,w00,l1,l2,N,acf,hd2,←u,M,ay,fV,G,fK,ag,ek,-aH,bE Y,dh,fu,fJ,dw,dE,jQ,bef,oO,Nat.testBit];omega
  ·obtain⟨Q,o⟩:=xE (qH (upL B H i))
   have hQl:(qC Q).length=i:=by rw[o,DE,gF]
   rw[←o] at X;have g3:(qC Q).take i=qC Q:=List.take_of_length_le (by omega);have g4:m*16≤140737488355328:=by omega
   have g5:m≤140737488355328:=by omega
   simp (maxSteps:=1000000) [dq0,YC,U,hmp,X,←o,←hm,h3,h4,h8,h9,FS,hn0,hl,←hB,←hC,←j,k1',k2',l0,r0,J,hP,O,Ro,Do,V,w00,w1,l1,l2,N,acf,hd2,←u,M,g3,g4,g5,hQl,ay,fV,kN,UR,G,fK,ag,ek,-aH,bE Y,dh,fu,fJ,dw,dE,jQ,bef,oO,Nat.testBit];omega
 ·right
  have e:i=n:=by omega
  subst e;have U:¬i=0:=by omega
  simp[dq0,YC,U,h8]
end Go.Proofs
