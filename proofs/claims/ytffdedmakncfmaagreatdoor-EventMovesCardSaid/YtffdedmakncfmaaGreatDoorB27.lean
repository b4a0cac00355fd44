/- See B54. -/
import Derived.Test.YtffdedmakncfmaaGreatDoorB26
set_option linter.all false
set_option maxRecDepth 100000
set_option maxHeartbeats 40000000
namespace Go.Proofs
open Go.Eng
open Tryz
def EJ(j:Nat):AV:=if j=0 then .slice 4 0 0 none else .slice 5 0 j none
def Cl(h:Hts)(n k j:Nat):Mem:=if j=0 then [.qK,.qK,.cells true 0 [.slice 0 0 n none,.slice 1 0 k none],.cells true 0 h.cells,.cells true 1 []] else [.qK,.qK,.cells true 0 [.slice 0 0 n none,.slice 1 0 k none],.cells true 0 h.cells,.qK,.cells true 1 (qC (qH (h.l j)))]
theorem Tv(L:List Int):(qC (qH L)).length=L.length:=by rw[LD];simp[qH]
variable{K:Nat}{b:Code}
theorem F5(h:Hts)(y:h.Ok)(n k:Nat)(Yi:0<n)(hl:n≤1000)(hK:n<K)(H:ah f67=[b]):
  ∃F:Env→Bool→Env,∀Z V,(ab Z 2=.ptr 2 0∧ab Z 3=.ptr 3 0∧ab Z 6=.int .i64 h.d∧ab Z 5=.slice 4 0 0 none∧ab Z 7=.int .i64 0)→
   bh (ba prog) (fun _=>[5,7]) (af dV) K 31 2 true (.loop b) ⟨Z,Cl h n k 0,V⟩=some (.exit 0,⟨F Z V,Cl h n k n,V⟩)∧ab (F Z V) 5=.slice 5 0 n none:=by
 refine bj (L:=[5,7]) rfl (fun Z=>ab Z 2=.ptr 2 0∧ab Z 3=.ptr 3 0∧ab Z 6=.int .i64 h.d∧ab Z 5=.slice 4 0 0 none∧ab Z 7=.int .i64 0) (fun _ AC =>ab AC 5=.slice 5 0 n none) ?_;rintro Z V ⟨h2,h3,h6,h5,h7⟩;simp[ah,aE,f67] at H;have O:ay [5,7] (ad b) Z ((5,EJ 0)::(7,.int .i64 ((0:Nat):Int))::Z)=ay [5,7] (ad b) Z Z:=by simp[ay,h5,h7,EJ]
 rw[←O];have l0:=Hts.afc y;have B:=cp h.closed;have o0:=dc h.closed;have e0:=fun f=>aM (ρ:=f) h.closed
 refine bx (α:=Nat) (fun i=>⟨ay [5,7] (ad b) Z ((5,EJ i)::(7,.int .i64 (i:Int))::Z),Cl h n k i,V⟩) (fun i=>n-i) (fun i=>i≤n) (.exit 0) _ V _ (by simp) ?_ K 0 (by omega) (by omega);intro i hi;clear O;subst H;by_cases B':i<n
 ·left
  have U:i%6<6:=Nat.mod_lt _ (by decide);have N:=Hts.ag2 y U;have u:=Hts.ahN y U;have S:=h.ahO i;have hs:=h.ahm i;have t6:((i:Int)).tmod 6=((i%6:Nat):Int):=rfl;obtain⟨r,hr⟩:=xE (i%6);rw[←hr] at U N u S t6;obtain⟨X,hX⟩:=xE (h.v.getD r 0);rw[←hX] at N u S;have q4:=Am X 20 (by decide);simp only[Int.cast_ofNat_Int] at q4;obtain⟨x,o⟩:=xE (X.tmod 20);rw[←o] at S q4;unfold AD at u;have g1:x.natAbs<100000000:=by omega
  have d1:0<h.d∧h.d<100000000:=by unfold Hts.d;split<;>omega
  obtain⟨D,hD⟩:=xE h.d;rw[←hD] at S d1 h6;obtain⟨d1,d2⟩:=d1;have w3:IntKind.i64.wrap X=X:=ji (by omega) (by omega);have w1:IntKind.i64.wrap ((i:Int)+1)=((i+1:Nat):Int):=by rw[ae];omega
  have j :(r:Int)<6:=by omega
  have j1:=cE N;obtain⟨C,Y⟩:=xE h.cells;rw[←Y] at l0 B o0 e0 N j1;obtain⟨z,hz⟩:=xE (hQ (h.z i));rw[←hz] at S;obtain⟨m,hm⟩:=xE (i+1);rw[←hm] at w1 hs;refine⟨m,?_⟩;have W:¬m=0:=by omega
  have M:qC (qH (h.l m))=qC (qH (h.l i))++[.str (aB z)]:=by rw[hs,hz];simp[qH,qC]
  by_cases G:i=0
  ·subst G
   have Yn:m=1:=by omega
   have w0:IntKind.i64.wrap 1=1:=rfl;have b0:qC (qH (h.l 0))=[]:=rfl;rw[b0,Yn,List.nil_append] at M;have J:r=0:=by omega
   subst J;have tj:Int.tmod 0 6=0:=rfl;simp[Cl,EJ,M,Yn,h2,h3,h6,B',←Y,j1,tj,l0,B,w0,w3,←o,g1,d1,d2,S,af,dV];omega
  ·obtain⟨Q,R⟩:=xE (qH (h.l i))
   have I:(qC Q).length=i:=by rw[R,Tv,Hts.afB]
   rw[←R] at M;have g3:(qC Q).take i=qC Q:=List.take_of_length_le (by omega);have g4:m*16≤140737488355328:=by omega
   have g5:m≤140737488355328:=by omega
   simp[Cl,EJ,G,W,M,←R,←hm,h2,h3,h6,B',←Y,N,t6,j,B,w1,w3,←o,g1,g3,g4,g5,d1,d2,S,I,fM,j9,af,dV];omega
 ·right
  have e:i=n:=by omega
  subst e;have G:¬i=0:=by omega
  simp[Cl,EJ,G,h2]
theorem MN(h:Hts)(y:h.Ok)(n k:Nat)(H:0<n)(I:n≤1000):
  kO prog 67 [.agg [.slice 0 0 n none,.slice 1 0 k none],.agg h.cells] [.qK,.qK] (.slice 2 0 n none) ([.qK,.qK]++[.cells true 1 (qC (qH (h.l n)))]):=by
 have L:aT prog 67=some f67:=by kernel_rfl
 obtain⟨b,R⟩:∃b,ah f67=[b]:=⟨_,rfl⟩
 obtain⟨F,X⟩:=F5 (K:=n+5) h y n k H I (by omega) R;simp[ah,aE,f67] at R;subst R;have D:¬n=0:=by omega
 simp only[Cl,if_true,if_neg D] at X;have V:=fun O N h=>(X O N h).1
 have G:=fun O N h=>(X O N h).2
 clear X;have M:=Hts.afc y;have B:=cp h.closed;have u:=dc h.closed;have o:=fun f=>aM (ρ:=f) h.closed
 have U:=Hts.agq y;have Z:=cE U;have S:h.d=if h.half then 2 else 1:=rfl
 obtain⟨C,m⟩:=xE h.cells;rw[←m] at M B u o U Z V ⊢;obtain⟨Q,hQ⟩:=xE (qH (h.l n));rw[←hQ] at V ⊢;have j:C.take 7=C:=List.take_of_length_le (by omega);have h:aa (ba prog) (fun _=>[5,7]) (aT prog) (af dV) (n+5) 67 [.agg [.slice 0 0 n none,.slice 1 0 k none],.agg C] [.qK,.qK]=some ⟨.slice 2 0 n none,none,[.cells true 1 (qC Q)]⟩:=by
  cases hf:h.half
  ·rw[hf] at S U Z
   simp[aa,L,f67,M,Z,V,G,S,fM,j9]
  ·rw[hf] at S U Z
   simp[aa,L,f67,M,Z,V,G,S,fM,j9]
 have:=(ar aj (aI _) ux (aP _) h).1;simpa [y9.mem] using this
theorem P5(h:Hts)(y:h.Ok)(n k:Nat)(H:0<n)(I:n≤1000)(M:Mem)(p t:Nat)(J:p<M.length)(W:t<M.length):
  kO prog 67 [.agg [.slice p 0 n none,.slice t 0 k none],.agg h.cells] M (.slice M.length 0 n none) (M++[.cells true 1 (qC (qH (h.l n)))]):=by
 have X:=fun f=>aM (ρ:=f) h.closed
 have:=kO.frame (M:=M) (new:=[.cells true 1 (qC (qH (h.l n)))]) (args:=[.agg [.slice 0 0 n none,.slice 1 0 k none],.agg h.cells]) [p,t] (m:=[.qK,.qK]) rfl (by simp[J,W]) (by simp[AV.afd,AV.under,aX h.closed]) (fun i s Z=>by
  match i with
  |0=>simp at Z;subst Z;trivial
  |1=>simp at Z;subst Z;trivial
  |i+2=>simp at Z) (by rfl) (MN h y n k H I)
 simpa [AV.afp,AV.ren,eL,afb.ren,j9,X] using this
theorem A6(q:Rat)(mem:Mem):kO prog 52 [.str (aB q)] mem (.int .i64 (nQ q)) mem:=by
 have X:aT prog 52=some f52:=by kernel_rfl
 refine ao (ax _) ?_ mem;by_cases Z:q=0
 ·subst Z
  have:nQ 0=0:=by decide
  simp[aa,X,f52,aV,this]
 ·have R:¬q.num=0:=fun e=>Z (mu.1 e)
  by_cases V:q.num<0
  ·have e:=iz V
   have U:(45::aB (-q)==[48])=false:=by rw[←e,aV];simpa using Z
   rw[e];simp[aa,X,f52,U,nQ,kg,V]
  ·obtain⟨c,r,S,Q⟩:=kc (q:=q) (by omega)
   have U:(c::r==[48])=false:=by rw[←S,aV];simpa using Z
   have O:=eG Q;rw[S];simp[aa,X,f52,U,O,nQ,kg,V,R]
noncomputable def vN(f:FuncId)(args:List AV):Option AV:=
 match f,args with
 |52,[.str s]=>match ef s with
  |some a=>some (.int .i64 (nQ a))
  |none=>none
 |f,args=>eg f args
theorem NC:qS prog (af vN):=bH fun f Z v h mem=>by
 unfold vN at h;split at h
 ·split at h
  next a X=>cases h;rw[aC X];exact A6 a mem
  ·cases h
 ·have:=gw.fn _ _ mem ⟨v,none,[]⟩ (by unfold af;simp only;rw[h])
  simpa [y9.mem] using this
theorem WV(z:Int): -(hQ z)=hQ (-z):=by
 rw[mq,mq,Rat.intCast_neg]
 grind
theorem XB{z:Int}:hQ z<0↔z<0:=by
 rw[mq];constructor
 ·intro h
  have:(z:Rat)<0:=by grind
  exact_mod_cast this
 ·intro h
  have:(z:Rat)<0:=by exact_mod_cast h
  grind
theorem Tj{q:Rat}:q.num<0↔q<0:=by
 have h:=Rat.num_nonneg (q:=q);constructor
 ·intro X
  exact Rat.not_le.1 fun Z=>by have:=h.2 Z;omega
 ·intro X
  have Z:¬0≤q:=Rat.not_le.2 X;have h3:¬0≤q.num:=fun h3=>Z (h.1 h3)
  omega
theorem O8(q:Rat):nQ q<0↔q.num<0:=by
 unfold nQ kg;by_cases Z:q.num<0
 ·simp[Z]
 ·by_cases X:q.num=0
  ·simp[X]
  ·simp[Z,X]
theorem WX(z:Int):nQ (hQ z)<0↔z<0:=by rw[O8,Tj,XB]
theorem P4(z:Int)(hz:z.natAbs<1000)(M:Mem):kO prog 69 [.str (aB (hQ z))] M (.str (aB (hQ z.natAbs))) M:=by
 have S:aT prog 69=some f69:=by kernel_rfl
 refine ao NC ?_ M;have l:=Ca hz;have X:=WX z;obtain⟨g,V⟩:=xE (nQ (hQ z));rw[←V] at X;by_cases h:z<0
 ·have Z :g<0:=X.2 h
  have e: -(hQ z)=hQ (z.natAbs:Int):=by rw[WV,show -z=(z.natAbs:Int) by omega]
  obtain⟨n,U⟩:=xE (α:=Int) (z.natAbs:Int);rw[←U] at e ⊢;simp[aa,S,f69,af,vN,eg,az,l,←V,Z,e]
 ·have Z :¬g<0:=fun R =>h (X.1 R)
  have e:z=(z.natAbs:Int):=by omega
  obtain⟨n,U⟩:=xE (α:=Int) (z.natAbs:Int);rw[←U] at e ⊢;simp[aa,S,f69,af,vN,az,←V,Z,←e]
def Xo:List AV→Option Hts
 | [.int .i8 a,.int .i8 b,.int .i8 c,.int .i8 d,.int .i8 e,.int .i8 f,.bool g]=>some ⟨[a,b,c,d,e,f],g⟩
 |_=>none
variable{h:Hts}
theorem nn(y:h.Ok):Xo h.cells=some h:=by
 obtain⟨v,g⟩:=h;have Z:=y.len;simp only at Z
 match v,Z with
 | [a,b,c,d,e,f],_=>rfl
theorem SC{cs:List AV}(e:Xo cs=some h):cs=h.cells:=by
 unfold Xo at e;split at e
 ·cases e;rfl
 ·cases e
open Classical in
noncomputable def fh:ae3:=fun c Z M=>match c,Z with
 |.fn 67,[.agg [.slice p 0 n none,.slice t 0 _ none],.agg cs]=>match Xo cs with
  |some h=>if h.Ok∧0<n∧n≤1000∧p<M.length∧t<M.length then some ⟨.slice M.length 0 n none,none,[.cells true 1 (qC (qH (h.l n)))]⟩ else none
  |none=>none
 |.fn 69,[.str s]=>match ef s with
  |some q=>if q.den≤2∧(q*2).num.natAbs<1000∧q=hQ (q*2).num then some ⟨.str (aB (hQ (q*2).num.natAbs)),none,[]⟩ else none
  |none=>none
 |c,Z=>af eg c Z M
theorem tK:qS prog fh:=by
 refine bZ fun c X M r h=>?_
 unfold fh at h;split at h
 ·split at h
  ·rename_i S V
   split at h
   ·rename_i Z
    cases h;rw[SC V];exact aw (P5 _ Z.1 _ _ Z.2.1 Z.2.2.1 M _ _ Z.2.2.2.1 Z.2.2.2.2)
   ·cases h
  ·cases h
 ·split at h
  ·rename_i q U
   split at h
   ·rename_i Z
    cases h;refine aw ?_;rw[List.append_nil,aC U];have:=P4 (q*2).num Z.2.1 M;rw[←Z.2.2] at this;exact this
   ·cases h
  ·cases h
 ·exact dr gw h
theorem SB(z:Int):(hQ z*2).num=z:=by
 have:hQ z*2=(z:Rat):=by rw[mq];grind
 rw[this];rfl
theorem CI(L:List Int):(qC (qH L)).length=L.length:=Tv L
theorem Tu{L:List Int}{k:Nat}(h:k<L.length):(qC (qH L))[k]? =some (.str (aB (hQ (L.getD k 0)))):=by
 have Z:L[k]? =some (L.getD k 0):=by rw[List.getD_eq_getElem?_getD,List.getElem?_eq_getElem h];rfl
 exact Wm (by simp only[qH,List.getElem?_map,Z];rfl)
theorem VJ(z:Int):(hQ z).den≤2:=(GL z (by decide)).2
def nmE(c:UInt8):List UInt8:=[110,95,c]
def uNm:Nat→List (List UInt8)
 |1=>[nmE 97]
 |2=>[nmE 97,nmE 98]
 |_=>[nmE 97,nmE 98,nmE 99]
def ia(c:Code):List Nat:=if (ad c).contains 29 then [9,9,8] else [10,11]
theorem xS{X:Int}(y:AD X):IntKind.i64.wrap (X.tmod 3+3)=X.tmod 3+3∧IntKind.i64.wrap (1+(X.tmod 3+3).tmod 3)=ct3 X:=by have h:=Am X 3 (by decide);have Z:=Am (X.tmod 3+3) 3 (by decide);simp only[Int.cast_ofNat_Int] at h Z;exact⟨ae,ae⟩
theorem HS(x:ae4)(y:x.Ok)(n k:Nat)(H:0<n)(I:n≤1000)(J:ct3 (x.n 0)=1):
  kO prog 25 [.agg [.slice 0 0 n none,.slice 1 0 k none],.agg x.cells,.str [110]] [.qK,.qK] (.agg [.slice 2 0 n none,.slice 3 0 1 none,.qF]) ([.qK,.qK]++[.cells true 1 (qC (qH (x.base.l n))),.cells true 1 (stC (uNm 1))]):=by
 have Y:aT prog 25=some f25:=by kernel_rfl
 have M:=ae4.afc y;have L:=cp x.closed;have W:=dc x.closed;have G:=fun f=>aM (ρ:=f) x.closed
 have V:=ae4.aff y (k:=0) (by decide);simp only[Nat.reduceAdd] at V;have S:=cE V;have U:=ae4.afZ y;have R:=nn y.base;have Z:=y.base;obtain⟨F,u⟩:=ae4.afK y (k:=0) (by decide);obtain⟨w3,w4⟩:=xS ⟨F,u⟩;rw[J] at w4;obtain⟨C,hC⟩:=xE x.cells;rw[←hC] at M L W G V S U ⊢;obtain⟨X,hX⟩:=xE (x.n 0);rw[←hX] at V S w3 w4 F u;have wX:IntKind.i64.wrap X=X:=ji (by omega) (by omega);obtain⟨B,hB⟩:=xE x.base;rw[←hB] at U R Z ⊢;obtain⟨D,o⟩:=xE B.cells;rw[←o,List.drop_one] at U;rw[←o] at R;obtain⟨Q,hQ⟩:=xE (qC (qH (B.l n)));have Qr:∀n,AV.afm n Q=[]:=fun n=>by rw[hQ,fM]
 have Qn:∀f,AV.afp f Q=Q:=fun f=>by rw[hQ,j9]
 rw[←hQ];have tk:C.take 34=C:=List.take_of_length_le (by omega);obtain⟨m,O⟩:∃m,aJ f25=m:=⟨_,rfl⟩
 have j:=cw O (ls:=[[0,1,0,0,0,24,56,124,252,511,1023,2047],[0,0,0,6,14,0,0,64,0,448,960,2016,0,8160,16352,32736,65534,131070,262143,524287]]) (by kernel_rfl);simp only[aJ,bU,f25,lA] at O;subst O;simp only[lB] at j;obtain⟨N,YL⟩:=j;have h:aa (ba prog) ia (aT prog) fh 5 25 [.agg [.slice 0 0 n none,.slice 1 0 k none],.agg C,.str [110]] [.qK,.qK]=some ⟨.agg [.slice 2 0 n none,.slice 3 0 1 none,.qF],some [.qK,.qK],[.cells true 1 Q,.cells true 1 (stC (uNm 1))]⟩:=by simp (maxSteps:=3000000) [aa,Y,f25,ia,fh,M,L,G,S,U,R,Z,wX,w1,w3,w4,H,I,←hQ,Qr,Qn,bp,gi,-aK,bT N,dG,dP,fQ,dJ,dT,kk,bef,lQ,Nat.testBit,bW,aH,uNm,nmE,stC,eR];exact⟨rfl,rfl⟩
 have:=(ar aj (aI _) tK (aP _) h).1;simpa [y9.mem] using this
def dq0(x:ae4)(n k:Nat)(y:List Int)(i:Nat):Mem:=if i=0 then [.qK,.qK,.cells true 0 [.slice 0 0 n none,.slice 1 0 k none],.cells true 0 x.cells,.cells true 0 [.qF,.qF,.qF],.cells true 1 (qC (qH y)),.cells true 0 [.slice 5 0 n none,.slice 10 0 2 none,.qF],.qK,.cells true 1 [.str [95,97],.str [95,98],.str [95,99]],.cells true 1 [.str [110,95,98]],.cells true 1 [.str [110,95,97],.str [110,95,98]],.cells true 1 []] else [.qK,.qK,.cells true 0 [.slice 0 0 n none,.slice 1 0 k none],.cells true 0 x.cells,.cells true 0 [.qF,.qF,.qF],.cells true 1 (qC (qH y)),.cells true 0 [.slice 5 0 n none,.slice 10 0 2 none,.qF],.qK,.cells true 1 [.str [95,97],.str [95,98],.str [95,99]],.cells true 1 [.str [110,95,98]],.cells true 1 [.str [110,95,97],.str [110,95,98]],.qK,.cells true 1 (qC (qH (upL x.s0 y i)))]
def WJ(i:Nat):AV:=if i=0 then .slice 11 0 0 none else .slice 12 0 i none
theorem Bc(x:ae4)(hx:x.Ok)(n k:Nat)(H:List Int)(hL:H.length=n)(hb9:∀z∈H,z.natAbs≤300)(Yi:0<n)(hl:n≤1000)(hK:n<K){b2:Code}(I:ah f25=[b2,b]):
  ∃F:Env→Bool→Env,∀Z V,(ab Z 3=.ptr 2 0∧ab Z 4=.ptr 3 0∧ab Z 8=.slice 5 0 n none∧ab Z 9=.int .i64 1∧ab Z 10=.slice 11 0 0 none∧ab Z 11=.int .i64 0)→
   bh (ba prog) ia fh K 78 2 true (.loop b) ⟨Z,dq0 x n k H 0,V⟩=some (.exit 2,⟨F Z V,dq0 x n k H n,V⟩)∧ab (F Z V) 10=.slice 12 0 n none∧
    (∀t,t∈[2,3,4,6,7,8,9]→ab (F Z V) t=ab Z t):=by
 refine bj (L:=[10,11]) (by simp[ah,aE,f25] at I;rw[←I.2];rfl) (fun Z=>ab Z 3=.ptr 2 0∧ab Z 4=.ptr 3 0∧ab Z 8=.slice 5 0 n none∧ab Z 9=.int .i64 1∧ab Z 10=.slice 11 0 0 none∧ab Z 11=.int .i64 0) (fun Z AC =>ab AC 10=.slice 12 0 n none∧(∀t,t∈[2,3,4,6,7,8,9]→ab AC t=ab Z t)) ?_;rintro Z V ⟨h3,h4,h8,h9,YT,h11⟩;obtain⟨os,A'⟩:∃os,aJ f25=os:=⟨_,rfl⟩
 have IR:=cw A' (ls:=[[0,1,0,0,0,24,56,124,252,511,1023,2047],[0,0,0,6,14,0,0,64,0,448,960,2016,0,8160,16352,32736,65534,131070,262143,524287]]) (by kernel_rfl);simp only[aJ,bU,f25,lA] at A';subst A';simp only[lB] at IR;obtain⟨-,YL⟩:=IR;simp[ah,aE,f25] at I;obtain⟨-,I⟩:=I;have o:ay [10,11] (ad b) Z ((10,WJ 0)::(11,.int .i64 ((0:Nat):Int))::Z)=ay [10,11] (ad b) Z Z:=by simp[ay,YT,h11,WJ]
 rw[←o];have Yu:(dq0 x n k H 0).length=12:=rfl;have l0:=ae4.afc hx;have r0:=cp x.closed;have o0:=dc x.closed;have e0:=fun f=>aM (ρ:=f) x.closed
 have j:=ae4.agO hx;have hP:=nn hx.s0;have U:=hx.s0;have tk:x.cells.take 34=x.cells:=List.take_of_length_le (by omega);refine bx (α:=Nat) (fun i=>⟨ay [10,11] (ad b) Z ((10,WJ i)::(11,.int .i64 (i:Int))::Z),dq0 x n k H i,V⟩) (fun i=>n-i) (fun i=>i≤n) (.exit 2) _ V _ (by simp) ?_ K 0 (by omega) (by omega);intro i hi;clear o;subst I;by_cases B':i<n
 ·left
  have k1:=Tu (L:=H) (k:=i) (by omega);have hzl:(H.getD i 0).natAbs≤300:=hb9 _ (sF (by omega));have hs:=Pg x.s0 H i;have hzz:=x.s0.aha i;have k2:=Tu (L:=x.s0.l n) (k:=i) (by rw[Hts.afB];exact B');have gl:(x.s0.l n).getD i 0=x.s0.z i:=by simp[Hts.l,List.getD_eq_getElem?_getD,B']
  rw[gl] at k2;have X:=CI (x.s0.l n);rw[Hts.afB] at X;obtain⟨R,G⟩:=xE (qC (qH (x.s0.l n)));rw[←G] at k2 X;have Rr:∀n,AV.afm n R=[]:=fun n=>by rw[G,fM]
  have Ro:∀f,AV.afa f R=true:=fun f=>by rw[G,Tt]
  obtain⟨z,hz⟩:=xE (H.getD i 0);rw[←hz] at k1 hzl hs;obtain⟨y,hy⟩:=xE (x.s0.z i);rw[←hy] at k2 hzz hs;have S:=VI z (y.natAbs:Int);have l1:=Ca (z:=z) (by omega);have l2:=Ca (z:=(y.natAbs:Int)) (by omega);have Y:=SB y;have W:=VJ y;have O:y.natAbs<1000:=by omega
  have N :=CI H;rw[hL] at N;have J :=cE k1;have k2' :=cE k2;have w1:IntKind.i64.wrap ((i:Int)+1)=((i+1:Nat):Int):=by rw[ae];omega
  obtain⟨m,hm⟩:=xE (i+1);rw[←hm] at w1 hs;refine⟨m,?_⟩;have hmp:¬m=0:=by omega
  have u:qC (qH (upL x.s0 H m))=qC (qH (upL x.s0 H i))++[.str (aB (hQ (z+(y.natAbs:Int))))]:=by rw[hs];simp[qH,qC]
  obtain⟨B,hB⟩:=xE x.s0;rw[←hB] at j hP U G u;obtain⟨D,hD⟩:=xE B.cells;have Dr:∀n,AV.afm n D=[]:=fun n=>by rw[hD];exact cp B.closed n
  have Do:∀f,AV.afa f D=true:=fun f=>by rw[hD];exact dc B.closed f
  rw[←hD] at j hP;obtain⟨C,hC⟩:=xE x.cells;rw[←hC] at l0 r0 o0 e0 j tk;obtain⟨y',Y7⟩:=xE y.natAbs;rw[←Y7] at S l2 u O;have w0:IntKind.i64.wrap 1=1:=rfl;have w00:IntKind.i64.wrap 0=0:=rfl;by_cases Z0:i=0
  ·subst Z0
   have Yn:m=1:=by omega
   have b0:qC (qH (upL B H 0))=[]:=rfl;rw[b0,Yn,List.nil_append] at u;simp (maxSteps:=1000000) [dq0,WJ,u,Yn,h3,h4,h8,h9,B',hl,←hB,←hC,←G,J,k2',l0,r0,j,hP,U,Ro,Do,X,w0,w00,l1,l2,S,Y,W,←Y7,O,az,fM,N,fh,af,eg,-aK,bT YL,dG,dP,fQ,dJ,dT,kk,bef,lQ,Nat.testBit];omega
  ·obtain⟨Q,M⟩:=xE (qH (upL B H i))
   have hQl:(qC Q).length=i:=by rw[M,CI,iJ]
   rw[←M] at u;have g3:(qC Q).take i=qC Q:=List.take_of_length_le (by omega);have g4:m*16≤140737488355328:=by omega
   have g5:m≤140737488355328:=by omega
   simp (maxSteps:=1000000) [dq0,WJ,Z0,hmp,u,←M,←hm,h3,h4,h8,h9,B',Yi,hl,←hB,←hC,←G,J,k2',l0,r0,j,hP,U,Ro,Do,X,w00,w1,l1,l2,S,Y,W,←Y7,O,g3,g4,g5,hQl,az,fM,j9,Tt,N,fh,af,eg,-aK,bT YL,dG,dP,fQ,dJ,dT,kk,bef,lQ,Nat.testBit];omega
 ·right
  have e:i=n:=by omega
  subst e;have Z0:¬i=0:=by omega
  simp[dq0,WJ,Z0,h8]
end Go.Proofs
