/- See E54. -/
import Derived.Test.YthpgbelancmpjaaGreatDoorE26
set_option linter.all false
set_option maxRecDepth 100000
set_option maxHeartbeats 40000000
namespace Go.Proofs
open Go.Eng
open Tryz
def DL(j:Nat):AV:=if j=0 then .slice 4 0 0 none else .slice 5 0 j none
def BA(h:Hts)(n k j:Nat):Mem:=if j=0 then [.qK,.qK,.cells true 0 [.slice 0 0 n none,.slice 1 0 k none],.cells true 0 h.cells,.cells true 1 []] else [.qK,.qK,.cells true 0 [.slice 0 0 n none,.slice 1 0 k none],.cells true 0 h.cells,.qK,.cells true 1 (qC (qH (h.l j)))]
theorem SA(L:List Int):(qC (qH L)).length=L.length:=by rw[KE];simp[qH]
variable{K:Nat}{b:Code}
theorem Ff(h:Hts)(H:h.Ok)(n k:Nat)(XW:0<n)(hl:n≤1000)(hK:n<K)(I:ah f89=[b]):
  ∃F:Env→Bool→Env,∀Z V,(ad Z 2=.ptr 2 0∧ad Z 3=.ptr 3 0∧ad Z 6=.int .i64 h.d∧ad Z 5=.slice 4 0 0 none∧ad Z 7=.int .i64 0)→
   aS (aV prog) (fun _=>[5,7]) (ag dS) K 31 2 true (.loop b) ⟨Z,BA h n k 0,V⟩=some (.exit 0,⟨F Z V,BA h n k n,V⟩)∧ad (F Z V) 5=.slice 5 0 n none:=by
 refine bw (L:=[5,7]) rfl (fun Z=>ad Z 2=.ptr 2 0∧ad Z 3=.ptr 3 0∧ad Z 6=.int .i64 h.d∧ad Z 5=.slice 4 0 0 none∧ad Z 7=.int .i64 0) (fun _ AC =>ad AC 5=.slice 5 0 n none) ?_;rintro Z V ⟨h2,h3,h6,h5,h7⟩;simp[ah,aG,f89] at I;have O:aw [5,7] (ae b) Z ((5,DL 0)::(7,.int .i64 ((0:Nat):Int))::Z)=aw [5,7] (ae b) Z Z:=by simp[aw,h5,h7,DL]
 rw[←O];have l0:=Hts.aem H;have B:=er h.closed;have o0:=gn h.closed;have e0:=fun f=>aL (ρ:=f) h.closed
 refine bO (α:=Nat) (fun i=>⟨aw [5,7] (ae b) Z ((5,DL i)::(7,.int .i64 (i:Int))::Z),BA h n k i,V⟩) (fun i=>n-i) (fun i=>i≤n) (.exit 0) _ V _ (by simp) ?_ K 0 (by omega) (by omega);intro i hi;clear O;subst I;by_cases FS:i<n
 ·left
  have U:i%6<6:=Nat.mod_lt _ (by decide);have N:=Hts.af9 H U;have A:=Hts.agY H U;have S:=h.agZ i;have hs:=h.ags i;have t6:((i:Int)).tmod 6=((i%6:Nat):Int):=rfl;obtain⟨r,hr⟩:=xE (i%6);rw[←hr] at U N A S t6;obtain⟨X,hX⟩:=xE (h.v.getD r 0);rw[←hX] at N A S;have q4:=zL X 20 (by decide);simp only[Int.cast_ofNat_Int] at q4;obtain⟨x,u⟩:=xE (X.tmod 20);rw[←u] at S q4;unfold z8 at A;have g1:x.natAbs<100000000:=by omega
  have d1:0<h.d∧h.d<100000000:=by unfold Hts.d;split<;>omega
  obtain⟨D,hD⟩:=xE h.d;rw[←hD] at S d1 h6;obtain⟨d1,d2⟩:=d1;have w3:IntKind.i64.wrap X=X:=jm (by omega) (by omega);have w1:IntKind.i64.wrap ((i:Int)+1)=((i+1:Nat):Int):=by rw[af];omega
  have o :(r:Int)<6:=by omega
  have j1:=cg N;obtain⟨C,j⟩:=xE h.cells;rw[←j] at l0 B o0 e0 N j1;obtain⟨z,hz⟩:=xE (hQ (h.z i));rw[←hz] at S;obtain⟨m,hm⟩:=xE (i+1);rw[←hm] at w1 hs;refine⟨m,?_⟩;have Y:¬m=0:=by omega
  have M:qC (qH (h.l m))=qC (qH (h.l i))++[.str (aj z)]:=by rw[hs,hz];simp[qH,qC]
  by_cases G:i=0
  ·subst G
   have Yh:m=1:=by omega
   have w0:IntKind.i64.wrap 1=1:=rfl;have b0:qC (qH (h.l 0))=[]:=rfl;rw[b0,Yh,List.nil_append] at M;have W:r=0:=by omega
   subst W;have tj:Int.tmod 0 6=0:=rfl;simp[BA,DL,M,Yh,h2,h3,h6,FS,←j,j1,tj,l0,B,w0,w3,←u,g1,d1,d2,S,ag,dS];omega
  ·obtain⟨Q,R⟩:=xE (qH (h.l i))
   have J:(qC Q).length=i:=by rw[R,SA,Hts.aeI]
   rw[←R] at M;have g3:(qC Q).take i=qC Q:=List.take_of_length_le (by omega);have g4:m*16≤140737488355328:=by omega
   have g5:m≤140737488355328:=by omega
   simp[BA,DL,G,Y,M,←R,←hm,h2,h3,h6,FS,←j,N,t6,o,B,w1,w3,←u,g1,g3,g4,g5,d1,d2,S,J,fN,jM,ag,dS];omega
 ·right
  have e:i=n:=by omega
  subst e;have G:¬i=0:=by omega
  simp[BA,DL,G,h2]
theorem LL(h:Hts)(H:h.Ok)(n k:Nat)(I:0<n)(J:n≤1000):
  kO prog 89 [.agg [.slice 0 0 n none,.slice 1 0 k none],.agg h.cells] [.qK,.qK] (.slice 2 0 n none) ([.qK,.qK]++[.cells true 1 (qC (qH (h.l n)))]):=by
 have L:aT prog 89=some f89:=by kernel_rfl
 obtain⟨b,R⟩:∃b,ah f89=[b]:=⟨_,rfl⟩
 obtain⟨F,X⟩:=Ff (K:=n+5) h H n k I J (by omega) R;simp[ah,aG,f89] at R;subst R;have D:¬n=0:=by omega
 simp only[BA,if_true,if_neg D] at X;have V:=fun O N h=>(X O N h).1
 have G:=fun O N h=>(X O N h).2
 clear X;have M:=Hts.aem H;have B:=er h.closed;have A:=gn h.closed;have u:=fun f=>aL (ρ:=f) h.closed
 have U:=Hts.afx H;have Z:=cg U;have S:h.d=if h.half then 2 else 1:=rfl
 obtain⟨C,o⟩:=xE h.cells;rw[←o] at M B A u U Z V ⊢;obtain⟨Q,hQ⟩:=xE (qH (h.l n));rw[←hQ] at V ⊢;have m:C.take 7=C:=List.take_of_length_le (by omega);have h:aa (aV prog) (fun _=>[5,7]) (aT prog) (ag dS) (n+5) 89 [.agg [.slice 0 0 n none,.slice 1 0 k none],.agg C] [.qK,.qK]=some ⟨.slice 2 0 n none,none,[.cells true 1 (qC Q)]⟩:=by
  cases hf:h.half
  ·rw[hf] at S U Z
   simp[aa,L,f89,M,Z,V,G,S,fN,jM]
  ·rw[hf] at S U Z
   simp[aa,L,f89,M,Z,V,G,S,fN,jM]
 have:=(aq ai (aO _) ui (aR _) h).1;simpa [aee.mem] using this
theorem O4(h:Hts)(H:h.Ok)(n k:Nat)(I:0<n)(J:n≤1000)(M:Mem)(p t:Nat)(W:p<M.length)(Y:t<M.length):
  kO prog 89 [.agg [.slice p 0 n none,.slice t 0 k none],.agg h.cells] M (.slice M.length 0 n none) (M++[.cells true 1 (qC (qH (h.l n)))]):=by
 have X:=fun f=>aL (ρ:=f) h.closed
 have:=kO.frame (M:=M) (new:=[.cells true 1 (qC (qH (h.l n)))]) (args:=[.agg [.slice 0 0 n none,.slice 1 0 k none],.agg h.cells]) [p,t] (m:=[.qK,.qK]) rfl (by simp[W,Y]) (by simp[AV.aen,AV.under,aX h.closed]) (fun i s Z=>by
  match i with
  |0=>simp at Z;subst Z;trivial
  |1=>simp at Z;subst Z;trivial
  |i+2=>simp at Z) (by rfl) (LL h H n k I J)
 simpa [AV.aez,AV.ren,fq,aek.ren,jM,X] using this
theorem LM(q:Rat)(mem:Mem):kO prog 15 [.str (aj q)] mem (.int .i64 (ky q)) mem:=by
 have X:aT prog 15=some f15:=by kernel_rfl
 refine ak (az _) ?_ mem;by_cases Z:q=0
 ·subst Z
  have:ky 0=0:=by decide
  simp[aa,X,f15,bq,this]
 ·have R:¬q.num=0:=fun e=>Z (sD.1 e)
  by_cases V:q.num<0
  ·have e:=kU V
   have U:(45::aj (-q)==[48])=false:=by rw[←e,bq];simpa using Z
   rw[e];simp[aa,X,f15,U,ky,k9,V]
  ·obtain⟨c,r,S,O⟩:=nh (q:=q) (by omega)
   have U:(c::r==[48])=false:=by rw[←S,bq];simpa using Z
   have N:=eR O;rw[S];simp[aa,X,f15,U,N,ky,k9,V,R]
noncomputable def vp(f:FuncId)(args:List AV):Option AV:=
 match f,args with
 |15,[.str s]=>match ek s with
  |some a=>some (.int .i64 (ky a))
  |none=>none
 |f,args=>fa f args
theorem MG:qS prog (ag vp):=bM fun f Z v h mem=>by
 unfold vp at h;split at h
 ·split at h
  next a X=>cases h;rw[aA X];exact LM a mem
  ·cases h
 ·have:=im.fn _ _ mem ⟨v,none,[]⟩ (by unfold ag;simp only;rw[h])
  simpa [aee.mem] using this
theorem WA(z:Int): -(hQ z)=hQ (-z):=by
 rw[lP,lP,Rat.intCast_neg]
 grind
theorem Xg{z:Int}:hQ z<0↔z<0:=by
 rw[lP];constructor
 ·intro h
  have:(z:Rat)<0:=by grind
  exact_mod_cast this
 ·intro h
  have:(z:Rat)<0:=by exact_mod_cast h
  grind
theorem Sl{q:Rat}:q.num<0↔q<0:=by
 have h:=Rat.num_nonneg (q:=q);constructor
 ·intro X
  exact Rat.not_le.1 fun Z=>by have:=h.2 Z;omega
 ·intro X
  have Z:¬0≤q:=Rat.not_le.2 X;have h3:¬0≤q.num:=fun h3=>Z (h.1 h3)
  omega
theorem Oj(q:Rat):ky q<0↔q.num<0:=by
 unfold ky k9;by_cases Z:q.num<0
 ·simp[Z]
 ·by_cases X:q.num=0
  ·simp[X]
  ·simp[Z,X]
theorem WC(z:Int):ky (hQ z)<0↔z<0:=by rw[Oj,Sl,Xg]
theorem O3(z:Int)(hz:z.natAbs<1000)(M:Mem):kO prog 91 [.str (aj (hQ z))] M (.str (aj (hQ z.natAbs))) M:=by
 have S:aT prog 91=some f91:=by kernel_rfl
 refine ak MG ?_ M;have l:=Bs hz;have X:=WC z;obtain⟨g,V⟩:=xE (ky (hQ z));rw[←V] at X;by_cases h:z<0
 ·have Z :g<0:=X.2 h
  have e: -(hQ z)=hQ (z.natAbs:Int):=by rw[WA,show -z=(z.natAbs:Int) by omega]
  obtain⟨n,U⟩:=xE (α:=Int) (z.natAbs:Int);rw[←U] at e ⊢;simp[aa,S,f91,ag,vp,fa,ar,l,←V,Z,e]
 ·have Z :¬g<0:=fun R =>h (X.1 R)
  have e:z=(z.natAbs:Int):=by omega
  obtain⟨n,U⟩:=xE (α:=Int) (z.natAbs:Int);rw[←U] at e ⊢;simp[aa,S,f91,ag,vp,ar,←V,Z,←e]
def W8:List AV→Option Hts
 | [.int .i8 a,.int .i8 b,.int .i8 c,.int .i8 d,.int .i8 e,.int .i8 f,.bool g]=>some ⟨[a,b,c,d,e,f],g⟩
 |_=>none
variable{h:Hts}
theorem mU(H:h.Ok):W8 h.cells=some h:=by
 obtain⟨v,g⟩:=h;have Z:=H.len;simp only at Z
 match v,Z with
 | [a,b,c,d,e,f],_=>rfl
theorem RN{cs:List AV}(e:W8 cs=some h):cs=h.cells:=by
 unfold W8 at e;split at e
 ·cases e;rfl
 ·cases e
open Classical in
noncomputable def fA:y9:=fun c Z M=>match c,Z with
 |.fn 89,[.agg [.slice p 0 n none,.slice t 0 _ none],.agg cs]=>match W8 cs with
  |some h=>if h.Ok∧0<n∧n≤1000∧p<M.length∧t<M.length then some ⟨.slice M.length 0 n none,none,[.cells true 1 (qC (qH (h.l n)))]⟩ else none
  |none=>none
 |.fn 91,[.str s]=>match ek s with
  |some q=>if q.den≤2∧(q*2).num.natAbs<1000∧q=hQ (q*2).num then some ⟨.str (aj (hQ (q*2).num.natAbs)),none,[]⟩ else none
  |none=>none
 |c,Z=>ag fa c Z M
theorem tD:qS prog fA:=by
 refine cq fun c X M r h=>?_
 unfold fA at h;split at h
 ·split at h
  ·rename_i S V
   split at h
   ·rename_i Z
    cases h;rw[RN V];exact aC (O4 _ Z.1 _ _ Z.2.1 Z.2.2.1 M _ _ Z.2.2.2.1 Z.2.2.2.2)
   ·cases h
  ·cases h
 ·split at h
  ·rename_i q U
   split at h
   ·rename_i Z
    cases h;refine aC ?_;rw[List.append_nil,aA U];have:=O3 (q*2).num Z.2.1 M;rw[←Z.2.2] at this;exact this
   ·cases h
  ·cases h
 ·exact eW im h
theorem RJ(z:Int):(hQ z*2).num=z:=by
 have:hQ z*2=(z:Rat):=by rw[lP];grind
 rw[this];rfl
theorem B6(L:List Int):(qC (qH L)).length=L.length:=SA L
theorem Sy{L:List Int}{k:Nat}(h:k<L.length):(qC (qH L))[k]? =some (.str (aj (hQ (L.getD k 0)))):=by
 have Z:L[k]? =some (L.getD k 0):=by rw[List.getD_eq_getElem?_getD,List.getElem?_eq_getElem h];rfl
 exact Nf (by simp only[qH,List.getElem?_map,Z];rfl)
theorem Ve(z:Int):(hQ z).den≤2:=(FZ z (by decide)).2
def nmE(c:UInt8):List UInt8:=[110,95,c]
def uNm:Nat→List (List UInt8)
 |1=>[nmE 97]
 |2=>[nmE 97,nmE 98]
 |_=>[nmE 97,nmE 98,nmE 99]
def gS(c:Code):List Nat:=if (ae c).contains 29 then [9,9,8] else [10,11]
theorem xv{X:Int}(H:z8 X):IntKind.i64.wrap (X.tmod 3+3)=X.tmod 3+3∧IntKind.i64.wrap (1+(X.tmod 3+3).tmod 3)=ct3 X:=by have h:=zL X 3 (by decide);have Z:=zL (X.tmod 3+3) 3 (by decide);simp only[Int.cast_ofNat_Int] at h Z;exact⟨af,af⟩
theorem G4(x:aed)(H:x.Ok)(n k:Nat)(I:0<n)(J:n≤1000)(W:ct3 (x.n 0)=1):
  kO prog 35 [.agg [.slice 0 0 n none,.slice 1 0 k none],.agg x.cells,.str [110]] [.qK,.qK] (.agg [.slice 2 0 n none,.slice 3 0 1 none,.qF]) ([.qK,.qK]++[.cells true 1 (qC (qH (x.base.l n))),.cells true 1 (stC (uNm 1))]):=by
 have j:aT prog 35=some f35:=by kernel_rfl
 have M:=aed.aem H;have L:=er x.closed;have Y:=gn x.closed;have G:=fun f=>aL (ρ:=f) x.closed
 have V:=aed.aeq H (k:=0) (by decide);simp only[Nat.reduceAdd] at V;have S:=cg V;have U:=aed.ae8 H;have R:=mU H.base;have Z:=H.base;obtain⟨F,A⟩:=aed.aeR H (k:=0) (by decide);obtain⟨w3,w4⟩:=xv ⟨F,A⟩;rw[W] at w4;obtain⟨C,hC⟩:=xE x.cells;rw[←hC] at M L Y G V S U ⊢;obtain⟨X,hX⟩:=xE (x.n 0);rw[←hX] at V S w3 w4 F A;have wX:IntKind.i64.wrap X=X:=jm (by omega) (by omega);obtain⟨B,hB⟩:=xE x.base;rw[←hB] at U R Z ⊢;obtain⟨D,u⟩:=xE B.cells;rw[←u,List.drop_one] at U;rw[←u] at R;obtain⟨Q,hQ⟩:=xE (qC (qH (B.l n)));have Qr:∀n,AV.aew n Q=[]:=fun n=>by rw[hQ,fN]
 have Qn:∀f,AV.aez f Q=Q:=fun f=>by rw[hQ,jM]
 rw[←hQ];have tk:C.take 34=C:=List.take_of_length_le (by omega);obtain⟨o,O⟩:∃o,aJ f35=o:=⟨_,rfl⟩
 have m:=cc O (ls:=[[0,1,0,0,0,24,56,124,252,511,1023,2047],[0,0,0,6,14,0,0,64,0,448,960,2016,0,8160,16352,32736,65534,131070,262143,524287]]) (by kernel_rfl);simp only[aJ,bR,f35,lA] at O;subst O;simp only[lB] at m;obtain⟨N,Yv⟩:=m;have h:aa (aV prog) gS (aT prog) fA 5 35 [.agg [.slice 0 0 n none,.slice 1 0 k none],.agg C,.str [110]] [.qK,.qK]=some ⟨.agg [.slice 2 0 n none,.slice 3 0 1 none,.qF],some [.qK,.qK],[.cells true 1 Q,.cells true 1 (stC (uNm 1))]⟩:=by simp (maxSteps:=3000000) [aa,j,f35,gS,fA,M,L,G,S,U,R,Z,wX,w1,w3,w4,I,J,←hQ,Qr,Qn,bh,fy,-aK,bd N,bZ,ff,ef,cw,cM,gQ,bef,oU,Nat.testBit,bJ,aD,uNm,nmE,stC,gb];exact⟨rfl,rfl⟩
 have:=(aq ai (aO _) tD (aR _) h).1;simpa [aee.mem] using this
def dq0(x:aed)(n k:Nat)(H:List Int)(i:Nat):Mem:=if i=0 then [.qK,.qK,.cells true 0 [.slice 0 0 n none,.slice 1 0 k none],.cells true 0 x.cells,.cells true 0 [.qF,.qF,.qF],.cells true 1 (qC (qH H)),.cells true 0 [.slice 5 0 n none,.slice 10 0 2 none,.qF],.qK,.cells true 1 [.str [95,97],.str [95,98],.str [95,99]],.cells true 1 [.str [110,95,98]],.cells true 1 [.str [110,95,97],.str [110,95,98]],.cells true 1 []] else [.qK,.qK,.cells true 0 [.slice 0 0 n none,.slice 1 0 k none],.cells true 0 x.cells,.cells true 0 [.qF,.qF,.qF],.cells true 1 (qC (qH H)),.cells true 0 [.slice 5 0 n none,.slice 10 0 2 none,.qF],.qK,.cells true 1 [.str [95,97],.str [95,98],.str [95,99]],.cells true 1 [.str [110,95,98]],.cells true 1 [.str [110,95,97],.str [110,95,98]],.qK,.cells true 1 (qC (qH (upL x.s0 H i)))]
def Wi(i:Nat):AV:=if i=0 then .slice 11 0 0 none else .slice 12 0 i none
theorem AB(x:aed)(hx:x.Ok)(n k:Nat)(H:List Int)(hL:H.length=n)(hb9:∀z∈H,z.natAbs≤300)(XW:0<n)(hl:n≤1000)(hK:n<K){b2:Code}(I:ah f35=[b2,b]):
  ∃F:Env→Bool→Env,∀Z V,(ad Z 3=.ptr 2 0∧ad Z 4=.ptr 3 0∧ad Z 8=.slice 5 0 n none∧ad Z 9=.int .i64 1∧ad Z 10=.slice 11 0 0 none∧ad Z 11=.int .i64 0)→
   aS (aV prog) gS fA K 78 2 true (.loop b) ⟨Z,dq0 x n k H 0,V⟩=some (.exit 2,⟨F Z V,dq0 x n k H n,V⟩)∧ad (F Z V) 10=.slice 12 0 n none∧
    (∀t,t∈[2,3,4,6,7,8,9]→ad (F Z V) t=ad Z t):=by
 refine bw (L:=[10,11]) (by simp[ah,aG,f35] at I;rw[←I.2];rfl) (fun Z=>ad Z 3=.ptr 2 0∧ad Z 4=.ptr 3 0∧ad Z 8=.slice 5 0 n none∧ad Z 9=.int .i64 1∧ad Z 10=.slice 11 0 0 none∧ad Z 11=.int .i64 0) (fun Z AC =>ad AC 10=.slice 12 0 n none∧(∀t,t∈[2,3,4,6,7,8,9]→ad AC t=ad Z t)) ?_;rintro Z V ⟨h3,h4,h8,h9,YK,h11⟩;obtain⟨os,D'⟩:∃os,aJ f35=os:=⟨_,rfl⟩
 have UV:=cc D' (ls:=[[0,1,0,0,0,24,56,124,252,511,1023,2047],[0,0,0,6,14,0,0,64,0,448,960,2016,0,8160,16352,32736,65534,131070,262143,524287]]) (by kernel_rfl);simp only[aJ,bR,f35,lA] at D';subst D';simp only[lB] at UV;obtain⟨-,Yv⟩:=UV;simp[ah,aG,f35] at I;obtain⟨-,I⟩:=I;have u:aw [10,11] (ae b) Z ((10,Wi 0)::(11,.int .i64 ((0:Nat):Int))::Z)=aw [10,11] (ae b) Z Z:=by simp[aw,YK,h11,Wi]
 rw[←u];have Yp:(dq0 x n k H 0).length=12:=rfl;have l0:=aed.aem hx;have r0:=er x.closed;have o0:=gn x.closed;have e0:=fun f=>aL (ρ:=f) x.closed
 have o:=aed.afT hx;have hP:=mU hx.s0;have U:=hx.s0;have tk:x.cells.take 34=x.cells:=List.take_of_length_le (by omega);refine bO (α:=Nat) (fun i=>⟨aw [10,11] (ae b) Z ((10,Wi i)::(11,.int .i64 (i:Int))::Z),dq0 x n k H i,V⟩) (fun i=>n-i) (fun i=>i≤n) (.exit 2) _ V _ (by simp) ?_ K 0 (by omega) (by omega);intro i hi;clear u;subst I;by_cases FS:i<n
 ·left
  have k1:=Sy (L:=H) (k:=i) (by omega);have hzl:(H.getD i 0).natAbs≤300:=hb9 _ (oQ (by omega));have hs:=Ou x.s0 H i;have hzz:=x.s0.af7 i;have k2:=Sy (L:=x.s0.l n) (k:=i) (by rw[Hts.aeI];exact FS);have gl:(x.s0.l n).getD i 0=x.s0.z i:=by simp[Hts.l,List.getD_eq_getElem?_getD,FS]
  rw[gl] at k2;have X:=B6 (x.s0.l n);rw[Hts.aeI] at X;obtain⟨R,G⟩:=xE (qC (qH (x.s0.l n)));rw[←G] at k2 X;have Rr:∀n,AV.aew n R=[]:=fun n=>by rw[G,fN]
  have Ro:∀f,AV.ael f R=true:=fun f=>by rw[G,Sx]
  obtain⟨z,hz⟩:=xE (H.getD i 0);rw[←hz] at k1 hzl hs;obtain⟨y,hy⟩:=xE (x.s0.z i);rw[←hy] at k2 hzz hs;have S:=Vd z (y.natAbs:Int);have l1:=Bs (z:=z) (by omega);have l2:=Bs (z:=(y.natAbs:Int)) (by omega);have j:=RJ y;have Y:=Ve y;have O:y.natAbs<1000:=by omega
  have N :=B6 H;rw[hL] at N;have W :=cg k1;have J :=cg k2;have w1:IntKind.i64.wrap ((i:Int)+1)=((i+1:Nat):Int):=by rw[af];omega
  obtain⟨m,hm⟩:=xE (i+1);rw[←hm] at w1 hs;refine⟨m,?_⟩;have hmp:¬m=0:=by omega
  have A:qC (qH (upL x.s0 H m))=qC (qH (upL x.s0 H i))++[.str (aj (hQ (z+(y.natAbs:Int))))]:=by rw[hs];simp[qH,qC]
  obtain⟨B,hB⟩:=xE x.s0;rw[←hB] at o hP U G A;obtain⟨D,hD⟩:=xE B.cells;have Dr:∀n,AV.aew n D=[]:=fun n=>by rw[hD];exact er B.closed n
  have Do:∀f,AV.ael f D=true:=fun f=>by rw[hD];exact gn B.closed f
  rw[←hD] at o hP;obtain⟨C,hC⟩:=xE x.cells;rw[←hC] at l0 r0 o0 e0 o tk;obtain⟨y',YX⟩:=xE y.natAbs;rw[←YX] at S l2 A O;have w0:IntKind.i64.wrap 1=1:=rfl;have w00:IntKind.i64.wrap 0=0:=rfl;by_cases ZH:i=0
  ·subst ZH
   have Yh:m=1:=by omega
   have b0:qC (qH (upL B H 0))=[]:=rfl;rw[b0,Yh,List.nil_append] at A;simp (maxSteps:=1000000) [dq0,Wi,A,Yh,h3,h4,h8,h9,FS,hl,←hB,←hC,←G,W,J,l0,r0,o,hP,U,Ro,Do,X,w0,w00,l1,l2,S,j,Y,←YX,O,ar,fN,N,fA,ag,fa,-aK,bd Yv,bZ,ff,ef,cw,cM,gQ,bef,oU,Nat.testBit];omega
  ·obtain⟨Q,M⟩:=xE (qH (upL B H i))
   have hQl:(qC Q).length=i:=by rw[M,B6,fI]
   rw[←M] at A;have g3:(qC Q).take i=qC Q:=List.take_of_length_le (by omega);have g4:m*16≤140737488355328:=by omega
   have g5:m≤140737488355328:=by omega
   simp (maxSteps:=1000000) [dq0,Wi,ZH,hmp,A,←M,←hm,h3,h4,h8,h9,FS,XW,hl,←hB,←hC,←G,W,J,l0,r0,o,hP,U,Ro,Do,X,w00,w1,l1,l2,S,j,Y,←YX,O,g3,g4,g5,hQl,ar,fN,jM,Sx,N,fA,ag,fa,-aK,bd Yv,bZ,ff,ef,cw,cM,gQ,bef,oU,Nat.testBit];omega
 ·right
  have e:i=n:=by omega
  subst e;have ZH:¬i=0:=by omega
  simp[dq0,Wi,ZH,h8]
end Go.Proofs
