/- See H38. -/
import Derived.Test.YthpgbelancmpjaaGreatDoorH21
set_option linter.all false
set_option maxRecDepth 100000
set_option maxHeartbeats 40000000
namespace Go.Proofs
open Go.Eng
open Tryz
def Fs(j:Nat):AV:=if j=0 then .slice 4 0 0 none else .slice 5 0 j none
def CZ(h:Hts)(n k j:Nat):Mem:=if j=0 then [.y9,.y9,.cells true 0 [.slice 0 0 n none,.slice 1 0 k none],.cells true 0 h.cells,.cells true 1 []] else [.y9,.y9,.cells true 0 [.slice 0 0 n none,.slice 1 0 k none],.cells true 0 h.cells,.y9,.cells true 1 (qC (qH (h.l j)))]
theorem UZ(L:List Int):(qC (qH L)).length=L.length:=by rw[LV];simp[qH]
variable{K:Nat}{b:Code}
theorem GD(h:Hts)(H:h.Ok)(n k:Nat)(hn0:0<n)(hl:n<=1000)(hK:n<K)(I:ah f89=[b]):
  ∃F:Env->Bool->Env,∀Z S,(aa Z 2=.ptr 2 0/\aa Z 3=.ptr 3 0/\aa Z 6=.int .i64 h.d/\aa Z 5=.slice 4 0 0 none/\aa Z 7=.int .i64 0)->
   aO (aL prog) (fun _=>[5,7]) (ai eC) K 31 2 true (.loop b) ⟨Z,CZ h n k 0,S⟩=some (.exit 0,⟨F Z S,CZ h n k n,S⟩)/\aa (F Z S) 5=.slice 5 0 n none:=by
 refine bG (L:=[5,7]) rfl (fun Z=>aa Z 2=.ptr 2 0/\aa Z 3=.ptr 3 0/\aa Z 6=.int .i64 h.d/\aa Z 5=.slice 4 0 0 none/\aa Z 7=.int .i64 0) (fun _ AC =>aa AC 5=.slice 5 0 n none) ?_;rintro Z S ⟨h2,h3,h6,h5,h7⟩;simp[ah,aw,f89] at I;have M:au [5,7] (ae b) Z ((5,Fs 0)::(7,.int .i64 ((0:Nat):Int))::Z)=au [5,7] (ae b) Z Z:=by simp[au,h5,h7,Fs]
 rw[<-M];have l0:=Hts.afE H;have r0:=eD h.closed;have o0:=iw h.closed;have e0:=fun f=>aS (ρ:=f) h.closed
 refine bZ (α:=Nat) (fun i=>⟨au [5,7] (ae b) Z ((5,Fs i)::(7,.int .i64 (i:Int))::Z),CZ h n k i,S⟩) (fun i=>n-i) (fun i=>i<=n) (.exit 0) _ S _ (by simp) ?_ K 0 (by omega) (by omega);intro i hi;clear M;subst I;by_cases A':i<n
 .left
  have R:i%6<6:=Nat.mod_lt _ (by decide);have G:=Hts.ahs H R;have y:=Hts.aif H R;have O:=h.aih i;have hs:=h.ahN i;have t6:((i:Int)).tmod 6=((i%6:Nat):Int):=rfl;obtain⟨r,hr⟩:=xE (i%6);rw[<-hr] at R G y O t6;obtain⟨X,hX⟩:=xE (h.v.getD r 0);rw[<-hX] at G y O;have q4:=AF X 20 (by decide);simp only[Int.cast_ofNat_Int] at q4;obtain⟨x,u⟩:=xE (X.tmod 20);rw[<-u] at O q4;unfold AS at y;have g1:x.natAbs<100000000:=by omega
  have d1:0<h.d/\h.d<100000000:=by unfold Hts.d;split<;>omega
  obtain⟨D,hD⟩:=xE h.d;rw[<-hD] at O d1 h6;obtain⟨d1,d2⟩:=d1;have w3:IntKind.i64.wrap X=X:=kX (by omega) (by omega);have w1:IntKind.i64.wrap ((i:Int)+1)=((i+1:Nat):Int):=by rw[af];omega
  have o :(r:Int)<6:=by omega
  have j1:=de G;obtain⟨C,j⟩:=xE h.cells;rw[<-j] at l0 r0 o0 e0 G j1;obtain⟨z,hz⟩:=xE (hQ (h.z i));rw[<-hz] at O;obtain⟨m,hm⟩:=xE (i+1);rw[<-hm] at w1 hs;refine⟨m,?_⟩;have Y:¬m=0:=by omega
  have V:qC (qH (h.l m))=qC (qH (h.l i))++[.str (aJ z)]:=by rw[hs,hz];simp[qH,qC]
  by_cases U:i=0
  .subst U
   have B:m=1:=by omega
   have w0:IntKind.i64.wrap 1=1:=rfl;have b0:qC (qH (h.l 0))=[]:=rfl;rw[b0,B,List.nil_append] at V;have W:r=0:=by omega
   subst W;have tj:Int.tmod 0 6=0:=rfl;simp[CZ,Fs,V,B,h2,h3,h6,A',<-j,j1,tj,l0,r0,w0,w3,<-u,g1,d1,d2,O,ai,eC];omega
  .obtain⟨Q,N⟩:=xE (qH (h.l i))
   have J:(qC Q).length=i:=by rw[N,UZ,Hts.afY]
   rw[<-N] at V;have g3:(qC Q).take i=qC Q:=An (by omega);have g4:m*16<=140737488355328:=by omega
   have g5:m<=140737488355328:=by omega
   simp[CZ,Fs,U,Y,V,<-N,<-hm,h2,h3,h6,A',<-j,G,t6,o,r0,w1,w3,<-u,g1,g3,g4,g5,d1,d2,O,J,gk,kN,ai,eC];omega
 .right
  have e:i=n:=by omega
  subst e;have U:¬i=0:=by omega
  simp[CZ,Fs,U,h2]
theorem M2(h:Hts)(H:h.Ok)(n k:Nat)(I:0<n)(J:n<=1000):
  bz prog 89 [.agg [.slice 0 0 n none,.slice 1 0 k none],.agg h.cells] [.y9,.y9] (.slice 2 0 n none) ([.y9,.y9]++[.cells true 1 (qC (qH (h.l n)))]):=by
 have G:bq prog 89=some f89:=by kernel_rfl
 obtain⟨b,R⟩:∃b,ah f89=[b]:=⟨_,rfl⟩
 obtain⟨F,X⟩:=GD (K:=n+5) h H n k I J (by omega) R;simp[ah,aw,f89] at R;subst R;have B:¬n=0:=by omega
 simp only[CZ,if_true,if_neg B] at X;have V:=fun O N h=>(X O N h).1
 have D:=fun O N h=>(X O N h).2
 clear X;have M:=Hts.afE H;have r0:=eD h.closed;have y:=iw h.closed;have u:=fun f=>aS (ρ:=f) h.closed
 have U:=Hts.agR H;have Z:=de U;have S:h.d=if h.half then 2 else 1:=rfl
 obtain⟨C,o⟩:=xE h.cells;rw[<-o] at M r0 y u U Z V |-;obtain⟨Q,hQ⟩:=xE (qH (h.l n));rw[<-hQ] at V |-;have m:C.take 7=C:=An (by omega);have h:ad (aL prog) (fun _=>[5,7]) (bq prog) (ai eC) (n+5) 89 [.agg [.slice 0 0 n none,.slice 1 0 k none],.agg C] [.y9,.y9]=some ⟨.slice 2 0 n none,none,[.cells true 1 (qC Q)]⟩:=by
  cases hf:h.half
  .rw[hf] at S U Z
   simp[ad,G,f89,M,Z,V,D,S,gk,kN]
  .rw[hf] at S U Z
   simp[ad,G,f89,M,Z,V,D,S,gk,kN]
 have:=(aB ak (aI _) uW (aQ _) h).1;simpa [afw.mem] using this
theorem Qd(h:Hts)(I:h.Ok)(n k:Nat)(H:0<n)(J:n<=1000)(M:Mem)(p t:Nat)(W:p<M.length)(Y:t<M.length):
  bz prog 89 [.agg [.slice p 0 n none,.slice t 0 k none],.agg h.cells] M (.slice M.length 0 n none) (M++[.cells true 1 (qC (qH (h.l n)))]):=by
 have X:=fun f=>aS (ρ:=f) h.closed
 have:=bz.frame (M:=M) (new:=[.cells true 1 (qC (qH (h.l n)))]) (args:=[.agg [.slice 0 0 n none,.slice 1 0 k none],.agg h.cells]) [p,t] (m:=[.y9,.y9]) rfl (by simp[W,Y]) (by simp[AV.afB,AV.under,bx h.closed]) (fun i s Z=>by
  match i with
  |0=>simp at Z;subst Z;trivial
  |1=>simp at Z;subst Z;trivial
  |i+2=>simp at Z) (by rfl) (M2 h I n k H J)
 simpa [AV.afR,AV.ren,back,afz.ren,kN,X] using this
theorem M4(q:Rat)(mem:Mem):bz prog 15 [.str (aJ q)] mem (.int .i64 (kU q)) mem:=by
 have X:bq prog 15=some f15:=by kernel_rfl
 refine az (ar _) ?_ mem;by_cases Z:q=0
 .subst Z
  have:kU 0=0:=by decide
  simp[ad,X,f15,bk,this]
 .have R:¬q.num=0:=fun e=>Z (qe.1 e)
  by_cases V:q.num<0
  .have e:=iX V
   have U:(45::aJ (-q)==[48])=false:=by rw[<-e,bk];simpa using Z
   rw[e];simp[ad,X,f15,U,kU,jI,V]
  .obtain⟨c,r,S,Q⟩:=kP (q:=q) (by omega)
   have U:(c::r==[48])=false:=by rw[<-S,bk];simpa using Z
   have O:=ff Q;rw[S];simp[ad,X,f15,U,O,kU,jI,V,R]
noncomputable def wK(f:FuncId)(args:List AV):Option AV:=
 match f,args with
 |15,[.str s]=>match dZ s with
  |some a=>some (.int .i64 (kU a))
  |none=>none
 |f,args=>fl f args
theorem Nz:afs prog (ai wK):=bT fun f Z v h mem=>by
 unfold wK at h;split at h
 .split at h
  next a X=>cases h;rw[aF X];exact M4 a mem
  .cases h
 .have:=iQ.fn _ _ mem ⟨v,none,[]⟩ (by unfold ai;simp only;rw[h])
  simpa [afw.mem] using this
theorem YJ(z:Int): -(hQ z)=hQ (-z):=by
 rw[mX,mX,Rat.intCast_neg]
 grind
theorem ZC{z:Int}:hQ z<0↔z<0:=by
 rw[mX];constructor
 .intro h
  have:(z:Rat)<0:=by grind
  exact_mod_cast this
 .intro h
  have:(z:Rat)<0:=by exact_mod_cast h
  grind
theorem XV{q:Rat}:q.num<0↔q<0:=by
 have h:=Rat.num_nonneg (q:=q);constructor
 .intro X
  exact Rat.not_le.1 fun Z=>by have:=h.2 Z;omega
 .intro X
  have Z:¬0<=q:=Rat.not_le.2 X;have h3:¬0<=q.num:=fun h3=>Z (h.1 h3)
  omega
theorem WZ(q:Rat):kU q<0↔q.num<0:=by
 unfold kU jI;by_cases Z:q.num<0
 .simp[Z]
 .by_cases X:q.num=0
  .simp[X]
  .simp[Z,X]
theorem YL(z:Int):kU (hQ z)<0↔z<0:=by rw[WZ,XV,ZC]
theorem Qc(z:Int)(hz:z.natAbs<1000)(M:Mem):bz prog 91 [.str (aJ (hQ z))] M (.str (aJ (hQ z.natAbs))) M:=by
 have S:bq prog 91=some f91:=by kernel_rfl
 refine az Nz ?_ M;have l:=CR hz;have X:=YL z;obtain⟨g,V⟩:=xE (kU (hQ z));rw[<-V] at X;by_cases h:z<0
 .have Z :g<0:=X.2 h
  have e: -(hQ z)=hQ (z.natAbs:Int):=by rw[YJ,show -z=(z.natAbs:Int) by omega]
  obtain⟨n,U⟩:=xE (α:=Int) (z.natAbs:Int);rw[<-U] at e |-;simp[ad,S,f91,ai,wK,fl,aE,l,<-V,Z,e]
 .have Z :¬g<0:=fun R =>h (X.1 R)
  have e:z=(z.natAbs:Int):=by omega
  obtain⟨n,U⟩:=xE (α:=Int) (z.natAbs:Int);rw[<-U] at e |-;simp[ad,S,f91,ai,wK,aE,<-V,Z,<-e]
def Zr:List AV->Option Hts
 | [.int .i8 a,.int .i8 b,.int .i8 c,.int .i8 d,.int .i8 e,.int .i8 f,.bool g]=>some ⟨[a,b,c,d,e,f],g⟩
 |_=>none
variable{h:Hts}
theorem ou(H:h.Ok):Zr h.cells=some h:=by
 obtain⟨v,g⟩:=h;have Z:=H.len;simp only at Z
 match v,Z with
 | [a,b,c,d,e,f],_=>rfl
theorem Uh{cs:List AV}(e:Zr cs=some h):cs=h.cells:=by
 unfold Zr at e;split at e
 .cases e;rfl
 .cases e
open Classical in
noncomputable def fM:afu:=fun c Z M=>match c,Z with
 |.fn 89,[.agg [.slice p 0 n none,.slice t 0 _ none],.agg cs]=>match Zr cs with
  |some h=>if h.Ok/\0<n/\n<=1000/\p<M.length/\t<M.length then some ⟨.slice M.length 0 n none,none,[.cells true 1 (qC (qH (h.l n)))]⟩ else none
  |none=>none
 |.fn 91,[.str s]=>match dZ s with
  |some q=>if q.den<=2/\(q*2).num.natAbs<1000/\q=hQ (q*2).num then some ⟨.str (aJ (hQ (q*2).num.natAbs)),none,[]⟩ else none
  |none=>none
 |c,Z=>ai fl c Z M
theorem ui:afs prog fM:=by
 refine cG fun c X M r h=>?_
 unfold fM at h;split at h
 .split at h
  .rename_i S V
   split at h
   .rename_i Z
    cases h;rw[Uh V];exact aA (Qd _ Z.1 _ _ Z.2.1 Z.2.2.1 M _ _ Z.2.2.2.1 Z.2.2.2.2)
   .cases h
  .cases h
 .split at h
  .rename_i q U
   split at h
   .rename_i Z
    cases h;refine aA ?_;rw[List.append_nil,aF U];have:=Qc (q*2).num Z.2.1 M;rw[<-Z.2.2] at this;exact this
   .cases h
  .cases h
 .exact ee iQ h
theorem Ug(z:Int):(hQ z*2).num=z:=by
 have:hQ z*2=(z:Rat):=by rw[mX];grind
 rw[this];rfl
theorem Du(L:List Int):(qC (qH L)).length=L.length:=UZ L
theorem UY{L:List Int}{k:Nat}(h:k<L.length):(qC (qH L))[k]? =some (.str (aJ (hQ (L.getD k 0)))):=by
 have Z:L[k]? =some (L.getD k 0):=by rw[List.getD_eq_getElem?_getD,LB h];rfl
 exact Y7 (by simp only[qH,Y1,Z];rfl)
theorem Xg(z:Int):(hQ z).den<=2:=(O0 z (by decide)).2
def nmE(c:UInt8):List UInt8:=[110,95,c]
def uNm:Nat->List (List UInt8)
 |1=>[nmE 97]
 |2=>[nmE 97,nmE 98]
 |_=>[nmE 97,nmE 98,nmE 99]
def iD(c:Code):List Nat:=if (ae c).contains 29 then [9,9,8] else [10,11]
theorem yz{X:Int}(hX:AS X):IntKind.i64.wrap (X.tmod 3+3)=X.tmod 3+3/\IntKind.i64.wrap (1+(X.tmod 3+3).tmod 3)=ct3 X:=by have h:=AF X 3 (by decide);have Z:=AF (X.tmod 3+3) 3 (by decide);simp only[Int.cast_ofNat_Int] at h Z;exact⟨af,af⟩
theorem aht:bq prog 35=some f35:=by kernel_rfl
theorem Ip(x:afv)(hx:x.Ok)(n k:Nat)(H:0<n)(I:n<=1000)(J:ct3 (x.n 0)=1):
  bz prog 35 [.agg [.slice 0 0 n none,.slice 1 0 k none],.agg x.cells,.str [110]] [.y9,.y9] (.agg [.slice 2 0 n none,.slice 3 0 1 none,.kO]) ([.y9,.y9]++[.cells true 1 (qC (qH (x.base.l n))),.cells true 1 (stC (uNm 1))]):=by
 have G:=afv.afE hx;have r0:=eD x.closed;have j:=iw x.closed;have F:=fun f=>aS (ρ:=f) x.closed
 have U:=afv.afG hx (k:=0) (by decide);simp only[Nat.reduceAdd] at U;have R:=de U;have S:=afv.ago hx;have O:=ou hx.base;have Z:=hx.base;obtain⟨y,u⟩:=afv.af9 hx (k:=0) (by decide);obtain⟨w3,w4⟩:=yz ⟨y,u⟩;rw[J] at w4;obtain⟨C,Y⟩:=xE x.cells;rw[<-Y] at G r0 j F U R S |-;obtain⟨X,W⟩:=xE (x.n 0);rw[<-W] at U R w3 w4 y u;have wX:IntKind.i64.wrap X=X:=kX (by omega) (by omega);obtain⟨B,hB⟩:=xE x.base;rw[<-hB] at S O Z |-;obtain⟨D,o⟩:=xE B.cells;rw[<-o,List.drop_one] at S;rw[<-o] at O;obtain⟨Q,hQ⟩:=xE (qC (qH (B.l n)));have Qr:∀n,AV.afN n Q=[]:=fun n=>by rw[hQ,gk]
 have Qn:∀f,AV.afR f Q=Q:=fun f=>by rw[hQ,kN]
 rw[<-hQ];have tk:C.take 34=C:=An (by omega);obtain⟨m,N⟩:∃m,bn f35=m:=⟨_,rfl⟩
 have V:=cR N (ls:=[[0,1,0,0,0,24,56,124,252,511,1023,2047],[0,0,0,6,14,0,0,64,0,448,960,2016,0,8160,16352,32736,65534,131070,262143,524287]]) (by kernel_rfl);simp only[bn,cU,f35,lA] at N;subst N;simp only[lB] at V;obtain⟨M,hb2⟩:=V;have h:ad (aL prog) iD (bq prog) fM 5 35 [.agg [.slice 0 0 n none,.slice 1 0 k none],.agg C,.str [110]] [.y9,.y9]=some ⟨.agg [.slice 2 0 n none,.slice 3 0 1 none,.kO],some [.y9,.y9],[.cells true 1 Q,.cells true 1 (stC (uNm 1))]⟩:=by simp (maxSteps:=3000000) [ad,aht,f35,iD,fM,G,r0,F,R,S,O,Z,wX,w1,w3,w4,H,I,<-hQ,Qr,Qn,bw,ga,-aN,aK M,bU,gi,dy,bL,cF,eI,bef,qI,Nat.testBit,aD,ag,uNm,nmE,stC,ft];exact⟨rfl,rfl⟩
 have:=(aB ak (aI _) ui (aQ _) h).1;simpa [afw.mem] using this
def dq0(x:afv)(n k:Nat)(H:List Int)(i:Nat):Mem:=if i=0 then [.y9,.y9,.cells true 0 [.slice 0 0 n none,.slice 1 0 k none],.cells true 0 x.cells,.cells true 0 [.kO,.kO,.kO],.cells true 1 (qC (qH H)),.cells true 0 [.slice 5 0 n none,.slice 10 0 2 none,.kO],.y9,.cells true 1 [.str [95,97],.str [95,98],.str [95,99]],.cells true 1 [.str [110,95,98]],.cells true 1 [.str [110,95,97],.str [110,95,98]],.cells true 1 []] else [.y9,.y9,.cells true 0 [.slice 0 0 n none,.slice 1 0 k none],.cells true 0 x.cells,.cells true 0 [.kO,.kO,.kO],.cells true 1 (qC (qH H)),.cells true 0 [.slice 5 0 n none,.slice 10 0 2 none,.kO],.y9,.cells true 1 [.str [95,97],.str [95,98],.str [95,99]],.cells true 1 [.str [110,95,98]],.cells true 1 [.str [110,95,97],.str [110,95,98]],.y9,.cells true 1 (qC (qH (upL x.s0 H i)))]
def Yv(i:Nat):AV:=if i=0 then .slice 11 0 0 none else .slice 12 0 i none
variable{b2:Code}
theorem Bx(x:afv)(hx:x.Ok)(n k:Nat)(H:List Int)(hL:H.length=n)(hb9:∀z∈H,z.natAbs<=300)(hn0:0<n)(hl:n<=1000)(hK:n<K)(I:ah f35=[b2,b]):
  ∃F:Env->Bool->Env,∀Z S,(aa Z 3=.ptr 2 0/\aa Z 4=.ptr 3 0/\aa Z 8=.slice 5 0 n none/\aa Z 9=.int .i64 1/\aa Z 10=.slice 11 0 0 none/\aa Z 11=.int .i64 0)->
   aO (aL prog) iD fM K 78 2 true (.loop b) ⟨Z,dq0 x n k H 0,S⟩=some (.exit 2,⟨F Z S,dq0 x n k H n,S⟩)/\aa (F Z S) 10=.slice 12 0 n none/\
    (∀t,t∈[2,3,4,6,7,8,9]->aa (F Z S) t=aa Z t):=by
 refine bG (L:=[10,11]) (by simp[ah,aw,f35] at I;rw[<-I.2];rfl) (fun Z=>aa Z 3=.ptr 2 0/\aa Z 4=.ptr 3 0/\aa Z 8=.slice 5 0 n none/\aa Z 9=.int .i64 1/\aa Z 10=.slice 11 0 0 none/\aa Z 11=.int .i64 0) (fun Z AC =>aa AC 10=.slice 12 0 n none/\(∀t,t∈[2,3,4,6,7,8,9]->aa AC t=aa Z t)) ?_;rintro Z S ⟨h3,h4,h8,h9,h10,h11⟩;obtain⟨os,B'⟩:∃os,bn f35=os:=⟨_,rfl⟩
 have Y:=cR B' (ls:=[[0,1,0,0,0,24,56,124,252,511,1023,2047],[0,0,0,6,14,0,0,64,0,448,960,2016,0,8160,16352,32736,65534,131070,262143,524287]]) (by kernel_rfl);simp only[bn,cU,f35,lA] at B';subst B';simp only[lB] at Y;obtain⟨-,W⟩:=Y;simp[ah,aw,f35] at I;obtain⟨-,I⟩:=I;have J:au [10,11] (ae b) Z ((10,Yv 0)::(11,.int .i64 ((0:Nat):Int))::Z)=au [10,11] (ae b) Z Z:=by simp[au,h10,h11,Yv]
 rw[<-J];have hm1:(dq0 x n k H 0).length=12:=rfl;have l0:=afv.afE hx;have r0:=eD x.closed;have o0:=iw x.closed;have e0:=fun f=>aS (ρ:=f) x.closed
 have T':=afv.ag7 hx;have hP:=ou hx.s0;have O:=hx.s0;have tk:x.cells.take 34=x.cells:=An (by omega);refine bZ (α:=Nat) (fun i=>⟨au [10,11] (ae b) Z ((10,Yv i)::(11,.int .i64 (i:Int))::Z),dq0 x n k H i,S⟩) (fun i=>n-i) (fun i=>i<=n) (.exit 2) _ S _ (by simp) ?_ K 0 (by omega) (by omega);intro i hi;clear J;subst I;by_cases A':i<n
 .left
  have k1:=UY (L:=H) (k:=i) (by omega);have hzl:(H.getD i 0).natAbs<=300:=hb9 _ (pX (by omega));have hs:=Pe x.s0 H i;have hzz:=x.s0.ahq i;have k2:=UY (L:=x.s0.l n) (k:=i) (by rw[Hts.afY];exact A');have gl:(x.s0.l n).getD i 0=x.s0.z i:=by simp[Hts.l,List.getD_eq_getElem?_getD,A']
  rw[gl] at k2;have V:=Du (x.s0.l n);rw[Hts.afY] at V;obtain⟨R,j⟩:=xE (qC (qH (x.s0.l n)));rw[<-j] at k2 V;have Rr:∀n,AV.afN n R=[]:=fun n=>by rw[j,gk]
  have Ro:∀f,AV.afD f R=true:=fun f=>by rw[j,UX]
  obtain⟨z,hz⟩:=xE (H.getD i 0);rw[<-hz] at k1 hzl hs;obtain⟨y,hy⟩:=xE (x.s0.z i);rw[<-hy] at k2 hzz hs;have N:=Xf z (y.natAbs:Int);have l1:=CR (z:=z) (by omega);have l2:=CR (z:=(y.natAbs:Int)) (by omega);have acs:=Ug y;have hd2:=Xg y;have M:y.natAbs<1000:=by omega
  have G :=Du H;rw[hL] at G;have k1' :=de k1;have k2' :=de k2;have w1:IntKind.i64.wrap ((i:Int)+1)=((i+1:Nat):Int):=by rw[af];omega
  obtain⟨m,hm⟩:=xE (i+1);rw[<-hm] at w1 hs;refine⟨m,?_⟩;have hmp:¬m=0:=by omega
  have X:qC (qH (upL x.s0 H m))=qC (qH (upL x.s0 H i))++[.str (aJ (hQ (z+(y.natAbs:Int))))]:=by rw[hs];simp[qH,qC]
  obtain⟨B,hB⟩:=xE x.s0;rw[<-hB] at T' hP O j X;obtain⟨D,hD⟩:=xE B.cells;have Dr:∀n,AV.afN n D=[]:=fun n=>by rw[hD];exact eD B.closed n
  have Do:∀f,AV.afD f D=true:=fun f=>by rw[hD];exact iw B.closed f
  rw[<-hD] at T' hP;obtain⟨C,hC⟩:=xE x.cells;rw[<-hC] at l0 r0 o0 e0 T' tk;obtain⟨y',u⟩:=xE y.natAbs;rw[<-u] at N l2 X M;have w0:IntKind.i64.wrap 1=1:=rfl;have w00:IntKind.i64.wrap 0=0:=rfl;by_cases U:i=0
  .subst U
   have hm0:m=1:=by omega
   have b0:qC (qH (upL B H 0))=[]:=rfl;rw[b0,hm0,List.nil_append] at X;simp (maxSteps:=1000000) [dq0,Yv,X,hm0,h3,h4,h8,h9,A',hl,<-hB,<-hC,<-j,k1',k2',l0,r0,T',hP,O,Ro,Do,V,w0,w00,l1,l2,N,acs,hd2,<-u,M,aE,gk,G,fM,ai,fl,-aN,aK W,bU,gi,dy,bL,cF,eI,bef,qI,Nat.testBit];omega
  .obtain⟨Q,o⟩:=xE (qH (upL B H i))
   have hQl:(qC Q).length=i:=by rw[o,Du,eG]
   rw[<-o] at X;have g3:(qC Q).take i=qC Q:=An (by omega);have g4:m*16<=140737488355328:=by omega
   have g5:m<=140737488355328:=by omega
   simp (maxSteps:=1000000) [dq0,Yv,U,hmp,X,<-o,<-hm,h3,h4,h8,h9,A',hn0,hl,<-hB,<-hC,<-j,k1',k2',l0,r0,T',hP,O,Ro,Do,V,w00,w1,l1,l2,N,acs,hd2,<-u,M,g3,g4,g5,hQl,aE,gk,kN,UX,G,fM,ai,fl,-aN,aK W,bU,gi,dy,bL,cF,eI,bef,qI,Nat.testBit];omega
 .right
  have e:i=n:=by omega
  subst e;have U:¬i=0:=by omega
  simp[dq0,Yv,U,h8]
theorem lV(x:afv)(n:Nat):∀z∈x.base.l n,z.natAbs<=300:=by intro z Z;unfold Hts.l at Z;obtain⟨k,_,rfl⟩:=QQd.1 Z;have:=x.base.ahq k;omega
theorem Iq(x:afv)(hx:x.Ok)(n k:Nat)(H:0<n)(I:n<=1000)(hJ:ct3 (x.n 0)=2):
  bz prog 35 [.agg [.slice 0 0 n none,.slice 1 0 k none],.agg x.cells,.str [110]] [.y9,.y9] (.agg [.slice 2 0 n none,.slice 3 0 2 none,.slice 4 0 1 none]) ([.y9,.y9]++[.cells true 1 (qC (qH (x.base.l n))),.cells true 1 (stC (uNm 2)),.cells true 1 [.slice 5 0 n none],.cells true 1 (qC (qH (upL x.s0 (x.base.l n) n)))]):=by
 have J:=afv.afE hx;have r0:=eD x.closed;have o0:=iw x.closed;have e0:=fun f=>aS (ρ:=f) x.closed
 have M:=afv.afG hx (k:=0) (by decide);simp only[Nat.reduceAdd] at M;have y:=de M;have G:=afv.ago hx;have u:=ou hx.base;have O:=hx.base;obtain⟨b0,c0⟩:=afv.af9 hx (k:=0) (by decide);obtain⟨w3,w4⟩:=yz ⟨b0,c0⟩;rw[hJ] at w4;obtain⟨bo,bi,S⟩:∃b b2,ah f35=[b,b2]:=⟨_,_,rfl⟩
 obtain⟨I0,U⟩:=Bx (K:=n+5) x hx n k (x.base.l n) (x.base.afY n) (lV x n) H I (by omega) S;have q0:dq0 x n k (x.base.l n) 0=[.y9,.y9,.cells true 0 [.slice 0 0 n none,.slice 1 0 k none],.cells true 0 x.cells,.cells true 0 [.kO,.kO,.kO],.cells true 1 (qC (qH (x.base.l n))),.cells true 0 [.slice 5 0 n none,.slice 10 0 2 none,.kO],.y9,.cells true 1 [.str [95,97],.str [95,98],.str [95,99]],.cells true 1 [.str [110,95,98]],.cells true 1 [.str [110,95,97],.str [110,95,98]],.cells true 1 []]:=rfl;have q1:dq0 x n k (x.base.l n) n=[.y9,.y9,.cells true 0 [.slice 0 0 n none,.slice 1 0 k none],.cells true 0 x.cells,.cells true 0 [.kO,.kO,.kO],.cells true 1 (qC (qH (x.base.l n))),.cells true 0 [.slice 5 0 n none,.slice 10 0 2 none,.kO],.y9,.cells true 1 [.str [95,97],.str [95,98],.str [95,99]],.cells true 1 [.str [110,95,98]],.cells true 1 [.str [110,95,97],.str [110,95,98]],.y9,.cells true 1 (qC (qH (upL x.s0 (x.base.l n) n)))]:=if_neg (by omega);rw[q0,q1] at U;clear q0 q1;obtain⟨R,F⟩:=xE (qC (qH (upL x.s0 (x.base.l n) n)));have Rr:∀n,AV.afN n R=[]:=fun n=>by rw[F,gk]
 have Rn:∀f,AV.afR f R=R:=fun f=>by rw[F,kN]
 rw[<-F] at U |-;clear F;obtain⟨C,hC⟩:=xE x.cells;rw[<-hC] at U J r0 o0 e0 M y G |-;obtain⟨X,hX⟩:=xE (x.n 0);rw[<-hX] at M y w3 w4 b0 c0;have wX:IntKind.i64.wrap X=X:=kX (by omega) (by omega);obtain⟨B,hB⟩:=xE x.base;rw[<-hB] at U G u O |-;obtain⟨D,hD⟩:=xE B.cells;rw[<-hD,List.drop_one] at G;rw[<-hD] at u;obtain⟨Q,hQ⟩:=xE (qC (qH (B.l n)));have Qr:∀n,AV.afN n Q=[]:=fun n=>by rw[hQ,gk]
 have Qn:∀f,AV.afR f Q=Q:=fun f=>by rw[hQ,kN]
 rw[<-hQ] at U |-;have p1:=fun Z V h=>(U Z V h).1
 have o:=fun Z V h=>(U Z V h).2.1
 have pt2:=fun Z V h=>(U Z V h).2.2 2 (by simp)
 have pt3:=fun Z V h=>(U Z V h).2.2 3 (by simp)
 have pt4:=fun Z V h=>(U Z V h).2.2 4 (by simp)
 have pt6:=fun Z V h=>(U Z V h).2.2 6 (by simp)
 have m:=fun Z V h=>(U Z V h).2.2 7 (by simp)
 have pt8:=fun Z V h=>(U Z V h).2.2 8 (by simp)
 have j:=fun Z V h=>(U Z V h).2.2 9 (by simp)
 clear U;have tk:C.take 34=C:=An (by omega);obtain⟨os,Y⟩:∃os,bn f35=os:=⟨_,rfl⟩
 have N:=cR Y (ls:=[[0,1,0,0,0,24,56,124,252,511,1023,2047],[0,0,0,6,14,0,0,64,0,448,960,2016,0,8160,16352,32736,65534,131070,262143,524287]]) (by kernel_rfl);simp only[bn,cU,f35,lA] at Y;subst Y;simp only[lB] at N;obtain⟨W,hb2⟩:=N;have hu:=fun s=>bw (aL prog) iD fM (n+5) 78 2 true s bo
 simp[ah,aw,f35] at S;obtain⟨rfl,rfl⟩:=S;have h:ad (aL prog) iD (bq prog) fM (n+5) 35 [.agg [.slice 0 0 n none,.slice 1 0 k none],.agg C,.str [110]] [.y9,.y9]=some ⟨.agg [.slice 2 0 n none,.slice 3 0 2 none,.slice 4 0 1 none],some [.y9,.y9],[.cells true 1 Q,.cells true 1 (stC (uNm 2)),.cells true 1 [.slice 5 0 n none],.cells true 1 R]⟩:=by
  simp (maxSteps:=3000000) [ad,aht,f35,iD,fM,J,r0,e0,y,G,u,O,wX,w1,w2,w3,w4,H,I,<-hQ,Qr,Qn,hu,ga,p1,o,m,j,Rr,Rn,-aN,aK W,bU,gi,dy,bL,cF,eI,bef,qI,Nat.testBit,aD,ag,uNm,nmE,stC,ft,List.idxOf?_cons]
  repeat' (first | rfl | apply And.intro)
 have:=(aB ak (aI _) ui (aQ _) h).1;simpa [afw.mem] using this
def dq1(x:afv)(n k:Nat)(H L1:List Int)(i:Nat):Mem:=if i=0 then [.y9,.y9,.cells true 0 [.slice 0 0 n none,.slice 1 0 k none],.cells true 0 x.cells,.cells true 0 [.kO,.kO,.kO],.cells true 1 (qC (qH H)),.cells true 0 [.slice 5 0 n none,.slice 12 0 3 none,.slice 9 0 1 none],.cells true 1 (qC (qH L1)),.y9,.cells true 1 [.slice 7 0 n none],.cells true 1 [.str [95,97],.str [95,98],.str [95,99]],.cells true 1 [.str [110,95,99]],.cells true 1 [.str [110,95,97],.str [110,95,98],.str [110,95,99]],.cells true 1 []] else [.y9,.y9,.cells true 0 [.slice 0 0 n none,.slice 1 0 k none],.cells true 0 x.cells,.cells true 0 [.kO,.kO,.kO],.cells true 1 (qC (qH H)),.cells true 0 [.slice 5 0 n none,.slice 12 0 3 none,.slice 9 0 1 none],.cells true 1 (qC (qH L1)),.y9,.cells true 1 [.slice 7 0 n none],.cells true 1 [.str [95,97],.str [95,98],.str [95,99]],.cells true 1 [.str [110,95,99]],.cells true 1 [.str [110,95,97],.str [110,95,98],.str [110,95,99]],.y9,.cells true 1 (qC (qH (upL x.s1 L1 i)))]
def Yw(i:Nat):AV:=if i=0 then .slice 13 0 0 none else .slice 14 0 i none
theorem Nf(x:afv)(hx:x.Ok)(n k:Nat)(L0 L1:List Int)(hL:L1.length=n)(hb9:∀z∈L1,z.natAbs<=300)(hn0:0<n)(hl:n<=1000)(hK:n<K)(H:ah f35=[b2,b]):
  ∃F:Env->Bool->Env,∀Z S,(aa Z 3=.ptr 2 0/\aa Z 4=.ptr 3 0/\aa Z 8=.slice 7 0 n none/\aa Z 9=.int .i64 2/\aa Z 10=.slice 13 0 0 none/\aa Z 11=.int .i64 0)->
   aO (aL prog) iD fM K 78 2 true (.loop b) ⟨Z,dq1 x n k L0 L1 0,S⟩=some (.exit 2,⟨F Z S,dq1 x n k L0 L1 n,S⟩)/\aa (F Z S) 10=.slice 14 0 n none/\
    (∀t,t∈[2,3,4,6,7,8,9]->aa (F Z S) t=aa Z t):=by
 refine bG (L:=[10,11]) (by simp[ah,aw,f35] at H;rw[<-H.2];rfl) (fun Z=>aa Z 3=.ptr 2 0/\aa Z 4=.ptr 3 0/\aa Z 8=.slice 7 0 n none/\aa Z 9=.int .i64 2/\aa Z 10=.slice 13 0 0 none/\aa Z 11=.int .i64 0) (fun Z AC =>aa AC 10=.slice 14 0 n none/\(∀t,t∈[2,3,4,6,7,8,9]->aa AC t=aa Z t)) ?_;rintro Z S ⟨h3,h4,h8,h9,h10,h11⟩;obtain⟨os,B'⟩:∃os,bn f35=os:=⟨_,rfl⟩
 have Y:=cR B' (ls:=[[0,1,0,0,0,24,56,124,252,511,1023,2047],[0,0,0,6,14,0,0,64,0,448,960,2016,0,8160,16352,32736,65534,131070,262143,524287]]) (by kernel_rfl);simp only[bn,cU,f35,lA] at B';subst B';simp only[lB] at Y;obtain⟨-,W⟩:=Y;simp[ah,aw,f35] at H;obtain⟨-,H⟩:=H;have J:au [10,11] (ae b) Z ((10,Yw 0)::(11,.int .i64 ((0:Nat):Int))::Z)=au [10,11] (ae b) Z Z:=by simp[au,h10,h11,Yw]
 rw[<-J];have hm1:(dq1 x n k L0 L1 0).length=14:=rfl;have l0:=afv.afE hx;have r0:=eD x.closed;have o0:=iw x.closed;have e0:=fun f=>aS (ρ:=f) x.closed
 have I:=afv.ag8 hx;have hP:=ou hx.s1;have O:=hx.s1;have tk:x.cells.take 34=x.cells:=An (by omega);refine bZ (α:=Nat) (fun i=>⟨au [10,11] (ae b) Z ((10,Yw i)::(11,.int .i64 (i:Int))::Z),dq1 x n k L0 L1 i,S⟩) (fun i=>n-i) (fun i=>i<=n) (.exit 2) _ S _ (by simp) ?_ K 0 (by omega) (by omega);intro i hi;clear J;subst H;by_cases A':i<n
 .left
  have k1:=UY (L:=L1) (k:=i) (by omega);have hzl:(L1.getD i 0).natAbs<=300:=hb9 _ (pX (by omega));have hs:=Pe x.s1 L1 i;have hzz:=x.s1.ahq i;have k2:=UY (L:=x.s1.l n) (k:=i) (by rw[Hts.afY];exact A');have gl:(x.s1.l n).getD i 0=x.s1.z i:=by simp[Hts.l,List.getD_eq_getElem?_getD,A']
  rw[gl] at k2;have V:=Du (x.s1.l n);rw[Hts.afY] at V;obtain⟨R,j⟩:=xE (qC (qH (x.s1.l n)));rw[<-j] at k2 V;have Rr:∀n,AV.afN n R=[]:=fun n=>by rw[j,gk]
  have Ro:∀f,AV.afD f R=true:=fun f=>by rw[j,UX]
  obtain⟨z,hz⟩:=xE (L1.getD i 0);rw[<-hz] at k1 hzl hs;obtain⟨y,hy⟩:=xE (x.s1.z i);rw[<-hy] at k2 hzz hs;have N:=Xf z (y.natAbs:Int);have l1:=CR (z:=z) (by omega);have l2:=CR (z:=(y.natAbs:Int)) (by omega);have acs:=Ug y;have hd2:=Xg y;have M:y.natAbs<1000:=by omega
  have G :=Du L1;rw[hL] at G;have k1' :=de k1;have k2' :=de k2;have w1:IntKind.i64.wrap ((i:Int)+1)=((i+1:Nat):Int):=by rw[af];omega
  obtain⟨m,hm⟩:=xE (i+1);rw[<-hm] at w1 hs;refine⟨m,?_⟩;have hmp:¬m=0:=by omega
  have X:qC (qH (upL x.s1 L1 m))=qC (qH (upL x.s1 L1 i))++[.str (aJ (hQ (z+(y.natAbs:Int))))]:=by rw[hs];simp[qH,qC]
  obtain⟨B,hB⟩:=xE x.s1;rw[<-hB] at I hP O j X;obtain⟨D,hD⟩:=xE B.cells;have Dr:∀n,AV.afN n D=[]:=fun n=>by rw[hD];exact eD B.closed n
  have Do:∀f,AV.afD f D=true:=fun f=>by rw[hD];exact iw B.closed f
  rw[<-hD] at I hP;obtain⟨C,hC⟩:=xE x.cells;rw[<-hC] at l0 r0 o0 e0 I tk;obtain⟨y',u⟩:=xE y.natAbs;rw[<-u] at N l2 X M;have w0:IntKind.i64.wrap 1=1:=rfl;have w00:IntKind.i64.wrap 0=0:=rfl;by_cases U:i=0
  .subst U
   have hm0:m=1:=by omega
   have b0:qC (qH (upL B L1 0))=[]:=rfl;rw[b0,hm0,List.nil_append] at X;simp (maxSteps:=1000000) [dq1,Yw,X,hm0,h3,h4,h8,h9,A',hl,<-hB,<-hC,<-j,k1',k2',l0,r0,I,hP,O,Ro,Do,V,w0,l1,l2,N,acs,hd2,<-u,M,aE,gk,G,fM,ai,fl,-aN,aK W,bU,gi,dy,bL,cF,eI,bef,qI,Nat.testBit];omega
  .obtain⟨Q,o⟩:=xE (qH (upL B L1 i))
   have hQl:(qC Q).length=i:=by rw[o,Du,eG]
   rw[<-o] at X;have g3:(qC Q).take i=qC Q:=An (by omega);have g4:m*16<=140737488355328:=by omega
   have g5:m<=140737488355328:=by omega
   simp (maxSteps:=1000000) [dq1,Yw,U,hmp,X,<-o,<-hm,h3,h4,h8,h9,A',hn0,hl,<-hB,<-hC,<-j,k1',k2',l0,r0,I,hP,O,Ro,Do,V,w0,w1,l1,l2,N,acs,hd2,<-u,M,g3,g4,g5,hQl,aE,gk,kN,UX,G,fM,ai,fl,-aN,aK W,bU,gi,dy,bL,cF,eI,bef,qI,Nat.testBit];omega
 .right
  have e:i=n:=by omega
  subst e;have U:¬i=0:=by omega
  simp[dq1,Yw,U,h8]
theorem sK(x:afv)(n:Nat):∀z∈upL x.s0 (x.base.l n) n,z.natAbs<=300:=by
 intro z X;unfold upL at X;obtain⟨k,Z,rfl⟩:=QQd.1 X;have Z:=List.mem_range.1 Z;have U:=lV x n _ (pX (l:=x.base.l n) (k:=k) (by rw[Hts.afY];exact Z));have V :((x.base.l n).getD k 0).natAbs<=38:=by
  have:(x.base.l n).getD k 0=x.base.z k:=by simp[Hts.l,List.getD_eq_getElem?_getD,Z]
  rw[this];exact x.base.ahq k
 have:=x.s0.ahq k;omega
theorem Ir(x:afv)(hx:x.Ok)(n k:Nat)(H:0<n)(I:n<=1000)(hJ:ct3 (x.n 0)=3):
  bz prog 35 [.agg [.slice 0 0 n none,.slice 1 0 k none],.agg x.cells,.str [110]] [.y9,.y9] (.agg [.slice 2 0 n none,.slice 3 0 3 none,.slice 4 0 2 none]) ([.y9,.y9]++[.cells true 1 (qC (qH (x.base.l n))),.cells true 1 (stC (uNm 3)),.cells true 1 [.slice 5 0 n none,.slice 6 0 n none],.cells true 1 (qC (qH (upL x.s0 (x.base.l n) n))),.cells true 1 (qC (qH (upL x.s1 (upL x.s0 (x.base.l n) n) n)))]):=by
 have l0:=afv.afE hx;have r0:=eD x.closed;have o0:=iw x.closed;have e0:=fun f=>aS (ρ:=f) x.closed
 have u:=afv.afG hx (k:=0) (by decide);simp only[Nat.reduceAdd] at u;have j:=de u;have o:=afv.ago hx;have Y:=ou hx.base;have M:=hx.base;obtain⟨b0,c0⟩:=afv.af9 hx (k:=0) (by decide);obtain⟨w3,w4⟩:=yz ⟨b0,c0⟩;rw[hJ] at w4;obtain⟨bo,bi,N⟩:∃b b2,ah f35=[b,b2]:=⟨_,_,rfl⟩
 obtain⟨I0,O⟩:=Bx (K:=n+5) x hx n k (x.base.l n) (x.base.afY n) (lV x n) H I (by omega) N;have G:dq0 x n k (x.base.l n) 0=[.y9,.y9,.cells true 0 [.slice 0 0 n none,.slice 1 0 k none],.cells true 0 x.cells,.cells true 0 [.kO,.kO,.kO],.cells true 1 (qC (qH (x.base.l n))),.cells true 0 [.slice 5 0 n none,.slice 10 0 2 none,.kO],.y9,.cells true 1 [.str [95,97],.str [95,98],.str [95,99]],.cells true 1 [.str [110,95,98]],.cells true 1 [.str [110,95,97],.str [110,95,98]],.cells true 1 []]:=rfl;have F:dq0 x n k (x.base.l n) n=[.y9,.y9,.cells true 0 [.slice 0 0 n none,.slice 1 0 k none],.cells true 0 x.cells,.cells true 0 [.kO,.kO,.kO],.cells true 1 (qC (qH (x.base.l n))),.cells true 0 [.slice 5 0 n none,.slice 10 0 2 none,.kO],.y9,.cells true 1 [.str [95,97],.str [95,98],.str [95,99]],.cells true 1 [.str [110,95,98]],.cells true 1 [.str [110,95,97],.str [110,95,98]],.y9,.cells true 1 (qC (qH (upL x.s0 (x.base.l n) n)))]:=if_neg (by omega);rw[G,F] at O;clear G F;obtain⟨I1,U⟩:=Nf (K:=n+5) x hx n k (x.base.l n) (upL x.s0 (x.base.l n) n) (eG _ _ _) (sK x n) H I (by omega) N;have G:dq1 x n k (x.base.l n) (upL x.s0 (x.base.l n) n) 0=[.y9,.y9,.cells true 0 [.slice 0 0 n none,.slice 1 0 k none],.cells true 0 x.cells,.cells true 0 [.kO,.kO,.kO],.cells true 1 (qC (qH (x.base.l n))),.cells true 0 [.slice 5 0 n none,.slice 12 0 3 none,.slice 9 0 1 none],.cells true 1 (qC (qH (upL x.s0 (x.base.l n) n))),.y9,.cells true 1 [.slice 7 0 n none],.cells true 1 [.str [95,97],.str [95,98],.str [95,99]],.cells true 1 [.str [110,95,99]],.cells true 1 [.str [110,95,97],.str [110,95,98],.str [110,95,99]],.cells true 1 []]:=rfl;have F:dq1 x n k (x.base.l n) (upL x.s0 (x.base.l n) n) n=[.y9,.y9,.cells true 0 [.slice 0 0 n none,.slice 1 0 k none],.cells true 0 x.cells,.cells true 0 [.kO,.kO,.kO],.cells true 1 (qC (qH (x.base.l n))),.cells true 0 [.slice 5 0 n none,.slice 12 0 3 none,.slice 9 0 1 none],.cells true 1 (qC (qH (upL x.s0 (x.base.l n) n))),.y9,.cells true 1 [.slice 7 0 n none],.cells true 1 [.str [95,97],.str [95,98],.str [95,99]],.cells true 1 [.str [110,95,99]],.cells true 1 [.str [110,95,97],.str [110,95,98],.str [110,95,99]],.y9,.cells true 1 (qC (qH (upL x.s1 (upL x.s0 (x.base.l n) n) n)))]:=if_neg (by omega);rw[G,F] at U;clear G F;obtain⟨S,hS⟩:=xE (qC (qH (upL x.s1 (upL x.s0 (x.base.l n) n) n)));have Sr:∀n,AV.afN n S=[]:=fun n=>by rw[hS,gk]
 have Sn:∀f,AV.afR f S=S:=fun f=>by rw[hS,kN]
 rw[<-hS] at U |-;clear hS;obtain⟨R,m⟩:=xE (qC (qH (upL x.s0 (x.base.l n) n)));have Rr:∀n,AV.afN n R=[]:=fun n=>by rw[m,gk]
 have Rn:∀f,AV.afR f R=R:=fun f=>by rw[m,kN]
 rw[<-m] at O U |-;clear m;obtain⟨C,hC⟩:=xE x.cells;rw[<-hC] at O U l0 r0 o0 e0 u j o |-;obtain⟨X,hX⟩:=xE (x.n 0);rw[<-hX] at u j w3 w4 b0 c0;have wX:IntKind.i64.wrap X=X:=kX (by omega) (by omega);obtain⟨B,hB⟩:=xE x.base;rw[<-hB] at O U o Y M |-;obtain⟨D,hD⟩:=xE B.cells;rw[<-hD,List.drop_one] at o;rw[<-hD] at Y;obtain⟨Q,hQ⟩:=xE (qC (qH (B.l n)));have Qr:∀n,AV.afN n Q=[]:=fun n=>by rw[hQ,gk]
 have Qn:∀f,AV.afR f Q=Q:=fun f=>by rw[hQ,kN]
 rw[<-hQ] at O U |-;have p1:=fun Z V h=>(O Z V h).1
 have W:=fun Z V h=>(O Z V h).2.1
 have pt2:=fun Z V h=>(O Z V h).2.2 2 (by simp)
 have pt3:=fun Z V h=>(O Z V h).2.2 3 (by simp)
 have pt4:=fun Z V h=>(O Z V h).2.2 4 (by simp)
 have pt6:=fun Z V h=>(O Z V h).2.2 6 (by simp)
 have J:=fun Z V h=>(O Z V h).2.2 7 (by simp)
 have pt8:=fun Z V h=>(O Z V h).2.2 8 (by simp)
 have pt9:=fun Z V h=>(O Z V h).2.2 9 (by simp)
 clear O;have s1:=fun Z V h=>(U Z V h).1
 have s10:=fun Z V h=>(U Z V h).2.1
 have st2:=fun Z V h=>(U Z V h).2.2 2 (by simp)
 have st3:=fun Z V h=>(U Z V h).2.2 3 (by simp)
 have st4:=fun Z V h=>(U Z V h).2.2 4 (by simp)
 have st6:=fun Z V h=>(U Z V h).2.2 6 (by simp)
 have st7:=fun Z V h=>(U Z V h).2.2 7 (by simp)
 have st8:=fun Z V h=>(U Z V h).2.2 8 (by simp)
 have st9:=fun Z V h=>(U Z V h).2.2 9 (by simp)
 clear U;have tk:C.take 34=C:=An (by omega);obtain⟨os,B'⟩:∃os,bn f35=os:=⟨_,rfl⟩
 have y:=cR B' (ls:=[[0,1,0,0,0,24,56,124,252,511,1023,2047],[0,0,0,6,14,0,0,64,0,448,960,2016,0,8160,16352,32736,65534,131070,262143,524287]]) (by kernel_rfl);simp only[bn,cU,f35,lA] at B';subst B';simp only[lB] at y;obtain⟨hb1,hb2⟩:=y;have hu:=fun s=>bw (aL prog) iD fM (n+5) 78 2 true s bo
 simp[ah,aw,f35] at N;obtain⟨rfl,rfl⟩:=N;have w33:IntKind.i64.wrap 3=3:=rfl;have h:ad (aL prog) iD (bq prog) fM (n+5) 35 [.agg [.slice 0 0 n none,.slice 1 0 k none],.agg C,.str [110]] [.y9,.y9]=some ⟨.agg [.slice 2 0 n none,.slice 3 0 3 none,.slice 4 0 2 none],some [.y9,.y9],[.cells true 1 Q,.cells true 1 (stC (uNm 3)),.cells true 1 [.slice 5 0 n none,.slice 6 0 n none],.cells true 1 R,.cells true 1 S]⟩:=by
  simp (maxSteps:=3000000) [ad,aht,f35,iD,fM,l0,r0,e0,j,o,Y,M,wX,w1,w2,w33,w3,w4,H,I,<-hQ,Qr,Qn,hu,ga,p1,W,J,pt9,Rr,Rn,s1,s10,st7,st9,Sr,Sn,-aN,aK hb1,bU,gi,dy,bL,cF,eI,bef,qI,Nat.testBit,aD,ag,uNm,nmE,stC,ft,List.idxOf?_cons]
  repeat' (first | rfl | apply And.intro)
 have:=(aB ak (aI _) ui (aQ _) h).1;simpa [afw.mem] using this
end Go.Proofs
namespace Go.Proofs
open Go.Eng
def XL(nm:List UInt8)(b u s:AV):List AV:=[.int .i64 1,.str nm,b,u,s,.str [],.str [],.str [],.str [],.str [],.str [],.str [],.str [],.str [],.str [],.kO,.str [],.str [],.str [],.str [],.str [],.str [],.str [],.str [],.str [],.int .i64 0,.int .i64 0,.int .i64 0,.int .i64 0,.str [],.str [],.str []]
end Go.Proofs
