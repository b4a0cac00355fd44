/- See D38. -/
import Derived.Test.YthpgbelancmpjaaGreatDoorD23
set_option linter.all false
set_option maxRecDepth 100000
set_option maxHeartbeats 40000000
namespace Go.Proofs
open Go.Eng
open Tryz
def EG(j:Nat):AV:=if j=0 then .slice 4 0 0 none else .slice 5 0 j none
def Cm(h:Hts)(n k j:Nat):Mem:=if j=0 then [.qK,.qK,.cells true 0 [.slice 0 0 n none,.slice 1 0 k none],.cells true 0 h.cells,.cells true 1 []] else [.qK,.qK,.cells true 0 [.slice 0 0 n none,.slice 1 0 k none],.cells true 0 h.cells,.qK,.cells true 1 (qC (qH (h.l j)))]
theorem TV(L:List Int):(qC (qH L)).length=L.length:=by rw[LW];simp[qH]
variable{K:Nat}{b:Code}
theorem F9(h:Hts)(H:h.Ok)(n k:Nat)(Zm:0<n)(hl:n<=1000)(hK:n<K)(hb:ah f89=[b]):
  ∃F:Env->Bool->Env,∀Z U,(ae Z 2=.ptr 2 0/\ae Z 3=.ptr 3 0/\ae Z 6=.int .i64 h.d/\ae Z 5=.slice 4 0 0 none/\ae Z 7=.int .i64 0)->
   aU (bd prog) (fun _=>[5,7]) (ag eU) K 31 2 true (.loop b) ⟨Z,Cm h n k 0,U⟩=some (.exit 0,⟨F Z U,Cm h n k n,U⟩)/\ae (F Z U) 5=.slice 5 0 n none:=by
 refine bl (L:=[5,7]) rfl (fun Z=>ae Z 2=.ptr 2 0/\ae Z 3=.ptr 3 0/\ae Z 6=.int .i64 h.d/\ae Z 5=.slice 4 0 0 none/\ae Z 7=.int .i64 0) (fun _ AC =>ae AC 5=.slice 5 0 n none) ?_;rintro Z U ⟨h2,h3,h6,h5,h7⟩;simp[ah,aE,f89] at hb;have N:aw [5,7] (ad b) Z ((5,EG 0)::(7,.int .i64 ((0:Nat):Int))::Z)=aw [5,7] (ad b) Z Z:=by simp[aw,h5,h7,EG]
 rw[<-N];have l0:=Hts.afo H;have B:=fq h.closed;have o0:=ib h.closed;have e0:=fun f=>aL (ρ:=f) h.closed
 refine bG (α:=Nat) (fun i=>⟨aw [5,7] (ad b) Z ((5,EG i)::(7,.int .i64 (i:Int))::Z),Cm h n k i,U⟩) (fun i=>n-i) (fun i=>i<=n) (.exit 0) _ U _ (by simp) ?_ K 0 (by omega) (by omega);intro i hi;clear N;subst hb;by_cases FS:i<n
 .left
  have S:i%6<6:=Nat.mod_lt _ (by decide);have M:=Hts.ahd H S;have u:=Hts.ah4 H S;have R:=h.ah5 i;have hs:=h.ahu i;have t6:((i:Int)).tmod 6=((i%6:Nat):Int):=rfl;obtain⟨r,hr⟩:=xE (i%6);rw[<-hr] at S M u R t6;obtain⟨X,hX⟩:=xE (h.v.getD r 0);rw[<-hX] at M u R;have q4:=Ao X 20 (by decide);simp only[Int.cast_ofNat_Int] at q4;obtain⟨x,o⟩:=xE (X.tmod 20);rw[<-o] at R q4;unfold AD at u;have g1:x.natAbs<100000000:=by omega
  have d1:0<h.d/\h.d<100000000:=by unfold Hts.d;split<;>omega
  obtain⟨D,hD⟩:=xE h.d;rw[<-hD] at R d1 h6;obtain⟨d1,d2⟩:=d1;have w3:IntKind.i64.wrap X=X:=kY (by omega) (by omega);have w1:IntKind.i64.wrap ((i:Int)+1)=((i+1:Nat):Int):=by rw[af];omega
  have j :(r:Int)<6:=by omega
  have j1:=cV M;obtain⟨C,Y⟩:=xE h.cells;rw[<-Y] at l0 B o0 e0 M j1;obtain⟨z,hz⟩:=xE (hQ (h.z i));rw[<-hz] at R;obtain⟨m,hm⟩:=xE (i+1);rw[<-hm] at w1 hs;refine⟨m,?_⟩;have W:¬m=0:=by omega
  have G:qC (qH (h.l m))=qC (qH (h.l i))++[.str (ao z)]:=by rw[hs,hz];simp[qH,qC]
  by_cases V:i=0
  .subst V
   have ZC:m=1:=by omega
   have w0:IntKind.i64.wrap 1=1:=rfl;have b0:qC (qH (h.l 0))=[]:=rfl;rw[b0,ZC,List.nil_append] at G;have J:r=0:=by omega
   subst J;have tj:Int.tmod 0 6=0:=rfl;simp[Cm,EG,G,ZC,h2,h3,h6,FS,<-Y,j1,tj,l0,B,w0,w3,<-o,g1,d1,d2,R,ag,eU];omega
  .obtain⟨Q,O⟩:=xE (qH (h.l i))
   have I:(qC Q).length=i:=by rw[O,TV,Hts.afJ]
   rw[<-O] at G;have g3:(qC Q).take i=qC Q:=B5 (by omega);have g4:m*16<=140737488355328:=by omega
   have g5:m<=140737488355328:=by omega
   simp[Cm,EG,V,W,G,<-O,<-hm,h2,h3,h6,FS,<-Y,M,t6,j,B,w1,w3,<-o,g1,g3,g4,g5,d1,d2,R,I,gu,kS,ag,eU];omega
 .right
  have e:i=n:=by omega
  subst e;have V:¬i=0:=by omega
  simp[Cm,EG,V,h2]
theorem M6(h:Hts)(H:h.Ok)(n k:Nat)(I:0<n)(J:n<=1000):
  kO prog 89 [.agg [.slice 0 0 n none,.slice 1 0 k none],.agg h.cells] [.qK,.qK] (.slice 2 0 n none) ([.qK,.qK]++[.cells true 1 (qC (qH (h.l n)))]):=by
 have L:aX prog 89=some f89:=by kernel_rfl
 obtain⟨b,R⟩:∃b,ah f89=[b]:=⟨_,rfl⟩
 obtain⟨F,X⟩:=F9 (K:=n+5) h H n k I J (by omega) R;simp[ah,aE,f89] at R;subst R;have D:¬n=0:=by omega
 simp only[Cm,if_true,if_neg D] at X;have V:=fun O N h=>(X O N h).1
 have G:=fun O N h=>(X O N h).2
 clear X;have M:=Hts.afo H;have B:=fq h.closed;have u:=ib h.closed;have o:=fun f=>aL (ρ:=f) h.closed
 have U:=Hts.agD H;have Z:=cV U;have S:h.d=if h.half then 2 else 1:=rfl
 obtain⟨C,m⟩:=xE h.cells;rw[<-m] at M B u o U Z V |-;obtain⟨Q,hQ⟩:=xE (qH (h.l n));rw[<-hQ] at V |-;have j:C.take 7=C:=B5 (by omega);have h:aa (bd prog) (fun _=>[5,7]) (aX prog) (ag eU) (n+5) 89 [.agg [.slice 0 0 n none,.slice 1 0 k none],.agg C] [.qK,.qK]=some ⟨.slice 2 0 n none,none,[.cells true 1 (qC Q)]⟩:=by
  cases hf:h.half
  .rw[hf] at S U Z
   simp[aa,L,f89,M,Z,V,G,S,gu,kS]
  .rw[hf] at S U Z
   simp[aa,L,f89,M,Z,V,G,S,gu,kS]
 have:=(ar aj (aJ _) uN (aM _) h).1;simpa [afh.mem] using this
theorem Qq(h:Hts)(H:h.Ok)(n k:Nat)(I:0<n)(J:n<=1000)(M:Mem)(p t:Nat)(W:p<M.length)(Y:t<M.length):
  kO prog 89 [.agg [.slice p 0 n none,.slice t 0 k none],.agg h.cells] M (.slice M.length 0 n none) (M++[.cells true 1 (qC (qH (h.l n)))]):=by
 have X:=fun f=>aL (ρ:=f) h.closed
 have:=kO.frame (M:=M) (new:=[.cells true 1 (qC (qH (h.l n)))]) (args:=[.agg [.slice 0 0 n none,.slice 1 0 k none],.agg h.cells]) [p,t] (m:=[.qK,.qK]) rfl (by simp[W,Y]) (by simp[AV.afp,AV.under,bj h.closed]) (fun i s Z=>by
  match i with
  |0=>simp at Z;subst Z;trivial
  |1=>simp at Z;subst Z;trivial
  |i+2=>simp at Z) (by rfl) (M6 h H n k I J)
 simpa [AV.afz,AV.ren,fa,afl.ren,kS,X] using this
theorem A7(q:Rat)(mem:Mem):kO prog 15 [.str (ao q)] mem (.int .i64 (gd q)) mem:=by
 have X:aX prog 15=some f15:=by kernel_rfl
 refine aA (az _) ?_ mem;by_cases Z:q=0
 .subst Z
  have:gd 0=0:=by decide
  simp[aa,X,f15,be,this]
 .have R:¬q.num=0:=fun e=>Z (mQ.1 e)
  by_cases V:q.num<0
  .have e:=jq V
   have U:(45::ao (-q)==[48])=false:=by rw[<-e,be];simpa using Z
   rw[e];simp[aa,X,f15,U,gd,jB,V]
  .obtain⟨c,r,S,O⟩:=kU (q:=q) (by omega)
   have U:(c::r==[48])=false:=by rw[<-S,be];simpa using Z
   have N:=fy O;rw[S];simp[aa,X,f15,U,N,gd,jB,V,R]
noncomputable def we(f:FuncId)(args:List AV):Option AV:=
 match f,args with
 |15,[.str s]=>match dY s with
  |some a=>some (.int .i64 (gd a))
  |none=>none
 |f,args=>fG f args
theorem NT:qS prog (ag we):=bP fun f Z v h mem=>by
 unfold we at h;split at h
 .split at h
  next a X=>cases h;rw[au X];exact A7 a mem
  .cases h
 .have:=jh.fn _ _ mem ⟨v,none,[]⟩ (by unfold ag;simp only;rw[h])
  simpa [afh.mem] using this
theorem XC(z:Int): -(hQ z)=hQ (-z):=by
 rw[mO,mO,Rat.intCast_neg]
 grind
theorem YA{z:Int}:hQ z<0↔z<0:=by
 rw[mO];constructor
 .intro h
  have:(z:Rat)<0:=by grind
  exact_mod_cast this
 .intro h
  have:(z:Rat)<0:=by exact_mod_cast h
  grind
theorem TH{q:Rat}:q.num<0↔q<0:=by
 have h:=Rat.num_nonneg (q:=q);constructor
 .intro X
  exact Rat.not_le.1 fun Z=>by have:=h.2 Z;omega
 .intro X
  have Z:¬0<=q:=Rat.not_le.2 X;have h3:¬0<=q.num:=fun h3=>Z (h.1 h3)
  omega
theorem Pt(q:Rat):gd q<0↔q.num<0:=by
 unfold gd jB;by_cases Z:q.num<0
 .simp[Z]
 .by_cases X:q.num=0
  .simp[X]
  .simp[Z,X]
theorem XE(z:Int):gd (hQ z)<0↔z<0:=by rw[Pt,TH,YA]
theorem Qp(z:Int)(hz:z.natAbs<1000)(M:Mem):kO prog 91 [.str (ao (hQ z))] M (.str (ao (hQ z.natAbs))) M:=by
 have S:aX prog 91=some f91:=by kernel_rfl
 refine aA NT ?_ M;have l:=Cc hz;have X:=XE z;obtain⟨g,V⟩:=xE (gd (hQ z));rw[<-V] at X;by_cases h:z<0
 .have Z :g<0:=X.2 h
  have e: -(hQ z)=hQ (z.natAbs:Int):=by rw[XC,show -z=(z.natAbs:Int) by omega]
  obtain⟨n,U⟩:=xE (α:=Int) (z.natAbs:Int);rw[<-U] at e |-;simp[aa,S,f91,ag,we,fG,aB,l,<-V,Z,e]
 .have Z :¬g<0:=fun R =>h (X.1 R)
  have e:z=(z.natAbs:Int):=by omega
  obtain⟨n,U⟩:=xE (α:=Int) (z.natAbs:Int);rw[<-U] at e |-;simp[aa,S,f91,ag,we,aB,<-V,Z,<-e]
def Yq:List AV->Option Hts
 | [.int .i8 a,.int .i8 b,.int .i8 c,.int .i8 d,.int .i8 e,.int .i8 f,.bool g]=>some ⟨[a,b,c,d,e,f],g⟩
 |_=>none
variable{h:Hts}
theorem nW(H:h.Ok):Yq h.cells=some h:=by
 obtain⟨v,g⟩:=h;have Z:=H.len;simp only at Z
 match v,Z with
 | [a,b,c,d,e,f],_=>rfl
theorem Tc{cs:List AV}(e:Yq cs=some h):cs=h.cells:=by
 unfold Yq at e;split at e
 .cases e;rfl
 .cases e
open Classical in
noncomputable def gh:y9:=fun c Z M=>match c,Z with
 |.fn 89,[.agg [.slice p 0 n none,.slice t 0 _ none],.agg cs]=>match Yq cs with
  |some h=>if h.Ok/\0<n/\n<=1000/\p<M.length/\t<M.length then some ⟨.slice M.length 0 n none,none,[.cells true 1 (qC (qH (h.l n)))]⟩ else none
  |none=>none
 |.fn 91,[.str s]=>match dY s with
  |some q=>if q.den<=2/\(q*2).num.natAbs<1000/\q=hQ (q*2).num then some ⟨.str (ao (hQ (q*2).num.natAbs)),none,[]⟩ else none
  |none=>none
 |c,Z=>ag fG c Z M
theorem uc:qS prog gh:=by
 refine cB fun c X M r h=>?_
 unfold gh at h;split at h
 .split at h
  .rename_i S V
   split at h
   .rename_i Z
    cases h;rw[Tc V];exact aC (Qq _ Z.1 _ _ Z.2.1 Z.2.2.1 M _ _ Z.2.2.2.1 Z.2.2.2.2)
   .cases h
  .cases h
 .split at h
  .rename_i q U
   split at h
   .rename_i Z
    cases h;refine aC ?_;rw[List.append_nil,au U];have:=Qp (q*2).num Z.2.1 M;rw[<-Z.2.2] at this;exact this
   .cases h
  .cases h
 .exact dZ jh h
theorem Ta(z:Int):(hQ z*2).num=z:=by
 have:hQ z*2=(z:Rat):=by rw[mO];grind
 rw[this];rfl
theorem CK(L:List Int):(qC (qH L)).length=L.length:=TV L
theorem TT{L:List Int}{k:Nat}(h:k<L.length):(qC (qH L))[k]? =some (.str (ao (hQ (L.getD k 0)))):=by
 have Z:L[k]? =some (L.getD k 0):=by rw[List.getD_eq_getElem?_getD,GT h];rfl
 exact Ov (by simp only[qH,Zo,Z];rfl)
theorem Wk(z:Int):(hQ z).den<=2:=(Ph z (by decide)).2
def nmE(c:UInt8):List UInt8:=[110,95,c]
def uNm:Nat->List (List UInt8)
 |1=>[nmE 97]
 |2=>[nmE 97,nmE 98]
 |_=>[nmE 97,nmE 98,nmE 99]
def iO(c:Code):List Nat:=if (ad c).contains 29 then [9,9,8] else [10,11]
theorem xR{X:Int}(H:AD X):IntKind.i64.wrap (X.tmod 3+3)=X.tmod 3+3/\IntKind.i64.wrap (1+(X.tmod 3+3).tmod 3)=ct3 X:=by have h:=Ao X 3 (by decide);have Z:=Ao (X.tmod 3+3) 3 (by decide);simp only[Int.cast_ofNat_Int] at h Z;exact⟨af,af⟩
theorem ahe:aX prog 35=some f35:=by kernel_rfl
theorem HZ(x:afg)(H:x.Ok)(n k:Nat)(I:0<n)(J:n<=1000)(W:ct3 (x.n 0)=1):
  kO prog 35 [.agg [.slice 0 0 n none,.slice 1 0 k none],.agg x.cells,.str [110]] [.qK,.qK] (.agg [.slice 2 0 n none,.slice 3 0 1 none,.qF]) ([.qK,.qK]++[.cells true 1 (qC (qH (x.base.l n))),.cells true 1 (stC (uNm 1))]):=by
 have M:=afg.afo H;have L:=fq x.closed;have Y:=ib x.closed;have G:=fun f=>aL (ρ:=f) x.closed
 have V:=afg.afs H (k:=0) (by decide);simp only[Nat.reduceAdd] at V;have S:=cV V;have U:=afg.agb H;have R:=nW H.base;have Z:=H.base;obtain⟨F,u⟩:=afg.afV H (k:=0) (by decide);obtain⟨w3,w4⟩:=xR ⟨F,u⟩;rw[W] at w4;obtain⟨C,hC⟩:=xE x.cells;rw[<-hC] at M L Y G V S U |-;obtain⟨X,hX⟩:=xE (x.n 0);rw[<-hX] at V S w3 w4 F u;have wX:IntKind.i64.wrap X=X:=kY (by omega) (by omega);obtain⟨B,hB⟩:=xE x.base;rw[<-hB] at U R Z |-;obtain⟨D,o⟩:=xE B.cells;rw[<-o,List.drop_one] at U;rw[<-o] at R;obtain⟨Q,hQ⟩:=xE (qC (qH (B.l n)));have Qr:∀n,AV.afy n Q=[]:=fun n=>by rw[hQ,gu]
 have Qn:∀f,AV.afz f Q=Q:=fun f=>by rw[hQ,kS]
 rw[<-hQ];have tk:C.take 34=C:=B5 (by omega);obtain⟨m,O⟩:∃m,aI f35=m:=⟨_,rfl⟩
 have j:=cG O (ls:=[[0,1,0,0,0,24,56,124,252,511,1023,2047],[0,0,0,6,14,0,0,64,0,448,960,2016,0,8160,16352,32736,65534,131070,262143,524287]]) (by kernel_rfl);simp only[aI,ca,f35,lA] at O;subst O;simp only[lB] at j;obtain⟨N,ZF⟩:=j;have h:aa (bd prog) iO (aX prog) gh 5 35 [.agg [.slice 0 0 n none,.slice 1 0 k none],.agg C,.str [110]] [.qK,.qK]=some ⟨.agg [.slice 2 0 n none,.slice 3 0 1 none,.qF],some [.qK,.qK],[.cells true 1 Q,.cells true 1 (stC (uNm 1))]⟩:=by simp (maxSteps:=3000000) [aa,ahe,f35,iO,gh,M,L,G,S,U,R,Z,wX,w1,w3,w4,I,J,<-hQ,Qr,Qn,ba,ga,-aG,aY N,cq,gE,dW,cK,cS,gB,bef,qp,Nat.testBit,cv,aH,uNm,nmE,stC,fM];exact⟨rfl,rfl⟩
 have:=(ar aj (aJ _) uc (aM _) h).1;simpa [afh.mem] using this
def dq0(x:afg)(n k:Nat)(H:List Int)(i:Nat):Mem:=if i=0 then [.qK,.qK,.cells true 0 [.slice 0 0 n none,.slice 1 0 k none],.cells true 0 x.cells,.cells true 0 [.qF,.qF,.qF],.cells true 1 (qC (qH H)),.cells true 0 [.slice 5 0 n none,.slice 10 0 2 none,.qF],.qK,.cells true 1 [.str [95,97],.str [95,98],.str [95,99]],.cells true 1 [.str [110,95,98]],.cells true 1 [.str [110,95,97],.str [110,95,98]],.cells true 1 []] else [.qK,.qK,.cells true 0 [.slice 0 0 n none,.slice 1 0 k none],.cells true 0 x.cells,.cells true 0 [.qF,.qF,.qF],.cells true 1 (qC (qH H)),.cells true 0 [.slice 5 0 n none,.slice 10 0 2 none,.qF],.qK,.cells true 1 [.str [95,97],.str [95,98],.str [95,99]],.cells true 1 [.str [110,95,98]],.cells true 1 [.str [110,95,97],.str [110,95,98]],.qK,.cells true 1 (qC (qH (upL x.s0 H i)))]
def Xo(i:Nat):AV:=if i=0 then .slice 11 0 0 none else .slice 12 0 i none
variable{b2:Code}
theorem Be(x:afg)(hx:x.Ok)(n k:Nat)(H:List Int)(hL:H.length=n)(hb9:∀z∈H,z.natAbs<=300)(Zm:0<n)(hl:n<=1000)(hK:n<K)(I:ah f35=[b2,b]):
  ∃F:Env->Bool->Env,∀Z U,(ae Z 3=.ptr 2 0/\ae Z 4=.ptr 3 0/\ae Z 8=.slice 5 0 n none/\ae Z 9=.int .i64 1/\ae Z 10=.slice 11 0 0 none/\ae Z 11=.int .i64 0)->
   aU (bd prog) iO gh K 78 2 true (.loop b) ⟨Z,dq0 x n k H 0,U⟩=some (.exit 2,⟨F Z U,dq0 x n k H n,U⟩)/\ae (F Z U) 10=.slice 12 0 n none/\
    (∀t,t∈[2,3,4,6,7,8,9]->ae (F Z U) t=ae Z t):=by
 refine bl (L:=[10,11]) (by simp[ah,aE,f35] at I;rw[<-I.2];rfl) (fun Z=>ae Z 3=.ptr 2 0/\ae Z 4=.ptr 3 0/\ae Z 8=.slice 5 0 n none/\ae Z 9=.int .i64 1/\ae Z 10=.slice 11 0 0 none/\ae Z 11=.int .i64 0) (fun Z AC =>ae AC 10=.slice 12 0 n none/\(∀t,t∈[2,3,4,6,7,8,9]->ae AC t=ae Z t)) ?_;rintro Z U ⟨h3,h4,h8,h9,ZS,h11⟩;obtain⟨os,D'⟩:∃os,aI f35=os:=⟨_,rfl⟩
 have UV:=cG D' (ls:=[[0,1,0,0,0,24,56,124,252,511,1023,2047],[0,0,0,6,14,0,0,64,0,448,960,2016,0,8160,16352,32736,65534,131070,262143,524287]]) (by kernel_rfl);simp only[aI,ca,f35,lA] at D';subst D';simp only[lB] at UV;obtain⟨-,ZF⟩:=UV;simp[ah,aE,f35] at I;obtain⟨-,I⟩:=I;have j:aw [10,11] (ad b) Z ((10,Xo 0)::(11,.int .i64 ((0:Nat):Int))::Z)=aw [10,11] (ad b) Z Z:=by simp[aw,ZS,h11,Xo]
 rw[<-j];have Zg:(dq0 x n k H 0).length=12:=rfl;have l0:=afg.afo hx;have r0:=fq x.closed;have o0:=ib x.closed;have e0:=fun f=>aL (ρ:=f) x.closed
 have Y:=afg.agW hx;have hP:=nW hx.s0;have S:=hx.s0;have tk:x.cells.take 34=x.cells:=B5 (by omega);refine bG (α:=Nat) (fun i=>⟨aw [10,11] (ad b) Z ((10,Xo i)::(11,.int .i64 (i:Int))::Z),dq0 x n k H i,U⟩) (fun i=>n-i) (fun i=>i<=n) (.exit 2) _ U _ (by simp) ?_ K 0 (by omega) (by omega);intro i hi;clear j;subst I;by_cases FS:i<n
 .left
  have k1:=TT (L:=H) (k:=i) (by omega);have hzl:(H.getD i 0).natAbs<=300:=hb9 _ (mN (by omega));have hs:=PA x.s0 H i;have hzz:=x.s0.ag0 i;have k2:=TT (L:=x.s0.l n) (k:=i) (by rw[Hts.afJ];exact FS);have gl:(x.s0.l n).getD i 0=x.s0.z i:=by simp[Hts.l,List.getD_eq_getElem?_getD,FS]
  rw[gl] at k2;have X:=CK (x.s0.l n);rw[Hts.afJ] at X;obtain⟨R,u⟩:=xE (qC (qH (x.s0.l n)));rw[<-u] at k2 X;have Rr:∀n,AV.afy n R=[]:=fun n=>by rw[u,gu]
  have Ro:∀f,AV.afn f R=true:=fun f=>by rw[u,TR]
  obtain⟨z,hz⟩:=xE (H.getD i 0);rw[<-hz] at k1 hzl hs;obtain⟨y,hy⟩:=xE (x.s0.z i);rw[<-hy] at k2 hzz hs;have O:=Wj z (y.natAbs:Int);have l1:=Cc (z:=z) (by omega);have l2:=Cc (z:=(y.natAbs:Int)) (by omega);have W:=Ta y;have J:=Wk y;have N:y.natAbs<1000:=by omega
  have M :=CK H;rw[hL] at M;have k1' :=cV k1;have k2' :=cV k2;have w1:IntKind.i64.wrap ((i:Int)+1)=((i+1:Nat):Int):=by rw[af];omega
  obtain⟨m,hm⟩:=xE (i+1);rw[<-hm] at w1 hs;refine⟨m,?_⟩;have hmp:¬m=0:=by omega
  have o:qC (qH (upL x.s0 H m))=qC (qH (upL x.s0 H i))++[.str (ao (hQ (z+(y.natAbs:Int))))]:=by rw[hs];simp[qH,qC]
  obtain⟨B,hB⟩:=xE x.s0;rw[<-hB] at Y hP S u o;obtain⟨D,hD⟩:=xE B.cells;have Dr:∀n,AV.afy n D=[]:=fun n=>by rw[hD];exact fq B.closed n
  have Do:∀f,AV.afn f D=true:=fun f=>by rw[hD];exact ib B.closed f
  rw[<-hD] at Y hP;obtain⟨C,hC⟩:=xE x.cells;rw[<-hC] at l0 r0 o0 e0 Y tk;obtain⟨y',Z8⟩:=xE y.natAbs;rw[<-Z8] at O l2 o N;have w0:IntKind.i64.wrap 1=1:=rfl;have w00:IntKind.i64.wrap 0=0:=rfl;by_cases V:i=0
  .subst V
   have ZC:m=1:=by omega
   have b0:qC (qH (upL B H 0))=[]:=rfl;rw[b0,ZC,List.nil_append] at o;simp (maxSteps:=1000000) [dq0,Xo,o,ZC,h3,h4,h8,h9,FS,hl,<-hB,<-hC,<-u,k1',k2',l0,r0,Y,hP,S,Ro,Do,X,w0,w00,l1,l2,O,W,J,<-Z8,N,aB,gu,M,gh,ag,fG,-aG,aY ZF,cq,gE,dW,cK,cS,gB,bef,qp,Nat.testBit];omega
  .obtain⟨Q,G⟩:=xE (qH (upL B H i))
   have hQl:(qC Q).length=i:=by rw[G,CK,fE]
   rw[<-G] at o;have g3:(qC Q).take i=qC Q:=B5 (by omega);have g4:m*16<=140737488355328:=by omega
   have g5:m<=140737488355328:=by omega
   simp (maxSteps:=1000000) [dq0,Xo,V,hmp,o,<-G,<-hm,h3,h4,h8,h9,FS,Zm,hl,<-hB,<-hC,<-u,k1',k2',l0,r0,Y,hP,S,Ro,Do,X,w00,w1,l1,l2,O,W,J,<-Z8,N,g3,g4,g5,hQl,aB,gu,kS,TR,M,gh,ag,fG,-aG,aY ZF,cq,gE,dW,cK,cS,gB,bef,qp,Nat.testBit];omega
 .right
  have e:i=n:=by omega
  subst e;have V:¬i=0:=by omega
  simp[dq0,Xo,V,h8]
theorem ka(x:afg)(n:Nat):∀z∈x.base.l n,z.natAbs<=300:=by intro z Z;unfold Hts.l at Z;obtain⟨k,_,rfl⟩:=QQh.1 Z;have:=x.base.ag0 k;omega
theorem H3(x:afg)(H:x.Ok)(n k:Nat)(I:0<n)(J:n<=1000)(hJ:ct3 (x.n 0)=2):
  kO prog 35 [.agg [.slice 0 0 n none,.slice 1 0 k none],.agg x.cells,.str [110]] [.qK,.qK] (.agg [.slice 2 0 n none,.slice 3 0 2 none,.slice 4 0 1 none]) ([.qK,.qK]++[.cells true 1 (qC (qH (x.base.l n))),.cells true 1 (stC (uNm 2)),.cells true 1 [.slice 5 0 n none],.cells true 1 (qC (qH (upL x.s0 (x.base.l n) n)))]):=by
 have W:=afg.afo H;have r0:=fq x.closed;have o0:=ib x.closed;have e0:=fun f=>aL (ρ:=f) x.closed
 have O:=afg.afs H (k:=0) (by decide);simp only[Nat.reduceAdd] at O;have L:=cV O;have N:=afg.agb H;have G:=nW H.base;have S:=H.base;obtain⟨b0,c0⟩:=afg.afV H (k:=0) (by decide);obtain⟨w3,w4⟩:=xR ⟨b0,c0⟩;rw[hJ] at w4;obtain⟨bo,bi,F⟩:∃b b2,ah f35=[b,b2]:=⟨_,_,rfl⟩
 obtain⟨I0,U⟩:=Be (K:=n+5) x H n k (x.base.l n) (x.base.afJ n) (ka x n) I J (by omega) F;have q0:dq0 x n k (x.base.l n) 0=[.qK,.qK,.cells true 0 [.slice 0 0 n none,.slice 1 0 k none],.cells true 0 x.cells,.cells true 0 [.qF,.qF,.qF],.cells true 1 (qC (qH (x.base.l n))),.cells true 0 [.slice 5 0 n none,.slice 10 0 2 none,.qF],.qK,.cells true 1 [.str [95,97],.str [95,98],.str [95,99]],.cells true 1 [.str [110,95,98]],.cells true 1 [.str [110,95,97],.str [110,95,98]],.cells true 1 []]:=rfl;have q1:dq0 x n k (x.base.l n) n=[.qK,.qK,.cells true 0 [.slice 0 0 n none,.slice 1 0 k none],.cells true 0 x.cells,.cells true 0 [.qF,.qF,.qF],.cells true 1 (qC (qH (x.base.l n))),.cells true 0 [.slice 5 0 n none,.slice 10 0 2 none,.qF],.qK,.cells true 1 [.str [95,97],.str [95,98],.str [95,99]],.cells true 1 [.str [110,95,98]],.cells true 1 [.str [110,95,97],.str [110,95,98]],.qK,.cells true 1 (qC (qH (upL x.s0 (x.base.l n) n)))]:=if_neg (by omega);rw[q0,q1] at U;clear q0 q1;obtain⟨R,M⟩:=xE (qC (qH (upL x.s0 (x.base.l n) n)));have Rr:∀n,AV.afy n R=[]:=fun n=>by rw[M,gu]
 have Rn:∀f,AV.afz f R=R:=fun f=>by rw[M,kS]
 rw[<-M] at U |-;clear M;obtain⟨C,hC⟩:=xE x.cells;rw[<-hC] at U W r0 o0 e0 O L N |-;obtain⟨X,hX⟩:=xE (x.n 0);rw[<-hX] at O L w3 w4 b0 c0;have wX:IntKind.i64.wrap X=X:=kY (by omega) (by omega);obtain⟨B,hB⟩:=xE x.base;rw[<-hB] at U N G S |-;obtain⟨D,hD⟩:=xE B.cells;rw[<-hD,List.drop_one] at N;rw[<-hD] at G;obtain⟨Q,hQ⟩:=xE (qC (qH (B.l n)));have Qr:∀n,AV.afy n Q=[]:=fun n=>by rw[hQ,gu]
 have Qn:∀f,AV.afz f Q=Q:=fun f=>by rw[hQ,kS]
 rw[<-hQ] at U |-;have p1:=fun Z V h=>(U Z V h).1
 have u:=fun Z V h=>(U Z V h).2.1
 have pt2:=fun Z V h=>(U Z V h).2.2 2 (by simp)
 have pt3:=fun Z V h=>(U Z V h).2.2 3 (by simp)
 have pt4:=fun Z V h=>(U Z V h).2.2 4 (by simp)
 have pt6:=fun Z V h=>(U Z V h).2.2 6 (by simp)
 have o:=fun Z V h=>(U Z V h).2.2 7 (by simp)
 have pt8:=fun Z V h=>(U Z V h).2.2 8 (by simp)
 have m:=fun Z V h=>(U Z V h).2.2 9 (by simp)
 clear U;have tk:C.take 34=C:=B5 (by omega);obtain⟨os,j⟩:∃os,aI f35=os:=⟨_,rfl⟩
 have UV:=cG j (ls:=[[0,1,0,0,0,24,56,124,252,511,1023,2047],[0,0,0,6,14,0,0,64,0,448,960,2016,0,8160,16352,32736,65534,131070,262143,524287]]) (by kernel_rfl);simp only[aI,ca,f35,lA] at j;subst j;simp only[lB] at UV;obtain⟨Y,ZF⟩:=UV;have hu:=fun s=>ba (bd prog) iO gh (n+5) 78 2 true s bo
 simp[ah,aE,f35] at F;obtain⟨rfl,rfl⟩:=F;have h:aa (bd prog) iO (aX prog) gh (n+5) 35 [.agg [.slice 0 0 n none,.slice 1 0 k none],.agg C,.str [110]] [.qK,.qK]=some ⟨.agg [.slice 2 0 n none,.slice 3 0 2 none,.slice 4 0 1 none],some [.qK,.qK],[.cells true 1 Q,.cells true 1 (stC (uNm 2)),.cells true 1 [.slice 5 0 n none],.cells true 1 R]⟩:=by
  simp (maxSteps:=3000000) [aa,ahe,f35,iO,gh,W,r0,e0,L,N,G,S,wX,w1,w2,w3,w4,I,J,<-hQ,Qr,Qn,hu,ga,p1,u,o,m,Rr,Rn,-aG,aY Y,cq,gE,dW,cK,cS,gB,bef,qp,Nat.testBit,cv,aH,uNm,nmE,stC,fM,List.idxOf?_cons]
  repeat' (first | rfl | apply And.intro)
 have:=(ar aj (aJ _) uc (aM _) h).1;simpa [afh.mem] using this
def dq1(x:afg)(n k:Nat)(H L1:List Int)(i:Nat):Mem:=if i=0 then [.qK,.qK,.cells true 0 [.slice 0 0 n none,.slice 1 0 k none],.cells true 0 x.cells,.cells true 0 [.qF,.qF,.qF],.cells true 1 (qC (qH H)),.cells true 0 [.slice 5 0 n none,.slice 12 0 3 none,.slice 9 0 1 none],.cells true 1 (qC (qH L1)),.qK,.cells true 1 [.slice 7 0 n none],.cells true 1 [.str [95,97],.str [95,98],.str [95,99]],.cells true 1 [.str [110,95,99]],.cells true 1 [.str [110,95,97],.str [110,95,98],.str [110,95,99]],.cells true 1 []] else [.qK,.qK,.cells true 0 [.slice 0 0 n none,.slice 1 0 k none],.cells true 0 x.cells,.cells true 0 [.qF,.qF,.qF],.cells true 1 (qC (qH H)),.cells true 0 [.slice 5 0 n none,.slice 12 0 3 none,.slice 9 0 1 none],.cells true 1 (qC (qH L1)),.qK,.cells true 1 [.slice 7 0 n none],.cells true 1 [.str [95,97],.str [95,98],.str [95,99]],.cells true 1 [.str [110,95,99]],.cells true 1 [.str [110,95,97],.str [110,95,98],.str [110,95,99]],.qK,.cells true 1 (qC (qH (upL x.s1 L1 i)))]
def Xp(i:Nat):AV:=if i=0 then .slice 13 0 0 none else .slice 14 0 i none
theorem Nc(x:afg)(hx:x.Ok)(n k:Nat)(L0 L1:List Int)(hL:L1.length=n)(hb9:∀z∈L1,z.natAbs<=300)(Zm:0<n)(hl:n<=1000)(hK:n<K)(H:ah f35=[b2,b]):
  ∃F:Env->Bool->Env,∀Z U,(ae Z 3=.ptr 2 0/\ae Z 4=.ptr 3 0/\ae Z 8=.slice 7 0 n none/\ae Z 9=.int .i64 2/\ae Z 10=.slice 13 0 0 none/\ae Z 11=.int .i64 0)->
   aU (bd prog) iO gh K 78 2 true (.loop b) ⟨Z,dq1 x n k L0 L1 0,U⟩=some (.exit 2,⟨F Z U,dq1 x n k L0 L1 n,U⟩)/\ae (F Z U) 10=.slice 14 0 n none/\
    (∀t,t∈[2,3,4,6,7,8,9]->ae (F Z U) t=ae Z t):=by
 refine bl (L:=[10,11]) (by simp[ah,aE,f35] at H;rw[<-H.2];rfl) (fun Z=>ae Z 3=.ptr 2 0/\ae Z 4=.ptr 3 0/\ae Z 8=.slice 7 0 n none/\ae Z 9=.int .i64 2/\ae Z 10=.slice 13 0 0 none/\ae Z 11=.int .i64 0) (fun Z AC =>ae AC 10=.slice 14 0 n none/\(∀t,t∈[2,3,4,6,7,8,9]->ae AC t=ae Z t)) ?_;rintro Z U ⟨h3,h4,h8,h9,ZS,h11⟩;obtain⟨os,D'⟩:∃os,aI f35=os:=⟨_,rfl⟩
 have UV:=cG D' (ls:=[[0,1,0,0,0,24,56,124,252,511,1023,2047],[0,0,0,6,14,0,0,64,0,448,960,2016,0,8160,16352,32736,65534,131070,262143,524287]]) (by kernel_rfl);simp only[aI,ca,f35,lA] at D';subst D';simp only[lB] at UV;obtain⟨-,ZF⟩:=UV;simp[ah,aE,f35] at H;obtain⟨-,H⟩:=H;have j:aw [10,11] (ad b) Z ((10,Xp 0)::(11,.int .i64 ((0:Nat):Int))::Z)=aw [10,11] (ad b) Z Z:=by simp[aw,ZS,h11,Xp]
 rw[<-j];have Zg:(dq1 x n k L0 L1 0).length=14:=rfl;have l0:=afg.afo hx;have r0:=fq x.closed;have o0:=ib x.closed;have e0:=fun f=>aL (ρ:=f) x.closed
 have Y:=afg.agX hx;have hP:=nW hx.s1;have S:=hx.s1;have tk:x.cells.take 34=x.cells:=B5 (by omega);refine bG (α:=Nat) (fun i=>⟨aw [10,11] (ad b) Z ((10,Xp i)::(11,.int .i64 (i:Int))::Z),dq1 x n k L0 L1 i,U⟩) (fun i=>n-i) (fun i=>i<=n) (.exit 2) _ U _ (by simp) ?_ K 0 (by omega) (by omega);intro i hi;clear j;subst H;by_cases FS:i<n
 .left
  have k1:=TT (L:=L1) (k:=i) (by omega);have hzl:(L1.getD i 0).natAbs<=300:=hb9 _ (mN (by omega));have hs:=PA x.s1 L1 i;have hzz:=x.s1.ag0 i;have k2:=TT (L:=x.s1.l n) (k:=i) (by rw[Hts.afJ];exact FS);have gl:(x.s1.l n).getD i 0=x.s1.z i:=by simp[Hts.l,List.getD_eq_getElem?_getD,FS]
  rw[gl] at k2;have X:=CK (x.s1.l n);rw[Hts.afJ] at X;obtain⟨R,u⟩:=xE (qC (qH (x.s1.l n)));rw[<-u] at k2 X;have Rr:∀n,AV.afy n R=[]:=fun n=>by rw[u,gu]
  have Ro:∀f,AV.afn f R=true:=fun f=>by rw[u,TR]
  obtain⟨z,hz⟩:=xE (L1.getD i 0);rw[<-hz] at k1 hzl hs;obtain⟨y,hy⟩:=xE (x.s1.z i);rw[<-hy] at k2 hzz hs;have O:=Wj z (y.natAbs:Int);have l1:=Cc (z:=z) (by omega);have l2:=Cc (z:=(y.natAbs:Int)) (by omega);have W:=Ta y;have J:=Wk y;have N:y.natAbs<1000:=by omega
  have M :=CK L1;rw[hL] at M;have I :=cV k1;have k2' :=cV k2;have w1:IntKind.i64.wrap ((i:Int)+1)=((i+1:Nat):Int):=by rw[af];omega
  obtain⟨m,hm⟩:=xE (i+1);rw[<-hm] at w1 hs;refine⟨m,?_⟩;have hmp:¬m=0:=by omega
  have o:qC (qH (upL x.s1 L1 m))=qC (qH (upL x.s1 L1 i))++[.str (ao (hQ (z+(y.natAbs:Int))))]:=by rw[hs];simp[qH,qC]
  obtain⟨B,hB⟩:=xE x.s1;rw[<-hB] at Y hP S u o;obtain⟨D,hD⟩:=xE B.cells;have Dr:∀n,AV.afy n D=[]:=fun n=>by rw[hD];exact fq B.closed n
  have Do:∀f,AV.afn f D=true:=fun f=>by rw[hD];exact ib B.closed f
  rw[<-hD] at Y hP;obtain⟨C,hC⟩:=xE x.cells;rw[<-hC] at l0 r0 o0 e0 Y tk;obtain⟨y',Z8⟩:=xE y.natAbs;rw[<-Z8] at O l2 o N;have w0:IntKind.i64.wrap 1=1:=rfl;have w00:IntKind.i64.wrap 0=0:=rfl;by_cases V:i=0
  .subst V
   have ZC:m=1:=by omega
   have b0:qC (qH (upL B L1 0))=[]:=rfl;rw[b0,ZC,List.nil_append] at o;simp (maxSteps:=1000000) [dq1,Xp,o,ZC,h3,h4,h8,h9,FS,hl,<-hB,<-hC,<-u,I,k2',l0,r0,Y,hP,S,Ro,Do,X,w0,l1,l2,O,W,J,<-Z8,N,aB,gu,M,gh,ag,fG,-aG,aY ZF,cq,gE,dW,cK,cS,gB,bef,qp,Nat.testBit];omega
  .obtain⟨Q,G⟩:=xE (qH (upL B L1 i))
   have hQl:(qC Q).length=i:=by rw[G,CK,fE]
   rw[<-G] at o;have g3:(qC Q).take i=qC Q:=B5 (by omega);have g4:m*16<=140737488355328:=by omega
   have g5:m<=140737488355328:=by omega
   simp (maxSteps:=1000000) [dq1,Xp,V,hmp,o,<-G,<-hm,h3,h4,h8,h9,FS,Zm,hl,<-hB,<-hC,<-u,I,k2',l0,r0,Y,hP,S,Ro,Do,X,w0,w1,l1,l2,O,W,J,<-Z8,N,g3,g4,g5,hQl,aB,gu,kS,TR,M,gh,ag,fG,-aG,aY ZF,cq,gE,dW,cK,cS,gB,bef,qp,Nat.testBit];omega
 .right
  have e:i=n:=by omega
  subst e;have V:¬i=0:=by omega
  simp[dq1,Xp,V,h8]
theorem mw(x:afg)(n:Nat):∀z∈upL x.s0 (x.base.l n) n,z.natAbs<=300:=by
 intro z X;unfold upL at X;obtain⟨k,Z,rfl⟩:=QQh.1 X;have Z:=List.mem_range.1 Z;have V:=ka x n _ (mN (l:=x.base.l n) (k:=k) (by rw[Hts.afJ];exact Z));have U :((x.base.l n).getD k 0).natAbs<=38:=by
  have:(x.base.l n).getD k 0=x.base.z k:=by simp[Hts.l,List.getD_eq_getElem?_getD,Z]
  rw[this];exact x.base.ag0 k
 have:=x.s0.ag0 k;omega
theorem H4(x:afg)(H:x.Ok)(n k:Nat)(I:0<n)(J:n<=1000)(hJ:ct3 (x.n 0)=3):
  kO prog 35 [.agg [.slice 0 0 n none,.slice 1 0 k none],.agg x.cells,.str [110]] [.qK,.qK] (.agg [.slice 2 0 n none,.slice 3 0 3 none,.slice 4 0 2 none]) ([.qK,.qK]++[.cells true 1 (qC (qH (x.base.l n))),.cells true 1 (stC (uNm 3)),.cells true 1 [.slice 5 0 n none,.slice 6 0 n none],.cells true 1 (qC (qH (upL x.s0 (x.base.l n) n))),.cells true 1 (qC (qH (upL x.s1 (upL x.s0 (x.base.l n) n) n)))]):=by
 have l0:=afg.afo H;have r0:=fq x.closed;have o0:=ib x.closed;have e0:=fun f=>aL (ρ:=f) x.closed
 have G:=afg.afs H (k:=0) (by decide);simp only[Nat.reduceAdd] at G;have m:=cV G;have F:=afg.agb H;have j:=nW H.base;have N:=H.base;obtain⟨b0,c0⟩:=afg.afV H (k:=0) (by decide);obtain⟨w3,w4⟩:=xR ⟨b0,c0⟩;rw[hJ] at w4;obtain⟨bo,bi,u⟩:∃b b2,ah f35=[b,b2]:=⟨_,_,rfl⟩
 obtain⟨I0,O⟩:=Be (K:=n+5) x H n k (x.base.l n) (x.base.afJ n) (ka x n) I J (by omega) u;have M:dq0 x n k (x.base.l n) 0=[.qK,.qK,.cells true 0 [.slice 0 0 n none,.slice 1 0 k none],.cells true 0 x.cells,.cells true 0 [.qF,.qF,.qF],.cells true 1 (qC (qH (x.base.l n))),.cells true 0 [.slice 5 0 n none,.slice 10 0 2 none,.qF],.qK,.cells true 1 [.str [95,97],.str [95,98],.str [95,99]],.cells true 1 [.str [110,95,98]],.cells true 1 [.str [110,95,97],.str [110,95,98]],.cells true 1 []]:=rfl;have L:dq0 x n k (x.base.l n) n=[.qK,.qK,.cells true 0 [.slice 0 0 n none,.slice 1 0 k none],.cells true 0 x.cells,.cells true 0 [.qF,.qF,.qF],.cells true 1 (qC (qH (x.base.l n))),.cells true 0 [.slice 5 0 n none,.slice 10 0 2 none,.qF],.qK,.cells true 1 [.str [95,97],.str [95,98],.str [95,99]],.cells true 1 [.str [110,95,98]],.cells true 1 [.str [110,95,97],.str [110,95,98]],.qK,.cells true 1 (qC (qH (upL x.s0 (x.base.l n) n)))]:=if_neg (by omega);rw[M,L] at O;clear M L;obtain⟨I1,U⟩:=Nc (K:=n+5) x H n k (x.base.l n) (upL x.s0 (x.base.l n) n) (fE _ _ _) (mw x n) I J (by omega) u;have M:dq1 x n k (x.base.l n) (upL x.s0 (x.base.l n) n) 0=[.qK,.qK,.cells true 0 [.slice 0 0 n none,.slice 1 0 k none],.cells true 0 x.cells,.cells true 0 [.qF,.qF,.qF],.cells true 1 (qC (qH (x.base.l n))),.cells true 0 [.slice 5 0 n none,.slice 12 0 3 none,.slice 9 0 1 none],.cells true 1 (qC (qH (upL x.s0 (x.base.l n) n))),.qK,.cells true 1 [.slice 7 0 n none],.cells true 1 [.str [95,97],.str [95,98],.str [95,99]],.cells true 1 [.str [110,95,99]],.cells true 1 [.str [110,95,97],.str [110,95,98],.str [110,95,99]],.cells true 1 []]:=rfl;have L:dq1 x n k (x.base.l n) (upL x.s0 (x.base.l n) n) n=[.qK,.qK,.cells true 0 [.slice 0 0 n none,.slice 1 0 k none],.cells true 0 x.cells,.cells true 0 [.qF,.qF,.qF],.cells true 1 (qC (qH (x.base.l n))),.cells true 0 [.slice 5 0 n none,.slice 12 0 3 none,.slice 9 0 1 none],.cells true 1 (qC (qH (upL x.s0 (x.base.l n) n))),.qK,.cells true 1 [.slice 7 0 n none],.cells true 1 [.str [95,97],.str [95,98],.str [95,99]],.cells true 1 [.str [110,95,99]],.cells true 1 [.str [110,95,97],.str [110,95,98],.str [110,95,99]],.qK,.cells true 1 (qC (qH (upL x.s1 (upL x.s0 (x.base.l n) n) n)))]:=if_neg (by omega);rw[M,L] at U;clear M L;obtain⟨S,hS⟩:=xE (qC (qH (upL x.s1 (upL x.s0 (x.base.l n) n) n)));have Sr:∀n,AV.afy n S=[]:=fun n=>by rw[hS,gu]
 have Sn:∀f,AV.afz f S=S:=fun f=>by rw[hS,kS]
 rw[<-hS] at U |-;clear hS;obtain⟨R,o⟩:=xE (qC (qH (upL x.s0 (x.base.l n) n)));have Rr:∀n,AV.afy n R=[]:=fun n=>by rw[o,gu]
 have Rn:∀f,AV.afz f R=R:=fun f=>by rw[o,kS]
 rw[<-o] at O U |-;clear o;obtain⟨C,hC⟩:=xE x.cells;rw[<-hC] at O U l0 r0 o0 e0 G m F |-;obtain⟨X,hX⟩:=xE (x.n 0);rw[<-hX] at G m w3 w4 b0 c0;have wX:IntKind.i64.wrap X=X:=kY (by omega) (by omega);obtain⟨B,hB⟩:=xE x.base;rw[<-hB] at O U F j N |-;obtain⟨D,hD⟩:=xE B.cells;rw[<-hD,List.drop_one] at F;rw[<-hD] at j;obtain⟨Q,hQ⟩:=xE (qC (qH (B.l n)));have Qr:∀n,AV.afy n Q=[]:=fun n=>by rw[hQ,gu]
 have Qn:∀f,AV.afz f Q=Q:=fun f=>by rw[hQ,kS]
 rw[<-hQ] at O U |-;have p1:=fun Z V h=>(O Z V h).1
 have Y:=fun Z V h=>(O Z V h).2.1
 have pt2:=fun Z V h=>(O Z V h).2.2 2 (by simp)
 have pt3:=fun Z V h=>(O Z V h).2.2 3 (by simp)
 have pt4:=fun Z V h=>(O Z V h).2.2 4 (by simp)
 have pt6:=fun Z V h=>(O Z V h).2.2 6 (by simp)
 have W:=fun Z V h=>(O Z V h).2.2 7 (by simp)
 have pt8:=fun Z V h=>(O Z V h).2.2 8 (by simp)
 have pt9:=fun Z V h=>(O Z V h).2.2 9 (by simp)
 clear O;have s1:=fun Z V h=>(U Z V h).1
 have s10:=fun Z V h=>(U Z V h).2.1
 have st2:=fun Z V h=>(U Z V h).2.2 2 (by simp)
 have st3:=fun Z V h=>(U Z V h).2.2 3 (by simp)
 have st4:=fun Z V h=>(U Z V h).2.2 4 (by simp)
 have st6:=fun Z V h=>(U Z V h).2.2 6 (by simp)
 have st7:=fun Z V h=>(U Z V h).2.2 7 (by simp)
 have st8:=fun Z V h=>(U Z V h).2.2 8 (by simp)
 have st9:=fun Z V h=>(U Z V h).2.2 9 (by simp)
 clear U;have tk:C.take 34=C:=B5 (by omega);obtain⟨os,D'⟩:∃os,aI f35=os:=⟨_,rfl⟩
 have UV:=cG D' (ls:=[[0,1,0,0,0,24,56,124,252,511,1023,2047],[0,0,0,6,14,0,0,64,0,448,960,2016,0,8160,16352,32736,65534,131070,262143,524287]]) (by kernel_rfl);simp only[aI,ca,f35,lA] at D';subst D';simp only[lB] at UV;obtain⟨hb1,ZF⟩:=UV;have hu:=fun s=>ba (bd prog) iO gh (n+5) 78 2 true s bo
 simp[ah,aE,f35] at u;obtain⟨rfl,rfl⟩:=u;have w33:IntKind.i64.wrap 3=3:=rfl;have h:aa (bd prog) iO (aX prog) gh (n+5) 35 [.agg [.slice 0 0 n none,.slice 1 0 k none],.agg C,.str [110]] [.qK,.qK]=some ⟨.agg [.slice 2 0 n none,.slice 3 0 3 none,.slice 4 0 2 none],some [.qK,.qK],[.cells true 1 Q,.cells true 1 (stC (uNm 3)),.cells true 1 [.slice 5 0 n none,.slice 6 0 n none],.cells true 1 R,.cells true 1 S]⟩:=by
  simp (maxSteps:=3000000) [aa,ahe,f35,iO,gh,l0,r0,e0,m,F,j,N,wX,w1,w2,w33,w3,w4,I,J,<-hQ,Qr,Qn,hu,ga,p1,Y,W,pt9,Rr,Rn,s1,s10,st7,st9,Sr,Sn,-aG,aY hb1,cq,gE,dW,cK,cS,gB,bef,qp,Nat.testBit,cv,aH,uNm,nmE,stC,fM,List.idxOf?_cons]
  repeat' (first | rfl | apply And.intro)
 have:=(ar aj (aJ _) uc (aM _) h).1;simpa [afh.mem] using this
end Go.Proofs
namespace Go.Proofs
open Go.Eng
def GL(nm:List UInt8)(b u s:AV):List AV:=[.int .i64 1,.str nm,b,u,s,.str [],.str [],.str [],.str [],.str [],.str [],.str [],.str [],.str [],.str [],.qF,.str [],.str [],.str [],.str [],.str [],.str [],.str [],.str [],.str [],.int .i64 0,.int .i64 0,.int .i64 0,.int .i64 0,.str [],.str [],.str []]
end Go.Proofs
