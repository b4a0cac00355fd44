/- See G38. -/
import Derived.Test.YthpgbelancmpjaaGreatDoorG21
set_option linter.all false
set_option maxRecDepth 100000
set_option maxHeartbeats 40000000
namespace Go.Proofs
open Go.Eng
open Tryz
def EU(j:Nat):AV:=if j=0 then .slice 4 0 0 none else .slice 5 0 j none
def Cz(h:Hts)(n k j:Nat):Mem:=if j=0 then [.qK,.qK,.cells true 0 [.slice 0 0 n none,.slice 1 0 k none],.cells true 0 h.cells,.cells true 1 []] else [.qK,.qK,.cells true 0 [.slice 0 0 n none,.slice 1 0 k none],.cells true 0 h.cells,.qK,.cells true 1 (qC (qH (h.l j)))]
theorem T9(L:List Int):(qC (qH L)).length=L.length:=by rw[Mf];simp[qH]
variable{K:Nat}{b:Code}
theorem Gl(h:Hts)(H:h.Ok)(n k:Nat)(ZI:0<n)(hl:n<=1000)(hK:n<K)(hb:ag f89=[b]):
  ∃F:Env->Bool->Env,∀Z U,(ad Z 2=.ptr 2 0/\ad Z 3=.ptr 3 0/\ad Z 6=.int .i64 h.d/\ad Z 5=.slice 4 0 0 none/\ad Z 7=.int .i64 0)->
   aL (aX prog) (fun _=>[5,7]) (ah eJ) K 31 2 true (.loop b) ⟨Z,Cz h n k 0,U⟩=some (.exit 0,⟨F Z U,Cz h n k n,U⟩)/\ad (F Z U) 5=.slice 5 0 n none:=by
 refine bj (L:=[5,7]) rfl (fun Z=>ad Z 2=.ptr 2 0/\ad Z 3=.ptr 3 0/\ad Z 6=.int .i64 h.d/\ad Z 5=.slice 4 0 0 none/\ad Z 7=.int .i64 0) (fun _ D' =>ad D' 5=.slice 5 0 n none) ?_;rintro Z U ⟨h2,h3,h6,h5,h7⟩;simp[ag,aE,f89] at hb;have N:an [5,7] (aa b) Z ((5,EU 0)::(7,.int .i64 ((0:Nat):Int))::Z)=an [5,7] (aa b) Z Z:=by simp[an,h5,h7,EU]
 rw[<-N];have l0:=Hts.aft H;have B:=fl h.closed;have o0:=ig h.closed;have e0:=fun f=>aT (ρ:=f) h.closed
 refine bI (α:=Nat) (fun i=>⟨an [5,7] (aa b) Z ((5,EU i)::(7,.int .i64 (i:Int))::Z),Cz h n k i,U⟩) (fun i=>n-i) (fun i=>i<=n) (.exit 0) _ U _ (by simp) ?_ K 0 (by omega) (by omega);intro i hi;clear N;subst hb;by_cases FS:i<n
 .left
  have S:i%6<6:=Nat.mod_lt _ (by decide);have M:=Hts.ahh H S;have u:=Hts.ah9 H S;have R:=h.aia i;have hs:=h.ahy i;have t6:((i:Int)).tmod 6=((i%6:Nat):Int):=rfl;obtain⟨r,hr⟩:=xE (i%6);rw[<-hr] at S M u R t6;obtain⟨X,hX⟩:=xE (h.v.getD r 0);rw[<-hX] at M u R;have q4:=AD X 20 (by decide);simp only[Int.cast_ofNat_Int] at q4;obtain⟨x,o⟩:=xE (X.tmod 20);rw[<-o] at R q4;unfold AQ at u;have g1:x.natAbs<100000000:=by omega
  have d1:0<h.d/\h.d<100000000:=by unfold Hts.d;split<;>omega
  obtain⟨D,hD⟩:=xE h.d;rw[<-hD] at R d1 h6;obtain⟨d1,d2⟩:=d1;have w3:IntKind.i64.wrap X=X:=k9 (by omega) (by omega);have w1:IntKind.i64.wrap ((i:Int)+1)=((i+1:Nat):Int):=by rw[af];omega
  have j :(r:Int)<6:=by omega
  have j1:=cV M;obtain⟨C,Y⟩:=xE h.cells;rw[<-Y] at l0 B o0 e0 M j1;obtain⟨z,hz⟩:=xE (hQ (h.z i));rw[<-hz] at R;obtain⟨m,hm⟩:=xE (i+1);rw[<-hm] at w1 hs;refine⟨m,?_⟩;have J:¬m=0:=by omega
  have G:qC (qH (h.l m))=qC (qH (h.l i))++[.str (aq z)]:=by rw[hs,hz];simp[qH,qC]
  by_cases V:i=0
  .subst V
   have Z0:m=1:=by omega
   have w0:IntKind.i64.wrap 1=1:=rfl;have b0:qC (qH (h.l 0))=[]:=rfl;rw[b0,Z0,List.nil_append] at G;have I:r=0:=by omega
   subst I;have tj:Int.tmod 0 6=0:=rfl;simp[Cz,EU,G,Z0,h2,h3,h6,FS,<-Y,j1,tj,l0,B,w0,w3,<-o,g1,d1,d2,R,ah,eJ];omega
  .obtain⟨Q,O⟩:=xE (qH (h.l i))
   have hQl:(qC Q).length=i:=by rw[O,T9,Hts.afP]
   rw[<-O] at G;have g3:(qC Q).take i=qC Q:=B5 (by omega);have g4:m*16<=140737488355328:=by omega
   have g5:m<=140737488355328:=by omega
   simp[Cz,EU,V,J,G,<-O,<-hm,h2,h3,h6,FS,<-Y,M,t6,j,B,w1,w3,<-o,g1,g3,g4,g5,d1,d2,R,hQl,gv,kW,ah,eJ];omega
 .right
  have e:i=n:=by omega
  subst e;have V:¬i=0:=by omega
  simp[Cz,EU,V,h2]
theorem Nc(h:Hts)(H:h.Ok)(n k:Nat)(I:0<n)(J:n<=1000):
  kO prog 89 [.agg [.slice 0 0 n none,.slice 1 0 k none],.agg h.cells] [.qK,.qK] (.slice 2 0 n none) ([.qK,.qK]++[.cells true 1 (qC (qH (h.l n)))]):=by
 have L:aZ prog 89=some f89:=by kernel_rfl
 obtain⟨b,R⟩:∃b,ag f89=[b]:=⟨_,rfl⟩
 obtain⟨F,X⟩:=Gl (K:=n+5) h H n k I J (by omega) R;simp[ag,aE,f89] at R;subst R;have B:¬n=0:=by omega
 simp only[Cz,if_true,if_neg B] at X;have V:=fun O N h=>(X O N h).1
 have G:=fun O N h=>(X O N h).2
 clear X;have M:=Hts.aft H;have u:=fl h.closed;have o:=ig h.closed;have m:=fun f=>aT (ρ:=f) h.closed
 have U:=Hts.agH H;have Z:=cV U;have S:h.d=if h.half then 2 else 1:=rfl
 obtain⟨C,j⟩:=xE h.cells;rw[<-j] at M u o m U Z V |-;obtain⟨Q,hQ⟩:=xE (qH (h.l n));rw[<-hQ] at V |-;have Y:C.take 7=C:=B5 (by omega);have h:ae (aX prog) (fun _=>[5,7]) (aZ prog) (ah eJ) (n+5) 89 [.agg [.slice 0 0 n none,.slice 1 0 k none],.agg C] [.qK,.qK]=some ⟨.slice 2 0 n none,none,[.cells true 1 (qC Q)]⟩:=by
  cases hf:h.half
  .rw[hf] at S U Z
   simp[ae,L,f89,M,Z,V,G,S,gv,kW]
  .rw[hf] at S U Z
   simp[ae,L,f89,M,Z,V,G,S,gv,kW]
 have:=(aB aj (aI _) uU (aQ _) h).1;simpa [afl.mem] using this
theorem QG(h:Hts)(H:h.Ok)(n k:Nat)(I:0<n)(J:n<=1000)(M:Mem)(p t:Nat)(Y:p<M.length)(ht:t<M.length):
  kO prog 89 [.agg [.slice p 0 n none,.slice t 0 k none],.agg h.cells] M (.slice M.length 0 n none) (M++[.cells true 1 (qC (qH (h.l n)))]):=by
 have X:=fun f=>aT (ρ:=f) h.closed
 have:=kO.frame (M:=M) (new:=[.cells true 1 (qC (qH (h.l n)))]) (args:=[.agg [.slice 0 0 n none,.slice 1 0 k none],.agg h.cells]) [p,t] (m:=[.qK,.qK]) rfl (by simp[Y,ht]) (by simp[AV.afu,AV.under,bl h.closed]) (fun i s Z=>by
  match i with
  |0=>simp at Z;subst Z;trivial
  |1=>simp at Z;subst Z;trivial
  |i+2=>simp at Z) (by rfl) (Nc h H n k I J)
 simpa [AV.afI,AV.ren,fA,afq.ren,kW,X] using this
theorem ud(q:Rat)(mem:Mem):kO prog 15 [.str (aq q)] mem (.int .i64 (ga q)) mem:=by
 have X:aZ prog 15=some f15:=by kernel_rfl
 refine aA (az _) ?_ mem;by_cases Z:q=0
 .subst Z
  have:ga 0=0:=by decide
  simp[ae,X,f15,ba,this]
 .have R:¬q.num=0:=fun e=>Z (mO.1 e)
  by_cases V:q.num<0
  .have e:=jl V
   have U:(45::aq (-q)==[48])=false:=by rw[<-e,ba];simpa using Z
   rw[e];simp[ae,X,f15,U,ga,jz,V]
  .obtain⟨c,r,S,O⟩:=kX (q:=q) (by omega)
   have U:(c::r==[48])=false:=by rw[<-S,ba];simpa using Z
   have N:=fv O;rw[S];simp[ae,X,f15,U,N,ga,jz,V,R]
noncomputable def wE(f:FuncId)(args:List AV):Option AV:=
 match f,args with
 |15,[.str s]=>match eh s with
  |some a=>some (.int .i64 (ga a))
  |none=>none
 |f,args=>fG f args
theorem N2:qS prog (ah wE):=bM fun f Z v h mem=>by
 unfold wE at h;split at h
 .split at h
  next a X=>cases h;rw[aw X];exact ud a mem
  .cases h
 .have:=jd.fn _ _ mem ⟨v,none,[]⟩ (by unfold ah;simp only;rw[h])
  simpa [afl.mem] using this
theorem Ya(z:Int): -(hQ z)=hQ (-z):=by
 rw[mL,mL,Rat.intCast_neg]
 grind
theorem YV{z:Int}:hQ z<0↔z<0:=by
 rw[mL];constructor
 .intro h
  have:(z:Rat)<0:=by grind
  exact_mod_cast this
 .intro h
  have:(z:Rat)<0:=by exact_mod_cast h
  grind
theorem TT{q:Rat}:q.num<0↔q<0:=by
 have h:=Rat.num_nonneg (q:=q);constructor
 .intro X
  exact Rat.not_le.1 fun Z=>by have:=h.2 Z;omega
 .intro X
  have Z:¬0<=q:=Rat.not_le.2 X;have h3:¬0<=q.num:=fun h3=>Z (h.1 h3)
  omega
theorem PF(q:Rat):ga q<0↔q.num<0:=by
 unfold ga jz;by_cases Z:q.num<0
 .simp[Z]
 .by_cases X:q.num=0
  .simp[X]
  .simp[Z,X]
theorem Yb(z:Int):ga (hQ z)<0↔z<0:=by rw[PF,TT,YV]
theorem QF(z:Int)(hz:z.natAbs<1000)(M:Mem):kO prog 91 [.str (aq (hQ z))] M (.str (aq (hQ z.natAbs))) M:=by
 have S:aZ prog 91=some f91:=by kernel_rfl
 refine aA N2 ?_ M;have l:=Co hz;have X:=Yb z;obtain⟨g,V⟩:=xE (ga (hQ z));rw[<-V] at X;by_cases h:z<0
 .have Z :g<0:=X.2 h
  have e: -(hQ z)=hQ (z.natAbs:Int):=by rw[Ya,show -z=(z.natAbs:Int) by omega]
  obtain⟨n,U⟩:=xE (α:=Int) (z.natAbs:Int);rw[<-U] at e |-;simp[ae,S,f91,ah,wE,fG,aF,l,<-V,Z,e]
 .have Z :¬g<0:=fun R =>h (X.1 R)
  have e:z=(z.natAbs:Int):=by omega
  obtain⟨n,U⟩:=xE (α:=Int) (z.natAbs:Int);rw[<-U] at e |-;simp[ae,S,f91,ah,wE,aF,<-V,Z,<-e]
def YL:List AV->Option Hts
 | [.int .i8 a,.int .i8 b,.int .i8 c,.int .i8 d,.int .i8 e,.int .i8 f,.bool g]=>some ⟨[a,b,c,d,e,f],g⟩
 |_=>none
variable{h:Hts}
theorem nU(H:h.Ok):YL h.cells=some h:=by
 obtain⟨v,g⟩:=h;have Z:=H.len;simp only at Z
 match v,Z with
 | [a,b,c,d,e,f],_=>rfl
theorem Tp{cs:List AV}(e:YL cs=some h):cs=h.cells:=by
 unfold YL at e;split at e
 .cases e;rfl
 .cases e
open Classical in
noncomputable def gh:y9:=fun c Z M=>match c,Z with
 |.fn 89,[.agg [.slice p 0 n none,.slice t 0 _ none],.agg cs]=>match YL cs with
  |some h=>if h.Ok/\0<n/\n<=1000/\p<M.length/\t<M.length then some ⟨.slice M.length 0 n none,none,[.cells true 1 (qC (qH (h.l n)))]⟩ else none
  |none=>none
 |.fn 91,[.str s]=>match eh s with
  |some q=>if q.den<=2/\(q*2).num.natAbs<1000/\q=hQ (q*2).num then some ⟨.str (aq (hQ (q*2).num.natAbs)),none,[]⟩ else none
  |none=>none
 |c,Z=>ah fG c Z M
theorem uh:qS prog gh:=by
 refine cw fun c X M r h=>?_
 unfold gh at h;split at h
 .split at h
  .rename_i S V
   split at h
   .rename_i Z
    cases h;rw[Tp V];exact au (QG _ Z.1 _ _ Z.2.1 Z.2.2.1 M _ _ Z.2.2.2.1 Z.2.2.2.2)
   .cases h
  .cases h
 .split at h
  .rename_i q U
   split at h
   .rename_i Z
    cases h;refine au ?_;rw[List.append_nil,aw U];have:=QF (q*2).num Z.2.1 M;rw[<-Z.2.2] at this;exact this
   .cases h
  .cases h
 .exact ee jd h
theorem Tn(z:Int):(hQ z*2).num=z:=by
 have:hQ z*2=(z:Rat):=by rw[mL];grind
 rw[this];rfl
theorem CW(L:List Int):(qC (qH L)).length=L.length:=T9 L
theorem T7{L:List Int}{k:Nat}(h:k<L.length):(qC (qH L))[k]? =some (.str (aq (hQ (L.getD k 0)))):=by
 have Z:L[k]? =some (L.getD k 0):=by rw[List.getD_eq_getElem?_getD,G2 h];rfl
 exact OD (by simp only[qH,QQJ,Z];rfl)
theorem Wt(z:Int):(hQ z).den<=2:=(Pv z (by decide)).2
def nmE(c:UInt8):List UInt8:=[110,95,c]
def uNm:Nat->List (List UInt8)
 |1=>[nmE 97]
 |2=>[nmE 97,nmE 98]
 |_=>[nmE 97,nmE 98,nmE 99]
def iL(c:Code):List Nat:=if (aa c).contains 29 then [9,9,8] else [10,11]
theorem ye{X:Int}(H:AQ X):IntKind.i64.wrap (X.tmod 3+3)=X.tmod 3+3/\IntKind.i64.wrap (1+(X.tmod 3+3).tmod 3)=ct3 X:=by have h:=AD X 3 (by decide);have Z:=AD (X.tmod 3+3) 3 (by decide);simp only[Int.cast_ofNat_Int] at h Z;exact⟨af,af⟩
theorem ahi:aZ prog 35=some f35:=by kernel_rfl
theorem Ih(x:adM)(H:x.Ok)(n k:Nat)(I:0<n)(J:n<=1000)(Y:ct3 (x.n 0)=1):
  kO prog 35 [.agg [.slice 0 0 n none,.slice 1 0 k none],.agg x.cells,.str [110]] [.qK,.qK] (.agg [.slice 2 0 n none,.slice 3 0 1 none,.qF]) ([.qK,.qK]++[.cells true 1 (qC (qH (x.base.l n))),.cells true 1 (stC (uNm 1))]):=by
 have M:=adM.aft H;have L:=fl x.closed;have o0:=ig x.closed;have G:=fun f=>aT (ρ:=f) x.closed
 have V:=adM.afy H (k:=0) (by decide);simp only[Nat.reduceAdd] at V;have S:=cV V;have U:=adM.agh H;have R:=nU H.base;have Z:=H.base;obtain⟨F,u⟩:=adM.af1 H (k:=0) (by decide);obtain⟨w3,w4⟩:=ye ⟨F,u⟩;rw[Y] at w4;obtain⟨C,hC⟩:=xE x.cells;rw[<-hC] at M L o0 G V S U |-;obtain⟨X,hX⟩:=xE (x.n 0);rw[<-hX] at V S w3 w4 F u;have wX:IntKind.i64.wrap X=X:=k9 (by omega) (by omega);obtain⟨B,hB⟩:=xE x.base;rw[<-hB] at U R Z |-;obtain⟨D,o⟩:=xE B.cells;rw[<-o,List.drop_one] at U;rw[<-o] at R;obtain⟨Q,hQ⟩:=xE (qC (qH (B.l n)));have Qr:∀n,AV.afE n Q=[]:=fun n=>by rw[hQ,gv]
 have Qn:∀f,AV.afI f Q=Q:=fun f=>by rw[hQ,kW]
 rw[<-hQ];have tk:C.take 34=C:=B5 (by omega);obtain⟨m,O⟩:∃m,aJ f35=m:=⟨_,rfl⟩
 have j:=cG O (ls:=[[0,1,0,0,0,24,56,124,252,511,1023,2047],[0,0,0,6,14,0,0,64,0,448,960,2016,0,8160,16352,32736,65534,131070,262143,524287]]) (by kernel_rfl);simp only[aJ,cB,f35,lA] at O;subst O;simp only[lB] at j;obtain⟨N,ZV⟩:=j;have h:ae (aX prog) iL (aZ prog) gh 5 35 [.agg [.slice 0 0 n none,.slice 1 0 k none],.agg C,.str [110]] [.qK,.qK]=some ⟨.agg [.slice 2 0 n none,.slice 3 0 1 none,.qF],some [.qK,.qK],[.cells true 1 Q,.cells true 1 (stC (uNm 1))]⟩:=by simp (maxSteps:=3000000) [ae,ahi,f35,iL,gh,M,L,G,S,U,R,Z,wX,w1,w3,w4,I,J,<-hQ,Qr,Qn,aM,fj,-aR,bW N,dq,gD,fT,dD,dR,jB,bef,qt,Nat.testBit,cj,aH,uNm,nmE,stC,fM];exact⟨rfl,rfl⟩
 have:=(aB aj (aI _) uh (aQ _) h).1;simpa [afl.mem] using this
def dq0(x:adM)(n k:Nat)(H:List Int)(i:Nat):Mem:=if i=0 then [.qK,.qK,.cells true 0 [.slice 0 0 n none,.slice 1 0 k none],.cells true 0 x.cells,.cells true 0 [.qF,.qF,.qF],.cells true 1 (qC (qH H)),.cells true 0 [.slice 5 0 n none,.slice 10 0 2 none,.qF],.qK,.cells true 1 [.str [95,97],.str [95,98],.str [95,99]],.cells true 1 [.str [110,95,98]],.cells true 1 [.str [110,95,97],.str [110,95,98]],.cells true 1 []] else [.qK,.qK,.cells true 0 [.slice 0 0 n none,.slice 1 0 k none],.cells true 0 x.cells,.cells true 0 [.qF,.qF,.qF],.cells true 1 (qC (qH H)),.cells true 0 [.slice 5 0 n none,.slice 10 0 2 none,.qF],.qK,.cells true 1 [.str [95,97],.str [95,98],.str [95,99]],.cells true 1 [.str [110,95,98]],.cells true 1 [.str [110,95,97],.str [110,95,98]],.qK,.cells true 1 (qC (qH (upL x.s0 H i)))]
def XL(i:Nat):AV:=if i=0 then .slice 11 0 0 none else .slice 12 0 i none
variable{b2:Code}
theorem Bp(x:adM)(hx:x.Ok)(n k:Nat)(H:List Int)(hL:H.length=n)(hb9:∀z∈H,z.natAbs<=300)(ZI:0<n)(hl:n<=1000)(hK:n<K)(I:ag f35=[b2,b]):
  ∃F:Env->Bool->Env,∀Z U,(ad Z 3=.ptr 2 0/\ad Z 4=.ptr 3 0/\ad Z 8=.slice 5 0 n none/\ad Z 9=.int .i64 1/\ad Z 10=.slice 11 0 0 none/\ad Z 11=.int .i64 0)->
   aL (aX prog) iL gh K 78 2 true (.loop b) ⟨Z,dq0 x n k H 0,U⟩=some (.exit 2,⟨F Z U,dq0 x n k H n,U⟩)/\ad (F Z U) 10=.slice 12 0 n none/\
    (∀t,t∈[2,3,4,6,7,8,9]->ad (F Z U) t=ad Z t):=by
 refine bj (L:=[10,11]) (by simp[ag,aE,f35] at I;rw[<-I.2];rfl) (fun Z=>ad Z 3=.ptr 2 0/\ad Z 4=.ptr 3 0/\ad Z 8=.slice 5 0 n none/\ad Z 9=.int .i64 1/\ad Z 10=.slice 11 0 0 none/\ad Z 11=.int .i64 0) (fun Z D' =>ad D' 10=.slice 12 0 n none/\(∀t,t∈[2,3,4,6,7,8,9]->ad D' t=ad Z t)) ?_;rintro Z U ⟨h3,h4,h8,h9,h10,h11⟩;obtain⟨os,F'⟩:∃os,aJ f35=os:=⟨_,rfl⟩
 have X':=cG F' (ls:=[[0,1,0,0,0,24,56,124,252,511,1023,2047],[0,0,0,6,14,0,0,64,0,448,960,2016,0,8160,16352,32736,65534,131070,262143,524287]]) (by kernel_rfl);simp only[aJ,cB,f35,lA] at F';subst F';simp only[lB] at X';obtain⟨-,ZV⟩:=X';simp[ag,aE,f35] at I;obtain⟨-,I⟩:=I;have Y:an [10,11] (aa b) Z ((10,XL 0)::(11,.int .i64 ((0:Nat):Int))::Z)=an [10,11] (aa b) Z Z:=by simp[an,h10,h11,XL]
 rw[<-Y];have ZA:(dq0 x n k H 0).length=12:=rfl;have l0:=adM.aft hx;have r0:=fl x.closed;have o0:=ig x.closed;have e0:=fun f=>aT (ρ:=f) x.closed
 have J:=adM.agZ hx;have hP:=nU hx.s0;have S:=hx.s0;have tk:x.cells.take 34=x.cells:=B5 (by omega);refine bI (α:=Nat) (fun i=>⟨an [10,11] (aa b) Z ((10,XL i)::(11,.int .i64 (i:Int))::Z),dq0 x n k H i,U⟩) (fun i=>n-i) (fun i=>i<=n) (.exit 2) _ U _ (by simp) ?_ K 0 (by omega) (by omega);intro i hi;clear Y;subst I;by_cases FS:i<n
 .left
  have k1:=T7 (L:=H) (k:=i) (by omega);have hzl:(H.getD i 0).natAbs<=300:=hb9 _ (mK (by omega));have hs:=PM x.s0 H i;have hzz:=x.s0.ag4 i;have k2:=T7 (L:=x.s0.l n) (k:=i) (by rw[Hts.afP];exact FS);have gl:(x.s0.l n).getD i 0=x.s0.z i:=by simp[Hts.l,List.getD_eq_getElem?_getD,FS]
  rw[gl] at k2;have X:=CW (x.s0.l n);rw[Hts.afP] at X;obtain⟨R,o⟩:=xE (qC (qH (x.s0.l n)));rw[<-o] at k2 X;have Rr:∀n,AV.afE n R=[]:=fun n=>by rw[o,gv]
  have Ro:∀f,AV.afs f R=true:=fun f=>by rw[o,T6]
  obtain⟨z,hz⟩:=xE (H.getD i 0);rw[<-hz] at k1 hzl hs;obtain⟨y,hy⟩:=xE (x.s0.z i);rw[<-hy] at k2 hzz hs;have O:=Wr z (y.natAbs:Int);have l1:=Co (z:=z) (by omega);have l2:=Co (z:=(y.natAbs:Int)) (by omega);have abZ:=Tn y;have hd2:=Wt y;have N:y.natAbs<1000:=by omega
  have M :=CW H;rw[hL] at M;have k1' :=cV k1;have k2' :=cV k2;have w1:IntKind.i64.wrap ((i:Int)+1)=((i+1:Nat):Int):=by rw[af];omega
  obtain⟨m,hm⟩:=xE (i+1);rw[<-hm] at w1 hs;refine⟨m,?_⟩;have hmp:¬m=0:=by omega
  have j:qC (qH (upL x.s0 H m))=qC (qH (upL x.s0 H i))++[.str (aq (hQ (z+(y.natAbs:Int))))]:=by rw[hs];simp[qH,qC]
  obtain⟨B,hB⟩:=xE x.s0;rw[<-hB] at J hP S o j;obtain⟨D,hD⟩:=xE B.cells;have Dr:∀n,AV.afE n D=[]:=fun n=>by rw[hD];exact fl B.closed n
  have Do:∀f,AV.afs f D=true:=fun f=>by rw[hD];exact ig B.closed f
  rw[<-hD] at J hP;obtain⟨C,hC⟩:=xE x.cells;rw[<-hC] at l0 r0 o0 e0 J tk;obtain⟨y',G⟩:=xE y.natAbs;rw[<-G] at O l2 j N;have w0:IntKind.i64.wrap 1=1:=rfl;have w00:IntKind.i64.wrap 0=0:=rfl;by_cases V:i=0
  .subst V
   have Z0:m=1:=by omega
   have b0:qC (qH (upL B H 0))=[]:=rfl;rw[b0,Z0,List.nil_append] at j;simp (maxSteps:=1000000) [dq0,XL,j,Z0,h3,h4,h8,h9,FS,hl,<-hB,<-hC,<-o,k1',k2',l0,r0,J,hP,S,Ro,Do,X,w0,w00,l1,l2,O,abZ,hd2,<-G,N,aF,gv,M,gh,ah,fG,-aR,bW ZV,dq,gD,fT,dD,dR,jB,bef,qt,Nat.testBit];omega
  .obtain⟨Q,u⟩:=xE (qH (upL B H i))
   have hQl:(qC Q).length=i:=by rw[u,CW,fE]
   rw[<-u] at j;have g3:(qC Q).take i=qC Q:=B5 (by omega);have g4:m*16<=140737488355328:=by omega
   have g5:m<=140737488355328:=by omega
   simp (maxSteps:=1000000) [dq0,XL,V,hmp,j,<-u,<-hm,h3,h4,h8,h9,FS,ZI,hl,<-hB,<-hC,<-o,k1',k2',l0,r0,J,hP,S,Ro,Do,X,w00,w1,l1,l2,O,abZ,hd2,<-G,N,g3,g4,g5,hQl,aF,gv,kW,T6,M,gh,ah,fG,-aR,bW ZV,dq,gD,fT,dD,dR,jB,bef,qt,Nat.testBit];omega
 .right
  have e:i=n:=by omega
  subst e;have V:¬i=0:=by omega
  simp[dq0,XL,V,h8]
theorem kc(x:adM)(n:Nat):∀z∈x.base.l n,z.natAbs<=300:=by intro z Z;unfold Hts.l at Z;obtain⟨k,_,rfl⟩:=QQm.1 Z;have:=x.base.ag4 k;omega
theorem Ii(x:adM)(H:x.Ok)(n k:Nat)(I:0<n)(J:n<=1000)(hJ:ct3 (x.n 0)=2):
  kO prog 35 [.agg [.slice 0 0 n none,.slice 1 0 k none],.agg x.cells,.str [110]] [.qK,.qK] (.agg [.slice 2 0 n none,.slice 3 0 2 none,.slice 4 0 1 none]) ([.qK,.qK]++[.cells true 1 (qC (qH (x.base.l n))),.cells true 1 (stC (uNm 2)),.cells true 1 [.slice 5 0 n none],.cells true 1 (qC (qH (upL x.s0 (x.base.l n) n)))]):=by
 have l0:=adM.aft H;have r0:=fl x.closed;have o0:=ig x.closed;have e0:=fun f=>aT (ρ:=f) x.closed
 have O:=adM.afy H (k:=0) (by decide);simp only[Nat.reduceAdd] at O;have L:=cV O;have N:=adM.agh H;have G:=nU H.base;have S:=H.base;obtain⟨b0,c0⟩:=adM.af1 H (k:=0) (by decide);obtain⟨w3,w4⟩:=ye ⟨b0,c0⟩;rw[hJ] at w4;obtain⟨bo,bi,F⟩:∃b b2,ag f35=[b,b2]:=⟨_,_,rfl⟩
 obtain⟨I0,U⟩:=Bp (K:=n+5) x H n k (x.base.l n) (x.base.afP n) (kc x n) I J (by omega) F;have q0:dq0 x n k (x.base.l n) 0=[.qK,.qK,.cells true 0 [.slice 0 0 n none,.slice 1 0 k none],.cells true 0 x.cells,.cells true 0 [.qF,.qF,.qF],.cells true 1 (qC (qH (x.base.l n))),.cells true 0 [.slice 5 0 n none,.slice 10 0 2 none,.qF],.qK,.cells true 1 [.str [95,97],.str [95,98],.str [95,99]],.cells true 1 [.str [110,95,98]],.cells true 1 [.str [110,95,97],.str [110,95,98]],.cells true 1 []]:=rfl;have q1:dq0 x n k (x.base.l n) n=[.qK,.qK,.cells true 0 [.slice 0 0 n none,.slice 1 0 k none],.cells true 0 x.cells,.cells true 0 [.qF,.qF,.qF],.cells true 1 (qC (qH (x.base.l n))),.cells true 0 [.slice 5 0 n none,.slice 10 0 2 none,.qF],.qK,.cells true 1 [.str [95,97],.str [95,98],.str [95,99]],.cells true 1 [.str [110,95,98]],.cells true 1 [.str [110,95,97],.str [110,95,98]],.qK,.cells true 1 (qC (qH (upL x.s0 (x.base.l n) n)))]:=if_neg (by omega);rw[q0,q1] at U;clear q0 q1;obtain⟨R,M⟩:=xE (qC (qH (upL x.s0 (x.base.l n) n)));have Rr:∀n,AV.afE n R=[]:=fun n=>by rw[M,gv]
 have Rn:∀f,AV.afI f R=R:=fun f=>by rw[M,kW]
 rw[<-M] at U |-;clear M;obtain⟨C,hC⟩:=xE x.cells;rw[<-hC] at U l0 r0 o0 e0 O L N |-;obtain⟨X,hX⟩:=xE (x.n 0);rw[<-hX] at O L w3 w4 b0 c0;have wX:IntKind.i64.wrap X=X:=k9 (by omega) (by omega);obtain⟨B,hB⟩:=xE x.base;rw[<-hB] at U N G S |-;obtain⟨D,hD⟩:=xE B.cells;rw[<-hD,List.drop_one] at N;rw[<-hD] at G;obtain⟨Q,hQ⟩:=xE (qC (qH (B.l n)));have Qr:∀n,AV.afE n Q=[]:=fun n=>by rw[hQ,gv]
 have Qn:∀f,AV.afI f Q=Q:=fun f=>by rw[hQ,kW]
 rw[<-hQ] at U |-;have p1:=fun Z V h=>(U Z V h).1
 have u:=fun Z V h=>(U Z V h).2.1
 have pt2:=fun Z V h=>(U Z V h).2.2 2 (by simp)
 have pt3:=fun Z V h=>(U Z V h).2.2 3 (by simp)
 have pt4:=fun Z V h=>(U Z V h).2.2 4 (by simp)
 have pt6:=fun Z V h=>(U Z V h).2.2 6 (by simp)
 have o:=fun Z V h=>(U Z V h).2.2 7 (by simp)
 have pt8:=fun Z V h=>(U Z V h).2.2 8 (by simp)
 have m:=fun Z V h=>(U Z V h).2.2 9 (by simp)
 clear U;have tk:C.take 34=C:=B5 (by omega);obtain⟨os,j⟩:∃os,aJ f35=os:=⟨_,rfl⟩
 have X':=cG j (ls:=[[0,1,0,0,0,24,56,124,252,511,1023,2047],[0,0,0,6,14,0,0,64,0,448,960,2016,0,8160,16352,32736,65534,131070,262143,524287]]) (by kernel_rfl);simp only[aJ,cB,f35,lA] at j;subst j;simp only[lB] at X';obtain⟨Y,ZV⟩:=X';have hu:=fun s=>aM (aX prog) iL gh (n+5) 78 2 true s bo
 simp[ag,aE,f35] at F;obtain⟨rfl,rfl⟩:=F;have h:ae (aX prog) iL (aZ prog) gh (n+5) 35 [.agg [.slice 0 0 n none,.slice 1 0 k none],.agg C,.str [110]] [.qK,.qK]=some ⟨.agg [.slice 2 0 n none,.slice 3 0 2 none,.slice 4 0 1 none],some [.qK,.qK],[.cells true 1 Q,.cells true 1 (stC (uNm 2)),.cells true 1 [.slice 5 0 n none],.cells true 1 R]⟩:=by
  simp (maxSteps:=3000000) [ae,ahi,f35,iL,gh,l0,r0,e0,L,N,G,S,wX,w1,w2,w3,w4,I,J,<-hQ,Qr,Qn,hu,fj,p1,u,o,m,Rr,Rn,-aR,bW Y,dq,gD,fT,dD,dR,jB,bef,qt,Nat.testBit,cj,aH,uNm,nmE,stC,fM,List.idxOf?_cons]
  repeat' (first | rfl | apply And.intro)
 have:=(aB aj (aI _) uh (aQ _) h).1;simpa [afl.mem] using this
def dq1(x:adM)(n k:Nat)(H L1:List Int)(i:Nat):Mem:=if i=0 then [.qK,.qK,.cells true 0 [.slice 0 0 n none,.slice 1 0 k none],.cells true 0 x.cells,.cells true 0 [.qF,.qF,.qF],.cells true 1 (qC (qH H)),.cells true 0 [.slice 5 0 n none,.slice 12 0 3 none,.slice 9 0 1 none],.cells true 1 (qC (qH L1)),.qK,.cells true 1 [.slice 7 0 n none],.cells true 1 [.str [95,97],.str [95,98],.str [95,99]],.cells true 1 [.str [110,95,99]],.cells true 1 [.str [110,95,97],.str [110,95,98],.str [110,95,99]],.cells true 1 []] else [.qK,.qK,.cells true 0 [.slice 0 0 n none,.slice 1 0 k none],.cells true 0 x.cells,.cells true 0 [.qF,.qF,.qF],.cells true 1 (qC (qH H)),.cells true 0 [.slice 5 0 n none,.slice 12 0 3 none,.slice 9 0 1 none],.cells true 1 (qC (qH L1)),.qK,.cells true 1 [.slice 7 0 n none],.cells true 1 [.str [95,97],.str [95,98],.str [95,99]],.cells true 1 [.str [110,95,99]],.cells true 1 [.str [110,95,97],.str [110,95,98],.str [110,95,99]],.qK,.cells true 1 (qC (qH (upL x.s1 L1 i)))]
def XM(i:Nat):AV:=if i=0 then .slice 13 0 0 none else .slice 14 0 i none
theorem Nj(x:adM)(hx:x.Ok)(n k:Nat)(L0 L1:List Int)(hL:L1.length=n)(hb9:∀z∈L1,z.natAbs<=300)(ZI:0<n)(hl:n<=1000)(hK:n<K)(H:ag f35=[b2,b]):
  ∃F:Env->Bool->Env,∀Z U,(ad Z 3=.ptr 2 0/\ad Z 4=.ptr 3 0/\ad Z 8=.slice 7 0 n none/\ad Z 9=.int .i64 2/\ad Z 10=.slice 13 0 0 none/\ad Z 11=.int .i64 0)->
   aL (aX prog) iL gh K 78 2 true (.loop b) ⟨Z,dq1 x n k L0 L1 0,U⟩=some (.exit 2,⟨F Z U,dq1 x n k L0 L1 n,U⟩)/\ad (F Z U) 10=.slice 14 0 n none/\
    (∀t,t∈[2,3,4,6,7,8,9]->ad (F Z U) t=ad Z t):=by
 refine bj (L:=[10,11]) (by simp[ag,aE,f35] at H;rw[<-H.2];rfl) (fun Z=>ad Z 3=.ptr 2 0/\ad Z 4=.ptr 3 0/\ad Z 8=.slice 7 0 n none/\ad Z 9=.int .i64 2/\ad Z 10=.slice 13 0 0 none/\ad Z 11=.int .i64 0) (fun Z D' =>ad D' 10=.slice 14 0 n none/\(∀t,t∈[2,3,4,6,7,8,9]->ad D' t=ad Z t)) ?_;rintro Z U ⟨h3,h4,h8,h9,h10,h11⟩;obtain⟨os,F'⟩:∃os,aJ f35=os:=⟨_,rfl⟩
 have X':=cG F' (ls:=[[0,1,0,0,0,24,56,124,252,511,1023,2047],[0,0,0,6,14,0,0,64,0,448,960,2016,0,8160,16352,32736,65534,131070,262143,524287]]) (by kernel_rfl);simp only[aJ,cB,f35,lA] at F';subst F';simp only[lB] at X';obtain⟨-,ZV⟩:=X';simp[ag,aE,f35] at H;obtain⟨-,H⟩:=H;have Y:an [10,11] (aa b) Z ((10,XM 0)::(11,.int .i64 ((0:Nat):Int))::Z)=an [10,11] (aa b) Z Z:=by simp[an,h10,h11,XM]
 rw[<-Y];have ZA:(dq1 x n k L0 L1 0).length=14:=rfl;have l0:=adM.aft hx;have r0:=fl x.closed;have o0:=ig x.closed;have e0:=fun f=>aT (ρ:=f) x.closed
 have J:=adM.ag0 hx;have hP:=nU hx.s1;have S:=hx.s1;have tk:x.cells.take 34=x.cells:=B5 (by omega);refine bI (α:=Nat) (fun i=>⟨an [10,11] (aa b) Z ((10,XM i)::(11,.int .i64 (i:Int))::Z),dq1 x n k L0 L1 i,U⟩) (fun i=>n-i) (fun i=>i<=n) (.exit 2) _ U _ (by simp) ?_ K 0 (by omega) (by omega);intro i hi;clear Y;subst H;by_cases FS:i<n
 .left
  have k1:=T7 (L:=L1) (k:=i) (by omega);have hzl:(L1.getD i 0).natAbs<=300:=hb9 _ (mK (by omega));have hs:=PM x.s1 L1 i;have hzz:=x.s1.ag4 i;have k2:=T7 (L:=x.s1.l n) (k:=i) (by rw[Hts.afP];exact FS);have gl:(x.s1.l n).getD i 0=x.s1.z i:=by simp[Hts.l,List.getD_eq_getElem?_getD,FS]
  rw[gl] at k2;have X:=CW (x.s1.l n);rw[Hts.afP] at X;obtain⟨R,o⟩:=xE (qC (qH (x.s1.l n)));rw[<-o] at k2 X;have Rr:∀n,AV.afE n R=[]:=fun n=>by rw[o,gv]
  have Ro:∀f,AV.afs f R=true:=fun f=>by rw[o,T6]
  obtain⟨z,hz⟩:=xE (L1.getD i 0);rw[<-hz] at k1 hzl hs;obtain⟨y,hy⟩:=xE (x.s1.z i);rw[<-hy] at k2 hzz hs;have O:=Wr z (y.natAbs:Int);have l1:=Co (z:=z) (by omega);have l2:=Co (z:=(y.natAbs:Int)) (by omega);have I:=Tn y;have hd2:=Wt y;have N:y.natAbs<1000:=by omega
  have M :=CW L1;rw[hL] at M;have k1' :=cV k1;have k2' :=cV k2;have w1:IntKind.i64.wrap ((i:Int)+1)=((i+1:Nat):Int):=by rw[af];omega
  obtain⟨m,hm⟩:=xE (i+1);rw[<-hm] at w1 hs;refine⟨m,?_⟩;have hmp:¬m=0:=by omega
  have j:qC (qH (upL x.s1 L1 m))=qC (qH (upL x.s1 L1 i))++[.str (aq (hQ (z+(y.natAbs:Int))))]:=by rw[hs];simp[qH,qC]
  obtain⟨B,hB⟩:=xE x.s1;rw[<-hB] at J hP S o j;obtain⟨D,hD⟩:=xE B.cells;have Dr:∀n,AV.afE n D=[]:=fun n=>by rw[hD];exact fl B.closed n
  have Do:∀f,AV.afs f D=true:=fun f=>by rw[hD];exact ig B.closed f
  rw[<-hD] at J hP;obtain⟨C,hC⟩:=xE x.cells;rw[<-hC] at l0 r0 o0 e0 J tk;obtain⟨y',G⟩:=xE y.natAbs;rw[<-G] at O l2 j N;have w0:IntKind.i64.wrap 1=1:=rfl;have w00:IntKind.i64.wrap 0=0:=rfl;by_cases V:i=0
  .subst V
   have Z0:m=1:=by omega
   have b0:qC (qH (upL B L1 0))=[]:=rfl;rw[b0,Z0,List.nil_append] at j;simp (maxSteps:=1000000) [dq1,XM,j,Z0,h3,h4,h8,h9,FS,hl,<-hB,<-hC,<-o,k1',k2',l0,r0,J,hP,S,Ro,Do,X,w0,l1,l2,O,I,hd2,<-G,N,aF,gv,M,gh,ah,fG,-aR,bW ZV,dq,gD,fT,dD,dR,jB,bef,qt,Nat.testBit];omega
  .obtain⟨Q,u⟩:=xE (qH (upL B L1 i))
   have hQl:(qC Q).length=i:=by rw[u,CW,fE]
   rw[<-u] at j;have g3:(qC Q).take i=qC Q:=B5 (by omega);have g4:m*16<=140737488355328:=by omega
   have g5:m<=140737488355328:=by omega
   simp (maxSteps:=1000000) [dq1,XM,V,hmp,j,<-u,<-hm,h3,h4,h8,h9,FS,ZI,hl,<-hB,<-hC,<-o,k1',k2',l0,r0,J,hP,S,Ro,Do,X,w0,w1,l1,l2,O,I,hd2,<-G,N,g3,g4,g5,hQl,aF,gv,kW,T6,M,gh,ah,fG,-aR,bW ZV,dq,gD,fT,dD,dR,jB,bef,qt,Nat.testBit];omega
 .right
  have e:i=n:=by omega
  subst e;have V:¬i=0:=by omega
  simp[dq1,XM,V,h8]
theorem mr(x:adM)(n:Nat):∀z∈upL x.s0 (x.base.l n) n,z.natAbs<=300:=by
 intro z X;unfold upL at X;obtain⟨k,Z,rfl⟩:=QQm.1 X;have Z:=List.mem_range.1 Z;have U:=kc x n _ (mK (l:=x.base.l n) (k:=k) (by rw[Hts.afP];exact Z));have V :((x.base.l n).getD k 0).natAbs<=38:=by
  have:(x.base.l n).getD k 0=x.base.z k:=by simp[Hts.l,List.getD_eq_getElem?_getD,Z]
  rw[this];exact x.base.ag4 k
 have:=x.s0.ag4 k;omega
theorem Ij(x:adM)(H:x.Ok)(n k:Nat)(I:0<n)(J:n<=1000)(hJ:ct3 (x.n 0)=3):
  kO prog 35 [.agg [.slice 0 0 n none,.slice 1 0 k none],.agg x.cells,.str [110]] [.qK,.qK] (.agg [.slice 2 0 n none,.slice 3 0 3 none,.slice 4 0 2 none]) ([.qK,.qK]++[.cells true 1 (qC (qH (x.base.l n))),.cells true 1 (stC (uNm 3)),.cells true 1 [.slice 5 0 n none,.slice 6 0 n none],.cells true 1 (qC (qH (upL x.s0 (x.base.l n) n))),.cells true 1 (qC (qH (upL x.s1 (upL x.s0 (x.base.l n) n) n)))]):=by
 have l0:=adM.aft H;have r0:=fl x.closed;have o0:=ig x.closed;have e0:=fun f=>aT (ρ:=f) x.closed
 have G:=adM.afy H (k:=0) (by decide);simp only[Nat.reduceAdd] at G;have m:=cV G;have F:=adM.agh H;have j:=nU H.base;have N:=H.base;obtain⟨b0,c0⟩:=adM.af1 H (k:=0) (by decide);obtain⟨w3,w4⟩:=ye ⟨b0,c0⟩;rw[hJ] at w4;obtain⟨bo,bi,u⟩:∃b b2,ag f35=[b,b2]:=⟨_,_,rfl⟩
 obtain⟨I0,O⟩:=Bp (K:=n+5) x H n k (x.base.l n) (x.base.afP n) (kc x n) I J (by omega) u;have M:dq0 x n k (x.base.l n) 0=[.qK,.qK,.cells true 0 [.slice 0 0 n none,.slice 1 0 k none],.cells true 0 x.cells,.cells true 0 [.qF,.qF,.qF],.cells true 1 (qC (qH (x.base.l n))),.cells true 0 [.slice 5 0 n none,.slice 10 0 2 none,.qF],.qK,.cells true 1 [.str [95,97],.str [95,98],.str [95,99]],.cells true 1 [.str [110,95,98]],.cells true 1 [.str [110,95,97],.str [110,95,98]],.cells true 1 []]:=rfl;have L:dq0 x n k (x.base.l n) n=[.qK,.qK,.cells true 0 [.slice 0 0 n none,.slice 1 0 k none],.cells true 0 x.cells,.cells true 0 [.qF,.qF,.qF],.cells true 1 (qC (qH (x.base.l n))),.cells true 0 [.slice 5 0 n none,.slice 10 0 2 none,.qF],.qK,.cells true 1 [.str [95,97],.str [95,98],.str [95,99]],.cells true 1 [.str [110,95,98]],.cells true 1 [.str [110,95,97],.str [110,95,98]],.qK,.cells true 1 (qC (qH (upL x.s0 (x.base.l n) n)))]:=if_neg (by omega);rw[M,L] at O;clear M L;obtain⟨I1,U⟩:=Nj (K:=n+5) x H n k (x.base.l n) (upL x.s0 (x.base.l n) n) (fE _ _ _) (mr x n) I J (by omega) u;have M:dq1 x n k (x.base.l n) (upL x.s0 (x.base.l n) n) 0=[.qK,.qK,.cells true 0 [.slice 0 0 n none,.slice 1 0 k none],.cells true 0 x.cells,.cells true 0 [.qF,.qF,.qF],.cells true 1 (qC (qH (x.base.l n))),.cells true 0 [.slice 5 0 n none,.slice 12 0 3 none,.slice 9 0 1 none],.cells true 1 (qC (qH (upL x.s0 (x.base.l n) n))),.qK,.cells true 1 [.slice 7 0 n none],.cells true 1 [.str [95,97],.str [95,98],.str [95,99]],.cells true 1 [.str [110,95,99]],.cells true 1 [.str [110,95,97],.str [110,95,98],.str [110,95,99]],.cells true 1 []]:=rfl;have L:dq1 x n k (x.base.l n) (upL x.s0 (x.base.l n) n) n=[.qK,.qK,.cells true 0 [.slice 0 0 n none,.slice 1 0 k none],.cells true 0 x.cells,.cells true 0 [.qF,.qF,.qF],.cells true 1 (qC (qH (x.base.l n))),.cells true 0 [.slice 5 0 n none,.slice 12 0 3 none,.slice 9 0 1 none],.cells true 1 (qC (qH (upL x.s0 (x.base.l n) n))),.qK,.cells true 1 [.slice 7 0 n none],.cells true 1 [.str [95,97],.str [95,98],.str [95,99]],.cells true 1 [.str [110,95,99]],.cells true 1 [.str [110,95,97],.str [110,95,98],.str [110,95,99]],.qK,.cells true 1 (qC (qH (upL x.s1 (upL x.s0 (x.base.l n) n) n)))]:=if_neg (by omega);rw[M,L] at U;clear M L;obtain⟨S,hS⟩:=xE (qC (qH (upL x.s1 (upL x.s0 (x.base.l n) n) n)));have Sr:∀n,AV.afE n S=[]:=fun n=>by rw[hS,gv]
 have Sn:∀f,AV.afI f S=S:=fun f=>by rw[hS,kW]
 rw[<-hS] at U |-;clear hS;obtain⟨R,o⟩:=xE (qC (qH (upL x.s0 (x.base.l n) n)));have Rr:∀n,AV.afE n R=[]:=fun n=>by rw[o,gv]
 have Rn:∀f,AV.afI f R=R:=fun f=>by rw[o,kW]
 rw[<-o] at O U |-;clear o;obtain⟨C,hC⟩:=xE x.cells;rw[<-hC] at O U l0 r0 o0 e0 G m F |-;obtain⟨X,hX⟩:=xE (x.n 0);rw[<-hX] at G m w3 w4 b0 c0;have wX:IntKind.i64.wrap X=X:=k9 (by omega) (by omega);obtain⟨B,hB⟩:=xE x.base;rw[<-hB] at O U F j N |-;obtain⟨D,hD⟩:=xE B.cells;rw[<-hD,List.drop_one] at F;rw[<-hD] at j;obtain⟨Q,hQ⟩:=xE (qC (qH (B.l n)));have Qr:∀n,AV.afE n Q=[]:=fun n=>by rw[hQ,gv]
 have Qn:∀f,AV.afI f Q=Q:=fun f=>by rw[hQ,kW]
 rw[<-hQ] at O U |-;have p1:=fun Z V h=>(O Z V h).1
 have Y:=fun Z V h=>(O Z V h).2.1
 have pt2:=fun Z V h=>(O Z V h).2.2 2 (by simp)
 have pt3:=fun Z V h=>(O Z V h).2.2 3 (by simp)
 have pt4:=fun Z V h=>(O Z V h).2.2 4 (by simp)
 have pt6:=fun Z V h=>(O Z V h).2.2 6 (by simp)
 have pt7:=fun Z V h=>(O Z V h).2.2 7 (by simp)
 have pt8:=fun Z V h=>(O Z V h).2.2 8 (by simp)
 have pt9:=fun Z V h=>(O Z V h).2.2 9 (by simp)
 clear O;have s1:=fun Z V h=>(U Z V h).1
 have s10:=fun Z V h=>(U Z V h).2.1
 have st2:=fun Z V h=>(U Z V h).2.2 2 (by simp)
 have st3:=fun Z V h=>(U Z V h).2.2 3 (by simp)
 have st4:=fun Z V h=>(U Z V h).2.2 4 (by simp)
 have st6:=fun Z V h=>(U Z V h).2.2 6 (by simp)
 have st7:=fun Z V h=>(U Z V h).2.2 7 (by simp)
 have st8:=fun Z V h=>(U Z V h).2.2 8 (by simp)
 have st9:=fun Z V h=>(U Z V h).2.2 9 (by simp)
 clear U;have tk:C.take 34=C:=B5 (by omega);obtain⟨os,F'⟩:∃os,aJ f35=os:=⟨_,rfl⟩
 have X':=cG F' (ls:=[[0,1,0,0,0,24,56,124,252,511,1023,2047],[0,0,0,6,14,0,0,64,0,448,960,2016,0,8160,16352,32736,65534,131070,262143,524287]]) (by kernel_rfl);simp only[aJ,cB,f35,lA] at F';subst F';simp only[lB] at X';obtain⟨hb1,ZV⟩:=X';have hu:=fun s=>aM (aX prog) iL gh (n+5) 78 2 true s bo
 simp[ag,aE,f35] at u;obtain⟨rfl,rfl⟩:=u;have w33:IntKind.i64.wrap 3=3:=rfl;have h:ae (aX prog) iL (aZ prog) gh (n+5) 35 [.agg [.slice 0 0 n none,.slice 1 0 k none],.agg C,.str [110]] [.qK,.qK]=some ⟨.agg [.slice 2 0 n none,.slice 3 0 3 none,.slice 4 0 2 none],some [.qK,.qK],[.cells true 1 Q,.cells true 1 (stC (uNm 3)),.cells true 1 [.slice 5 0 n none,.slice 6 0 n none],.cells true 1 R,.cells true 1 S]⟩:=by
  simp (maxSteps:=3000000) [ae,ahi,f35,iL,gh,l0,r0,e0,m,F,j,N,wX,w1,w2,w33,w3,w4,I,J,<-hQ,Qr,Qn,hu,fj,p1,Y,pt7,pt9,Rr,Rn,s1,s10,st7,st9,Sr,Sn,-aR,bW hb1,dq,gD,fT,dD,dR,jB,bef,qt,Nat.testBit,cj,aH,uNm,nmE,stC,fM,List.idxOf?_cons]
  repeat' (first | rfl | apply And.intro)
 have:=(aB aj (aI _) uh (aQ _) h).1;simpa [afl.mem] using this
end Go.Proofs
namespace Go.Proofs
open Go.Eng
def G0(nm:List UInt8)(b u s:AV):List AV:=[.int .i64 1,.str nm,b,u,s,.str [],.str [],.str [],.str [],.str [],.str [],.str [],.str [],.str [],.str [],.qF,.str [],.str [],.str [],.str [],.str [],.str [],.str [],.str [],.str [],.int .i64 0,.int .i64 0,.int .i64 0,.int .i64 0,.str [],.str [],.str []]
end Go.Proofs
