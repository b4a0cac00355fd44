/- See P53. -/
import Derived.Test.YtmhkeaphiadacaaGreatDoorP20
set_option linter.all false
set_option maxRecDepth 100000
set_option maxHeartbeats 40000000
namespace Go.Proofs
open Go.Eng
open Tryz
noncomputable def cQ(f:FuncId) (args:List AV):Option AV:=
 match f,args with
 |38,[.int .i64 n,.int .i64 d]=>if 0<d∧n.natAbs<10 ^ 8∧d.toNat<10 ^ 8 then some (.str (aN (mkRat n d.toNat))) else none
 |65,[.str s,.str t]=>match ef s,ef t with
  |some a,some b=>if (aN a).length≤9∧(aN b).length≤9 then some (.str (aN (a+b))) else none
  |_,_=>none
 |35,[.int .i64 n]=>if n.natAbs<10 ^ 8 then some (.str (zS n)) else none
 |_,_=>none
theorem Ah:qS prog (ar cQ):=bZ fun f args v h mem=>by
 unfold cQ at h;split at h
 ·rename_i n d
  split at h
  ·rename_i hc
   cases h;have:=Gx n d.toNat (by omega) hc.2.1 hc.2.2 mem;rw[Int.toNat_of_nonneg (by omega)] at this;exact this
  ·cases h
 ·split at h
  ·rename_i m n hm hn
   split at h
   ·rename_i hc;cases h;rw[aA hm,aA hn];exact CH m n hc.1 hc.2 mem
   ·cases h
  ·cases h
 ·split at h
  ·rename_i hc;cases h;exact Gj _ hc mem
  ·cases h
 ·cases h
def fA:List AV:=[.str [65],.str [66],.str [67],.str [68],.str [69],.str [70]]
theorem Gr:mB prog 64 [] [] (.slice 0 0 6 none) [.cells true 1 fA]:=by
 have hG:aO prog 64=some f64:=by kernel_rfl
 have h:ad (aC prog) (fun _=>[]) (aO prog) bt 1 64 [] []=some ⟨.slice 0 0 6 none,none,[.cells true 1 fA]⟩:=by simp[ad,hG,f64,fA]
 have:=(au af (aw _) (ah _) (ax _) h).1;simpa [HS.mem] using this
theorem Lv(M:Mem):mB prog 64 [] M (.slice M.length 0 6 none) (M++[.cells true 1 fA]):=by have:=mB.frame (M:=M) (new:=[.cells true 1 fA]) (args:=[]) [] (m:=[]) rfl (by simp) (by rfl) (fun i s hs=>by simp at hs) rfl Gr;simpa [AV.ren,AV.aal,dr,aae.ren,fA] using this
noncomputable def dP:aac:=fun c args M=>match c,args with
 |.fn 64,[]=>some ⟨.slice M.length 0 6 none,none,[.cells true 1 fA]⟩
 |c,args=>ar cQ c args M
theorem sM:qS prog dP:=by
 refine cJ fun c args M r h=>?_
 unfold dP at h;split at h
 ·cases h;exact ak (Lv M)
 ·exact iG Ah h
def Wu(d:aao) (n k:Nat) (u:List UInt8) (x:AV):Mem:=
 [.qF,.qF,.cells true 0 [.slice 0 0 n none,.slice 1 0 k none],.cells true 0 d.cells,.cells true 0 [.kO,.kO,.kO],.cells true 1 fA,.cells true 1 [.str u],.cells true 0 [x,.slice 6 0 1 none,.kO]]
def Cw(d:aao) (n k:Nat) (u:List UInt8) (j:Nat):Mem:=if j=0 then Wu d n k u .kO else Wu d n k u (.slice 8 0 j none)++[.cells true 1 (qC (qH (bw d j)))]
theorem gQ(d:aao)(n:Nat):AV.aas n d.cells=[]:=rfl
theorem Kf(d:aao)(f:Nat→Bool):AV.aaa f d.cells=true:=rfl
theorem Dk(d:aao)(f:Nat→Option Nat):AV.aal f d.cells=d.cells:=rfl
theorem xy(d:aao):d.cells.length=12:=rfl
theorem TD(d:aao):d.cells[7]? =some (.int .i8 d.N):=rfl
variable{d:aao}{k:Nat}
theorem qG{n:Nat}{u:List UInt8}{j:Nat}(h:0<j):Cw d n k u j=[.qF,.qF,.cells true 0 [.slice 0 0 n none,.slice 1 0 k none],.cells true 0 d.cells,.cells true 0 [.kO,.kO,.kO],.cells true 1 fA,.cells true 1 [.str u],.cells true 0 [.slice 8 0 j none,.slice 6 0 1 none,.kO],.cells true 1 (qC (qH (bw d j)))]:=by unfold Cw;rw[if_neg (by omega)];rfl
def fm(c:Code):List Nat:=if (ab c).contains 24 then [24,24] else if (ab c).contains 54 then [9,9,54] else [11,59]
theorem P5(d:aao)(j:Nat)(hj:j<3):d.cells[1+j]? =some (.int .i8 (Uk d.A j)):=by
 have:j=0∨j=1∨j=2:=by omega
 rcases this with rfl | rfl | rfl<;>rfl
theorem US{v:Int×Int×Int}(h:TK v)(j:Nat):Lf (Uk v j):=by
 unfold Uk;split
 ·exact h.1
 ·split
  ·exact h.2.1
  ·exact h.2.2
theorem zj(k:Nat):(MO d k).natAbs≤8:=by have h1:=ru d.N 4 (by decide);have h2:=ru (Uk d.A (k%3)) 3 (by decide);unfold MO;simp only[Int.cast_ofNat_Int] at h1 h2;omega
variable{K:Nat}{b b2 b3:Code}
theorem mo(d:aao)(hd:d.Ok)(n k:Nat)(u:List UInt8)(hl:n≤1000)(hK:n<K)(hb:aj f36=[b,b2,b3]):
  ∃F:Env→Env,∀y',(aa y' 4=.ptr 3 0∧aa y' 7=.ptr 7 0∧aa y' 23=.int .i64 n∧aa y' 24=.int .i64 0∧aa y' 6=.ptr 4 0)→
   aQ (aC prog) fm dP K 102 2 true (.loop b) ⟨y',Cw d n k u 0,false⟩=some (.exit 0,⟨F y',Cw d n k u n,decide (0<n)⟩)∧aa (F y') 4=.ptr 3 0∧aa (F y') 7=.ptr 7 0∧aa (F y') 6=.ptr 4 0∧aa (F y') 2=aa y' 2:=by
 refine tZ (L:=[24,24]) (by simp[aj,aD,f36] at hb;rw[←hb.1];rfl) false _ (fun y'=>aa y' 4=.ptr 3 0∧aa y' 7=.ptr 7 0∧aa y' 23=.int .i64 n∧aa y' 24=.int .i64 0∧aa y' 6=.ptr 4 0) (fun y' z' =>aa z' 4=.ptr 3 0∧aa z' 7=.ptr 7 0∧aa z' 6=.ptr 4 0∧aa z' 2=aa y' 2) ?_;rintro y' ⟨h4,h7,h23,X5,h6⟩;obtain⟨os,F'⟩:∃os,aP f36=os:=⟨_,rfl⟩
 have PP:=bH F' (ls:=[[0,1,0,4,12,28,60,0,128,0,896,1920,3968,8064,16380,32764,65532,131071,262143,524287],[0,1,0,0,12,28,0,64,196,508,1020,2047,4095,8191]]) (by kernel_rfl);have k16:qD [0,1,0,4,12,28,60,0,128,0,896,1920,3968,8064,16380,32764,65532,131071,262143,524287] 20 16=true:=by decide
 have k17:qD [0,1,0,4,12,28,60,0,128,0,896,1920,3968,8064,16380,32764,65532,131071,262143,524287] 20 17=true:=by decide
 have k19:qD [0,1,0,4,12,28,60,0,128,0,896,1920,3968,8064,16380,32764,65532,131071,262143,524287] 20 19=true:=by decide
 have j17:ba [0,1,0,4,12,28,60,0,128,0,896,1920,3968,8064,16380,32764,65532,131071,262143,524287] 17=true:=by decide
 have j19:ba [0,1,0,4,12,28,60,0,128,0,896,1920,3968,8064,16380,32764,65532,131071,262143,524287] 19=true:=by decide
 simp only[aP,bQ,f36,List.nil_append,List.append_nil,List.cons_append] at F';subst F';simp only[List.map_cons,List.map_nil,List.cons.injEq,and_true] at PP;obtain⟨hb1,-⟩:=PP;simp[aj,aD,f36] at hb;obtain⟨hb,-⟩:=hb;have UV:az [24,24] (ab b) y' ((24,.int .i64 ((0:Nat):Int))::y')=az [24,24] (ab b) y' y':=by simp[az,X5]
 rw[←UV];have Yn:(Cw d n k u 0).length=8:=rfl;refine bA (α:=Nat) (fun j=>⟨az [24,24] (ab b) y' ((24,.int .i64 (j:Int))::y'),Cw d n k u j,decide (0<j)⟩) (fun j=>n-j) (fun j=>j≤n) (.exit 0) _ _ _ (by simp) ?_ K 0 (by omega) (by omega);intro j Xi;clear UV;subst hb;by_cases AC:j<n
 ·left
  have q1:=P5 d (j%3) (Nat.mod_lt _ (by decide));have q2:=US hd.A (j%3);have q3:=ru d.N 4 (by decide);have q4:=ru (Uk d.A (j%3)) 3 (by decide);simp only[Int.cast_ofNat_Int] at q3 q4;have Yc:=zj (d:=d) j;have PP:=PG d j;have hz:MO d j=2*d.N.tmod 4+(Uk d.A (j%3)).tmod 3:=rfl;obtain⟨X,hX⟩:∃x,x=Uk d.A (j%3):=⟨_,rfl⟩
  rw[←hX] at q1 q2 q4 hz;obtain⟨x,hx⟩:∃y,y=X.tmod 3:=⟨_,rfl⟩
  obtain⟨y,hy⟩:∃y,y=d.N.tmod 4:=⟨_,rfl⟩
  rw[←hx] at q4 hz;rw[←hy] at q3 hz;have Y':=VA y x;rw[←hz] at Y';have l1:=fE (n:=y) (by omega);have l2:=A6 (z:=x) (by omega);have hN:=hd.N;unfold Lf at q2 hN;have wX:IntKind.i64.wrap X=X:=bN (by omega) (by omega);have wN:IntKind.i64.wrap d.N=d.N:=bN (by omega) (by omega);have g1:x.natAbs<100000000:=by omega
  have g2:y.natAbs<100000000:=by omega
  have t3:(j:Int).tmod 3=((j%3:Nat):Int):=rfl;have hj3:j%3<3:=Nat.mod_lt _ (by decide);obtain⟨r,hr⟩:∃r,r=j%3:=⟨_,rfl⟩
  rw[←hr] at t3 hj3 q1;have hp:=gW y;have w1:IntKind.i64.wrap ((j:Int)+1)=((j+1:Nat):Int):=by rw[ai (by omega) (by omega)];omega
  obtain⟨m,hm⟩:∃m,m=j+1:=⟨_,rfl⟩
  rw[←hm] at w1 PP;refine⟨m,?_⟩;have hmp:0<m:=by omega
  rw[qG hmp];have Xo:qC (qH (bw d m))=qC (qH (bw d j))++[.str (aN (hQ (MO d j)))]:=by rw[PP];simp[qH,qC]
  have hQl:(qC (qH (bw d j))).length=j:=by rw[KJ];simp[qH,dF]
  have hx2:ef (aN (mkRat x 2))=some (hQ x):=aM _;have l2' :(aN (mkRat x 2)).length≤9:=l2;have eQ:mkRat x 2=hQ x:=rfl;rw[Xo];have hN7:=TD d;by_cases hj0:j=0
  ·subst hj0
   have Xe:m=1:=by omega
   have w0:IntKind.i64.wrap 1=1:=rfl;have Xw:r=0:=by omega
   subst Xw;have e0:Cw d n k u 0=[.qF,.qF,.cells true 0 [.slice 0 0 n none,.slice 1 0 k none],.cells true 0 d.cells,.cells true 0 [.kO,.kO,.kO],.cells true 1 fA,.cells true 1 [.str u],.cells true 0 [.kO,.slice 6 0 1 none,.kO]]:=rfl;have b0:qC (qH (bw d 0))=[]:=rfl;simp only[Nat.add_zero] at q1;rw[b0,e0,Xe];simp[h4,h7,h23,AC,hN7,q1,gQ,Dk,fA,wX,wN,w0,←hx,←hy,zS,l1,l2,eQ,Y',g1,g2,aM,dP,ar,cQ,-ay,jj hb1,jN,qR,xG,cj,k16,k17,k19,j17,j19,Nat.testBit];omega
  ·have WC:0<j:=by omega
   have hd1:decide (0<j)=true:=by simpa using WC
   rw[qG WC,hd1];obtain⟨Q,hQ0⟩:∃Q,Q=qH (bw d j):=⟨_,rfl⟩
   rw[←hQ0] at hQl ⊢;have g3:(qC Q).take j=qC Q:=List.take_of_length_le (by omega);have g4:m*16≤140737488355328:=by omega
   have g5:m≤140737488355328:=by omega
   have hj3' :(r:Int)<3:=by omega
   have hmd:decide (0<m)=true:=by simpa using hmp
   simp[h4,h7,h23,AC,hN7,q1,hj3',Yn,t3,gQ,Dk,fA,wX,wN,w1,←hx,←hy,←hm,zS,l1,l2,eQ,Y',g1,g2,g3,g4,g5,hQl,hmd,aM,fY,eG,KK,dP,ar,cQ,-ay,jj hb1,jN,qR,xG,cj,k16,k17,k19,j17,j19,Nat.testBit];omega
 ·right
  have e:j=n:=by omega
  subst e;simp[h4,h7,h6,h23]
theorem wQ(d:aao)(j:Nat)(hj:j<4):d.cells[8+j]? =some (.int .u8 (Lg d.K j:Nat)):=by
 have:j=0∨j=1∨j=2∨j=3:=by omega
 rcases this with rfl | rfl | rfl | rfl<;>rfl
theorem M8{v:Nat×Nat×Nat×Nat}(h:VV v)(j:Nat):Lg v j<256:=by
 unfold Lg;split
 ·exact h.1
 ·split
  ·exact h.2.1
  ·split
   ·exact h.2.2.1
   ·exact h.2.2.2
def jm(Z:List Int):aae:=.cells true 1 (qC (qH Z))
def Cx(d:aao) (n k:Nat) (u:List UInt8) (L:List Int):Mem:=
 [.qF,.qF,.cells true 0 [.slice 0 0 n none,.slice 1 0 k none],.cells true 0 d.cells,.cells true 0 [.kO,.kO,.kO],.cells true 1 fA,.cells true 1 [.str u],.cells true 0 [.slice 8 0 n none,.slice 6 0 1 none,.kO],.cells true 1 (qC (qH L))]
def Fu(d:aao) (n k:Nat) (u u2:List UInt8) (L0 L:List Int):Mem:=
 [.qF,.qF,.cells true 0 [.slice 0 0 n none,.slice 1 0 k none],.cells true 0 d.cells,.cells true 0 [.kO,.kO,.kO],.cells true 1 fA,.qF,.cells true 0 [.slice 8 0 n none,.slice 10 0 2 none,.slice 11 0 1 none],.cells true 1 (qC (qH L0)),.cells true 1 (qC (qH L)),.cells true 1 [.str u,.str u2],.cells true 1 [.slice 9 0 n none]]
theorem VO{L:List Int}(h:k<L.length):(qC (qH L))[k]? =some (.str (aN (hQ (L.getD k 0)))):=by
 have h1:L[k]? =some (L.getD k 0):=by rw[List.getD_eq_getElem?_getD,List.getElem?_eq_getElem h];rfl
 exact VN (by simp only[qH,List.getElem?_map,h1];rfl)
theorem N4(L:List Int):(qC (qH L)).length=L.length:=by rw[KJ];simp[qH]
def Dt(k:Nat):AV:=if k=0 then .kO else .slice 9 0 k none
def Dr(d:aao) (n k:Nat) (u:List UInt8) (L:List Int) (i:Nat):Mem:=if i=0 then Cx d n k u L else Cx d n k u L++[.cells true 1 (qC (qH (cd d 0 L i)))]
theorem xg(d:aao)(hd:d.Ok)(n k:Nat)(u:List UInt8)(L:List Int)(hL:L.length=n)(hb9:∀z∈L,z.natAbs≤100)(UV:0<n)(hl:n≤1000)(hK:n<K)(hb:aj f36=[b2,b3,b]):
  ∃F:Env→Bool→Env,∀y' df,(aa y' 4=.ptr 3 0∧aa y' 57=.slice 8 0 n none∧aa y' 58=.int .i64 n∧aa y' 59=.int .i64 0∧aa y' 10=.int .i64 0∧aa y' 11=.kO)→
   aQ (aC prog) fm dP K 102 2 true (.loop b) ⟨y',Cx d n k u L,df⟩=some (.exit 4,⟨F y' df,Cx d n k u L++[.cells true 1 (qC (qH (cd d 0 L n)))],df⟩)∧aa (F y' df) 11=.slice 9 0 n none∧
    (∀t,t∈[2,4,6,7,9,10,53,54]→aa (F y' df) t=aa y' t):=by
 refine bf (L:=[11,59]) (by simp[aj,aD,f36] at hb;rw[←hb.2.2];rfl) (fun y'=>aa y' 4=.ptr 3 0∧aa y' 57=.slice 8 0 n none∧aa y' 58=.int .i64 n∧aa y' 59=.int .i64 0∧aa y' 10=.int .i64 0∧aa y' 11=.kO) (fun y' z' =>aa z' 11=.slice 9 0 n none∧(∀t,t∈[2,4,6,7,9,10,53,54]→aa z' t=aa y' t)) ?_;rintro y' df ⟨h4,h57,h58,h59,h10,h11⟩;simp[aj,aD,f36] at hb;obtain⟨-,-,hb⟩:=hb;have hnE:az [11,59] (ab b) y' ((11,Dt 0)::(59,.int .i64 ((0:Nat):Int))::y')=az [11,59] (ab b) y' y':=by simp[az,h59,h11,Dt]
 rw[←hnE];have Yn:(Cx d n k u L).length=9:=rfl;have ZR:Cx d n k u L++[.cells true 1 (qC (qH (cd d 0 L n)))]=Dr d n k u L n:=by unfold Dr;rw[if_neg (by omega)]
 rw[ZR];refine bA (α:=Nat) (fun i=>⟨az [11,59] (ab b) y' ((11,Dt i)::(59,.int .i64 (i:Int))::y'),Dr d n k u L i,df⟩) (fun i=>n-i) (fun i=>i≤n) (.exit 4) _ df _ (by simp) ?_ K 0 (by omega) (by omega);intro i hi;clear hnE ZR;subst hb;by_cases AC:i<n
 ·left
  have hr4:(0+i)%4<4:=Nat.mod_lt _ (by decide);have q1:=wQ d ((0+i)%4) hr4;have q2:=M8 hd.K ((0+i)%4);have hs:=DO d 0 L i;have hz:K0 d 0 i=((Lg d.K ((0+i)%4)%4:Nat):Int):=rfl;have t4:(((0+i:Nat):Int)).tmod 4=(((0+i)%4:Nat):Int):=rfl;obtain⟨v,hv⟩:∃v,v=0+i:=⟨_,rfl⟩
  rw[←hv] at hr4 q1 q2 hz t4;obtain⟨r,hr⟩:∃r,r=v%4:=⟨_,rfl⟩
  rw[←hr] at hr4 q1 q2 hz t4;obtain⟨X,hX⟩:∃X,X=Lg d.K r:=⟨_,rfl⟩
  rw[←hX] at q1 q2 hz;have t5:(X:Int).tmod 4=((X%4:Nat):Int):=rfl;have ZI:X%4<4:=Nat.mod_lt _ (by decide);obtain⟨x,hx⟩:∃x,x=X%4:=⟨_,rfl⟩
  rw[←hx] at t5 ZI hz;have k1:=VO (L:=L) (k:=i) (by omega);have hzl:(L.getD i 0).natAbs≤100:=by
   have:L.getD i 0∈L:=by rw[List.getD_eq_getElem?_getD,List.getElem?_eq_getElem (by omega)];exact List.getElem_mem _
   exact hb9 _ this
  obtain⟨z,hzz⟩:∃z,z=L.getD i 0:=⟨_,rfl⟩
  rw[←hzz] at k1 hzl hs;rw[hz] at hs;have Y':=Uh z (x:Int);have l1:=A6 (z:=z) (by omega);have l2:=A6 (z:=(x:Int)) (by omega);have g1:x<100000000:=by omega
  have hn' :=N4 L;have k1' :∀h,(qC (qH L))[i]'h=.str (aN (hQ z)):=fun h=>by rw[List.getElem?_eq_getElem h] at k1;exact Option.some.inj k1
  rw[hL] at hn';have hr4' :(r:Int)<4:=by omega
  have eQ:mkRat (x:Int) 2=hQ (x:Int):=rfl;have w1:IntKind.i64.wrap ((i:Int)+1)=((i+1:Nat):Int):=by rw[ai (by omega) (by omega)];omega
  have w2:IntKind.i64.wrap ((i:Int))=(v:Int):=by rw[ai (by omega) (by omega)];omega
  have w3:IntKind.i64.wrap (x:Int)=(x:Int):=bN (by omega) (by omega);obtain⟨m,hm⟩:∃m,m=i+1:=⟨_,rfl⟩
  rw[←hm] at w1 hs;refine⟨m,?_⟩;have hmp:¬m=0:=by omega
  have Xo:qC (qH (cd d 0 L m))=qC (qH (cd d 0 L i))++[.str (aN (hQ (z+(x:Int))))]:=by rw[hs];simp[qH,qC]
  by_cases ZH:i=0
  ·subst ZH
   have Xe:m=1:=by omega
   have w0:IntKind.i64.wrap 1=1:=rfl;have b0:qC (qH (cd d 0 L 0))=[]:=rfl;rw[b0,Xe,List.nil_append] at Xo;have hrj:r=0:=by omega
   subst hrj;have q1' :d.cells[8+0]? =some (.int .u8 (X:Nat)):=q1;simp only[Nat.reduceAdd] at q1';have wj:IntKind.i64.wrap 0=0:=rfl;have tj:Int.tmod 0 4=0:=rfl;simp[Dr,Dt,Xo,Xe,h4,h57,h58,h10,AC,q1,wj,tj,k1',gQ,fA,w0,w3,t5,l1,l2,eQ,Y',g1,aM,Cx,fY,hn',dP,ar,cQ];omega
  ·obtain⟨Q,hQ0⟩:∃Q,Q=qH (cd d 0 L i):=⟨_,rfl⟩
   have hQl:(qC Q).length=i:=by rw[hQ0,N4,ed]
   rw[←hQ0] at Xo;have g3:(qC Q).take i=qC Q:=List.take_of_length_le (by omega);have g4:m*16≤140737488355328:=by omega
   have g5:m≤140737488355328:=by omega
   simp[Dr,Dt,ZH,hmp,Xo,←hQ0,←hm,h4,h57,h58,h10,AC,q1,k1',gQ,fA,w1,w2,w3,hr4',t4,t5,l1,l2,eQ,Y',g1,g3,g4,g5,hQl,aM,Cx,fY,eG,hn',dP,ar,cQ];omega
 ·right
  have e:i=n:=by omega
  subst e;have ZH:¬i=0:=by omega
  simp[Dr,Dt,ZH,h58]
def Du(k:Nat):AV:=if k=0 then .kO else .slice 12 0 k none
def Ds(d:aao) (n k:Nat) (u u2:List UInt8) (L0 L:List Int) (i:Nat):Mem:=if i=0 then Fu d n k u u2 L0 L else Fu d n k u u2 L0 L++[.cells true 1 (qC (qH (cd d 1 L i)))]
theorem GJ(d:aao)(hd:d.Ok)(n k:Nat)(u u2:List UInt8)(L0 L:List Int)(hL:L.length=n)(hb9:∀z∈L,z.natAbs≤100)(UV:0<n)(hl:n≤1000)(hK:n<K)(hb:aj f36=[b2,b3,b]):
  ∃F:Env→Bool→Env,∀y' df,(aa y' 4=.ptr 3 0∧aa y' 57=.slice 9 0 n none∧aa y' 58=.int .i64 n∧aa y' 59=.int .i64 0∧aa y' 10=.int .i64 1∧aa y' 11=.kO)→
   aQ (aC prog) fm dP K 102 2 true (.loop b) ⟨y',Fu d n k u u2 L0 L,df⟩=some (.exit 4,⟨F y' df,Fu d n k u u2 L0 L++[.cells true 1 (qC (qH (cd d 1 L n)))],df⟩)∧aa (F y' df) 11=.slice 12 0 n none∧
    (∀t,t∈[2,4,6,7,9,10,53,54]→aa (F y' df) t=aa y' t):=by
 refine bf (L:=[11,59]) (by simp[aj,aD,f36] at hb;rw[←hb.2.2];rfl) (fun y'=>aa y' 4=.ptr 3 0∧aa y' 57=.slice 9 0 n none∧aa y' 58=.int .i64 n∧aa y' 59=.int .i64 0∧aa y' 10=.int .i64 1∧aa y' 11=.kO) (fun y' z' =>aa z' 11=.slice 12 0 n none∧(∀t,t∈[2,4,6,7,9,10,53,54]→aa z' t=aa y' t)) ?_;rintro y' df ⟨h4,h57,h58,h59,h10,h11⟩;simp[aj,aD,f36] at hb;obtain⟨-,-,hb⟩:=hb;have hnE:az [11,59] (ab b) y' ((11,Du 0)::(59,.int .i64 ((0:Nat):Int))::y')=az [11,59] (ab b) y' y':=by simp[az,h59,h11,Du]
 rw[←hnE];have Yn:(Fu d n k u u2 L0 L).length=12:=rfl;have ZR:Fu d n k u u2 L0 L++[.cells true 1 (qC (qH (cd d 1 L n)))]=Ds d n k u u2 L0 L n:=by unfold Ds;rw[if_neg (by omega)]
 rw[ZR];refine bA (α:=Nat) (fun i=>⟨az [11,59] (ab b) y' ((11,Du i)::(59,.int .i64 (i:Int))::y'),Ds d n k u u2 L0 L i,df⟩) (fun i=>n-i) (fun i=>i≤n) (.exit 4) _ df _ (by simp) ?_ K 0 (by omega) (by omega);intro i hi;clear hnE ZR;subst hb;by_cases AC:i<n
 ·left
  have hr4:(1+i)%4<4:=Nat.mod_lt _ (by decide);have q1:=wQ d ((1+i)%4) hr4;have q2:=M8 hd.K ((1+i)%4);have hs:=DO d 1 L i;have hz:K0 d 1 i=((Lg d.K ((1+i)%4)%4:Nat):Int):=rfl;have t4:(((1+i:Nat):Int)).tmod 4=(((1+i)%4:Nat):Int):=rfl;obtain⟨v,hv⟩:∃v,v=1+i:=⟨_,rfl⟩
  rw[←hv] at hr4 q1 q2 hz t4;obtain⟨r,hr⟩:∃r,r=v%4:=⟨_,rfl⟩
  rw[←hr] at hr4 q1 q2 hz t4;obtain⟨X,hX⟩:∃X,X=Lg d.K r:=⟨_,rfl⟩
  rw[←hX] at q1 q2 hz;have t5:(X:Int).tmod 4=((X%4:Nat):Int):=rfl;have ZI:X%4<4:=Nat.mod_lt _ (by decide);obtain⟨x,hx⟩:∃x,x=X%4:=⟨_,rfl⟩
  rw[←hx] at t5 ZI hz;have k1:=VO (L:=L) (k:=i) (by omega);have hzl:(L.getD i 0).natAbs≤100:=by
   have:L.getD i 0∈L:=by rw[List.getD_eq_getElem?_getD,List.getElem?_eq_getElem (by omega)];exact List.getElem_mem _
   exact hb9 _ this
  obtain⟨z,hzz⟩:∃z,z=L.getD i 0:=⟨_,rfl⟩
  rw[←hzz] at k1 hzl hs;rw[hz] at hs;have Y':=Uh z (x:Int);have l1:=A6 (z:=z) (by omega);have l2:=A6 (z:=(x:Int)) (by omega);have g1:x<100000000:=by omega
  have hn' :=N4 L;have k1' :∀h,(qC (qH L))[i]'h=.str (aN (hQ z)):=fun h=>by rw[List.getElem?_eq_getElem h] at k1;exact Option.some.inj k1
  rw[hL] at hn';have hr4' :(r:Int)<4:=by omega
  have eQ:mkRat (x:Int) 2=hQ (x:Int):=rfl;have w1:IntKind.i64.wrap ((i:Int)+1)=((i+1:Nat):Int):=by rw[ai (by omega) (by omega)];omega
  have w2:IntKind.i64.wrap (1+(i:Int))=(v:Int):=by rw[ai (by omega) (by omega)];omega
  have w3:IntKind.i64.wrap (x:Int)=(x:Int):=bN (by omega) (by omega);obtain⟨m,hm⟩:∃m,m=i+1:=⟨_,rfl⟩
  rw[←hm] at w1 hs;refine⟨m,?_⟩;have hmp:¬m=0:=by omega
  have Xo:qC (qH (cd d 1 L m))=qC (qH (cd d 1 L i))++[.str (aN (hQ (z+(x:Int))))]:=by rw[hs];simp[qH,qC]
  by_cases ZH:i=0
  ·subst ZH
   have Xe:m=1:=by omega
   have w0:IntKind.i64.wrap 1=1:=rfl;have b0:qC (qH (cd d 1 L 0))=[]:=rfl;rw[b0,Xe,List.nil_append] at Xo;have hrj:r=1:=by omega
   subst hrj;have q1' :d.cells[8+1]? =some (.int .u8 (X:Nat)):=q1;simp only[Nat.reduceAdd] at q1';have wj:IntKind.i64.wrap 1=1:=rfl;have tj:Int.tmod 1 4=1:=rfl;simp[Ds,Du,Xo,Xe,h4,h57,h58,h10,AC,q1,wj,tj,k1',gQ,fA,w3,t5,l1,l2,eQ,Y',g1,aM,Fu,fY,hn',dP,ar,cQ];omega
  ·obtain⟨Q,hQ0⟩:∃Q,Q=qH (cd d 1 L i):=⟨_,rfl⟩
   have hQl:(qC Q).length=i:=by rw[hQ0,N4,ed]
   rw[←hQ0] at Xo;have g3:(qC Q).take i=qC Q:=List.take_of_length_le (by omega);have g4:m*16≤140737488355328:=by omega
   have g5:m≤140737488355328:=by omega
   simp[Ds,Du,ZH,hmp,Xo,←hQ0,←hm,h4,h57,h58,h10,AC,q1,k1',gQ,fA,w1,w2,w3,hr4',t4,t5,l1,l2,eQ,Y',g1,g3,g4,g5,hQl,aM,Fu,fY,eG,hn',dP,ar,cQ];omega
 ·right
  have e:i=n:=by omega
  subst e;have ZH:¬i=0:=by omega
  simp[Ds,Du,ZH,h58]
theorem RT(n:Nat):AV.aas n fA=[]:=rfl
theorem VK(f:Nat→Bool):AV.aaa f fA=true:=rfl
theorem Uj(f:Nat→Option Nat):AV.aal f fA=fA:=rfl
def cg(i:Nat):UInt8:=UInt8.ofNat (65+i)
theorem UQ{i:Nat}(hi:i<6):fA[i]? =some (.str [cg i]):=by
 have:i=0∨i=1∨i=2∨i=3∨i=4∨i=5:=by omega
 rcases this with rfl | rfl | rfl | rfl | rfl | rfl<;>rfl
def bp(i:Nat):Nat→List (List UInt8)
 |0=>[[cg i,49]]
 |1=>[[cg i,49],[cg i,50]]
 |_=>[[cg i,49],[cg i,50],[cg i,51]]
def Rs(n:Nat):Nat→AV
 |0=>.agg [.slice 2 0 n none,.slice 3 0 1 none,.kO]
 |1=>.agg [.slice 2 0 n none,.slice 3 0 2 none,.slice 4 0 1 none]
 |_=>.agg [.slice 2 0 n none,.slice 3 0 3 none,.slice 4 0 2 none]
def pd(d:aao) (n i:Nat):Nat→Mem
 |0=>[jm (bw d n),.cells true 1 ((bp i 0).map .str)]
 |1=>[jm (bw d n),.cells true 1 ((bp i 1).map .str),.cells true 1 [.slice 5 0 n none],jm (cd d 0 (bw d n) n)]
 |_=>[jm (bw d n),.cells true 1 ((bp i 2).map .str),.cells true 1 [.slice 5 0 n none,.slice 6 0 n none],jm (cd d 0 (bw d n) n),jm (cd d 1 (cd d 0 (bw d n) n) n)]
theorem zF(d:aao)(hd:d.Ok)(n k i:Nat)(hi:i<6)(hn:0<n)(hl:n≤1000)(hJ:d.K.1%3=0):
  mB prog 36 [.agg [.slice 0 0 n none,.slice 1 0 k none],.agg d.cells,.int .i64 i] [.qF,.qF] (Rs n 0) ([.qF,.qF]++pd d n i 0):=by
 have hG:aO prog 36=some f36:=by kernel_rfl
 obtain⟨b,b2,b3,hb⟩:∃b b2 b3,aj f36=[b,b2,b3]:=⟨_,_,_,rfl⟩
 obtain⟨K,hK⟩:∃K,K=n+1:=⟨_,rfl⟩
 obtain⟨F,hF⟩:=mo (K:=K+5) d hd n k [cg i,49] hl (by omega) hb;have e0:Cw d n k [cg i,49] 0=[.qF,.qF,.cells true 0 [.slice 0 0 n none,.slice 1 0 k none],.cells true 0 d.cells,.cells true 0 [.kO,.kO,.kO],.cells true 1 fA,.cells true 1 [.str [cg i,49]],.cells true 0 [.kO,.slice 6 0 1 none,.kO]]:=rfl;have hdn:decide (0<n)=true:=by simpa using hn
 rw[qG hn,e0,hdn] at hF;have H1:=fun y' h=>(hF y' h).1
 have hG4:=fun y' h=>(hF y' h).2.1
 have hG7:=fun y' h=>(hF y' h).2.2.1
 have hG6:=fun y' h=>(hF y' h).2.2.2.1
 have hG2:=fun y' h=>(hF y' h).2.2.2.2
 clear hF;simp[aj,aD,f36] at hb;obtain⟨rfl,rfl,rfl⟩:=hb;have hna:=UQ hi;have hK8:d.cells[8]? =some (.int .u8 (d.K.1:Nat)):=rfl;have t3:((d.K.1:Nat):Int).tmod 3=0:=by have:((d.K.1:Nat):Int).tmod 3=((d.K.1%3:Nat):Int):=rfl;rw[this,hJ];rfl
 have hi' :(i:Int)<6:=by omega
 have h:ad (aC prog) fm (aO prog) dP (K+5) 36 [.agg [.slice 0 0 n none,.slice 1 0 k none],.agg d.cells,.int .i64 i] [.qF,.qF]=some ⟨Rs n 0,some [.qF,.qF],pd d n i 0⟩:=by simp[ad,hG,f36,H1,hG4,hG7,hG6,dP,hna,hi',hK8,t3,w0,fY,eG,aR,gl,fm,Rs,pd,bp,jm,gd,bO,aL];exact⟨rfl,rfl⟩
 have:=(au af (aw _) sM (ax _) h).1;simpa [HS.mem] using this
end Go.Proofs
