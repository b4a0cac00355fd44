/- See N58. -/
import Derived.Test.YtmhkeaphiadacaaGreatDoorN28
import Derived.Test.YtmhkeaphiadacaaGreatDoorN11
import Derived.Test.YtmhkeaphiadacaaGreatDoorN09
set_option linter.all false
namespace Go.Proofs
open Go.Eng
noncomputable def cj(f:FuncId) (args:List AV):Option AV:=
 match f,args with
 |38,[.int .i64 n,.int .i64 d]=>if 0<d∧n.natAbs<10 ^ 8∧d.toNat<10 ^ 8 then some (.str (aN (mkRat n d.toNat))) else none
 |65,[.str s,.str t]=>match dE s,dE t with
  |some a,some b=>if (aN a).length≤9∧(aN b).length≤9 then some (.str (aN (a+b))) else none
  |_,_=>none
 |35,[.int .i64 n]=>if n.natAbs<10 ^ 8 then some (.str (zS n)) else none
 |_,_=>none
theorem xy:OracleOk Tryz.prog (ao cj):=bN fun f args v h mem=>by
 unfold cj at h
 split at h
 ·rename_i n d
  split at h
  ·rename_i hc
   cases h
   have:=Df n d.toNat (by omega) hc.2.1 hc.2.2 mem
   rw[Int.toNat_of_nonneg (by omega)] at this
   exact this
  ·cases h
 ·split at h
  ·rename_i m n hm hn
   split at h
   ·rename_i hc;cases h;rw[au hm,au hn];exact Ad m n hc.1 hc.2 mem
   ·cases h
  ·cases h
 ·split at h
  ·rename_i hc;cases h;exact C4 _ hc mem
  ·cases h
 ·cases h
def dY:List AV:=[.str [65],.str [66],.str [67],.str [68],.str [69],.str [70]]
theorem C9:ACallsTo Tryz.prog 64 [] [] (.slice 0 0 6 none) [.cells true 1 dY]:=by
 have hG:aI Tryz.prog 64=some Tryz.f64:=by kernel_rfl
 have h:ab (az Tryz.prog) (fun _=>[]) (aI Tryz.prog) aE 1 64 [] []=some ⟨.slice 0 0 6 none,none,[.cells true 1 dY]⟩:=by
  simp[ab,hG,Tryz.f64,dY]
 have:=(ae aa (ai _) (af _) (aj _) h).1
 simpa [CallRes.mem] using this
theorem H5(M:Mem):ACallsTo Tryz.prog 64 [] M (.slice M.length 0 6 none) (M++[.cells true 1 dY]):=by
 have:=ACallsTo.frame (M:=M) (new:=[.cells true 1 dY]) (args:=[]) [] (m:=[]) rfl (by simp) (by rfl) (fun i s hs=>by simp at hs) rfl C9
 simpa [AV.ren,AV.rens,da,Slot.ren,dY] using this
noncomputable def dl:Oracle:=fun c args M=>match c,args with
 |.fn 64,[]=>some ⟨.slice M.length 0 6 none,none,[.cells true 1 dY]⟩
 |c,args=>ao cj c args M
theorem qw:OracleOk Tryz.prog dl:=by
 refine cO fun c args M r h=>?_
 unfold dl at h
 split at h
 ·cases h;exact ap (H5 M)
 ·exact gT xy h
def Rt(d:Deed) (n k:Nat) (u:List UInt8) (x:AV):Mem:=
 [.absent,.absent,.cells true 0 [.slice 0 0 n none,.slice 1 0 k none],.cells true 0 d.cells,.cells true 0 [.nilslice,.nilslice,.nilslice],.cells true 1 dY,.cells true 1 [.str u],.cells true 0 [x,.slice 6 0 1 none,.nilslice]]
def zW(d:Deed) (n k:Nat) (u:List UInt8) (j:Nat):Mem:=if j=0 then Rt d n k u .nilslice else Rt d n k u (.slice 8 0 j none)++[.cells true 1 (qC (qH (bd d j)))]
theorem fo(d:Deed) (n:Nat):AV.refsL n d.cells=[]:=rfl
theorem oG(d:Deed) (f:Nat→Bool):AV.refsOkL f d.cells=true:=rfl
theorem oH(d:Deed) (f:Nat→Option Nat):AV.rens f d.cells=d.cells:=rfl
theorem iC(d:Deed):d.cells.length=12:=rfl
theorem Pg(d:Deed):d.cells[7]? =some (.int .i8 d.N):=rfl
theorem oI{d:Deed}{n k:Nat}{u:List UInt8}{j:Nat}(h:0<j):zW d n k u j=[.absent,.absent,.cells true 0 [.slice 0 0 n none,.slice 1 0 k none],.cells true 0 d.cells,.cells true 0 [.nilslice,.nilslice,.nilslice],.cells true 1 dY,.cells true 1 [.str u],.cells true 0 [.slice 8 0 j none,.slice 6 0 1 none,.nilslice],.cells true 1 (qC (qH (bd d j)))]:=by
 unfold zW
 rw[if_neg (by omega)]
 rfl
def dV(c:Code):List Nat:=if (ad c).contains 24 then [24,24] else if (ad c).contains 54 then [9,9,54] else [11,59]
theorem LX(d:Deed) (j:Nat) (hj:j<3):d.cells[1+j]? =some (.int .i8 (PW d.A j)):=by
 have:j=0∨j=1∨j=2:=by omega
 rcases this with rfl | rfl | rfl<;>rfl
theorem Qz{v:Int×Int×Int}(h:Pn v) (j:Nat):HI (PW v j):=by
 unfold PW
 split
 ·exact h.1
 ·split
  ·exact h.2.1
  ·exact h.2.2
theorem wz{d:Deed}(k:Nat):(I5 d k).natAbs≤8:=by
 have h1:=pj d.N 4 (by decide)
 have h2:=pj (PW d.A (k%3)) 3 (by decide)
 unfold I5
 simp only[Int.cast_ofNat_Int] at h1 h2
 omega
set_option maxRecDepth 8192 in
set_option maxHeartbeats 12800000 in
theorem kJ{K:Nat}(d:Deed) (hd:d.Ok) (n k:Nat) (u:List UInt8) (hl:n≤1000) (hK:n<K) {b b2 b3:Code}(hb:am Tryz.f36=[b,b2,b3]):
  ∃F:Env→Env,∀env0,(ac env0 4=.ptr 3 0∧ac env0 7=.ptr 7 0∧ac env0 23=.int .i64 n∧ac env0 24=.int .i64 0∧ac env0 6=.ptr 4 0)→
   aO (az Tryz.prog) dV dl K 102 2 true (.loop b) ⟨env0,zW d n k u 0,false⟩=some (.exit 0,⟨F env0,zW d n k u n,decide (0<n)⟩)∧ac (F env0) 4=.ptr 3 0∧ac (F env0) 7=.ptr 7 0∧ac (F env0) 6=.ptr 4 0∧ac (F env0) 2=ac env0 2:=by
 refine qO (L:=[24,24]) (by simp[am,aJ,Tryz.f36] at hb;rw[←hb.1];rfl) false _ (fun env0=>ac env0 4=.ptr 3 0∧ac env0 7=.ptr 7 0∧ac env0 23=.int .i64 n∧ac env0 24=.int .i64 0∧ac env0 6=.ptr 4 0) (fun env0 env' =>ac env' 4=.ptr 3 0∧ac env' 7=.ptr 7 0∧ac env' 6=.ptr 4 0∧ac env' 2=ac env0 2) ?_
 rintro env0 ⟨h4,h7,h23,h24,h6⟩
 obtain⟨os,hops⟩:∃os,aG Tryz.f36=os:=⟨_,rfl⟩
 have hbs:=aV hops (ls:=[[0,1,0,4,12,28,60,0,128,0,896,1920,3968,8064,16380,32764,65532,131071,262143,524287],[0,1,0,0,12,28,0,64,196,508,1020,2047,4095,8191]]) (by kernel_rfl)
 have k16:fc [0,1,0,4,12,28,60,0,128,0,896,1920,3968,8064,16380,32764,65532,131071,262143,524287] 20 16=true:=by decide
 have k17:fc [0,1,0,4,12,28,60,0,128,0,896,1920,3968,8064,16380,32764,65532,131071,262143,524287] 20 17=true:=by decide
 have k19:fc [0,1,0,4,12,28,60,0,128,0,896,1920,3968,8064,16380,32764,65532,131071,262143,524287] 20 19=true:=by decide
 have j17:aS [0,1,0,4,12,28,60,0,128,0,896,1920,3968,8064,16380,32764,65532,131071,262143,524287] 17=true:=by decide
 have j19:aS [0,1,0,4,12,28,60,0,128,0,896,1920,3968,8064,16380,32764,65532,131071,262143,524287] 19=true:=by decide
 simp only[aG,bC,Tryz.f36,List.nil_append,List.append_nil,List.cons_append] at hops
 subst hops
 simp only[List.map_cons,List.map_nil,List.cons.injEq,and_true] at hbs
 obtain⟨hb1,-⟩:=hbs
 simp[am,aJ,Tryz.f36] at hb
 obtain⟨hb,-⟩:=hb
 have hn0:ay [24,24] (ad b) env0 ((24,.int .i64 ((0:Nat):Int))::env0)=ay [24,24] (ad b) env0 env0:=by simp[ay,h24]
 rw[←hn0]
 have hm1:(zW d n k u 0).length=8:=rfl
 refine bR (α:=Nat) (fun j=>⟨ay [24,24] (ad b) env0 ((24,.int .i64 (j:Int))::env0),zW d n k u j,decide (0<j)⟩) (fun j=>n-j) (fun j=>j≤n) (.exit 0) _ _ _ (by simp) ?_ K 0 (by omega) (by omega)
 intro j hn1
 clear hn0
 subst hb
 by_cases hlt:j<n
 ·left
  have q1:=LX d (j%3) (Nat.mod_lt _ (by decide))
  have q2:=Qz hd.A (j%3)
  have q3:=pj d.N 4 (by decide)
  have q4:=pj (PW d.A (j%3)) 3 (by decide)
  simp only[Int.cast_ofNat_Int] at q3 q4
  have hbz:=wz (d:=d) j
  have hbs:=LB d j
  have hz:I5 d j=2*d.N.tmod 4+(PW d.A (j%3)).tmod 3:=rfl
  obtain⟨X,hX⟩:∃x,x=PW d.A (j%3):=⟨_,rfl⟩
  rw[←hX] at q1 q2 q4 hz
  obtain⟨x,hx⟩:∃y,y=X.tmod 3:=⟨_,rfl⟩
  obtain⟨y,hy⟩:∃y,y=d.N.tmod 4:=⟨_,rfl⟩
  rw[←hx] at q4 hz
  rw[←hy] at q3 hz
  have hadd:=QV y x
  rw[←hz] at hadd
  have l1:=eh (n:=y) (by omega)
  have l2:=yz (z:=x) (by omega)
  have hN:=hd.N
  unfold HI at q2 hN
  have wX:IntKind.i64.wrap X=X:=bo (by omega) (by omega)
  have wN:IntKind.i64.wrap d.N=d.N:=bo (by omega) (by omega)
  have g1:x.natAbs<100000000:=by omega
  have g2:y.natAbs<100000000:=by omega
  have t3:(j:Int).tmod 3=((j%3:Nat):Int):=rfl
  have hj3:j%3<3:=Nat.mod_lt _ (by decide)
  obtain⟨r,hr⟩:∃r,r=j%3:=⟨_,rfl⟩
  rw[←hr] at t3 hj3 q1
  have hp:=fH y
  have w1:IntKind.i64.wrap ((j:Int)+1)=((j+1:Nat):Int):=by rw[al (by omega) (by omega)];omega
  obtain⟨m,hm⟩:∃m,m=j+1:=⟨_,rfl⟩
  rw[←hm] at w1 hbs
  refine⟨m,?_⟩
  have hmp:0<m:=by omega
  rw[oI hmp]
  have hsimp:qC (qH (bd d m))=qC (qH (bd d j))++[.str (aN (hQ (I5 d j)))]:=by rw[hbs];simp[qH,qC]
  have hQl:(qC (qH (bd d j))).length=j:=by rw[Hk];simp[qH,cF]
  have hx2:dE (aN (mkRat x 2))=some (hQ x):=aR _
  have l2' :(aN (mkRat x 2)).length≤9:=l2
  have eQ:mkRat x 2=hQ x:=rfl
  rw[hsimp]
  have hN7:=Pg d
  by_cases hj0:j=0
  ·subst hj0
   have hm0:m=1:=by omega
   have w0:IntKind.i64.wrap 1=1:=rfl
   have hr0:r=0:=by omega
   subst hr0
   have e0:zW d n k u 0=[.absent,.absent,.cells true 0 [.slice 0 0 n none,.slice 1 0 k none],.cells true 0 d.cells,.cells true 0 [.nilslice,.nilslice,.nilslice],.cells true 1 dY,.cells true 1 [.str u],.cells true 0 [.nilslice,.slice 6 0 1 none,.nilslice]]:=rfl
   have b0:qC (qH (bd d 0))=[]:=rfl
   simp only[Nat.add_zero] at q1
   rw[b0,e0,hm0]
   simp[h4,h7,h23,hlt,hN7,q1,iC,fo,oH,oG,dY,wX,wN,w0,←hx,←hy,hp,zS,l1,l2,eQ,hadd,g1,g2,aR,dl,ao,cj,-aF,eG hb1,fS,ky,su,cf,k16,k17,k19,j17,j19,Nat.testBit]
   omega
  ·have hpos:0<j:=by omega
   have hd1:decide (0<j)=true:=by simpa using hpos
   rw[oI hpos,hd1]
   obtain⟨Q,hQ0⟩:∃Q,Q=qH (bd d j):=⟨_,rfl⟩
   rw[←hQ0] at hQl ⊢
   have g3:(qC Q).take j=qC Q:=List.take_of_length_le (by omega)
   have g4:m*16≤140737488355328:=by omega
   have g5:m≤140737488355328:=by omega
   have hj3' :(r:Int)<3:=by omega
   have hmd:decide (0<m)=true:=by simpa using hmp
   simp[h4,h7,h23,hlt,hN7,q1,hj3,hj3',hm1,t3,iC,fo,oH,oG,dY,wX,wN,w1,←hx,←hy,←hm,hp,zS,l1,l2,eQ,hadd,g1,g2,g3,g4,g5,hQl,hmd,aR,fa,di,qX,dl,ao,cj,-aF,eG hb1,fS,ky,su,cf,k16,k17,k19,j17,j19,Nat.testBit]
   omega
 ·right
  have e:j=n:=by omega
  subst e
  simp[h4,h7,h6,h23,hlt]
theorem uf(d:Deed) (j:Nat) (hj:j<4):d.cells[8+j]? =some (.int .u8 (HJ d.K j:Nat)):=by
 have:j=0∨j=1∨j=2∨j=3:=by omega
 rcases this with rfl | rfl | rfl | rfl<;>rfl
theorem Jo{v:Nat×Nat×Nat×Nat}(h:Q9 v) (j:Nat):HJ v j<256:=by
 unfold HJ
 split
 ·exact h.1
 ·split
  ·exact h.2.1
  ·split
   ·exact h.2.2.1
   ·exact h.2.2.2
def ib(Z:List Int):Slot:=.cells true 1 (qC (qH Z))
def zX(d:Deed) (n k:Nat) (u:List UInt8) (L:List Int):Mem:=
 [.absent,.absent,.cells true 0 [.slice 0 0 n none,.slice 1 0 k none],.cells true 0 d.cells,.cells true 0 [.nilslice,.nilslice,.nilslice],.cells true 1 dY,.cells true 1 [.str u],.cells true 0 [.slice 8 0 n none,.slice 6 0 1 none,.nilslice],.cells true 1 (qC (qH L))]
def Cp(d:Deed) (n k:Nat) (u u2:List UInt8) (L0 L:List Int):Mem:=
 [.absent,.absent,.cells true 0 [.slice 0 0 n none,.slice 1 0 k none],.cells true 0 d.cells,.cells true 0 [.nilslice,.nilslice,.nilslice],.cells true 1 dY,.absent,.cells true 0 [.slice 8 0 n none,.slice 10 0 2 none,.slice 11 0 1 none],.cells true 1 (qC (qH L0)),.cells true 1 (qC (qH L)),.cells true 1 [.str u,.str u2],.cells true 1 [.slice 9 0 n none]]
theorem Q5{L:List Int}{k:Nat}(h:k<L.length):(qC (qH L))[k]? =some (.str (aN (hQ (L.getD k 0)))):=by
 have h1:L[k]? =some (L.getD k 0):=by rw[List.getD_eq_getElem?_getD,List.getElem?_eq_getElem h];rfl
 exact Q4 (by simp only[qH,List.getElem?_map,h1];rfl)
theorem Kd(L:List Int):(qC (qH L)).length=L.length:=by rw[Hk];simp[qH]
def AL(k:Nat):AV:=if k=0 then .nilslice else .slice 9 0 k none
def AJ(d:Deed) (n k:Nat) (u:List UInt8) (L:List Int) (i:Nat):Mem:=if i=0 then zX d n k u L else zX d n k u L++[.cells true 1 (qC (qH (bL d 0 L i)))]
set_option maxRecDepth 8192 in
set_option maxHeartbeats 12800000 in
theorem uz{K:Nat}(d:Deed) (hd:d.Ok) (n k:Nat) (u:List UInt8) (L:List Int) (hL:L.length=n) (hb9:∀z∈L,z.natAbs≤100) (hn0:0<n) (hl:n≤1000) (hK:n<K) {b b2 b3:Code}(hb:am Tryz.f36=[b2,b3,b]):
  ∃F:Env→Bool→Env,∀env0 df,(ac env0 4=.ptr 3 0∧ac env0 57=.slice 8 0 n none∧ac env0 58=.int .i64 n∧ac env0 59=.int .i64 0∧ac env0 10=.int .i64 0∧ac env0 11=.nilslice)→
   aO (az Tryz.prog) dV dl K 102 2 true (.loop b) ⟨env0,zX d n k u L,df⟩=some (.exit 4,⟨F env0 df,zX d n k u L++[.cells true 1 (qC (qH (bL d 0 L n)))],df⟩)∧ac (F env0 df) 11=.slice 9 0 n none∧
    (∀t,t∈[2,4,6,7,9,10,53,54]→ac (F env0 df) t=ac env0 t):=by
 refine bD (L:=[11,59]) (by simp[am,aJ,Tryz.f36] at hb;rw[←hb.2.2];rfl) (fun env0=>ac env0 4=.ptr 3 0∧ac env0 57=.slice 8 0 n none∧ac env0 58=.int .i64 n∧ac env0 59=.int .i64 0∧ac env0 10=.int .i64 0∧ac env0 11=.nilslice) (fun env0 env' =>ac env' 11=.slice 9 0 n none∧(∀t,t∈[2,4,6,7,9,10,53,54]→ac env' t=ac env0 t)) ?_
 rintro env0 df ⟨h4,h57,h58,h59,h10,h11⟩
 simp[am,aJ,Tryz.f36] at hb
 obtain⟨-,-,hb⟩:=hb
 have hnE:ay [11,59] (ad b) env0 ((11,AL 0)::(59,.int .i64 ((0:Nat):Int))::env0)=ay [11,59] (ad b) env0 env0:=by simp[ay,h59,h11,AL]
 rw[←hnE]
 have hm1:(zX d n k u L).length=9:=rfl
 have hfin:zX d n k u L++[.cells true 1 (qC (qH (bL d 0 L n)))]=AJ d n k u L n:=by unfold AJ;rw[if_neg (by omega)]
 rw[hfin]
 refine bR (α:=Nat) (fun i=>⟨ay [11,59] (ad b) env0 ((11,AL i)::(59,.int .i64 (i:Int))::env0),AJ d n k u L i,df⟩) (fun i=>n-i) (fun i=>i≤n) (.exit 4) _ df _ (by simp) ?_ K 0 (by omega) (by omega)
 intro i hi
 clear hnE hfin
 subst hb
 by_cases hlt:i<n
 ·left
  have hr4:(0+i)%4<4:=Nat.mod_lt _ (by decide)
  have q1:=uf d ((0+i)%4) hr4
  have q2:=Jo hd.K ((0+i)%4)
  have hs:=Bf d 0 L i
  have hz:Hw d 0 i=((HJ d.K ((0+i)%4)%4:Nat):Int):=rfl
  have t4:(((0+i:Nat):Int)).tmod 4=(((0+i)%4:Nat):Int):=rfl
  obtain⟨v,hv⟩:∃v,v=0+i:=⟨_,rfl⟩
  rw[←hv] at hr4 q1 q2 hz t4
  obtain⟨r,hr⟩:∃r,r=v%4:=⟨_,rfl⟩
  rw[←hr] at hr4 q1 q2 hz t4
  obtain⟨X,hX⟩:∃X,X=HJ d.K r:=⟨_,rfl⟩
  rw[←hX] at q1 q2 hz
  have t5:(X:Int).tmod 4=((X%4:Nat):Int):=rfl
  have hx4:X%4<4:=Nat.mod_lt _ (by decide)
  obtain⟨x,hx⟩:∃x,x=X%4:=⟨_,rfl⟩
  rw[←hx] at t5 hx4 hz
  have k1:=Q5 (L:=L) (k:=i) (by omega)
  have hzl:(L.getD i 0).natAbs≤100:=by
   have:L.getD i 0∈L:=by rw[List.getD_eq_getElem?_getD,List.getElem?_eq_getElem (by omega)];exact List.getElem_mem _
   exact hb9 _ this
  obtain⟨z,hzz⟩:∃z,z=L.getD i 0:=⟨_,rfl⟩
  rw[←hzz] at k1 hzl hs
  rw[hz] at hs
  have hadd:=PR z (x:Int)
  have l1:=yz (z:=z) (by omega)
  have l2:=yz (z:=(x:Int)) (by omega)
  have g1:x<100000000:=by omega
  have hn' :=Kd L
  have k1' :∀h,(qC (qH L))[i]'h=.str (aN (hQ z)):=fun h=>by
   rw[List.getElem?_eq_getElem h] at k1
   exact Option.some.inj k1
  rw[hL] at hn'
  have hr4' :(r:Int)<4:=by omega
  have eQ:mkRat (x:Int) 2=hQ (x:Int):=rfl
  have w1:IntKind.i64.wrap ((i:Int)+1)=((i+1:Nat):Int):=by rw[al (by omega) (by omega)];omega
  have w2:IntKind.i64.wrap ((i:Int))=(v:Int):=by rw[al (by omega) (by omega)];omega
  have w3:IntKind.i64.wrap (x:Int)=(x:Int):=bo (by omega) (by omega)
  obtain⟨m,hm⟩:∃m,m=i+1:=⟨_,rfl⟩
  rw[←hm] at w1 hs
  refine⟨m,?_⟩
  have hmp:¬m=0:=by omega
  have hsimp:qC (qH (bL d 0 L m))=qC (qH (bL d 0 L i))++[.str (aN (hQ (z+(x:Int))))]:=by rw[hs];simp[qH,qC]
  by_cases hi0:i=0
  ·subst hi0
   have hm0:m=1:=by omega
   have w0:IntKind.i64.wrap 1=1:=rfl
   have b0:qC (qH (bL d 0 L 0))=[]:=rfl
   rw[b0,hm0,List.nil_append] at hsimp
   have hrj:r=0:=by omega
   subst hrj
   have q1' :d.cells[8+0]? =some (.int .u8 (X:Nat)):=q1
   simp only[Nat.reduceAdd] at q1'
   have wj:IntKind.i64.wrap 0=0:=rfl
   have tj:Int.tmod 0 4=0:=rfl
   simp[AJ,AL,hmp,hsimp,hm0,h4,h57,h58,h10,hlt,q1,q1',wj,tj,k1,k1',iC,fo,oH,oG,dY,w0,w1,w2,w3,hr4,hr4',t4,t5,l1,l2,eQ,hadd,g1,aR,zX,fa,di,qX,hn',dl,ao,cj]
   omega
  ·obtain⟨Q,hQ0⟩:∃Q,Q=qH (bL d 0 L i):=⟨_,rfl⟩
   have hQl:(qC Q).length=i:=by rw[hQ0,Kd,cH]
   rw[←hQ0] at hsimp
   have g3:(qC Q).take i=qC Q:=List.take_of_length_le (by omega)
   have g4:m*16≤140737488355328:=by omega
   have g5:m≤140737488355328:=by omega
   simp[AJ,AL,hi0,hmp,hsimp,←hQ0,←hm,h4,h57,h58,h10,hlt,q1,k1,k1',iC,fo,oH,oG,dY,w1,w2,w3,hr4,hr4',t4,t5,l1,l2,eQ,hadd,g1,g3,g4,g5,hQl,aR,zX,fa,di,qX,hn',dl,ao,cj]
   omega
 ·right
  have e:i=n:=by omega
  subst e
  have hi0:¬i=0:=by omega
  simp[AJ,AL,hi0,h58,hlt]
def AM(k:Nat):AV:=if k=0 then .nilslice else .slice 12 0 k none
def AK(d:Deed) (n k:Nat) (u u2:List UInt8) (L0 L:List Int) (i:Nat):Mem:=if i=0 then Cp d n k u u2 L0 L else Cp d n k u u2 L0 L++[.cells true 1 (qC (qH (bL d 1 L i)))]
set_option maxRecDepth 8192 in
set_option maxHeartbeats 12800000 in
theorem Dn{K:Nat}(d:Deed) (hd:d.Ok) (n k:Nat) (u u2:List UInt8) (L0 L:List Int) (hL:L.length=n) (hb9:∀z∈L,z.natAbs≤100) (hn0:0<n) (hl:n≤1000) (hK:n<K) {b b2 b3:Code}(hb:am Tryz.f36=[b2,b3,b]):
  ∃F:Env→Bool→Env,∀env0 df,(ac env0 4=.ptr 3 0∧ac env0 57=.slice 9 0 n none∧ac env0 58=.int .i64 n∧ac env0 59=.int .i64 0∧ac env0 10=.int .i64 1∧ac env0 11=.nilslice)→
   aO (az Tryz.prog) dV dl K 102 2 true (.loop b) ⟨env0,Cp d n k u u2 L0 L,df⟩=some (.exit 4,⟨F env0 df,Cp d n k u u2 L0 L++[.cells true 1 (qC (qH (bL d 1 L n)))],df⟩)∧ac (F env0 df) 11=.slice 12 0 n none∧
    (∀t,t∈[2,4,6,7,9,10,53,54]→ac (F env0 df) t=ac env0 t):=by
 refine bD (L:=[11,59]) (by simp[am,aJ,Tryz.f36] at hb;rw[←hb.2.2];rfl) (fun env0=>ac env0 4=.ptr 3 0∧ac env0 57=.slice 9 0 n none∧ac env0 58=.int .i64 n∧ac env0 59=.int .i64 0∧ac env0 10=.int .i64 1∧ac env0 11=.nilslice) (fun env0 env' =>ac env' 11=.slice 12 0 n none∧(∀t,t∈[2,4,6,7,9,10,53,54]→ac env' t=ac env0 t)) ?_
 rintro env0 df ⟨h4,h57,h58,h59,h10,h11⟩
 simp[am,aJ,Tryz.f36] at hb
 obtain⟨-,-,hb⟩:=hb
 have hnE:ay [11,59] (ad b) env0 ((11,AM 0)::(59,.int .i64 ((0:Nat):Int))::env0)=ay [11,59] (ad b) env0 env0:=by simp[ay,h59,h11,AM]
 rw[←hnE]
 have hm1:(Cp d n k u u2 L0 L).length=12:=rfl
 have hfin:Cp d n k u u2 L0 L++[.cells true 1 (qC (qH (bL d 1 L n)))]=AK d n k u u2 L0 L n:=by unfold AK;rw[if_neg (by omega)]
 rw[hfin]
 refine bR (α:=Nat) (fun i=>⟨ay [11,59] (ad b) env0 ((11,AM i)::(59,.int .i64 (i:Int))::env0),AK d n k u u2 L0 L i,df⟩) (fun i=>n-i) (fun i=>i≤n) (.exit 4) _ df _ (by simp) ?_ K 0 (by omega) (by omega)
 intro i hi
 clear hnE hfin
 subst hb
 by_cases hlt:i<n
 ·left
  have hr4:(1+i)%4<4:=Nat.mod_lt _ (by decide)
  have q1:=uf d ((1+i)%4) hr4
  have q2:=Jo hd.K ((1+i)%4)
  have hs:=Bf d 1 L i
  have hz:Hw d 1 i=((HJ d.K ((1+i)%4)%4:Nat):Int):=rfl
  have t4:(((1+i:Nat):Int)).tmod 4=(((1+i)%4:Nat):Int):=rfl
  obtain⟨v,hv⟩:∃v,v=1+i:=⟨_,rfl⟩
  rw[←hv] at hr4 q1 q2 hz t4
  obtain⟨r,hr⟩:∃r,r=v%4:=⟨_,rfl⟩
  rw[←hr] at hr4 q1 q2 hz t4
  obtain⟨X,hX⟩:∃X,X=HJ d.K r:=⟨_,rfl⟩
  rw[←hX] at q1 q2 hz
  have t5:(X:Int).tmod 4=((X%4:Nat):Int):=rfl
  have hx4:X%4<4:=Nat.mod_lt _ (by decide)
  obtain⟨x,hx⟩:∃x,x=X%4:=⟨_,rfl⟩
  rw[←hx] at t5 hx4 hz
  have k1:=Q5 (L:=L) (k:=i) (by omega)
  have hzl:(L.getD i 0).natAbs≤100:=by
   have:L.getD i 0∈L:=by rw[List.getD_eq_getElem?_getD,List.getElem?_eq_getElem (by omega)];exact List.getElem_mem _
   exact hb9 _ this
  obtain⟨z,hzz⟩:∃z,z=L.getD i 0:=⟨_,rfl⟩
  rw[←hzz] at k1 hzl hs
  rw[hz] at hs
  have hadd:=PR z (x:Int)
  have l1:=yz (z:=z) (by omega)
  have l2:=yz (z:=(x:Int)) (by omega)
  have g1:x<100000000:=by omega
  have hn' :=Kd L
  have k1' :∀h,(qC (qH L))[i]'h=.str (aN (hQ z)):=fun h=>by
   rw[List.getElem?_eq_getElem h] at k1
   exact Option.some.inj k1
  rw[hL] at hn'
  have hr4' :(r:Int)<4:=by omega
  have eQ:mkRat (x:Int) 2=hQ (x:Int):=rfl
  have w1:IntKind.i64.wrap ((i:Int)+1)=((i+1:Nat):Int):=by rw[al (by omega) (by omega)];omega
  have w2:IntKind.i64.wrap (1+(i:Int))=(v:Int):=by rw[al (by omega) (by omega)];omega
  have w3:IntKind.i64.wrap (x:Int)=(x:Int):=bo (by omega) (by omega)
  obtain⟨m,hm⟩:∃m,m=i+1:=⟨_,rfl⟩
  rw[←hm] at w1 hs
  refine⟨m,?_⟩
  have hmp:¬m=0:=by omega
  have hsimp:qC (qH (bL d 1 L m))=qC (qH (bL d 1 L i))++[.str (aN (hQ (z+(x:Int))))]:=by rw[hs];simp[qH,qC]
  by_cases hi0:i=0
  ·subst hi0
   have hm0:m=1:=by omega
   have w0:IntKind.i64.wrap 1=1:=rfl
   have b0:qC (qH (bL d 1 L 0))=[]:=rfl
   rw[b0,hm0,List.nil_append] at hsimp
   have hrj:r=1:=by omega
   subst hrj
   have q1' :d.cells[8+1]? =some (.int .u8 (X:Nat)):=q1
   simp only[Nat.reduceAdd] at q1'
   have wj:IntKind.i64.wrap 1=1:=rfl
   have tj:Int.tmod 1 4=1:=rfl
   simp[AK,AM,hmp,hsimp,hm0,h4,h57,h58,h10,hlt,q1,q1',wj,tj,k1,k1',iC,fo,oH,oG,dY,w0,w1,w2,w3,hr4,hr4',t4,t5,l1,l2,eQ,hadd,g1,aR,Cp,fa,di,qX,hn',dl,ao,cj]
   omega
  ·obtain⟨Q,hQ0⟩:∃Q,Q=qH (bL d 1 L i):=⟨_,rfl⟩
   have hQl:(qC Q).length=i:=by rw[hQ0,Kd,cH]
   rw[←hQ0] at hsimp
   have g3:(qC Q).take i=qC Q:=List.take_of_length_le (by omega)
   have g4:m*16≤140737488355328:=by omega
   have g5:m≤140737488355328:=by omega
   simp[AK,AM,hi0,hmp,hsimp,←hQ0,←hm,h4,h57,h58,h10,hlt,q1,k1,k1',iC,fo,oH,oG,dY,w1,w2,w3,hr4,hr4',t4,t5,l1,l2,eQ,hadd,g1,g3,g4,g5,hQl,aR,Cp,fa,di,qX,hn',dl,ao,cj]
   omega
 ·right
  have e:i=n:=by omega
  subst e
  have hi0:¬i=0:=by omega
  simp[AK,AM,hi0,h58,hlt]
theorem Jn(n:Nat):AV.refsL n dY=[]:=rfl
theorem Qx(f:Nat→Bool):AV.refsOkL f dY=true:=rfl
theorem NE(f:Nat→Option Nat):AV.rens f dY=dY:=rfl
theorem ND:dY.length=6:=rfl
def bP(i:Nat):UInt8:=UInt8.ofNat (65+i)
theorem Qw{i:Nat}(hi:i<6):dY[i]? =some (.str [bP i]):=by
 have:i=0∨i=1∨i=2∨i=3∨i=4∨i=5:=by omega
 rcases this with rfl | rfl | rfl | rfl | rfl | rfl<;>rfl
def aY(i:Nat):Nat→List (List UInt8)
 |0=>[[bP i,49]]
 |1=>[[bP i,49],[bP i,50]]
 |_=>[[bP i,49],[bP i,50],[bP i,51]]
def Nb(n:Nat):Nat→AV
 |0=>.agg [.slice 2 0 n none,.slice 3 0 1 none,.nilslice]
 |1=>.agg [.slice 2 0 n none,.slice 3 0 2 none,.slice 4 0 1 none]
 |_=>.agg [.slice 2 0 n none,.slice 3 0 3 none,.slice 4 0 2 none]
def nF(d:Deed) (n i:Nat):Nat→Mem
 |0=>[ib (bd d n),.cells true 1 ((aY i 0).map .str)]
 |1=>[ib (bd d n),.cells true 1 ((aY i 1).map .str),.cells true 1 [.slice 5 0 n none],ib (bL d 0 (bd d n) n)]
 |_=>[ib (bd d n),.cells true 1 ((aY i 2).map .str),.cells true 1 [.slice 5 0 n none,.slice 6 0 n none],ib (bL d 0 (bd d n) n),ib (bL d 1 (bL d 0 (bd d n) n) n)]
set_option maxRecDepth 8192 in
set_option maxHeartbeats 12800000 in
theorem wY(d:Deed) (hd:d.Ok) (n k i:Nat) (hi:i<6) (hn:0<n) (hl:n≤1000) (hJ:d.K.1%3=0):
  ACallsTo Tryz.prog 36 [.agg [.slice 0 0 n none,.slice 1 0 k none],.agg d.cells,.int .i64 i] [.absent,.absent] (Nb n 0) ([.absent,.absent]++nF d n i 0):=by
 have hG:aI Tryz.prog 36=some Tryz.f36:=by kernel_rfl
 obtain⟨b,b2,b3,hb⟩:∃b b2 b3,am Tryz.f36=[b,b2,b3]:=⟨_,_,_,rfl⟩
 obtain⟨K,hK⟩:∃K,K=n+1:=⟨_,rfl⟩
 obtain⟨F,hF⟩:=kJ (K:=K+5) d hd n k [bP i,49] hl (by omega) hb
 have e0:zW d n k [bP i,49] 0=[.absent,.absent,.cells true 0 [.slice 0 0 n none,.slice 1 0 k none],.cells true 0 d.cells,.cells true 0 [.nilslice,.nilslice,.nilslice],.cells true 1 dY,.cells true 1 [.str [bP i,49]],.cells true 0 [.nilslice,.slice 6 0 1 none,.nilslice]]:=rfl
 have hdn:decide (0<n)=true:=by simpa using hn
 rw[oI hn,e0,hdn] at hF
 have hF1:=fun env0 h=>(hF env0 h).1
 have hG4:=fun env0 h=>(hF env0 h).2.1
 have hG7:=fun env0 h=>(hF env0 h).2.2.1
 have hG6:=fun env0 h=>(hF env0 h).2.2.2.1
 have hG2:=fun env0 h=>(hF env0 h).2.2.2.2
 clear hF
 simp[am,aJ,Tryz.f36] at hb
 obtain⟨rfl,rfl,rfl⟩:=hb
 have hna:=Qw hi
 have hK8:d.cells[8]? =some (.int .u8 (d.K.1:Nat)):=rfl
 have t3:((d.K.1:Nat):Int).tmod 3=0:=by
  have:((d.K.1:Nat):Int).tmod 3=((d.K.1%3:Nat):Int):=rfl
  rw[this,hJ];rfl
 have w0:IntKind.i64.wrap 0=0:=rfl
 have hi' :(i:Int)<6:=by omega
 have h:ab (az Tryz.prog) dV (aI Tryz.prog) dl (K+5) 36 [.agg [.slice 0 0 n none,.slice 1 0 k none],.agg d.cells,.int .i64 i] [.absent,.absent]=some ⟨Nb n 0,some [.absent,.absent],nF d n i 0⟩:=by
  simp[ab,hG,Tryz.f36,hF1,hG4,hG7,hG6,hG2,dl,hna,hi,hi',hK8,t3,w0,iC,fo,oH,oG,Jn,Qx,NE,ND,fa,di,aC,dS,dV,Nb,nF,aY,ib,dX,bB,ar]
  exact⟨rfl,rfl⟩
 have:=(ae aa (ai _) qw (aj _) h).1
 simpa [CallRes.mem] using this
end Go.Proofs
