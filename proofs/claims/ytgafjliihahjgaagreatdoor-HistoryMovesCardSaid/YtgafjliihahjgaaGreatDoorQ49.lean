/- See Q54. -/
import Derived.Test.YtgafjliihahjgaaGreatDoorQ48
set_option linter.all false
namespace Go.Proofs
open Go.Eng
set_option maxRecDepth 8192 in
set_option maxHeartbeats 8000000 in
theorem LD{N:Mem}{b:Nat}{e0 e1:List AV}(l0:e0.length=32) (l1:e1.length=32) (c0:∀x∈e0,x.cellOk=true) (c1:∀x∈e1,x.cellOk=true) (r0:AV.refsOkL (fun b=>decide (b<N.length)) e0=true) (r1:AV.refsOkL (fun b=>decide (b<N.length)) e1=true) (hb:N[b]? =some (.cells true 32 (e0++e1))):
  ACallsTo Tryz.prog 54 [.slice b 0 2 none] N (.tuple []) (N.set b (.cells true 32 (e1++e0))):=by
 have hG:aL Tryz.prog 54=some Tryz.f54:=by kernel_rfl
 obtain⟨q1,hops⟩:∃o1,aE Tryz.f54=[o1]:=⟨_,rfl⟩
 have hb1:=cE hops (l:=[0,0,0,0,0,0,48,112,0,0,768,1792,4083,8179,16383,32767]) (by kernel_rfl);simp[aE,bC,Tryz.f54] at hops;subst hops;have lb:=(List.getElem?_eq_some_iff.1 hb).1;have dN:∀s,(N.set b s).drop N.length=[]:=fun s=>List.drop_of_length_le (by rw[List.length_set];exact Nat.le_refl _)
 have w1:IntKind.i64.wrap 1=1:=rfl;have w0:IntKind.i64.wrap 0=0:=rfl;have w2:IntKind.i64.wrap 2=2:=rfl;have g0:e0.all AV.cellOk=true:=List.all_eq_true.2 c0;have t0:e0.take 32=e0:=List.take_of_length_le (by omega);have d0:e0.drop 32=[]:=List.drop_of_length_le (by omega);have x0:e0.drop 64=[]:=List.drop_of_length_le (by omega);have y0:e0.drop 96=[]:=List.drop_of_length_le (by omega);have z0:e0.take 64=e0:=List.take_of_length_le (by omega);have g1:e1.all AV.cellOk=true:=List.all_eq_true.2 c1;have t1:e1.take 32=e1:=List.take_of_length_le (by omega);have d1:e1.drop 32=[]:=List.drop_of_length_le (by omega);have x1:e1.drop 64=[]:=List.drop_of_length_le (by omega);have y1:e1.drop 96=[]:=List.drop_of_length_le (by omega);have z1:e1.take 64=e1:=List.take_of_length_le (by omega);have h:cf (aM Tryz.prog) (fun _=>[2,3]) (aL Tryz.prog) bJ 4 54 [.slice b 0 2 none] N=some (.tuple [],N.set b (.cells true 32 (e1++e0))):=by simp[-getElem?_pos,-AV.cellOk,-AV.known,-AV.cells,-bY,-bu,-bd,-aD,-AV.refsOk,-Slot.refsOk,-List.all_eq_true,vS,rS,mS,bD hb1,dy,eZ,gf,dx,cj,kQ,bef,Nat.testBit,cf,hG,Tryz.f54,aB,dV,hb,lb,dN,w0,w1,l0,g0,r0,l1,g1,t1,d1,x1,r1,List.take_append,List.drop_append,gg,dh]
 exact bZ ae (aw _) (ao _) (az _) h
set_option maxRecDepth 8192 in
set_option maxHeartbeats 8000000 in
theorem LF{N:Mem}{b:Nat}{e0 e1 e2:List AV}(l0:e0.length=32) (l1:e1.length=32) (l2:e2.length=32) (c0:∀x∈e0,x.cellOk=true) (c1:∀x∈e1,x.cellOk=true) (c2:∀x∈e2,x.cellOk=true) (r0:AV.refsOkL (fun b=>decide (b<N.length)) e0=true) (r1:AV.refsOkL (fun b=>decide (b<N.length)) e1=true) (r2:AV.refsOkL (fun b=>decide (b<N.length)) e2=true) (hb:N[b]? =some (.cells true 32 (e0++(e1++e2)))):
  ACallsTo Tryz.prog 54 [.slice b 0 3 none] N (.tuple []) (N.set b (.cells true 32 (e2++(e1++e0)))):=by
 have hG:aL Tryz.prog 54=some Tryz.f54:=by kernel_rfl
 obtain⟨q1,hops⟩:∃o1,aE Tryz.f54=[o1]:=⟨_,rfl⟩
 have hb1:=cE hops (l:=[0,0,0,0,0,0,48,112,0,0,768,1792,4083,8179,16383,32767]) (by kernel_rfl);simp[aE,bC,Tryz.f54] at hops;subst hops;have lb:=(List.getElem?_eq_some_iff.1 hb).1;have dN:∀s,(N.set b s).drop N.length=[]:=fun s=>List.drop_of_length_le (by rw[List.length_set];exact Nat.le_refl _)
 have w1:IntKind.i64.wrap 1=1:=rfl;have w0:IntKind.i64.wrap 0=0:=rfl;have w2:IntKind.i64.wrap 2=2:=rfl;have g0:e0.all AV.cellOk=true:=List.all_eq_true.2 c0;have t0:e0.take 32=e0:=List.take_of_length_le (by omega);have d0:e0.drop 32=[]:=List.drop_of_length_le (by omega);have x0:e0.drop 64=[]:=List.drop_of_length_le (by omega);have y0:e0.drop 96=[]:=List.drop_of_length_le (by omega);have z0:e0.take 64=e0:=List.take_of_length_le (by omega);have g1:e1.all AV.cellOk=true:=List.all_eq_true.2 c1;have t1:e1.take 32=e1:=List.take_of_length_le (by omega);have d1:e1.drop 32=[]:=List.drop_of_length_le (by omega);have x1:e1.drop 64=[]:=List.drop_of_length_le (by omega);have y1:e1.drop 96=[]:=List.drop_of_length_le (by omega);have z1:e1.take 64=e1:=List.take_of_length_le (by omega);have g2:e2.all AV.cellOk=true:=List.all_eq_true.2 c2;have t2:e2.take 32=e2:=List.take_of_length_le (by omega);have d2:e2.drop 32=[]:=List.drop_of_length_le (by omega);have x2:e2.drop 64=[]:=List.drop_of_length_le (by omega);have y2:e2.drop 96=[]:=List.drop_of_length_le (by omega);have z2:e2.take 64=e2:=List.take_of_length_le (by omega);have h:cf (aM Tryz.prog) (fun _=>[2,3]) (aL Tryz.prog) bJ 4 54 [.slice b 0 3 none] N=some (.tuple [],N.set b (.cells true 32 (e2++(e1++e0)))):=by simp[-getElem?_pos,-AV.cellOk,-AV.known,-AV.cells,-bY,-bu,-bd,-aD,-AV.refsOk,-Slot.refsOk,-List.all_eq_true,vS,rS,mS,bD hb1,dy,eZ,gf,dx,cj,kQ,bef,Nat.testBit,cf,hG,Tryz.f54,aB,dV,hb,lb,dN,w1,w2,l0,g0,x0,r0,l1,x1,r1,l2,g2,t2,d2,y2,z2,r2,List.take_append,List.drop_append,gg,dh]
 exact bZ ae (aw _) (ao _) (az _) h
theorem Cy{M:Mem}{b i k:Nat}{o:Bool}{C:List AV}(hb:M[b]? =some (.cells o 32 C)) (hl:i*32+k*32≤C.length) (hk:0<k) (hn:k≤1000) (hall:C.all AV.cellOk=true):
  ACallsTo Tryz.prog 53 [.slice b (i*32) k none] M (.slice (M.length+1) 0 k none) (M++[.absent,.cells true 32 ((C.drop (i*32)).take (k*32))]):=by
 have hG:aL Tryz.prog 53=some Tryz.f53:=by kernel_rfl
 have lb:=(List.getElem?_eq_some_iff.1 hb).1;have hb' :∀Z,(M++Z)[b]? =some (.cells o 32 C):=fun Z=>by rw[List.getElem?_append_left lb];exact hb
 have q1:k*504≤140737488355328:=by omega
 have q2:k≤140737488355328:=by omega
 have hall' :((C.drop (i*32)).take (k*32)).all AV.cellOk=true:=by rw[List.all_eq_true] at hall ⊢;exact fun x hx=>hall x (List.mem_of_mem_drop (List.mem_of_mem_take hx))
 have h:cf (aM Tryz.prog) (fun _=>[]) (aL Tryz.prog) bJ 1 53 [.slice b (i*32) k none] M=some (.slice (M.length+1) 0 k none,M++[.absent,.cells true 32 ((C.drop (i*32)).take (k*32))]):=by simp[-List.all_eq_true,-AV.cellOk,cf,hG,Tryz.f53,JH,hb',hl,q1,q2,hall']
 exact bZ ae (aw _) (ao _) (az _) h
theorem AI{N:Mem}{b k:Nat}(hk:k≤1):ACallsTo Tryz.prog 54 [.slice b 0 k none] N (.tuple []) N:=by
 have hG:aL Tryz.prog 54=some Tryz.f54:=by kernel_rfl
 have w0:IntKind.i64.wrap 0=0:=rfl;have w1:IntKind.i64.wrap (-1)= -1:=rfl;refine aZ (lv:=(fun _=>[2,3])) (K:=4) (ao _) ?_;have:k=0∨k=1:=by omega
 rcases this with rfl | rfl<;>simp[aa,hG,Tryz.f54,aB,dV,w0,w1]
section
variable {O:Oracle}{M:Mem}{pv tv ev:AV}{nm:List UInt8}{n i q:Nat}{p:V3}
set_option maxRecDepth 16384 in
set_option maxHeartbeats 8000000 in
theorem GR{D f0:List AV}{p1:V3}(ar:Bool) (c1:pv.cellOk=true) (c2:tv.cellOk=true) (c3:ev.cellOk=true) (hev:ev=.slice q 0 n none) (hn:n=i+1) (hn2:n≤1000) {o:Bool}{C:List AV}(hq:∀Z,(M++Z)[q]? =some (.cells o 32 C)) (hC:n*32≤C.length)
  (e1:O (.fn 29) [.agg [pv,tv,.str nm,ev],vA p] (M++[.cells true 0 [pv,tv,.str nm,ev],.cells true 0 (vL p),.cells true 0 [.str [],.str [],.str []]])=some ⟨.int .i64 0,none,[]⟩)
  (e2:O (.fn 53) [.slice q (i*32) 1 none] (M++[.cells true 0 [pv,tv,.str nm,ev],.cells true 0 (vL p),.cells true 0 [.str [],.str [],.str []]])=some ⟨.slice (M.length+4) 0 1 none,none,[.absent,.cells true 32 f0]⟩)
  (e3:∀N,O (.fn 54) [.slice (M.length+4) 0 1 none] N=some ⟨.tuple [],none,[]⟩)
  (m0:∀X:Mem,X.length=6→O (.fn 52) [.agg f0,vA p,.bool ar] (M++X)=some ⟨vA p1,none,[]⟩)
  (e5:∀N,O (.fn 14) [vA p1] N=some ⟨.int .i64 0,none,[]⟩)
  (l0:f0.length=32) (g0:f0.all AV.cellOk=true):
  ∃new,cf (aM Tryz.prog) (fun _=>[41,41,41]) (aL Tryz.prog) O 5 31 [.agg [pv,tv,.str nm,ev],vA p,.int .i64 i,.bool ar] M=some (.tuple [vA p1,.int .i64 0],M++new):=by
 have hG:aL Tryz.prog 31=some Tryz.f31:=by kernel_rfl
 have hjl:∀j,(M.length+j<M.length)=False:=fun j=>fH _ _
 have w0:IntKind.i64.wrap 0=0:=rfl;have w1:IntKind.i64.wrap 1=1:=rfl;have t0:f0.take 32=f0:=List.take_of_length_le (by omega);have a1:¬(n:Int)<(i:Int):=by omega
 have a2:¬(i:Int)<0:=by omega
 have a3:i≤n:=by omega
 have a4:n-i=1:=by omega
 have a5:¬i=n:=by omega
 have a6:i<n:=by omega
 subst hev;unfold vA at e1 m0 e5 ⊢;unfold vL at e1 e2;refine⟨[.cells true 0 [pv,tv,.str nm,.slice q 0 n none],.cells true 0 (vL p1),.cells true 0 (vL p1),.absent,.cells true 32 f0,.cells true 0 f0],?_⟩;cases ar<;>simp[-getElem?_pos,-AV.cellOk,-AV.known,-AV.cells,-bY,-List.all_eq_true,vS,mS,cf,hG,Tryz.f31,aB,dV,vL,hq,hC,e1,e2,e3,m0,e5,l0,g0,t0,hjl,w1,a1,a2,a3,a4,a6]
set_option maxRecDepth 16384 in
set_option maxHeartbeats 16000000 in
theorem GS{D f0 f1:List AV}{p1 p2:V3}(ar:Bool) (c1:pv.cellOk=true) (c2:tv.cellOk=true) (c3:ev.cellOk=true) (hev:ev=.slice q 0 n none) (hn:n=i+2) (hn2:n≤1000) {o:Bool}{C:List AV}(hq:∀Z,(M++Z)[q]? =some (.cells o 32 C)) (hC:n*32≤C.length)
  (e1:O (.fn 29) [.agg [pv,tv,.str nm,ev],vA p] (M++[.cells true 0 [pv,tv,.str nm,ev],.cells true 0 (vL p),.cells true 0 [.str [],.str [],.str []]])=some ⟨.int .i64 0,none,[]⟩)
  (e2:O (.fn 53) [.slice q (i*32) 2 none] (M++[.cells true 0 [pv,tv,.str nm,ev],.cells true 0 (vL p),.cells true 0 [.str [],.str [],.str []]])=some ⟨.slice (M.length+4) 0 2 none,none,[.absent,.cells true 32 D]⟩)
  (eR:ar=true→O (.fn 54) [.slice (M.length+4) 0 2 none] (M++[.cells true 0 [pv,tv,.str nm,ev],.cells true 0 (vL p),.cells true 0 [.str [],.str [],.str []],.absent,.cells true 32 D])=some ⟨.tuple [],some (M++[.cells true 0 [pv,tv,.str nm,ev],.cells true 0 (vL p),.cells true 0 [.str [],.str [],.str []],.absent,.cells true 32 (f0++f1)]),[]⟩) (eD:ar=false→D=f0++f1)
  (m0:∀X:Mem,X.length=6→O (.fn 52) [.agg f0,vA p,.bool ar] (M++X)=some ⟨vA p1,none,[]⟩)
  (m1:∀X:Mem,X.length=7→O (.fn 52) [.agg f1,vA p1,.bool ar] (M++X)=some ⟨vA p2,none,[]⟩)
  (e5:∀N,O (.fn 14) [vA p2] N=some ⟨.int .i64 0,none,[]⟩)
  (l0:f0.length=32) (g0:f0.all AV.cellOk=true) (l1:f1.length=32) (g1:f1.all AV.cellOk=true):
  ∃new,cf (aM Tryz.prog) (fun _=>[41,41,41]) (aL Tryz.prog) O 5 31 [.agg [pv,tv,.str nm,ev],vA p,.int .i64 i,.bool ar] M=some (.tuple [vA p2,.int .i64 0],M++new):=by
 have hG:aL Tryz.prog 31=some Tryz.f31:=by kernel_rfl
 have hjl:∀j,(M.length+j<M.length)=False:=fun j=>fH _ _
 have w0:IntKind.i64.wrap 0=0:=rfl;have w1:IntKind.i64.wrap 1=1:=rfl;have w2:IntKind.i64.wrap 2=2:=rfl;have w3:IntKind.i64.wrap 3=3:=rfl;have t0:f0.take 32=f0:=List.take_of_length_le (by omega);have d0:f0.drop 32=[]:=List.drop_of_length_le (by omega);have x0:f0.drop 64=[]:=List.drop_of_length_le (by omega);have t1:f1.take 32=f1:=List.take_of_length_le (by omega);have d1:f1.drop 32=[]:=List.drop_of_length_le (by omega);have x1:f1.drop 64=[]:=List.drop_of_length_le (by omega);have a1:¬(n:Int)<(i:Int):=by omega
 have a2:¬(i:Int)<0:=by omega
 have a3:i≤n:=by omega
 have a4:n-i=2:=by omega
 have a5:¬i=n:=by omega
 have a6:i<n:=by omega
 subst hev;unfold vA at e1 m0 m1 e5 ⊢;unfold vL at e1 e2 eR;refine⟨[.cells true 0 [pv,tv,.str nm,.slice q 0 n none],.cells true 0 (vL p2),.cells true 0 (vL p2),.absent,.cells true 32 (f0++f1),.cells true 0 f0,.cells true 0 f1],?_⟩;cases ar with
 |false=>
  obtain rfl:=eD rfl;clear eR eD;simp[-getElem?_pos,-AV.cellOk,-AV.known,-AV.cells,-bY,-List.all_eq_true,vS,mS,cf,hG,Tryz.f31,aB,dV,vL,hq,hC,e1,e2,e5,m0,l0,g0,t0,m1,l1,g1,t1,List.drop_append,hjl,w1,w2,a1,a2,a3,a4,a6]
 |true=>
  have e3:=eR rfl;clear eR eD;simp[-getElem?_pos,-AV.cellOk,-AV.known,-AV.cells,-bY,-List.all_eq_true,vS,mS,cf,hG,Tryz.f31,aB,dV,vL,hq,hC,e1,e2,e3,e5,m0,l0,g0,t0,m1,l1,g1,t1,List.drop_append,hjl,w1,w2,a1,a2,a3,a4,a6]
set_option maxRecDepth 16384 in
set_option maxHeartbeats 16000000 in
theorem GU{D f0 f1 f2:List AV}{p1 p2 p3:V3}(ar:Bool) (c1:pv.cellOk=true) (c2:tv.cellOk=true) (c3:ev.cellOk=true) (hev:ev=.slice q 0 n none) (hn:n=i+3) (hn2:n≤1000) {o:Bool}{C:List AV}(hq:∀Z,(M++Z)[q]? =some (.cells o 32 C)) (hC:n*32≤C.length)
  (e1:O (.fn 29) [.agg [pv,tv,.str nm,ev],vA p] (M++[.cells true 0 [pv,tv,.str nm,ev],.cells true 0 (vL p),.cells true 0 [.str [],.str [],.str []]])=some ⟨.int .i64 0,none,[]⟩)
  (e2:O (.fn 53) [.slice q (i*32) 3 none] (M++[.cells true 0 [pv,tv,.str nm,ev],.cells true 0 (vL p),.cells true 0 [.str [],.str [],.str []]])=some ⟨.slice (M.length+4) 0 3 none,none,[.absent,.cells true 32 D]⟩)
  (eR:ar=true→O (.fn 54) [.slice (M.length+4) 0 3 none] (M++[.cells true 0 [pv,tv,.str nm,ev],.cells true 0 (vL p),.cells true 0 [.str [],.str [],.str []],.absent,.cells true 32 D])=some ⟨.tuple [],some (M++[.cells true 0 [pv,tv,.str nm,ev],.cells true 0 (vL p),.cells true 0 [.str [],.str [],.str []],.absent,.cells true 32 (f0++(f1++f2))]),[]⟩) (eD:ar=false→D=f0++(f1++f2))
  (m0:∀X:Mem,X.length=6→O (.fn 52) [.agg f0,vA p,.bool ar] (M++X)=some ⟨vA p1,none,[]⟩)
  (m1:∀X:Mem,X.length=7→O (.fn 52) [.agg f1,vA p1,.bool ar] (M++X)=some ⟨vA p2,none,[]⟩)
  (m2:∀X:Mem,X.length=8→O (.fn 52) [.agg f2,vA p2,.bool ar] (M++X)=some ⟨vA p3,none,[]⟩)
  (e5:∀N,O (.fn 14) [vA p3] N=some ⟨.int .i64 0,none,[]⟩)
  (l0:f0.length=32) (g0:f0.all AV.cellOk=true) (l1:f1.length=32) (g1:f1.all AV.cellOk=true) (l2:f2.length=32) (g2:f2.all AV.cellOk=true):
  ∃new,cf (aM Tryz.prog) (fun _=>[41,41,41]) (aL Tryz.prog) O 5 31 [.agg [pv,tv,.str nm,ev],vA p,.int .i64 i,.bool ar] M=some (.tuple [vA p3,.int .i64 0],M++new):=by
 have hG:aL Tryz.prog 31=some Tryz.f31:=by kernel_rfl
 have hjl:∀j,(M.length+j<M.length)=False:=fun j=>fH _ _
 have w0:IntKind.i64.wrap 0=0:=rfl;have w1:IntKind.i64.wrap 1=1:=rfl;have w2:IntKind.i64.wrap 2=2:=rfl;have w3:IntKind.i64.wrap 3=3:=rfl;have t0:f0.take 32=f0:=List.take_of_length_le (by omega);have d0:f0.drop 32=[]:=List.drop_of_length_le (by omega);have x0:f0.drop 64=[]:=List.drop_of_length_le (by omega);have t1:f1.take 32=f1:=List.take_of_length_le (by omega);have d1:f1.drop 32=[]:=List.drop_of_length_le (by omega);have x1:f1.drop 64=[]:=List.drop_of_length_le (by omega);have t2:f2.take 32=f2:=List.take_of_length_le (by omega);have d2:f2.drop 32=[]:=List.drop_of_length_le (by omega);have x2:f2.drop 64=[]:=List.drop_of_length_le (by omega);have a1:¬(n:Int)<(i:Int):=by omega
 have a2:¬(i:Int)<0:=by omega
 have a3:i≤n:=by omega
 have a4:n-i=3:=by omega
 have a5:¬i=n:=by omega
 have a6:i<n:=by omega
 subst hev;unfold vA at e1 m0 m1 m2 e5 ⊢;unfold vL at e1 e2 eR;refine⟨[.cells true 0 [pv,tv,.str nm,.slice q 0 n none],.cells true 0 (vL p3),.cells true 0 (vL p3),.absent,.cells true 32 (f0++(f1++f2)),.cells true 0 f0,.cells true 0 f1,.cells true 0 f2],?_⟩;cases ar with
 |false=>
  obtain rfl:=eD rfl;clear eR eD;simp[-getElem?_pos,-AV.cellOk,-AV.known,-AV.cells,-bY,-List.all_eq_true,vS,mS,cf,hG,Tryz.f31,aB,dV,vL,hq,hC,e1,e2,e5,m0,l0,g0,t0,x0,m1,l1,g1,t1,m2,l2,g2,t2,List.drop_append,hjl,w1,w2,w3,a1,a2,a3,a4,a6]
 |true=>
  have e3:=eR rfl;clear eR eD;simp[-getElem?_pos,-AV.cellOk,-AV.known,-AV.cells,-bY,-List.all_eq_true,vS,mS,cf,hG,Tryz.f31,aB,dV,vL,hq,hC,e1,e2,e3,e5,m0,l0,g0,t0,x0,m1,l1,g1,t1,m2,l2,g2,t2,List.drop_append,hjl,w1,w2,w3,a1,a2,a3,a4,a6]
set_option maxRecDepth 16384 in
set_option maxHeartbeats 8000000 in
theorem GQ{o:Bool}{C:List AV}(ar:Bool) (c1:pv.cellOk=true) (c2:tv.cellOk=true) (c3:ev.cellOk=true) (hev:ev=.slice q 0 n none) (h0:0<n) (hn2:n≤1000) (hq:∀Z,(M++Z)[q]? =some (.cells o 32 C)) (hC:C.length=n*32)
  (e1:O (.fn 29) [.agg [pv,tv,.str nm,ev],vA p] (M++[.cells true 0 [pv,tv,.str nm,ev],.cells true 0 (vL p),.cells true 0 [.str [],.str [],.str []]])=some ⟨.int .i64 0,none,[]⟩)
  (e2:O (.fn 53) [.slice (M.length+3) 0 0 none] (M++[.cells true 0 [pv,tv,.str nm,ev],.cells true 0 (vL p),.cells true 0 [.str [],.str [],.str []],.absent])=some ⟨.slice (M.length+5) 0 0 none,none,[.absent,.cells true 32 []]⟩)
  (e3:∀N,O (.fn 54) [.slice (M.length+5) 0 0 none] N=some ⟨.tuple [],none,[]⟩)
  (e5:∀N,O (.fn 14) [vA p] N=some ⟨.int .i64 0,none,[]⟩):
  ∃new,cf (aM Tryz.prog) (fun _=>[41,41,41]) (aL Tryz.prog) O 5 31 [.agg [pv,tv,.str nm,ev],vA p,.int .i64 n,.bool ar] M=some (.tuple [vA p,.int .i64 0],M++new):=by
 have hG:aL Tryz.prog 31=some Tryz.f31:=by kernel_rfl
 have hjl:∀j,(M.length+j<M.length)=False:=fun j=>fH _ _
 have w0:IntKind.i64.wrap 0=0:=rfl;have w1:IntKind.i64.wrap 1=1:=rfl;have a2:¬(n:Int)<0:=by omega
 have a4:¬n=0:=by omega
 subst hev;unfold vA at e1 e5 ⊢;unfold vL at e1 e2;refine⟨[.cells true 0 [pv,tv,.str nm,.slice q 0 n none],.cells true 0 (vL p),.cells true 0 (vL p),.absent,.absent,.cells true 32 []],?_⟩;cases ar<;>simp[-getElem?_pos,-AV.cellOk,-AV.known,-AV.cells,-bY,-List.all_eq_true,vS,mS,cf,hG,Tryz.f31,aB,dV,vL,hq,hC,e1,e2,e3,e5,hjl,a2,a4,h0]
set_option maxRecDepth 16384 in
set_option maxHeartbeats 8000000 in
theorem GV(ar:Bool) (c1:pv.cellOk=true) (c2:tv.cellOk=true) (hev:ev=.nilslice)
  (e1:O (.fn 29) [.agg [pv,tv,.str nm,ev],vA p] (M++[.cells true 0 [pv,tv,.str nm,ev],.cells true 0 (vL p),.cells true 0 [.str [],.str [],.str []]])=some ⟨.int .i64 0,none,[]⟩)
  (e2:∀N,O (.fn 53) [.nilslice] N=some ⟨.nilslice,none,[]⟩)
  (e3:∀N,O (.fn 54) [.nilslice] N=some ⟨.tuple [],none,[]⟩)
  (e5:∀N,O (.fn 14) [vA p] N=some ⟨.int .i64 0,none,[]⟩):
  ∃new,cf (aM Tryz.prog) (fun _=>[41,41,41]) (aL Tryz.prog) O 5 31 [.agg [pv,tv,.str nm,ev],vA p,.int .i64 0,.bool ar] M=some (.tuple [vA p,.int .i64 0],M++new):=by
 have hG:aL Tryz.prog 31=some Tryz.f31:=by kernel_rfl
 have hjl:∀j,(M.length+j<M.length)=False:=fun j=>fH _ _
 have w0:IntKind.i64.wrap 0=0:=rfl;subst hev;unfold vA at e1 e5 ⊢;unfold vL at e1;refine⟨[.cells true 0 [pv,tv,.str nm,.nilslice],.cells true 0 (vL p),.cells true 0 (vL p)],?_⟩;cases ar<;>simp[-getElem?_pos,-AV.cellOk,-AV.known,-AV.cells,-bY,-List.all_eq_true,vS,mS,cf,hG,Tryz.f31,aB,dV,vL,e1,e2,e3,e5,hjl]
set_option maxRecDepth 16384 in
theorem GW(ar:Bool) (x:Int) (hx:x<0∨(n:Int)<x) (c1:pv.cellOk=true) (c2:tv.cellOk=true) (c3:ev.cellOk=true) (hlen:∀N,jw (aM Tryz.prog) 38 N ev=some (.int .i64 n))
  (e1:O (.fn 29) [.agg [pv,tv,.str nm,ev],vA p] (M++[.cells true 0 [pv,tv,.str nm,ev],.cells true 0 (vL p),.cells true 0 [.str [],.str [],.str []]])=some ⟨.int .i64 0,none,[]⟩):
  ∃new,cf (aM Tryz.prog) (fun _=>[41,41,41]) (aL Tryz.prog) O 5 31 [.agg [pv,tv,.str nm,ev],vA p,.int .i64 x,.bool ar] M=some (.tuple [.agg [.str [],.str [],.str []],.int .i64 3],M++new):=by
 have hG:aL Tryz.prog 31=some Tryz.f31:=by kernel_rfl
 have hjl:∀j,(M.length+j<M.length)=False:=fun j=>fH _ _
 unfold vA at e1 ⊢;unfold vL at e1;refine⟨[.cells true 0 [pv,tv,.str nm,ev],.cells true 0 (vL p),.cells true 0 [.str [],.str [],.str []]],?_⟩;by_cases h0:x<0
 ·simp[-getElem?_pos,-AV.cellOk,-AV.known,-AV.cells,-bY,-List.all_eq_true,vS,mS,cf,hG,Tryz.f31,vL,bO,-jw,e1,hjl,h0]
 ·have h1:(n:Int)<x:=by omega
  simp[-getElem?_pos,-AV.cellOk,-AV.known,-AV.cells,-bY,-List.all_eq_true,vS,mS,cf,hG,Tryz.f31,vL,bO,-jw,hlen,e1,hjl,h0,h1]
end
end Go.Proofs
namespace Go.Proofs
open Go.Eng
open Classical in
noncomputable def cv:List (FuncId×List AV×(Mem→Prop)×CallRes)→Oracle
 | [],_,_,_=>none
 |x::L,c,args,M=>if c=.fn x.1∧args=x.2.1∧x.2.2.1 M then some x.2.2.2 else cv L c args M
theorem gk{P:Program}{L:List (FuncId×List AV×(Mem→Prop)×CallRes)}(h:∀x∈L,∀M,x.2.2.1 M→lS P (.fn x.1) x.2.1 M x.2.2.2):OracleOk P (cv L):=cO fun c a M r hr=>by
 induction L with
 |nil=>simp[cv] at hr
 |cons x L ih=>
  rw[cv] at hr;split at hr
  ·rename_i hc
   obtain⟨rfl,rfl,hp⟩:=hc;cases hr;exact h x (by simp) M hp
  ·exact ih (fun y hy=>h y (by simp[hy])) hr
theorem aQ{f:FuncId}{a:List AV}{p:Mem→Prop}{r:CallRes}{m:Mem}{L:List (FuncId×List AV×(Mem→Prop)×CallRes)}(h:p m):cv ((f,a,p,r)::L) (.fn f) a m=some r:=by rw[cv,if_pos ⟨rfl,rfl,h⟩]
theorem ak{f g:FuncId}{a b:List AV}{p:Mem→Prop}{r:CallRes}{m:Mem}{L:List (FuncId×List AV×(Mem→Prop)×CallRes)}(h:f≠g∨¬p m):cv ((f,a,p,r)::L) (.fn g) b m=cv L (.fn g) b m:=by rw[cv,if_neg (fun e=>h.elim (fun h=>h (by have:=e.1;cases this;rfl)) fun h=>h e.2.2)]
end Go.Proofs
