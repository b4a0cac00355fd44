/- See R54. -/
import Derived.Test.YtgafjliihahjgaaGreatDoorR46
set_option linter.all false
set_option maxRecDepth 100000
set_option maxHeartbeats 40000000
namespace Go.Proofs
open Go.Eng
open Tryz
theorem agj:aT prog 54=some f54:=by kernel_rfl
variable{N:Mem}{b:Nat}{e0 e1:List AV}
theorem Ou(l0:e0.length=32)(l1:e1.length=32)(c0:∀x∈e0,x.kS=true)(c1:∀x∈e1,x.kS=true)(r0:AV.aeB (fun b=>decide (b<N.length)) e0=true)(r1:AV.aeB (fun b=>decide (b<N.length)) e1=true)(hb:N[b]? =some (.cells true 32 (e0++e1))):
  kF prog 54 [.slice b 0 2 none] N (.tuple []) (N.set b (.cells true 32 (e1++e0))):=by
 obtain⟨q1,FS⟩:∃o1,aG f54=[o1]:=⟨_,rfl⟩
 have hb1:=dw FS (l:=[0,0,0,0,0,0,48,112,0,0,768,1792,4083,8179,16383,32767]) (by kernel_rfl);simp[aG,bF,f54] at FS;subst FS;have lb:=(gL hb);have dN:∀s,(N.set b s).drop N.length=[]:=fun s=>List.drop_of_length_le (by rw[List.length_set];exact Nat.le_refl _)
 have g0:e0.all AV.kS=true:=List.all_eq_true.2 c0;have t0:e0.take 32=e0:=List.take_of_length_le (by omega);have d0:e0.drop 32=[]:=List.drop_of_length_le (by omega);have x0:e0.drop 64=[]:=List.drop_of_length_le (by omega);have y0:e0.drop 96=[]:=List.drop_of_length_le (by omega);have z0:e0.take 64=e0:=List.take_of_length_le (by omega);have g1:e1.all AV.kS=true:=List.all_eq_true.2 c1;have t1:e1.take 32=e1:=List.take_of_length_le (by omega);have d1:e1.drop 32=[]:=List.drop_of_length_le (by omega);have x1:e1.drop 64=[]:=List.drop_of_length_le (by omega);have y1:e1.drop 96=[]:=List.drop_of_length_le (by omega);have z1:e1.take 64=e1:=List.take_of_length_le (by omega);have h:aU (aM prog) (fun _=>[2,3]) (aT prog) bq 4 54 [.slice b 0 2 none] N=some (.tuple [],N.set b (.cells true 32 (e1++e0))):=by simp[-getElem?_pos,-AV.kS,-AV.known,-AV.cells,-bk,-bp,-aZ,-aE,-AV.y9,-aeD.y9,-List.all_eq_true,vS,rS,mS,aY hb1,cO,cd,fz,cY,bW,iT,bef,Nat.testBit,aU,agj,f54,aI,ej,hb,lb,dN,w0,w1,l0,g0,r0,l1,g1,t1,d1,x1,r1,List.take_append,List.drop_append,ef,dI]
 exact aO ae (aq _) (ah _) (au _) h
theorem Ov{e2:List AV}(l0:e0.length=32)(l1:e1.length=32)(l2:e2.length=32)(c0:∀x∈e0,x.kS=true)(c1:∀x∈e1,x.kS=true)(c2:∀x∈e2,x.kS=true)(r0:AV.aeB (fun b=>decide (b<N.length)) e0=true)(r1:AV.aeB (fun b=>decide (b<N.length)) e1=true)(r2:AV.aeB (fun b=>decide (b<N.length)) e2=true)(hb:N[b]? =some (.cells true 32 (e0++(e1++e2)))):
  kF prog 54 [.slice b 0 3 none] N (.tuple []) (N.set b (.cells true 32 (e2++(e1++e0)))):=by
 obtain⟨q1,FS⟩:∃o1,aG f54=[o1]:=⟨_,rfl⟩
 have hb1:=dw FS (l:=[0,0,0,0,0,0,48,112,0,0,768,1792,4083,8179,16383,32767]) (by kernel_rfl);simp[aG,bF,f54] at FS;subst FS;have lb:=(gL hb);have dN:∀s,(N.set b s).drop N.length=[]:=fun s=>List.drop_of_length_le (by rw[List.length_set];exact Nat.le_refl _)
 have g0:e0.all AV.kS=true:=List.all_eq_true.2 c0;have t0:e0.take 32=e0:=List.take_of_length_le (by omega);have d0:e0.drop 32=[]:=List.drop_of_length_le (by omega);have x0:e0.drop 64=[]:=List.drop_of_length_le (by omega);have y0:e0.drop 96=[]:=List.drop_of_length_le (by omega);have z0:e0.take 64=e0:=List.take_of_length_le (by omega);have g1:e1.all AV.kS=true:=List.all_eq_true.2 c1;have t1:e1.take 32=e1:=List.take_of_length_le (by omega);have d1:e1.drop 32=[]:=List.drop_of_length_le (by omega);have x1:e1.drop 64=[]:=List.drop_of_length_le (by omega);have y1:e1.drop 96=[]:=List.drop_of_length_le (by omega);have z1:e1.take 64=e1:=List.take_of_length_le (by omega);have g2:e2.all AV.kS=true:=List.all_eq_true.2 c2;have t2:e2.take 32=e2:=List.take_of_length_le (by omega);have d2:e2.drop 32=[]:=List.drop_of_length_le (by omega);have x2:e2.drop 64=[]:=List.drop_of_length_le (by omega);have y2:e2.drop 96=[]:=List.drop_of_length_le (by omega);have z2:e2.take 64=e2:=List.take_of_length_le (by omega);have h:aU (aM prog) (fun _=>[2,3]) (aT prog) bq 4 54 [.slice b 0 3 none] N=some (.tuple [],N.set b (.cells true 32 (e2++(e1++e0)))):=by simp[-getElem?_pos,-AV.kS,-AV.known,-AV.cells,-bk,-bp,-aZ,-aE,-AV.y9,-aeD.y9,-List.all_eq_true,vS,rS,mS,aY hb1,cO,cd,fz,cY,bW,iT,bef,Nat.testBit,aU,agj,f54,aI,ej,hb,lb,dN,w1,w2,l0,g0,x0,r0,l1,x1,r1,l2,g2,t2,d2,y2,z2,r2,List.take_append,List.drop_append,ef,dI]
 exact aO ae (aq _) (ah _) (au _) h
theorem agM:aT prog 53=some f53:=by kernel_rfl
variable{C:List AV}{k:Nat}{o:Bool}
theorem EA{M:Mem}{i:Nat}(hb:M[b]? =some (.cells o 32 C))(hl:i*32+k*32≤C.length)(hk:0<k)(hn:k≤1000)(H':C.all AV.kS=true):
  kF prog 53 [.slice b (i*32) k none] M (.slice (M.length+1) 0 k none) (M++[.kO,.cells true 32 ((C.drop (i*32)).take (k*32))]):=by
 have lb:=(gL hb);have UV :∀Z,(M++Z)[b]? =some (.cells o 32 C):=fun Z=>by rw[List.getElem?_append_left lb];exact hb
 have q1:k*504≤140737488355328:=by omega
 have q2:k≤140737488355328:=by omega
 have aao :((C.drop (i*32)).take (k*32)).all AV.kS=true:=by rw[List.all_eq_true] at H' ⊢;exact fun x hx=>H' x (List.mem_of_mem_drop (List.mem_of_mem_take hx))
 have h:aU (aM prog) (fun _=>[]) (aT prog) bq 1 53 [.slice b (i*32) k none] M=some (.slice (M.length+1) 0 k none,M++[.kO,.cells true 32 ((C.drop (i*32)).take (k*32))]):=by simp[-List.all_eq_true,-AV.kS,aU,agM,f53,Ax,UV,hl,q1,q2,aao]
 exact aO ae (aq _) (ah _) (au _) h
theorem CD(hk:k≤1):kF prog 54 [.slice b 0 k none] N (.tuple []) N:=by
 have w1:IntKind.i64.wrap (-1)= -1:=rfl;refine bB (lv:=(fun _=>[2,3])) (K:=4) (ah _) ?_;have:k=0∨k=1:=by omega
 rcases this with rfl | rfl<;>simp[ad,agj,f54,aI,ej,w0,w1]
variable{D f0 f1:List AV}{p1 p2:V3}
section
variable {O:adM}{M:Mem}{pv tv ev:AV}{nm:List UInt8}{n i q:Nat}{p:V3}
theorem afK:aT prog 31=some f31:=by kernel_rfl
theorem Jf{D:List AV}(aF:Bool)(c1:pv.kS=true)(c2:tv.kS=true)(c3:ev.kS=true)(X9:ev=.slice q 0 n none)(hn:n=i+1)(hn2:n≤1000)(hq:∀Z,(M++Z)[q]? =some (.cells o 32 C))(hC:n*32≤C.length)(e1:O (.fn 29) [.agg [pv,tv,.str nm,ev],vA p] (M++[.cells true 0 [pv,tv,.str nm,ev],.cells true 0 (vL p),.cells true 0 [.str [],.str [],.str []]])=some ⟨.int .i64 0,none,[]⟩)(e2:O (.fn 53) [.slice q (i*32) 1 none] (M++[.cells true 0 [pv,tv,.str nm,ev],.cells true 0 (vL p),.cells true 0 [.str [],.str [],.str []]])=some ⟨.slice (M.length+4) 0 1 none,none,[.kO,.cells true 32 f0]⟩)(e3:∀N,O (.fn 54) [.slice (M.length+4) 0 1 none] N=some ⟨.tuple [],none,[]⟩)(m0:∀X:Mem,X.length=6→O (.fn 52) [.agg f0,vA p,.bool aF] (M++X)=some ⟨vA p1,none,[]⟩)(e5:∀N,O (.fn 14) [vA p1] N=some ⟨.int .i64 0,none,[]⟩)(l0:f0.length=32)(g0:f0.all AV.kS=true):
  ∃new,aU (aM prog) (fun _=>[41,41,41]) (aT prog) O 5 31 [.agg [pv,tv,.str nm,ev],vA p,.int .i64 i,.bool aF] M=some (.tuple [vA p1,.int .i64 0],M++new):=by
 have Yj:∀j,(M.length+j<M.length)=False:=fun j=>dz _ _
 have t0:f0.take 32=f0:=List.take_of_length_le (by omega);have a1:¬(n:Int)<(i:Int):=by omega
 have a2:¬(i:Int)<0:=by omega
 have a3:i≤n:=by omega
 have a4:n-i=1:=by omega
 have a5:¬i=n:=by omega
 have a6:i<n:=by omega
 subst X9;unfold vA at e1 m0 e5 ⊢;unfold vL at e1 e2;refine⟨[.cells true 0 [pv,tv,.str nm,.slice q 0 n none],.cells true 0 (vL p1),.cells true 0 (vL p1),.kO,.cells true 32 f0,.cells true 0 f0],?_⟩;cases aF<;>simp[-getElem?_pos,-AV.kS,-AV.known,-AV.cells,-bk,-List.all_eq_true,vS,mS,aU,afK,f31,aI,ej,vL,hq,hC,e1,e2,e3,m0,e5,l0,g0,t0,Yj,w1,a1,a2,a3,a4,a6]
theorem Jg(aF:Bool)(c1:pv.kS=true)(c2:tv.kS=true)(c3:ev.kS=true)(X9:ev=.slice q 0 n none)(hn:n=i+2)(hn2:n≤1000)(hq:∀Z,(M++Z)[q]? =some (.cells o 32 C))(hC:n*32≤C.length)(e1:O (.fn 29) [.agg [pv,tv,.str nm,ev],vA p] (M++[.cells true 0 [pv,tv,.str nm,ev],.cells true 0 (vL p),.cells true 0 [.str [],.str [],.str []]])=some ⟨.int .i64 0,none,[]⟩)(e2:O (.fn 53) [.slice q (i*32) 2 none] (M++[.cells true 0 [pv,tv,.str nm,ev],.cells true 0 (vL p),.cells true 0 [.str [],.str [],.str []]])=some ⟨.slice (M.length+4) 0 2 none,none,[.kO,.cells true 32 D]⟩)(eR:aF=true→O (.fn 54) [.slice (M.length+4) 0 2 none] (M++[.cells true 0 [pv,tv,.str nm,ev],.cells true 0 (vL p),.cells true 0 [.str [],.str [],.str []],.kO,.cells true 32 D])=some ⟨.tuple [],some (M++[.cells true 0 [pv,tv,.str nm,ev],.cells true 0 (vL p),.cells true 0 [.str [],.str [],.str []],.kO,.cells true 32 (f0++f1)]),[]⟩)(eD:aF=false→D=f0++f1)(m0:∀X:Mem,X.length=6→O (.fn 52) [.agg f0,vA p,.bool aF] (M++X)=some ⟨vA p1,none,[]⟩)(m1:∀X:Mem,X.length=7→O (.fn 52) [.agg f1,vA p1,.bool aF] (M++X)=some ⟨vA p2,none,[]⟩)(e5:∀N,O (.fn 14) [vA p2] N=some ⟨.int .i64 0,none,[]⟩)(l0:f0.length=32)(g0:f0.all AV.kS=true)(l1:f1.length=32)(g1:f1.all AV.kS=true):
  ∃new,aU (aM prog) (fun _=>[41,41,41]) (aT prog) O 5 31 [.agg [pv,tv,.str nm,ev],vA p,.int .i64 i,.bool aF] M=some (.tuple [vA p2,.int .i64 0],M++new):=by
 have Yj:∀j,(M.length+j<M.length)=False:=fun j=>dz _ _
 have t0:f0.take 32=f0:=List.take_of_length_le (by omega);have d0:f0.drop 32=[]:=List.drop_of_length_le (by omega);have x0:f0.drop 64=[]:=List.drop_of_length_le (by omega);have t1:f1.take 32=f1:=List.take_of_length_le (by omega);have d1:f1.drop 32=[]:=List.drop_of_length_le (by omega);have x1:f1.drop 64=[]:=List.drop_of_length_le (by omega);have a1:¬(n:Int)<(i:Int):=by omega
 have a2:¬(i:Int)<0:=by omega
 have a3:i≤n:=by omega
 have a4:n-i=2:=by omega
 have a5:¬i=n:=by omega
 have a6:i<n:=by omega
 subst X9;unfold vA at e1 m0 m1 e5 ⊢;unfold vL at e1 e2 eR;refine⟨[.cells true 0 [pv,tv,.str nm,.slice q 0 n none],.cells true 0 (vL p2),.cells true 0 (vL p2),.kO,.cells true 32 (f0++f1),.cells true 0 f0,.cells true 0 f1],?_⟩;cases aF with
 |false=>
  obtain rfl:=eD rfl;clear eR eD;simp[-getElem?_pos,-AV.kS,-AV.known,-AV.cells,-bk,-List.all_eq_true,vS,mS,aU,afK,f31,aI,ej,vL,hq,hC,e1,e2,e5,m0,l0,g0,t0,m1,l1,g1,t1,List.drop_append,Yj,w1,w2,a1,a2,a3,a4,a6]
 |true=>
  have e3:=eR rfl;clear eR eD;simp[-getElem?_pos,-AV.kS,-AV.known,-AV.cells,-bk,-List.all_eq_true,vS,mS,aU,afK,f31,aI,ej,vL,hq,hC,e1,e2,e3,e5,m0,l0,g0,t0,m1,l1,g1,t1,List.drop_append,Yj,w1,w2,a1,a2,a3,a4,a6]
theorem Jh{f2:List AV}{p3:V3}(aF:Bool)(c1:pv.kS=true)(c2:tv.kS=true)(c3:ev.kS=true)(X9:ev=.slice q 0 n none)(hn:n=i+3)(hn2:n≤1000)(hq:∀Z,(M++Z)[q]? =some (.cells o 32 C))(hC:n*32≤C.length)(e1:O (.fn 29) [.agg [pv,tv,.str nm,ev],vA p] (M++[.cells true 0 [pv,tv,.str nm,ev],.cells true 0 (vL p),.cells true 0 [.str [],.str [],.str []]])=some ⟨.int .i64 0,none,[]⟩)(e2:O (.fn 53) [.slice q (i*32) 3 none] (M++[.cells true 0 [pv,tv,.str nm,ev],.cells true 0 (vL p),.cells true 0 [.str [],.str [],.str []]])=some ⟨.slice (M.length+4) 0 3 none,none,[.kO,.cells true 32 D]⟩)(eR:aF=true→O (.fn 54) [.slice (M.length+4) 0 3 none] (M++[.cells true 0 [pv,tv,.str nm,ev],.cells true 0 (vL p),.cells true 0 [.str [],.str [],.str []],.kO,.cells true 32 D])=some ⟨.tuple [],some (M++[.cells true 0 [pv,tv,.str nm,ev],.cells true 0 (vL p),.cells true 0 [.str [],.str [],.str []],.kO,.cells true 32 (f0++(f1++f2))]),[]⟩)(eD:aF=false→D=f0++(f1++f2))(m0:∀X:Mem,X.length=6→O (.fn 52) [.agg f0,vA p,.bool aF] (M++X)=some ⟨vA p1,none,[]⟩)(m1:∀X:Mem,X.length=7→O (.fn 52) [.agg f1,vA p1,.bool aF] (M++X)=some ⟨vA p2,none,[]⟩)(m2:∀X:Mem,X.length=8→O (.fn 52) [.agg f2,vA p2,.bool aF] (M++X)=some ⟨vA p3,none,[]⟩)(e5:∀N,O (.fn 14) [vA p3] N=some ⟨.int .i64 0,none,[]⟩)(l0:f0.length=32)(g0:f0.all AV.kS=true)(l1:f1.length=32)(g1:f1.all AV.kS=true)(l2:f2.length=32)(g2:f2.all AV.kS=true):
  ∃new,aU (aM prog) (fun _=>[41,41,41]) (aT prog) O 5 31 [.agg [pv,tv,.str nm,ev],vA p,.int .i64 i,.bool aF] M=some (.tuple [vA p3,.int .i64 0],M++new):=by
 have Yj:∀j,(M.length+j<M.length)=False:=fun j=>dz _ _
 have t0:f0.take 32=f0:=List.take_of_length_le (by omega);have d0:f0.drop 32=[]:=List.drop_of_length_le (by omega);have x0:f0.drop 64=[]:=List.drop_of_length_le (by omega);have t1:f1.take 32=f1:=List.take_of_length_le (by omega);have d1:f1.drop 32=[]:=List.drop_of_length_le (by omega);have x1:f1.drop 64=[]:=List.drop_of_length_le (by omega);have t2:f2.take 32=f2:=List.take_of_length_le (by omega);have d2:f2.drop 32=[]:=List.drop_of_length_le (by omega);have x2:f2.drop 64=[]:=List.drop_of_length_le (by omega);have a1:¬(n:Int)<(i:Int):=by omega
 have a2:¬(i:Int)<0:=by omega
 have a3:i≤n:=by omega
 have a4:n-i=3:=by omega
 have a5:¬i=n:=by omega
 have a6:i<n:=by omega
 subst X9;unfold vA at e1 m0 m1 m2 e5 ⊢;unfold vL at e1 e2 eR;refine⟨[.cells true 0 [pv,tv,.str nm,.slice q 0 n none],.cells true 0 (vL p3),.cells true 0 (vL p3),.kO,.cells true 32 (f0++(f1++f2)),.cells true 0 f0,.cells true 0 f1,.cells true 0 f2],?_⟩;cases aF with
 |false=>
  obtain rfl:=eD rfl;clear eR eD;simp[-getElem?_pos,-AV.kS,-AV.known,-AV.cells,-bk,-List.all_eq_true,vS,mS,aU,afK,f31,aI,ej,vL,hq,hC,e1,e2,e5,m0,l0,g0,t0,x0,m1,l1,g1,t1,m2,l2,g2,t2,List.drop_append,Yj,w1,w2,w3,a1,a2,a3,a4,a6]
 |true=>
  have e3:=eR rfl;clear eR eD;simp[-getElem?_pos,-AV.kS,-AV.known,-AV.cells,-bk,-List.all_eq_true,vS,mS,aU,afK,f31,aI,ej,vL,hq,hC,e1,e2,e3,e5,m0,l0,g0,t0,x0,m1,l1,g1,t1,m2,l2,g2,t2,List.drop_append,Yj,w1,w2,w3,a1,a2,a3,a4,a6]
section
variable (aF:Bool)(c1:pv.kS=true)(c2:tv.kS=true)
include aF c1 c2
theorem Je(c3:ev.kS=true)(X9:ev=.slice q 0 n none)(h0:0<n)(hn2:n≤1000)(hq:∀Z,(M++Z)[q]? =some (.cells o 32 C))(hC:C.length=n*32)(e1:O (.fn 29) [.agg [pv,tv,.str nm,ev],vA p] (M++[.cells true 0 [pv,tv,.str nm,ev],.cells true 0 (vL p),.cells true 0 [.str [],.str [],.str []]])=some ⟨.int .i64 0,none,[]⟩)(e2:O (.fn 53) [.slice (M.length+3) 0 0 none] (M++[.cells true 0 [pv,tv,.str nm,ev],.cells true 0 (vL p),.cells true 0 [.str [],.str [],.str []],.kO])=some ⟨.slice (M.length+5) 0 0 none,none,[.kO,.cells true 32 []]⟩)(e3:∀N,O (.fn 54) [.slice (M.length+5) 0 0 none] N=some ⟨.tuple [],none,[]⟩)(e5:∀N,O (.fn 14) [vA p] N=some ⟨.int .i64 0,none,[]⟩):
  ∃new,aU (aM prog) (fun _=>[41,41,41]) (aT prog) O 5 31 [.agg [pv,tv,.str nm,ev],vA p,.int .i64 n,.bool aF] M=some (.tuple [vA p,.int .i64 0],M++new):=by
 have Yj:∀j,(M.length+j<M.length)=False:=fun j=>dz _ _
 have a2:¬(n:Int)<0:=by omega
 have a4:¬n=0:=by omega
 subst X9;unfold vA at e1 e5 ⊢;unfold vL at e1 e2;refine⟨[.cells true 0 [pv,tv,.str nm,.slice q 0 n none],.cells true 0 (vL p),.cells true 0 (vL p),.kO,.kO,.cells true 32 []],?_⟩;cases aF<;>simp[-getElem?_pos,-AV.kS,-AV.known,-AV.cells,-bk,-List.all_eq_true,vS,mS,aU,afK,f31,aI,ej,vL,hq,hC,e1,e2,e3,e5,Yj,a2,a4,h0]
theorem Ji(X9:ev=.kK)(e1:O (.fn 29) [.agg [pv,tv,.str nm,ev],vA p] (M++[.cells true 0 [pv,tv,.str nm,ev],.cells true 0 (vL p),.cells true 0 [.str [],.str [],.str []]])=some ⟨.int .i64 0,none,[]⟩)(e2:∀N,O (.fn 53) [.kK] N=some ⟨.kK,none,[]⟩)(e3:∀N,O (.fn 54) [.kK] N=some ⟨.tuple [],none,[]⟩)(e5:∀N,O (.fn 14) [vA p] N=some ⟨.int .i64 0,none,[]⟩):
  ∃new,aU (aM prog) (fun _=>[41,41,41]) (aT prog) O 5 31 [.agg [pv,tv,.str nm,ev],vA p,.int .i64 0,.bool aF] M=some (.tuple [vA p,.int .i64 0],M++new):=by
 have Yj:∀j,(M.length+j<M.length)=False:=fun j=>dz _ _
 subst X9;unfold vA at e1 e5 ⊢;unfold vL at e1;refine⟨[.cells true 0 [pv,tv,.str nm,.kK],.cells true 0 (vL p),.cells true 0 (vL p)],?_⟩;cases aF<;>simp[-getElem?_pos,-AV.kS,-AV.known,-AV.cells,-bk,-List.all_eq_true,vS,mS,aU,afK,f31,aI,ej,vL,e1,e2,e3,e5,Yj]
end
end
end Go.Proofs
namespace Go.Proofs
open Go.Eng
open Tryz
open Classical in
noncomputable def cw:List (FuncId×List AV×(Mem→Prop)×HS)→adM
 | [],_,_,_=>none
 |x::L,c,args,M=>if c=.fn x.1∧args=x.2.1∧x.2.2.1 M then some x.2.2.2 else cw L c args M
variable{L:List (FuncId×List AV×(Mem→Prop)×HS)}
theorem gH{P:Program}(h:∀x∈L,∀M,x.2.2.1 M→mC P (.fn x.1) x.2.1 M x.2.2.2):kP P (cw L):=dq fun c a M r hr=>by
 induction L with
 |nil=>simp[cw] at hr
 |cons x L ih=>
  rw[cw] at hr;split at hr
  ·rename_i hc
   obtain⟨rfl,rfl,hp⟩:=hc;cases hr;exact h x (by simp) M hp
  ·exact ih (fun y hy=>h y (by simp[hy])) hr
variable{f:FuncId}{m:Mem}{r:HS}
theorem bl{a:List AV}{p:Mem→Prop}(h:p m):cw ((f,a,p,r)::L) (.fn f) a m=some r:=by rw[cw,if_pos ⟨rfl,rfl,h⟩]
theorem aC{g:FuncId}{a b:List AV}{p:Mem→Prop}(h:f≠g∨¬p m):cw ((f,a,p,r)::L) (.fn g) b m=cw L (.fn g) b m:=by rw[cw,if_neg (fun e=>h.elim (fun h=>h (by have:=e.1;cases this;rfl)) fun h=>h e.2.2)]
noncomputable def mvL(aF:Bool):List EvD→V3→V3
 | [],p=>p
 |w::l,p=>mvL aF l (w.mv aF p)
def dnK:Nat→Nat
 |0=>4
 |k+1=>5*dnK k
def vlK:Nat→Nat
 |0=>71
 |k+1=>2*vlK k+20
def plK(k:Nat) (p:V3):Prop:=∃D,D≤dnK k∧vSm D (vlK k) p
theorem NF{k:Nat}(hk:k≤3):dnK k≤500∧vlK k≤800:=by
 have:k=0∨k=1∨k=2∨k=3:=by omega
 rcases this with rfl | rfl | rfl | rfl<;>exact⟨by decide,by decide⟩
variable{w:EvD}
theorem W0{s:aeE}{k:Nat}{p:V3}(hw:w.Ok s)(aF:Bool)(h:plK k p)(hk:k≤3):plK (k+1) (w.mv aF p):=by obtain⟨D,hD,hp⟩:=h;obtain⟨l1,l2⟩:=NF hk;obtain⟨E,hE,hm⟩:=Xy hw aF hp (by omega) l2;exact⟨E,by simp only[dnK];omega,hm⟩
theorem Vq{k:Nat}{p:V3}(h:plK k p)(hk:k≤3):plK 3 p:=by
 obtain⟨D,hD,hp⟩:=h;have:k=0∨k=1∨k=2∨k=3:=by omega
 rcases this with rfl | rfl | rfl | rfl<;>simp only[dnK] at hD<;>exact⟨D,by simp only[dnK];omega,hp.mono (by decide)⟩
def plL(aF:Bool):List EvD→V3→Prop
 | [],p=>plK 3 p
 |w::l,p=>plK 3 p∧plL aF l (w.mv aF p)
theorem Vt{s:aeE}{aF:Bool}:∀{l:List EvD}{k:Nat}{p:V3},(∀w∈l,w.Ok s)→plK k p→k+l.length≤3→plL aF l p
 | [],k,p,_,h,hk=>Vq h (by simpa using hk)
 |w::l,k,p,hw,h,hk=>by rw[List.length_cons] at hk;exact⟨Vq h (by omega),Vt (k:=k+1) (fun x hx=>hw x (by simp[hx])) (W0 (hw w (by simp)) aF h (by omega)) (by omega)⟩
theorem Vr{aF:Bool}:∀{l:List EvD}{p:V3},plL aF l p→plK 3 p
 | [],_,h=>h
 |_::_,_,h=>h.1
theorem oL{k:Nat}{p:V3}(h:plK k p)(hk:k≤3):vC p:=by obtain⟨D,hD,hp⟩:=h;obtain⟨l1,l2⟩:=NF hk;have:=hp.mono l2;exact this.vC (by omega) (by omega)
variable{v:V3}
section
variable {s:aeE}{p t q:Nat}{evs:List (List AV)}{cs:List Evc}{M:Mem}
section
variable (H:ae2 s p t q evs cs M)
include H
theorem Tryz.ae2.ahz:∃ws:List EvD,ws.length=cs.length∧∀(i:Nat) c w,cs[i]? =some c→ws[i]? =some w→w.Ok s∧c=w.con c.nm:=
 AI (P:=fun _ c w=>EvD.Ok s w∧c=w.con c.nm) cs fun i c hc=>(H.af8 c (List.mem_of_getElem? hc)).evd
theorem Tryz.ae2.agN{ws:List EvD}(hw:∀(i:Nat) c w,cs[i]? =some c→ws[i]? =some w→w.Ok s∧c=w.con c.nm){i:Nat}{ev:List AV}(h1:evs[i]? =some ev)(h2:ws[i]? =some w)(aF:Bool){k:Nat}(hv:plK k v)(hk:k≤3)(X:Mem):
  kF prog 52 [.agg ev,vA v,.bool aF] (M++X) (vA (w.mv aF v)) (M++X):=by
 have hl:=(gL h1);obtain⟨c,hc⟩:∃c,cs[i]? =some c:=⟨_,List.getElem?_eq_getElem (by rw[←H.len];exact hl)⟩
 obtain⟨o1,o2⟩:=hw i c w hc h2;have hE:=(H.more X).con i ev c h1 hc;rw[o2] at hE;obtain⟨D,hD,hp⟩:=hv;obtain⟨b1,b2⟩:=NF hk;exact F3 hE o1 aF hp (by omega) b2
theorem im(hd:uT [ar] (cs.map unE)=false)(hv:vC v):kF prog 29 [.agg (aP s p t q cs.length),vA v] M (.int .i64 0) M:=by
 have hG:aT prog 29=some f29:=by kernel_rfl
 obtain⟨h1,h2,h3,h4⟩:=hv;have hO:kP prog (adM.or (gq 35 [.agg (aP s p t q cs.length)] (.int .i64 0) (fun N=>∃Z,N=M++Z)) (ag cR)):=kP.or (ic fun N ⟨Z,hZ⟩=>by
  subst hZ;have:=(H.more Z).chk
  rwa [hd] at this) tD
 unfold aP at hO ⊢;obtain⟨E,hE⟩:∃E,E=evV q cs.length:=⟨_,rfl⟩
 have Zf:E.kS=true:=by rw[hE];exact iW _ _
 rw[←hE] at hO ⊢;have h:ad (aM prog) (fun _=>[]) (aT prog) (adM.or (gq 35 [.agg [.slice p 0 s.P.length none,.slice t 0 s.T.length none,.str ar,E]] (.int .i64 0) (fun N=>∃Z,N=M++Z)) (ag cR)) 1 29 [.agg [.slice p 0 s.P.length none,.slice t 0 s.T.length none,.str ar,E],vA v] M=some ⟨.int .i64 0,none,[]⟩:=by
  clear hO;have YO:∀s,(AV.str s).kS=true:=fun _=>rfl
  have Y3:∀b o n c,(AV.slice b o n c).kS=true:=fun _ _ _ _=>rfl
  simp[-AV.kS,ad,hG,f29,adM.or,gq,ag,cR,vA,h1,h2,h3,h4]
 have:=(ak ae (aq _) hO (au _) h).1;simpa [HS.mem] using this
end
end
end Go.Proofs
namespace Go.Proofs
open Go.Eng
open Tryz
theorem C7{e:List AV}(h:∀x∈e,x.kS=true):e.all AV.kS=true:=List.all_eq_true.2 h
variable{i ja jb:Nat}{u0 u1:EvD}
section
variable {s:aeE}{p t q:Nat}{evs:List (List AV)}{cs:List Evc}{M:Mem}{ws:List EvD}{v:V3}
section
variable (H:ae2 s p t q evs cs M)(hd:uT [ar] (cs.map unE)=false)(hw:∀(i:Nat) c w,cs[i]? =some c→ws[i]? =some w→w.Ok s∧c=w.con c.nm)(aF:Bool)
include H hd hw aF
theorem CZ(hn:cs.length=i+1){f0:List AV}(i0:evs[ja]? =some f0)(y0:ws[ja]? =some u0)(hv:plL aF [u0] v)(hD:(evs.flatten.drop (i*32)).take (1*32)=f0):
  kF prog 31 [.agg (aP s p t q cs.length),vA v,.int .i64 i,.bool aF] M (.tuple [vA (u0.mv aF v),.int .i64 0]) M:=by
 have n4:=H.small;obtain⟨o,hq⟩:=H.hq (by rintro rfl;have:=H.len;simp at this;omega);have lq:=(gL hq);have Zh :∀Z,(M++Z)[q]? =some (.cells o 32 evs.flatten):=fun Z=>by rw[List.getElem?_append_left lq];exact hq
 have hfl:=H.flat
 have X9:evV q cs.length=.slice q 0 cs.length none:=by unfold evV;rw[if_neg (by omega)]
 obtain⟨hv,p1⟩:=hv;have l0:=H.l32 f0 (List.mem_of_getElem? i0);have k0:=H.cok f0 (List.mem_of_getElem? i0);obtain⟨c0,z0⟩:∃c,cs[ja]? =some c:=⟨_,List.getElem?_eq_getElem (by rw[←H.len];exact(gL i0))⟩
 have g0:=hw _ c0 u0 z0 y0;obtain⟨L,hL⟩:∃L:List (FuncId×List AV×(Mem→Prop)×HS),L=[(29,[.agg (aP s p t q cs.length),vA v],(fun N=>N=M++[.cells true 0 (aP s p t q cs.length),.cells true 0 (vL v),.cells true 0 [.str [],.str [],.str []]]),⟨.int .i64 0,none,[]⟩),
  (53,[.slice q (i*32) 1 none],(fun N=>N=M++[.cells true 0 (aP s p t q cs.length),.cells true 0 (vL v),.cells true 0 [.str [],.str [],.str []]]),⟨.slice (M.length+4) 0 1 none,none,[.kO,.cells true 32 f0]⟩),
  (54,[.slice (M.length+4) 0 1 none],(fun _=>True),⟨.tuple [],none,[]⟩),
  (52,[.agg f0,vA v,.bool aF],(fun N=>(∃X,N=M++X)∧N.length=M.length+6),⟨vA (u0.mv aF v),none,[]⟩),
  (14,[vA (u0.mv aF v)],(fun _=>True),⟨.int .i64 0,none,[]⟩)]:=⟨_,rfl⟩
 have hO:kP prog (cw L):=gH fun y hy N hp=>by
  rw[hL] at hy;simp only[List.mem_cons,List.not_mem_nil,or_false] at hy;rcases hy with rfl | rfl | rfl | rfl | rfl
  ·subst hp
   exact af (by simpa using im (H.more _) hd (oL hv (by decide)))
  ·subst hp
   have:=EA (M:=M++[.cells true 0 (aP s p t q cs.length),.cells true 0 (vL v),.cells true 0 [.str [],.str [],.str []]]) (i:=i) (k:=1) (Zh _) (by rw[hfl];omega) (by decide) (by decide) (Mm H.cok);have hl3:List.length (M++[.cells true 0 (aP s p t q cs.length),.cells true 0 (vL v),.cells true 0 [.str [],.str [],.str []]]:Mem)+1=M.length+4:=by simp
   rw[hD,hl3] at this;exact af this
  ·exact af (by simpa using CD (N:=N) (b:=M.length+4) (k:=1) (by decide))
  ·obtain⟨⟨X,rfl⟩,_⟩:=hp
   exact af (by simpa using H.agN hw i0 y0 aF (k:=3) hv (by decide) X)
  ·exact af (by simpa using iK (oL p1 (by decide)) N)
 have e1:cw L (.fn 29) [.agg (aP s p t q cs.length),vA v] (M++[.cells true 0 (aP s p t q cs.length),.cells true 0 (vL v),.cells true 0 [.str [],.str [],.str []]])=some ⟨.int .i64 0,none,[]⟩:=by rw[hL];exact bl rfl
 have e2:cw L (.fn 53) [.slice q (i*32) 1 none] (M++[.cells true 0 (aP s p t q cs.length),.cells true 0 (vL v),.cells true 0 [.str [],.str [],.str []]])=some ⟨.slice (M.length+4) 0 1 none,none,[.kO,.cells true 32 f0]⟩:=by rw[hL,aC (.inl (by decide))];exact bl rfl
 have e3:∀N,cw L (.fn 54) [.slice (M.length+4) 0 1 none] N=some ⟨.tuple [],none,[]⟩:=fun N=>by rw[hL,aC (.inl (by decide)),aC (.inl (by decide))];exact bl trivial
 have q0:∀X:Mem,X.length=6→cw L (.fn 52) [.agg f0,vA v,.bool aF] (M++X)=some ⟨vA (u0.mv aF v),none,[]⟩:=fun X hX=>by rw[hL,aC (.inl (by decide)),aC (.inl (by decide)),aC (.inl (by decide))];exact bl ⟨⟨_,rfl⟩,by rw[List.length_append,hX]⟩
 have e5:∀N,cw L (.fn 14) [vA (u0.mv aF v)] N=some ⟨.int .i64 0,none,[]⟩:=fun N=>by rw[hL,aC (.inl (by decide)),aC (.inl (by decide)),aC (.inl (by decide)),aC (.inl (by decide))];exact bl trivial
 obtain⟨new,h⟩:=Jf (O:=cw L) (M:=M) (D:=[]) aF rfl rfl (iW q cs.length) X9 (by omega) (by omega) Zh (by rw[hfl];omega) e1 e2 e3 q0 e5 l0 (C7 k0);exact kF.forget rfl (aO ae (aq _) hO (au _) h)
theorem C0(hn:cs.length=i+2){f0:List AV}(i0:evs[ja]? =some f0)(y0:ws[ja]? =some u0){f1:List AV}(i1:evs[jb]? =some f1)(y1:ws[jb]? =some u1)(hv:plL aF [u0,u1] v){D:List AV}(hD:(evs.flatten.drop (i*32)).take (2*32)=D)(hb:aF=true→D=f1++f0)(hf:aF=false→D=f0++f1):
  kF prog 31 [.agg (aP s p t q cs.length),vA v,.int .i64 i,.bool aF] M (.tuple [vA (u1.mv aF (u0.mv aF v)),.int .i64 0]) M:=by
 have n4:=H.small;obtain⟨o,hq⟩:=H.hq (by rintro rfl;have:=H.len;simp at this;omega);have lq:=(gL hq);have Zh :∀Z,(M++Z)[q]? =some (.cells o 32 evs.flatten):=fun Z=>by rw[List.getElem?_append_left lq];exact hq
 have hfl:=H.flat
 have X9:evV q cs.length=.slice q 0 cs.length none:=by unfold evV;rw[if_neg (by omega)]
 obtain⟨hv,p1,p2⟩:=hv;have l0:=H.l32 f0 (List.mem_of_getElem? i0);have k0:=H.cok f0 (List.mem_of_getElem? i0);obtain⟨c0,z0⟩:∃c,cs[ja]? =some c:=⟨_,List.getElem?_eq_getElem (by rw[←H.len];exact(gL i0))⟩
 have g0:=hw _ c0 u0 z0 y0;have l1:=H.l32 f1 (List.mem_of_getElem? i1);have k1:=H.cok f1 (List.mem_of_getElem? i1);obtain⟨c1,z1⟩:∃c,cs[jb]? =some c:=⟨_,List.getElem?_eq_getElem (by rw[←H.len];exact(gL i1))⟩
 have g1:=hw _ c1 u1 z1 y1;obtain⟨L,hL⟩:∃L:List (FuncId×List AV×(Mem→Prop)×HS),L=[(29,[.agg (aP s p t q cs.length),vA v],(fun N=>N=M++[.cells true 0 (aP s p t q cs.length),.cells true 0 (vL v),.cells true 0 [.str [],.str [],.str []]]),⟨.int .i64 0,none,[]⟩),
  (53,[.slice q (i*32) 2 none],(fun N=>N=M++[.cells true 0 (aP s p t q cs.length),.cells true 0 (vL v),.cells true 0 [.str [],.str [],.str []]]),⟨.slice (M.length+4) 0 2 none,none,[.kO,.cells true 32 D]⟩),
  (54,[.slice (M.length+4) 0 2 none],(fun N=>N=M++[.cells true 0 (aP s p t q cs.length),.cells true 0 (vL v),.cells true 0 [.str [],.str [],.str []],.kO,.cells true 32 D]∧aF=true),⟨.tuple [],some (M++[.cells true 0 (aP s p t q cs.length),.cells true 0 (vL v),.cells true 0 [.str [],.str [],.str []],.kO,.cells true 32 (f0++f1)]),[]⟩),
  (52,[.agg f0,vA v,.bool aF],(fun N=>(∃X,N=M++X)∧N.length=M.length+6),⟨vA (u0.mv aF v),none,[]⟩),
  (52,[.agg f1,vA (u0.mv aF v),.bool aF],(fun N=>(∃X,N=M++X)∧N.length=M.length+7),⟨vA (u1.mv aF (u0.mv aF v)),none,[]⟩),
  (14,[vA (u1.mv aF (u0.mv aF v))],(fun _=>True),⟨.int .i64 0,none,[]⟩)]:=⟨_,rfl⟩
 have hO:kP prog (cw L):=gH fun y hy N hp=>by
  rw[hL] at hy;simp only[List.mem_cons,List.not_mem_nil,or_false] at hy;rcases hy with rfl | rfl | rfl | rfl | rfl | rfl
  ·subst hp
   exact af (by simpa using im (H.more _) hd (oL hv (by decide)))
  ·subst hp
   have:=EA (M:=M++[.cells true 0 (aP s p t q cs.length),.cells true 0 (vL v),.cells true 0 [.str [],.str [],.str []]]) (i:=i) (k:=2) (Zh _) (by rw[hfl];omega) (by decide) (by decide) (Mm H.cok);have hl3:List.length (M++[.cells true 0 (aP s p t q cs.length),.cells true 0 (vL v),.cells true 0 [.str [],.str [],.str []]]:Mem)+1=M.length+4:=by simp
   rw[hD,hl3] at this;exact af this
  ·obtain⟨rfl,hbk⟩:=hp
   have hr:(M++[.cells true 0 (aP s p t q cs.length),.cells true 0 (vL v),.cells true 0 [.str [],.str [],.str []],.kO,.cells true 32 D])[M.length+4]? =some (.cells true 32 (f1++f0)):=by rw[dC,hb hbk];rfl
   have:=Ou l1 l0 k1 k0 ((H.more _).con _ f1 c1 i1 z1 |>.refs 0) ((H.more _).con _ f0 c0 i0 z0 |>.refs 0) hr;rw[Bb] at this;exact⟨by simpa [HS.mem] using this,fun x hx=>by cases hx;simp⟩
  ·obtain⟨⟨X,rfl⟩,_⟩:=hp
   exact af (by simpa using H.agN hw i0 y0 aF (k:=3) hv (by decide) X)
  ·obtain⟨⟨X,rfl⟩,_⟩:=hp
   exact af (by simpa using H.agN hw i1 y1 aF (k:=3) p1 (by decide) X)
  ·exact af (by simpa using iK (oL p2 (by decide)) N)
 have e1:cw L (.fn 29) [.agg (aP s p t q cs.length),vA v] (M++[.cells true 0 (aP s p t q cs.length),.cells true 0 (vL v),.cells true 0 [.str [],.str [],.str []]])=some ⟨.int .i64 0,none,[]⟩:=by rw[hL];exact bl rfl
 have e2:cw L (.fn 53) [.slice q (i*32) 2 none] (M++[.cells true 0 (aP s p t q cs.length),.cells true 0 (vL v),.cells true 0 [.str [],.str [],.str []]])=some ⟨.slice (M.length+4) 0 2 none,none,[.kO,.cells true 32 D]⟩:=by rw[hL,aC (.inl (by decide))];exact bl rfl
 have e3:aF=true→cw L (.fn 54) [.slice (M.length+4) 0 2 none] (M++[.cells true 0 (aP s p t q cs.length),.cells true 0 (vL v),.cells true 0 [.str [],.str [],.str []],.kO,.cells true 32 D])=some ⟨.tuple [],some (M++[.cells true 0 (aP s p t q cs.length),.cells true 0 (vL v),.cells true 0 [.str [],.str [],.str []],.kO,.cells true 32 (f0++f1)]),[]⟩:=fun hbk=>by rw[hL,aC (.inl (by decide)),aC (.inl (by decide))];exact bl ⟨rfl,hbk⟩
 have q0:∀X:Mem,X.length=6→cw L (.fn 52) [.agg f0,vA v,.bool aF] (M++X)=some ⟨vA (u0.mv aF v),none,[]⟩:=fun X hX=>by rw[hL,aC (.inl (by decide)),aC (.inl (by decide)),aC (.inl (by decide))];exact bl ⟨⟨_,rfl⟩,by rw[List.length_append,hX]⟩
 have q1:∀X:Mem,X.length=7→cw L (.fn 52) [.agg f1,vA (u0.mv aF v),.bool aF] (M++X)=some ⟨vA (u1.mv aF (u0.mv aF v)),none,[]⟩:=fun X hX=>by rw[hL,aC (.inl (by decide)),aC (.inl (by decide)),aC (.inl (by decide)),aC (.inr (by intro h;have:=h.2;rw[List.length_append] at this;omega))];exact bl ⟨⟨_,rfl⟩,by rw[List.length_append,hX]⟩
 have e5:∀N,cw L (.fn 14) [vA (u1.mv aF (u0.mv aF v))] N=some ⟨.int .i64 0,none,[]⟩:=fun N=>by rw[hL,aC (.inl (by decide)),aC (.inl (by decide)),aC (.inl (by decide)),aC (.inl (by decide)),aC (.inl (by decide))];exact bl trivial
 obtain⟨new,h⟩:=Jg (O:=cw L) (M:=M) aF rfl rfl (iW q cs.length) X9 (by omega) (by omega) Zh (by rw[hfl];omega) e1 e2 e3 hf q0 q1 e5 l0 (C7 k0) l1 (C7 k1);exact kF.forget rfl (aO ae (aq _) hO (au _) h)
theorem C4(hn:cs.length=i+3){f0:List AV}(i0:evs[ja]? =some f0)(y0:ws[ja]? =some u0){f1:List AV}(i1:evs[jb]? =some f1)(y1:ws[jb]? =some u1){jc:Nat}{f2:List AV}{u2:EvD}(i2:evs[jc]? =some f2)(y2:ws[jc]? =some u2)(hv:plL aF [u0,u1,u2] v){D:List AV}(hD:(evs.flatten.drop (i*32)).take (3*32)=D)(hb:aF=true→D=f2++(f1++f0))(hf:aF=false→D=f0++(f1++f2)):
  kF prog 31 [.agg (aP s p t q cs.length),vA v,.int .i64 i,.bool aF] M (.tuple [vA (u2.mv aF (u1.mv aF (u0.mv aF v))),.int .i64 0]) M:=by
 have n4:=H.small;obtain⟨o,hq⟩:=H.hq (by rintro rfl;have:=H.len;simp at this;omega);have lq:=(gL hq);have Zh :∀Z,(M++Z)[q]? =some (.cells o 32 evs.flatten):=fun Z=>by rw[List.getElem?_append_left lq];exact hq
 have hfl:=H.flat
 have X9:evV q cs.length=.slice q 0 cs.length none:=by unfold evV;rw[if_neg (by omega)]
 obtain⟨hv,p1,p2,p3⟩:=hv;have l0:=H.l32 f0 (List.mem_of_getElem? i0);have k0:=H.cok f0 (List.mem_of_getElem? i0);obtain⟨c0,z0⟩:∃c,cs[ja]? =some c:=⟨_,List.getElem?_eq_getElem (by rw[←H.len];exact(gL i0))⟩
 have g0:=hw _ c0 u0 z0 y0;have l1:=H.l32 f1 (List.mem_of_getElem? i1);have k1:=H.cok f1 (List.mem_of_getElem? i1);obtain⟨c1,z1⟩:∃c,cs[jb]? =some c:=⟨_,List.getElem?_eq_getElem (by rw[←H.len];exact(gL i1))⟩
 have g1:=hw _ c1 u1 z1 y1;have l2:=H.l32 f2 (List.mem_of_getElem? i2);have k2:=H.cok f2 (List.mem_of_getElem? i2);obtain⟨c2,z2⟩:∃c,cs[jc]? =some c:=⟨_,List.getElem?_eq_getElem (by rw[←H.len];exact(gL i2))⟩
 have g2:=hw _ c2 u2 z2 y2;obtain⟨L,hL⟩:∃L:List (FuncId×List AV×(Mem→Prop)×HS),L=[(29,[.agg (aP s p t q cs.length),vA v],(fun N=>N=M++[.cells true 0 (aP s p t q cs.length),.cells true 0 (vL v),.cells true 0 [.str [],.str [],.str []]]),⟨.int .i64 0,none,[]⟩),
  (53,[.slice q (i*32) 3 none],(fun N=>N=M++[.cells true 0 (aP s p t q cs.length),.cells true 0 (vL v),.cells true 0 [.str [],.str [],.str []]]),⟨.slice (M.length+4) 0 3 none,none,[.kO,.cells true 32 D]⟩),
  (54,[.slice (M.length+4) 0 3 none],(fun N=>N=M++[.cells true 0 (aP s p t q cs.length),.cells true 0 (vL v),.cells true 0 [.str [],.str [],.str []],.kO,.cells true 32 D]∧aF=true),⟨.tuple [],some (M++[.cells true 0 (aP s p t q cs.length),.cells true 0 (vL v),.cells true 0 [.str [],.str [],.str []],.kO,.cells true 32 (f0++(f1++f2))]),[]⟩),
  (52,[.agg f0,vA v,.bool aF],(fun N=>(∃X,N=M++X)∧N.length=M.length+6),⟨vA (u0.mv aF v),none,[]⟩),
  (52,[.agg f1,vA (u0.mv aF v),.bool aF],(fun N=>(∃X,N=M++X)∧N.length=M.length+7),⟨vA (u1.mv aF (u0.mv aF v)),none,[]⟩),
  (52,[.agg f2,vA (u1.mv aF (u0.mv aF v)),.bool aF],(fun N=>(∃X,N=M++X)∧N.length=M.length+8),⟨vA (u2.mv aF (u1.mv aF (u0.mv aF v))),none,[]⟩),
  (14,[vA (u2.mv aF (u1.mv aF (u0.mv aF v)))],(fun _=>True),⟨.int .i64 0,none,[]⟩)]:=⟨_,rfl⟩
 have hO:kP prog (cw L):=gH fun y hy N hp=>by
  rw[hL] at hy;simp only[List.mem_cons,List.not_mem_nil,or_false] at hy;rcases hy with rfl | rfl | rfl | rfl | rfl | rfl | rfl
  ·subst hp
   exact af (by simpa using im (H.more _) hd (oL hv (by decide)))
  ·subst hp
   have:=EA (M:=M++[.cells true 0 (aP s p t q cs.length),.cells true 0 (vL v),.cells true 0 [.str [],.str [],.str []]]) (i:=i) (k:=3) (Zh _) (by rw[hfl];omega) (by decide) (by decide) (Mm H.cok);have hl3:List.length (M++[.cells true 0 (aP s p t q cs.length),.cells true 0 (vL v),.cells true 0 [.str [],.str [],.str []]]:Mem)+1=M.length+4:=by simp
   rw[hD,hl3] at this;exact af this
  ·obtain⟨rfl,hbk⟩:=hp
   have hr:(M++[.cells true 0 (aP s p t q cs.length),.cells true 0 (vL v),.cells true 0 [.str [],.str [],.str []],.kO,.cells true 32 D])[M.length+4]? =some (.cells true 32 (f2++(f1++f0))):=by rw[dC,hb hbk];rfl
   have:=Ov l2 l1 l0 k2 k1 k0 ((H.more _).con _ f2 c2 i2 z2 |>.refs 0) ((H.more _).con _ f1 c1 i1 z1 |>.refs 0) ((H.more _).con _ f0 c0 i0 z0 |>.refs 0) hr;rw[Bb] at this;exact⟨by simpa [HS.mem] using this,fun x hx=>by cases hx;simp⟩
  ·obtain⟨⟨X,rfl⟩,_⟩:=hp
   exact af (by simpa using H.agN hw i0 y0 aF (k:=3) hv (by decide) X)
  ·obtain⟨⟨X,rfl⟩,_⟩:=hp
   exact af (by simpa using H.agN hw i1 y1 aF (k:=3) p1 (by decide) X)
  ·obtain⟨⟨X,rfl⟩,_⟩:=hp
   exact af (by simpa using H.agN hw i2 y2 aF (k:=3) p2 (by decide) X)
  ·exact af (by simpa using iK (oL p3 (by decide)) N)
 have e1:cw L (.fn 29) [.agg (aP s p t q cs.length),vA v] (M++[.cells true 0 (aP s p t q cs.length),.cells true 0 (vL v),.cells true 0 [.str [],.str [],.str []]])=some ⟨.int .i64 0,none,[]⟩:=by rw[hL];exact bl rfl
 have e2:cw L (.fn 53) [.slice q (i*32) 3 none] (M++[.cells true 0 (aP s p t q cs.length),.cells true 0 (vL v),.cells true 0 [.str [],.str [],.str []]])=some ⟨.slice (M.length+4) 0 3 none,none,[.kO,.cells true 32 D]⟩:=by rw[hL,aC (.inl (by decide))];exact bl rfl
 have e3:aF=true→cw L (.fn 54) [.slice (M.length+4) 0 3 none] (M++[.cells true 0 (aP s p t q cs.length),.cells true 0 (vL v),.cells true 0 [.str [],.str [],.str []],.kO,.cells true 32 D])=some ⟨.tuple [],some (M++[.cells true 0 (aP s p t q cs.length),.cells true 0 (vL v),.cells true 0 [.str [],.str [],.str []],.kO,.cells true 32 (f0++(f1++f2))]),[]⟩:=fun hbk=>by rw[hL,aC (.inl (by decide)),aC (.inl (by decide))];exact bl ⟨rfl,hbk⟩
 have q0:∀X:Mem,X.length=6→cw L (.fn 52) [.agg f0,vA v,.bool aF] (M++X)=some ⟨vA (u0.mv aF v),none,[]⟩:=fun X hX=>by rw[hL,aC (.inl (by decide)),aC (.inl (by decide)),aC (.inl (by decide))];exact bl ⟨⟨_,rfl⟩,by rw[List.length_append,hX]⟩
 have q1:∀X:Mem,X.length=7→cw L (.fn 52) [.agg f1,vA (u0.mv aF v),.bool aF] (M++X)=some ⟨vA (u1.mv aF (u0.mv aF v)),none,[]⟩:=fun X hX=>by rw[hL,aC (.inl (by decide)),aC (.inl (by decide)),aC (.inl (by decide)),aC (.inr (by intro h;have:=h.2;rw[List.length_append] at this;omega))];exact bl ⟨⟨_,rfl⟩,by rw[List.length_append,hX]⟩
 have q2:∀X:Mem,X.length=8→cw L (.fn 52) [.agg f2,vA (u1.mv aF (u0.mv aF v)),.bool aF] (M++X)=some ⟨vA (u2.mv aF (u1.mv aF (u0.mv aF v))),none,[]⟩:=fun X hX=>by rw[hL,aC (.inl (by decide)),aC (.inl (by decide)),aC (.inl (by decide)),aC (.inr (by intro h;have:=h.2;rw[List.length_append] at this;omega)),aC (.inr (by intro h;have:=h.2;rw[List.length_append] at this;omega))];exact bl ⟨⟨_,rfl⟩,by rw[List.length_append,hX]⟩
 have e5:∀N,cw L (.fn 14) [vA (u2.mv aF (u1.mv aF (u0.mv aF v)))] N=some ⟨.int .i64 0,none,[]⟩:=fun N=>by rw[hL,aC (.inl (by decide)),aC (.inl (by decide)),aC (.inl (by decide)),aC (.inl (by decide)),aC (.inl (by decide)),aC (.inl (by decide))];exact bl trivial
 obtain⟨new,h⟩:=Jh (O:=cw L) (M:=M) aF rfl rfl (iW q cs.length) X9 (by omega) (by omega) Zh (by rw[hfl];omega) e1 e2 e3 hf q0 q1 q2 e5 l0 (C7 k0) l1 (C7 k1) l2 (C7 k2);exact kF.forget rfl (aO ae (aq _) hO (au _) h)
end
end
end Go.Proofs
namespace Go.Proofs
open Go.Eng
open Tryz
section
variable{α:Type}{l:List α}
include α l
theorem Fa{i:Nat}(h:l.length=i+1):∃a,l[i]? =some a∧l.drop i=[a]:=by refine⟨l[i],List.getElem?_eq_getElem (by omega),?_⟩;rw[List.drop_eq_getElem_cons (by omega),List.drop_of_length_le (by omega)]
theorem Fb{i:Nat}(h:l.length=i+2):∃a b,l[i]? =some a∧l[i+1]? =some b∧l.drop i=[a,b]:=by obtain⟨b,h1,h2⟩:=Fa (l:=l) (i:=i+1) (by omega);exact⟨l[i],b,List.getElem?_eq_getElem (by omega),h1,by rw[List.drop_eq_getElem_cons (by omega),h2]⟩
theorem Ni{i:Nat}(h:l.length=i+3):∃a b c,l[i]? =some a∧l[i+1]? =some b∧l[i+2]? =some c∧l.drop i=[a,b,c]:=by obtain⟨b,c,h1,h2,h3⟩:=Fb (l:=l) (i:=i+1) (by omega);exact⟨l[i],b,c,List.getElem?_eq_getElem (by omega),h1,h2,by rw[List.drop_eq_getElem_cons (by omega),h3]⟩
end
section
variable {s:aeE}{p t q:Nat}{evs:List (List AV)}{cs:List Evc}{M:Mem}{ws:List EvD}{v:V3}
section
variable (H:ae2 s p t q evs cs M)
include H
theorem Tryz.ae2.agF{i:Nat}(hn:cs.length=i+1):∃f0,evs[i]? =some f0∧(evs.flatten.drop (i*32)).take (1*32)=f0:=by obtain⟨f0,h1,h2⟩:=Fa (l:=evs) (i:=i) (by rw[H.len];exact hn);have l0:=H.l32 f0 (List.mem_of_getElem? h1);exact⟨f0,h1,by rw[qj i H.l32,h2];rw[List.take_of_length_le (by simp;omega)];simp⟩
theorem Tryz.ae2.ahA{i:Nat}(hn:cs.length=i+2):∃f0 f1,evs[i]? =some f0∧evs[i+1]? =some f1∧(evs.flatten.drop (i*32)).take (2*32)=f0++f1:=by obtain⟨f0,f1,h1,h2,h3⟩:=Fb (l:=evs) (i:=i) (by rw[H.len];exact hn);have l0:=H.l32 f0 (List.mem_of_getElem? h1);have l1:=H.l32 f1 (List.mem_of_getElem? h2);exact⟨f0,f1,h1,h2,by rw[qj i H.l32,h3];rw[List.take_of_length_le (by simp;omega)];simp⟩
theorem Tryz.ae2.ahB{i:Nat}(hn:cs.length=i+3):∃f0 f1 f2,evs[i]? =some f0∧evs[i+1]? =some f1∧evs[i+2]? =some f2∧(evs.flatten.drop (i*32)).take (3*32)=f0++(f1++f2):=by obtain⟨f0,f1,f2,h1,h2,h3,h4⟩:=Ni (l:=evs) (i:=i) (by rw[H.len];exact hn);have l0:=H.l32 f0 (List.mem_of_getElem? h1);have l1:=H.l32 f1 (List.mem_of_getElem? h2);have l2:=H.l32 f2 (List.mem_of_getElem? h3);exact⟨f0,f1,f2,h1,h2,h3,by rw[qj i H.l32,h4];rw[List.take_of_length_le (by simp;omega)];simp⟩
end
theorem Q2{M:Mem}{b:Nat}(hb:M[b]? =some .kO):kF prog 53 [.slice b 0 0 none] M (.slice (M.length+1) 0 0 none) (M++[.kO,.cells true 32 []]):=by
 have lb:=(gL hb);have UV :∀Z,(M++Z)[b]? =some .kO:=fun Z=>by rw[List.getElem?_append_left lb];exact hb
 have h:aU (aM prog) (fun _=>[]) (aT prog) bq 1 53 [.slice b 0 0 none] M=some (.slice (M.length+1) 0 0 none,M++[.kO,.cells true 32 []]):=by simp[aU,agM,f53,Ax,UV]
 exact aO ae (aq _) (ah _) (au _) h
theorem OL(M:Mem):kF prog 53 [.kK] M .kK M:=by refine az (ah _) (lv:=fun _=>[]) (K:=1) rfl rfl ?_ M;simp[ad,agM,f53,Ax]
theorem Gk(M:Mem):kF prog 54 [.kK] M (.tuple []) M:=by have w1:IntKind.i64.wrap (-1)= -1:=rfl;refine az (ah _) (lv:=fun _=>[2,3]) (K:=4) rfl rfl ?_ M;simp[ad,agj,f54,aI,ej,w1]
section
variable (H:ae2 s p t q evs cs M)(hd:uT [ar] (cs.map unE)=false)
include H hd
theorem CY(aF:Bool)(hv:plK 3 v):
  kF prog 31 [.agg (aP s p t q cs.length),vA v,.int .i64 cs.length,.bool aF] M (.tuple [vA v,.int .i64 0]) M:=by
 have n4:=H.small;have Zf:=iK (oL hv (by decide));obtain⟨B,hB⟩:∃B:Mem,B=[.cells true 0 (aP s p t q cs.length),.cells true 0 (vL v),.cells true 0 [.str [],.str [],.str []]]:=⟨_,rfl⟩
 by_cases h0:cs.length=0
 ·have X9:evV q cs.length=.kK:=by unfold evV;rw[if_pos h0]
  obtain⟨L,hL⟩:∃L:List (FuncId×List AV×(Mem→Prop)×HS),L=[(29,[.agg (aP s p t q cs.length),vA v],(fun N=>N=M++B),⟨.int .i64 0,none,[]⟩),
   (53,[.kK],(fun _=>True),⟨.kK,none,[]⟩),(54,[.kK],(fun _=>True),⟨.tuple [],none,[]⟩),(14,[vA v],(fun _=>True),⟨.int .i64 0,none,[]⟩)]:=⟨_,rfl⟩
  have hO:kP prog (cw L):=gH fun y hy N hp=>by
   rw[hL] at hy;simp only[List.mem_cons,List.not_mem_nil,or_false] at hy;rcases hy with rfl | rfl | rfl | rfl
   ·subst hp
    exact af (by simpa using im (H.more _) hd (oL hv (by decide)))
   ·exact af (by simpa using OL N)
   ·exact af (by simpa using Gk N)
   ·exact af (by simpa using Zf N)
  have e1:cw L (.fn 29) [.agg (aP s p t q cs.length),vA v] (M++B)=some ⟨.int .i64 0,none,[]⟩:=by rw[hL];exact bl rfl
  have e2:∀N,cw L (.fn 53) [.kK] N=some ⟨.kK,none,[]⟩:=fun N=>by rw[hL,aC (.inl (by decide))];exact bl trivial
  have e3:∀N,cw L (.fn 54) [.kK] N=some ⟨.tuple [],none,[]⟩:=fun N=>by rw[hL,aC (.inl (by decide)),aC (.inl (by decide))];exact bl trivial
  have e5:∀N,cw L (.fn 14) [vA v] N=some ⟨.int .i64 0,none,[]⟩:=fun N=>by rw[hL,aC (.inl (by decide)),aC (.inl (by decide)),aC (.inl (by decide))];exact bl trivial
  rw[hB] at e1;obtain⟨new,h⟩:=Ji (O:=cw L) (M:=M) aF rfl rfl X9 e1 e2 e3 e5;rw[h0] at h ⊢;exact kF.forget rfl (aO ae (aq _) hO (au _) h)
 ·obtain⟨o,hq⟩:=H.hq (by rintro rfl;have:=H.len;simp at this;omega)
  have lq:=(gL hq);have Zh :∀Z,(M++Z)[q]? =some (.cells o 32 evs.flatten):=fun Z=>by rw[List.getElem?_append_left lq];exact hq
  have X9:evV q cs.length=.slice q 0 cs.length none:=by unfold evV;rw[if_neg h0]
  obtain⟨L,hL⟩:∃L:List (FuncId×List AV×(Mem→Prop)×HS),L=[(29,[.agg (aP s p t q cs.length),vA v],(fun N=>N=M++B),⟨.int .i64 0,none,[]⟩),
   (53,[.slice (M.length+3) 0 0 none],(fun N=>N=M++(B++[.kO])),⟨.slice (M.length+5) 0 0 none,none,[.kO,.cells true 32 []]⟩),(54,[.slice (M.length+5) 0 0 none],(fun _=>True),⟨.tuple [],none,[]⟩),(14,[vA v],(fun _=>True),⟨.int .i64 0,none,[]⟩)]:=⟨_,rfl⟩
  have hO:kP prog (cw L):=gH fun y hy N hp=>by
   rw[hL] at hy;simp only[List.mem_cons,List.not_mem_nil,or_false] at hy;rcases hy with rfl | rfl | rfl | rfl
   ·subst hp
    exact af (by simpa using im (H.more _) hd (oL hv (by decide)))
   ·subst hp
    have:=Q2 (M:=M++(B++[.kO])) (b:=M.length+3) (by rw[hB,dC];rfl);have hl:List.length (M++(B++[.kO]):Mem)+1=M.length+5:=by rw[hB];simp
    rw[hl] at this;exact af this
   ·exact af (by simpa using CD (N:=N) (b:=M.length+5) (k:=0) (by decide))
   ·exact af (by simpa using Zf N)
  have e1:cw L (.fn 29) [.agg (aP s p t q cs.length),vA v] (M++B)=some ⟨.int .i64 0,none,[]⟩:=by rw[hL];exact bl rfl
  have e2:cw L (.fn 53) [.slice (M.length+3) 0 0 none] (M++(B++[.kO]))=some ⟨.slice (M.length+5) 0 0 none,none,[.kO,.cells true 32 []]⟩:=by rw[hL,aC (.inl (by decide))];exact bl rfl
  have e3:∀N,cw L (.fn 54) [.slice (M.length+5) 0 0 none] N=some ⟨.tuple [],none,[]⟩:=fun N=>by rw[hL,aC (.inl (by decide)),aC (.inl (by decide))];exact bl trivial
  have e5:∀N,cw L (.fn 14) [vA v] N=some ⟨.int .i64 0,none,[]⟩:=fun N=>by rw[hL,aC (.inl (by decide)),aC (.inl (by decide)),aC (.inl (by decide))];exact bl trivial
  rw[hB] at e1 e2;obtain⟨new,h⟩:=Je (O:=cw L) (M:=M) aF rfl rfl (iW q cs.length) X9 (by omega) (by omega) Zh H.flat e1 e2 e3 e5;exact kF.forget rfl (aO ae (aq _) hO (au _) h)
theorem D8(h3:cs.length≤3)(hwl:ws.length=cs.length)(hw:∀(i:Nat) c w,cs[i]? =some c→ws[i]? =some w→w.Ok s∧c=w.con c.nm)(aF:Bool){i:Nat}(hv:plL aF (if aF then (ws.drop i).reverse else ws.drop i) v)(hi:i≤cs.length):
  kF prog 31 [.agg (aP s p t q cs.length),vA v,.int .i64 i,.bool aF] M (.tuple [vA (mvL aF (if aF then (ws.drop i).reverse else ws.drop i) v),.int .i64 0]) M:=by
 have hk:cs.length=i∨cs.length=i+1∨cs.length=i+2∨cs.length=i+3:=by omega
 rcases hk with hk | hk | hk | hk
 ·have:ws.drop i=[]:=List.drop_of_length_le (by omega)
  rw[this] at hv ⊢;rw[←hk];cases aF
  ·exact CY H hd false hv
  ·exact CY H hd true hv
 ·obtain⟨u0,y0,hd0⟩:=Fa (l:=ws) (i:=i) (by omega)
  obtain⟨f0,i0,hD⟩:=H.agF hk;rw[hd0] at hv ⊢;cases aF
  ·exact CZ H hd hw false hk i0 y0 hv hD
  ·exact CZ H hd hw true hk i0 y0 hv hD
 ·obtain⟨u0,u1,y0,y1,hd0⟩:=Fb (l:=ws) (i:=i) (by omega)
  obtain⟨f0,f1,i0,i1,hD⟩:=H.ahA hk;rw[hd0] at hv ⊢;cases aF with
  |false=>exact C0 H hd hw false hk i0 y0 i1 y1 hv hD (fun h=>by cases h) (fun _=>rfl)
  |true=>exact C0 H hd hw true hk i1 y1 i0 y0 hv hD (fun _=>rfl) (fun h=>by cases h)
 ·obtain⟨u0,u1,u2,y0,y1,y2,hd0⟩:=Ni (l:=ws) (i:=i) (by omega)
  obtain⟨f0,f1,f2,i0,i1,i2,hD⟩:=H.ahB hk;rw[hd0] at hv ⊢;cases aF with
  |false=>exact C4 H hd hw false hk i0 y0 i1 y1 i2 y2 hv hD (fun h=>by cases h) (fun _=>rfl)
  |true=>exact C4 H hd hw true hk i2 y2 i1 y1 i0 y0 hv hD (fun _=>rfl) (fun h=>by cases h)
end
end
end Go.Proofs
namespace Go.Proofs
open Go.Eng
open Tryz
section
variable {s:aeE}{p t q:Nat}{evs:List (List AV)}{cs:List Evc}{M:Mem}{ws:List EvD}{v:V3}
theorem Ql{x:Int}{a1 a2 a3:List UInt8}{e:Int}(aF:Bool)(E:AV)(hE:E.kS=true)(pv tv:AV)(hp:pv.kS=true)(ht:tv.kS=true)(nm:List UInt8)(h:∀Z,kF prog 31 [.agg [pv,tv,.str nm,E],vA v,.int .i64 x,.bool aF] (M++Z) (.tuple [.agg [.str a1,.str a2,.str a3],.int .i64 e]) (M++Z)):
  kF prog (if aF then 12 else 13) [.agg [pv,tv,.str nm,E],vA v,.int .i64 x] M (.tuple [.agg [.str a1,.str a2,.str a3],.int .i64 e]) M:=by
 have hO:kP prog (gq 31 [.agg [pv,tv,.str nm,E],vA v,.int .i64 x,.bool aF] (.tuple [.agg [.str a1,.str a2,.str a3],.int .i64 e]) (fun N=>∃Z,N=M++Z)):=ic fun N ⟨Z,hZ⟩=>by subst hZ;exact h Z
 clear h;have YO:∀s,(AV.str s).kS=true:=fun _=>rfl
 cases aF with
 |true=>
  have hG:aT prog 12=some f12:=by kernel_rfl
  have h:ad (aM prog) (fun _=>[]) (aT prog) (gq 31 [.agg [pv,tv,.str nm,E],vA v,.int .i64 x,.bool true] (.tuple [.agg [.str a1,.str a2,.str a3],.int .i64 e]) (fun N=>∃Z,N=M++Z)) 1 12 [.agg [pv,tv,.str nm,E],vA v,.int .i64 x] M=some ⟨.tuple [.agg [.str a1,.str a2,.str a3],.int .i64 e],none,[]⟩:=by clear hO;simp[-AV.kS,YO,ad,hG,f12,gq,vA]
  have:=(ak ae (aq _) hO (au _) h).1;simpa [HS.mem] using this
 |false=>
  have hG:aT prog 13=some f13:=by kernel_rfl
  have h:ad (aM prog) (fun _=>[]) (aT prog) (gq 31 [.agg [pv,tv,.str nm,E],vA v,.int .i64 x,.bool false] (.tuple [.agg [.str a1,.str a2,.str a3],.int .i64 e]) (fun N=>∃Z,N=M++Z)) 1 13 [.agg [pv,tv,.str nm,E],vA v,.int .i64 x] M=some ⟨.tuple [.agg [.str a1,.str a2,.str a3],.int .i64 e],none,[]⟩:=by clear hO;simp[-AV.kS,YO,ad,hG,f13,gq,vA]
  have:=(ak ae (aq _) hO (au _) h).1;simpa [HS.mem] using this
noncomputable def mvI(ws:List EvD) (aF:Bool) (i:Nat) (v:V3):V3:=mvL aF (if aF then (ws.drop i).reverse else ws.drop i) v
theorem xU(H:ae2 s p t q evs cs M)(hd:uT [ar] (cs.map unE)=false)(h3:cs.length≤3)(hwl:ws.length=cs.length)(hw:∀(i:Nat) c w,cs[i]? =some c→ws[i]? =some w→w.Ok s∧c=w.con c.nm)(aF:Bool){i:Nat}(hv:plL aF (if aF then (ws.drop i).reverse else ws.drop i) v)(hi:i≤cs.length):
  kF prog (if aF then 12 else 13) [.agg (aP s p t q cs.length),vA v,.int .i64 i] M (.tuple [vA (mvI ws aF i v),.int .i64 0]) M:=
 Ql aF _ (iW _ _) _ _ rfl rfl ar fun Z=>D8 (H.more Z) hd h3 hwl hw aF hv hi
end
theorem Uz(n:Int)(d:Nat)(hd:d=2∨d=4)(hn:n.natAbs≤142):n.natAbs.gcd d=1∨(Tl n (n.natAbs.gcd d)∧Tl d (n.natAbs.gcd d)):=by
 have hdv:n.natAbs.gcd d∣d:=Nat.gcd_dvd_right _ _;have hdn:n.natAbs.gcd d∣n.natAbs:=Nat.gcd_dvd_left _ _;obtain⟨g,hg⟩:∃g,g=n.natAbs.gcd d:=⟨_,rfl⟩
 rw[←hg] at hdv hdn ⊢;have hgl:g≤4:=by have:=Nat.le_of_dvd (by omega) hdv;omega
 have g0:0<g:=Nat.pos_of_dvd_of_pos hdv (by omega);have hc:g=1∨g=2∨g=3∨g=4:=by omega
 rcases hc with rfl | rfl | rfl | rfl
 ·exact .inl rfl
 ·refine .inr ⟨.inl ⟨rfl,by omega,by omega,by omega⟩,.inl ⟨rfl,by omega,by omega,by omega⟩⟩
 ·rcases hd with rfl | rfl<;>omega
 ·refine .inr ⟨.inr (.inl ⟨rfl,by omega,by omega,by omega⟩),.inr (.inl ⟨rfl,by omega,by omega,by omega⟩)⟩
def plP(s:aeE) (x y:Int):P2:=(mkRat (x+s.sx.tmod 8*2) (if s.half then 4 else 2),mkRat (y+s.sy.tmod 8*2) (if s.half then 4 else 2))
open Classical in
noncomputable def EH(f:FuncId) (args:List AV):Option AV:=
 match f,args with
 |56,[.int .i64 n,.int .i64 d]=>if (d=2∨d=4)∧n.natAbs≤142 then some (.tuple [.str (aw (mkRat n d.toNat)),.int .i64 0]) else none
 |_,_=>none
theorem LW:kP prog (ag EH):=bK fun f args v h mem=>by
 unfold EH at h;split at h
 ·rename_i n d
  split at h
  ·rename_i hc
   cases h;have:=Qp n d.toNat (by omega) (by omega) (by omega) (Uz n d.toNat (by omega) hc.2) mem
   rwa [Int.toNat_of_nonneg (by omega)] at this
  ·cases h
 ·cases h
theorem DZ(s:aeE)(x y:Int)(hx:yY x)(hy:yY y)(M:Mem):
  kF prog 33 [s.av,.agg [.int .i8 x,.int .i8 y],.int .i64 2] M (pA (plP s x y)) M:=by
 have hG:aT prog 33=some f33:=by kernel_rfl
 obtain⟨kd,sx,sy,hf⟩:=s;have q1:=CA sx;have q2:=CA sy;unfold yY at hx hy;unfold aeE.av plP;simp only;obtain⟨u,hu⟩:∃u,u=sx.tmod 8:=⟨_,rfl⟩
 obtain⟨v,hv⟩:∃u,u=sy.tmod 8:=⟨_,rfl⟩
 rw[←hu] at q1 ⊢;rw[←hv] at q2 ⊢;refine az LW (lv:=fun _=>[]) (K:=1) rfl rfl ?_ M;have wx:IntKind.i64.wrap x=x:=dA (by omega) (by omega);have wy:IntKind.i64.wrap y=y:=dA (by omega) (by omega);have wu:IntKind.i64.wrap u=u:=dA (by omega) (by omega);have wv:IntKind.i64.wrap v=v:=dA (by omega) (by omega);have wu2:IntKind.i64.wrap (u*2)=u*2:=dA (by omega) (by omega);have wv2:IntKind.i64.wrap (v*2)=v*2:=dA (by omega) (by omega);have a1:IntKind.i64.wrap (x+u*2)=x+u*2:=dA (by omega) (by omega);have a2:IntKind.i64.wrap (y+v*2)=y+v*2:=dA (by omega) (by omega);have b1:IntKind.i64.wrap 1=1:=rfl;have b2:IntKind.i64.wrap 2=2:=rfl;have b4:IntKind.i64.wrap 4=4:=rfl;have f1:(x+u*2).natAbs≤142:=by omega
 have f2:(y+v*2).natAbs≤142:=by omega
 cases hf<;>simp[ad,hG,f33,ag,EH,←hu,←hv,wx,wy,wu,wv,wu2,wv2,a1,a2,b2,b4,f1,f2,cM,aR,pA]
end Go.Proofs
namespace Go.Proofs
open Go.Eng
open Tryz
def plV(s:aeE) (x:Z3):V3:=((plP s x.1 x.2.1).1,(plP s x.1 x.2.1).2,mkRat x.2.2 2)
def z8(x:Z3):Prop:=yY x.1∧yY x.2.1∧yY x.2.2
def zB(x:Z3):AV:=.agg [.int .i8 x.1,.int .i8 x.2.1,.int .i8 x.2.2]
section
variable (s:aeE)(x:Z3)(hx:z8 x)
include s x hx
theorem W1:plK 0 (plV s x):=by
 obtain⟨h1,h2,h3⟩:=hx;unfold yY at h1 h2 h3;have q1:=CA s.sx;have q2:=CA s.sy;have key:∀n:Int,n.natAbs≤142→Sm 4 71 (mkRat n (if s.half then 4 else 2)):=fun n hn=>by
  cases s.half
  ·exact(DR (V:=71) (by decide) (by simp;omega)).to (by decide) (by decide) (Nat.le_refl 71)
  ·exact DR (by decide) (by simp;omega)
 exact⟨4,Nat.le_refl _,key _ (by omega),key _ (by omega),(DR (n:=x.2.2) (d:=2) (V:=71) (by decide) (by omega)).to (by decide) (by decide) (Nat.le_refl 71)⟩
theorem xa(a:AV)(m:Mem)(ha:(a=.kK∧m=[])∨∃n,a=.slice 0 0 n none∧m=[.kO]):
  kF prog 16 [iA s a,zB x] m (vA (plV s x)) m:=by
 have hG:aT prog 16=some f16:=by kernel_rfl
 obtain⟨x1,x2,x3⟩:=x;obtain⟨h1,h2,h3⟩:=hx;have h3' :=h3;unfold yY at h3';simp only at h1 h2 h3';have hO:kP prog (adM.or (ag (cK [(33,[s.av,.agg [.int .i8 x1,.int .i8 x2],.int .i64 2],pA (plP s x1 x2))])) (ag iL)):=kP.or (fa fun e he M=>by rw[List.mem_singleton] at he;rw[he];exact DZ s x1 x2 h1 h2 M) nY
 obtain⟨o1,FS⟩:∃o1,aG f16=[o1]:=⟨_,rfl⟩
 have hb1:=dw FS (l:=[0,1,0,4,0,16,48,112,255,511]) (by kernel_rfl);have j1:aX [0,1,0,4,0,16,48,112,255,511] 9=true:=by decide
 simp[aG,bF,f16] at FS;subst FS;have wz:IntKind.i64.wrap x3=x3:=dA (by omega) (by omega);have f3:x3.natAbs<100000000:=by omega
 unfold plV;simp only;obtain⟨q,hq⟩:∃q,q=plP s x1 x2:=⟨_,rfl⟩
 rw[←hq] at hO ⊢;have h:ad (aM prog) (fun _=>[]) (aT prog) (adM.or (ag (cK [(33,[s.av,.agg [.int .i8 x1,.int .i8 x2],.int .i64 2],pA q)])) (ag iL)) 1 16 [iA s a,zB (x1,x2,x3)] m=some ⟨vA (q.1,q.2,mkRat x3 2),none,[]⟩:=by clear hO;rcases ha with⟨rfl,rfl⟩ | ⟨n,rfl,rfl⟩<;>simp[ad,hG,f16,adM.or,cK,ag,iL,iA,zB,aeE.av,pA,vA,wz,f3,cM,aR,-aE,aj hb1,bn,bf,bm,j1,Nat.testBit]
 have:=(ak ae (aq _) hO (au _) h).1;simpa [HS.mem] using this
theorem Gi(a:AV)(M:Mem)(ha:a=.kK∨∃b n,a=.slice b 0 n none∧b<M.length):
  kF prog 16 [iA s a,zB x] M (vA (plV s x)) M:=by
 rcases ha with rfl | ⟨b,n,rfl,hb⟩
 ·exact kF.lift rfl rfl (xa s x hx .kK [] (.inl ⟨rfl,rfl⟩)) M
 ·have:=kF.frame (M:=M) (new:=[]) [b] rfl (by simpa using hb) (by rfl) (fun i t hs=>by
   match i with
   |0=>simp at hs;subst hs;trivial
   |i+1=>simp at hs) rfl (xa s x hx (.slice 0 0 n none) [.kO] (.inr ⟨n,rfl,rfl⟩))
  simpa [iA,zB,vA,AV.aeM,AV.ren,aF] using this
end
end Go.Proofs
