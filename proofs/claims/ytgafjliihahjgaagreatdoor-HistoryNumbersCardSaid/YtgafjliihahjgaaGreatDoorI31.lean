/- See I36. -/
import Derived.Test.YtgafjliihahjgaaGreatDoorI30
set_option linter.all false
set_option maxRecDepth 100000
set_option maxHeartbeats 40000000
namespace Go.Proofs
open Go.Eng
open Tryz
theorem ahN:aS prog 54=some f54:=by kernel_rfl
variable{N:Mem}{b:Nat}{e0 e1:List AV}
theorem Re(H:e0.length=32)(I:e1.length=32)(Q:∀x∈e0,x.af2=true)(R:∀x∈e1,x.af2=true)(Y:AV.af7 (fun b=>decide (b<N.length)) e0=true)(r1:AV.af7 (fun b=>decide (b<N.length)) e1=true)(y:N[b]? =some (.cells true 32 (e0++e1))):
  kO prog 54 [.slice b 0 2 none] N (.tuple []) (N.set b (.cells true 32 (e1++e0))):=by
 obtain⟨J,Z⟩:∃W,aN f54=[W]:=⟨_,rfl⟩
 have X:=jm Z (l:=[0,0,0,0,0,0,48,112,0,0,768,1792,4083,8179,16383,32767]) (by kernel_rfl);simp[aN,cj,f54] at Z;subst Z;have V:=gL y;have S:∀s,(N.set b s).drop N.length=[]:=fun s=>Mp (by rw[X3];exact L9 _)
 have O:e0.all AV.af2=true:=List.all_eq_true.2 Q;have t0:e0.take 32=e0:=GE (by omega);have d0:e0.drop 32=[]:=Mp (by omega);have G:e0.drop 64=[]:=Mp (by omega);have F:e0.drop 96=[]:=Mp (by omega);have D:e0.take 64=e0:=GE (by omega);have M:e1.all AV.af2=true:=List.all_eq_true.2 R;have t1:e1.take 32=e1:=GE (by omega);have d1:e1.drop 32=[]:=Mp (by omega);have K:e1.drop 64=[]:=Mp (by omega);have C:e1.drop 96=[]:=Mp (by omega);have B:e1.take 64=e1:=GE (by omega);have h:bO (aU prog) (fun _=>[2,3]) (aS prog) bD 4 54 [.slice b 0 2 none] N=some (.tuple [],N.set b (.cells true 32 (e1++e0))):=by simp[-getElem?_pos,-AV.af2,-AV.known,-AV.cells,-cG,-bJ,-bm,-aJ,-AV.afF,-af6.afF,-List.all_eq_true,vS,rS,mS,bN X,fC,fj,jn,fA,dm,od,bef,Nat.testBit,bO,ahN,f54,aR,fW,y,V,S,w0,w1,H,O,Y,I,M,t1,d1,K,r1,List.take_append,List.drop_append,jq,eP]
 exact bl ae (al _) (aj _) (ao _) h
theorem Rf{y:List AV}(I:e0.length=32)(Q:e1.length=32)(R:y.length=32)(Y:∀x∈e0,x.af2=true)(c1:∀x∈e1,x.af2=true)(c2:∀x∈y,x.af2=true)(r0:AV.af7 (fun b=>decide (b<N.length)) e0=true)(r1:AV.af7 (fun b=>decide (b<N.length)) e1=true)(r2:AV.af7 (fun b=>decide (b<N.length)) y=true)(H:N[b]? =some (.cells true 32 (e0++(e1++y)))):
  kO prog 54 [.slice b 0 3 none] N (.tuple []) (N.set b (.cells true 32 (y++(e1++e0)))):=by
 obtain⟨F,Z⟩:∃W,aN f54=[W]:=⟨_,rfl⟩
 have X:=jm Z (l:=[0,0,0,0,0,0,48,112,0,0,768,1792,4083,8179,16383,32767]) (by kernel_rfl);simp[aN,cj,f54] at Z;subst Z;have V:=gL H;have S:∀s,(N.set b s).drop N.length=[]:=fun s=>Mp (by rw[X3];exact L9 _)
 have O:e0.all AV.af2=true:=List.all_eq_true.2 Y;have t0:e0.take 32=e0:=GE (by omega);have d0:e0.drop 32=[]:=Mp (by omega);have M:e0.drop 64=[]:=Mp (by omega);have D:e0.drop 96=[]:=Mp (by omega);have C:e0.take 64=e0:=GE (by omega);have B:e1.all AV.af2=true:=List.all_eq_true.2 c1;have t1:e1.take 32=e1:=GE (by omega);have d1:e1.drop 32=[]:=Mp (by omega);have K:e1.drop 64=[]:=Mp (by omega);have A:e1.drop 96=[]:=Mp (by omega);have z:e1.take 64=e1:=GE (by omega);have J:y.all AV.af2=true:=List.all_eq_true.2 c2;have t2:y.take 32=y:=GE (by omega);have d2:y.drop 32=[]:=Mp (by omega);have u:y.drop 64=[]:=Mp (by omega);have y2:y.drop 96=[]:=Mp (by omega);have G:y.take 64=y:=GE (by omega);have h:bO (aU prog) (fun _=>[2,3]) (aS prog) bD 4 54 [.slice b 0 3 none] N=some (.tuple [],N.set b (.cells true 32 (y++(e1++e0)))):=by simp[-getElem?_pos,-AV.af2,-AV.known,-AV.cells,-cG,-bJ,-bm,-aJ,-AV.afF,-af6.afF,-List.all_eq_true,vS,rS,mS,bN X,fC,fj,jn,fA,dm,od,bef,Nat.testBit,bO,ahN,f54,aR,fW,H,V,S,w1,w2,I,O,M,r0,Q,K,r1,R,J,t2,d2,y2,G,r2,List.take_append,List.drop_append,jq,eP]
 exact bl ae (al _) (aj _) (ao _) h
theorem aie:aS prog 53=some f53:=by kernel_rfl
variable{C:List AV}{k:Nat}{o:Bool}
theorem Hn{M:Mem}{i:Nat}(y:M[b]? =some (.cells o 32 C))(I:i*32+k*32<=C.length)(hk:0<k)(Q:k<=1000)(H:C.all AV.af2=true):
  kO prog 53 [.slice b (i*32) k none] M (.slice (M.length+1) 0 k none) (M++[.HS,.cells true 32 ((C.drop (i*32)).take (k*32))]):=by
 have K:=gL y;have W :∀Z,(M++Z)[b]? =some (.cells o 32 C):=fun Z=>gU y _
 have V:k*504<=140737488355328:=by omega
 have S:k<=140737488355328:=by omega
 have X :((C.drop (i*32)).take (k*32)).all AV.af2=true:=by rw[List.all_eq_true] at H |-;exact fun x O=>H x (List.mem_of_mem_drop (List.mem_of_mem_take O))
 have h:bO (aU prog) (fun _=>[]) (aS prog) bD 1 53 [.slice b (i*32) k none] M=some (.slice (M.length+1) 0 k none,M++[.HS,.cells true 32 ((C.drop (i*32)).take (k*32))]):=by simp[-List.all_eq_true,-AV.af2,bO,aie,f53,R7,W,I,V,S,X]
 exact bl ae (al _) (aj _) (ao _) h
theorem Fg(hk:k<=1):kO prog 54 [.slice b 0 k none] N (.tuple []) N:=by
 have w1:IntKind.i64.wrap (-1)= -1:=rfl;refine dx (lv:=(fun _=>[2,3])) (K:=4) (aj _) ?_;have:k=0\/k=1:=by omega
 rcases this with rfl | rfl<;>simp[aa,ahN,f54,aR,fW,w0,w1]
variable{D f0 f1:List AV}{p1 p2:V3}
section
variable {O:af3}{M:Mem}{pv tv ev:AV}{nm:List UInt8}{n i q:Nat}{p:V3}
theorem ahi:aS prog 31=some f31:=by kernel_rfl
theorem LN{D:List AV}(y:Bool)(c1:pv.af2=true)(c2:tv.af2=true)(c3:ev.af2=true)(H:ev=.slice q 0 n none)(hn:n=i+1)(R:n<=1000)(hq:∀Z,(M++Z)[q]? =some (.cells o 32 C))(Y:n*32<=C.length)(e1:O (.fn 29) [.agg [pv,tv,.str nm,ev],vA p] (M++[.cells true 0 [pv,tv,.str nm,ev],.cells true 0 (vL p),.cells true 0 [.str [],.str [],.str []]])=some ⟨.int .i64 0,none,[]⟩)(I:O (.fn 53) [.slice q (i*32) 1 none] (M++[.cells true 0 [pv,tv,.str nm,ev],.cells true 0 (vL p),.cells true 0 [.str [],.str [],.str []]])=some ⟨.slice (M.length+4) 0 1 none,none,[.HS,.cells true 32 f0]⟩)(e3:∀N,O (.fn 54) [.slice (M.length+4) 0 1 none] N=some ⟨.tuple [],none,[]⟩)(m0:∀X:Mem,X.length=6->O (.fn 52) [.agg f0,vA p,.bool y] (M++X)=some ⟨vA p1,none,[]⟩)(Q:∀N,O (.fn 14) [vA p1] N=some ⟨.int .i64 0,none,[]⟩)(l0:f0.length=32)(g0:f0.all AV.af2=true):
  ∃W,bO (aU prog) (fun _=>[41,41,41]) (aS prog) O 5 31 [.agg [pv,tv,.str nm,ev],vA p,.int .i64 i,.bool y] M=some (.tuple [vA p1,.int .i64 0],M++W):=by
 have V:∀j,(M.length+j<M.length)=False:=fun j=>gN _ _
 have t0:f0.take 32=f0:=GE (by omega);have S:¬(n:Int)<(i:Int):=by omega
 have K:¬(i:Int)<0:=by omega
 have J:i<=n:=by omega
 have G:n-i=1:=by omega
 have B:¬i=n:=by omega
 have F:i<n:=by omega
 subst H;unfold vA at e1 m0 Q |-;unfold vL at e1 I;refine⟨[.cells true 0 [pv,tv,.str nm,.slice q 0 n none],.cells true 0 (vL p1),.cells true 0 (vL p1),.HS,.cells true 32 f0,.cells true 0 f0],?_⟩;cases y<;>simp[-getElem?_pos,-AV.af2,-AV.known,-AV.cells,-cG,-List.all_eq_true,vS,mS,bO,ahi,f31,aR,fW,vL,hq,Y,e1,I,e3,m0,Q,l0,g0,t0,V,w1,S,K,J,G,F]
theorem LO(y:Bool)(c1:pv.af2=true)(c2:tv.af2=true)(c3:ev.af2=true)(I:ev=.slice q 0 n none)(hn:n=i+2)(hn2:n<=1000)(hq:∀Z,(M++Z)[q]? =some (.cells o 32 C))(hC:n*32<=C.length)(e1:O (.fn 29) [.agg [pv,tv,.str nm,ev],vA p] (M++[.cells true 0 [pv,tv,.str nm,ev],.cells true 0 (vL p),.cells true 0 [.str [],.str [],.str []]])=some ⟨.int .i64 0,none,[]⟩)(Q:O (.fn 53) [.slice q (i*32) 2 none] (M++[.cells true 0 [pv,tv,.str nm,ev],.cells true 0 (vL p),.cells true 0 [.str [],.str [],.str []]])=some ⟨.slice (M.length+4) 0 2 none,none,[.HS,.cells true 32 D]⟩)(H:y=true->O (.fn 54) [.slice (M.length+4) 0 2 none] (M++[.cells true 0 [pv,tv,.str nm,ev],.cells true 0 (vL p),.cells true 0 [.str [],.str [],.str []],.HS,.cells true 32 D])=some ⟨.tuple [],some (M++[.cells true 0 [pv,tv,.str nm,ev],.cells true 0 (vL p),.cells true 0 [.str [],.str [],.str []],.HS,.cells true 32 (f0++f1)]),[]⟩)(R:y=false->D=f0++f1)(m0:∀X:Mem,X.length=6->O (.fn 52) [.agg f0,vA p,.bool y] (M++X)=some ⟨vA p1,none,[]⟩)(m1:∀X:Mem,X.length=7->O (.fn 52) [.agg f1,vA p1,.bool y] (M++X)=some ⟨vA p2,none,[]⟩)(Y:∀N,O (.fn 14) [vA p2] N=some ⟨.int .i64 0,none,[]⟩)(l0:f0.length=32)(g0:f0.all AV.af2=true)(l1:f1.length=32)(g1:f1.all AV.af2=true):
  ∃V,bO (aU prog) (fun _=>[41,41,41]) (aS prog) O 5 31 [.agg [pv,tv,.str nm,ev],vA p,.int .i64 i,.bool y] M=some (.tuple [vA p2,.int .i64 0],M++V):=by
 have W:∀j,(M.length+j<M.length)=False:=fun j=>gN _ _
 have t0:f0.take 32=f0:=GE (by omega);have d0:f0.drop 32=[]:=Mp (by omega);have A:f0.drop 64=[]:=Mp (by omega);have t1:f1.take 32=f1:=GE (by omega);have d1:f1.drop 32=[]:=Mp (by omega);have z:f1.drop 64=[]:=Mp (by omega);have S:¬(n:Int)<(i:Int):=by omega
 have K:¬(i:Int)<0:=by omega
 have J:i<=n:=by omega
 have G:n-i=2:=by omega
 have u:¬i=n:=by omega
 have F:i<n:=by omega
 subst I;unfold vA at e1 m0 m1 Y |-;unfold vL at e1 Q H;refine⟨[.cells true 0 [pv,tv,.str nm,.slice q 0 n none],.cells true 0 (vL p2),.cells true 0 (vL p2),.HS,.cells true 32 (f0++f1),.cells true 0 f0,.cells true 0 f1],?_⟩;cases y with
 |false=>
  obtain rfl:=R rfl;clear H R;simp[-getElem?_pos,-AV.af2,-AV.known,-AV.cells,-cG,-List.all_eq_true,vS,mS,bO,ahi,f31,aR,fW,vL,hq,hC,e1,Q,Y,m0,l0,g0,t0,m1,l1,g1,t1,List.drop_append,W,w1,w2,S,K,J,G,F]
 |true=>
  have B:=H rfl;clear H R;simp[-getElem?_pos,-AV.af2,-AV.known,-AV.cells,-cG,-List.all_eq_true,vS,mS,bO,ahi,f31,aR,fW,vL,hq,hC,e1,Q,B,Y,m0,l0,g0,t0,m1,l1,g1,t1,List.drop_append,W,w1,w2,S,K,J,G,F]
theorem LP{f2:List AV}{H:V3}(y:Bool)(c1:pv.af2=true)(c2:tv.af2=true)(c3:ev.af2=true)(Q:ev=.slice q 0 n none)(hn:n=i+3)(hn2:n<=1000)(hq:∀Z,(M++Z)[q]? =some (.cells o 32 C))(hC:n*32<=C.length)(e1:O (.fn 29) [.agg [pv,tv,.str nm,ev],vA p] (M++[.cells true 0 [pv,tv,.str nm,ev],.cells true 0 (vL p),.cells true 0 [.str [],.str [],.str []]])=some ⟨.int .i64 0,none,[]⟩)(R:O (.fn 53) [.slice q (i*32) 3 none] (M++[.cells true 0 [pv,tv,.str nm,ev],.cells true 0 (vL p),.cells true 0 [.str [],.str [],.str []]])=some ⟨.slice (M.length+4) 0 3 none,none,[.HS,.cells true 32 D]⟩)(I:y=true->O (.fn 54) [.slice (M.length+4) 0 3 none] (M++[.cells true 0 [pv,tv,.str nm,ev],.cells true 0 (vL p),.cells true 0 [.str [],.str [],.str []],.HS,.cells true 32 D])=some ⟨.tuple [],some (M++[.cells true 0 [pv,tv,.str nm,ev],.cells true 0 (vL p),.cells true 0 [.str [],.str [],.str []],.HS,.cells true 32 (f0++(f1++f2))]),[]⟩)(Y:y=false->D=f0++(f1++f2))(m0:∀X:Mem,X.length=6->O (.fn 52) [.agg f0,vA p,.bool y] (M++X)=some ⟨vA p1,none,[]⟩)(m1:∀X:Mem,X.length=7->O (.fn 52) [.agg f1,vA p1,.bool y] (M++X)=some ⟨vA p2,none,[]⟩)(m2:∀X:Mem,X.length=8->O (.fn 52) [.agg f2,vA p2,.bool y] (M++X)=some ⟨vA H,none,[]⟩)(e5:∀N,O (.fn 14) [vA H] N=some ⟨.int .i64 0,none,[]⟩)(l0:f0.length=32)(g0:f0.all AV.af2=true)(l1:f1.length=32)(g1:f1.all AV.af2=true)(l2:f2.length=32)(g2:f2.all AV.af2=true):
  ∃V,bO (aU prog) (fun _=>[41,41,41]) (aS prog) O 5 31 [.agg [pv,tv,.str nm,ev],vA p,.int .i64 i,.bool y] M=some (.tuple [vA H,.int .i64 0],M++V):=by
 have W:∀j,(M.length+j<M.length)=False:=fun j=>gN _ _
 have t0:f0.take 32=f0:=GE (by omega);have d0:f0.drop 32=[]:=Mp (by omega);have S:f0.drop 64=[]:=Mp (by omega);have t1:f1.take 32=f1:=GE (by omega);have d1:f1.drop 32=[]:=Mp (by omega);have z:f1.drop 64=[]:=Mp (by omega);have t2:f2.take 32=f2:=GE (by omega);have d2:f2.drop 32=[]:=Mp (by omega);have u:f2.drop 64=[]:=Mp (by omega);have K:¬(n:Int)<(i:Int):=by omega
 have J:¬(i:Int)<0:=by omega
 have G:i<=n:=by omega
 have F:n-i=3:=by omega
 have m:¬i=n:=by omega
 have B:i<n:=by omega
 subst Q;unfold vA at e1 m0 m1 m2 e5 |-;unfold vL at e1 R I;refine⟨[.cells true 0 [pv,tv,.str nm,.slice q 0 n none],.cells true 0 (vL H),.cells true 0 (vL H),.HS,.cells true 32 (f0++(f1++f2)),.cells true 0 f0,.cells true 0 f1,.cells true 0 f2],?_⟩;cases y with
 |false=>
  obtain rfl:=Y rfl;clear I Y;simp[-getElem?_pos,-AV.af2,-AV.known,-AV.cells,-cG,-List.all_eq_true,vS,mS,bO,ahi,f31,aR,fW,vL,hq,hC,e1,R,e5,m0,l0,g0,t0,S,m1,l1,g1,t1,m2,l2,g2,t2,List.drop_append,W,w1,w2,w3,K,J,G,F,B]
 |true=>
  have A:=I rfl;clear I Y;simp[-getElem?_pos,-AV.af2,-AV.known,-AV.cells,-cG,-List.all_eq_true,vS,mS,bO,ahi,f31,aR,fW,vL,hq,hC,e1,R,A,e5,m0,l0,g0,t0,S,m1,l1,g1,t1,m2,l2,g2,t2,List.drop_append,W,w1,w2,w3,K,J,G,F,B]
section
variable (bck:Bool)(c1:pv.af2=true)(c2:tv.af2=true)
include bck c1 c2
theorem LQ(y:ev=.y9)(e1:O (.fn 29) [.agg [pv,tv,.str nm,ev],vA p] (M++[.cells true 0 [pv,tv,.str nm,ev],.cells true 0 (vL p),.cells true 0 [.str [],.str [],.str []]])=some ⟨.int .i64 0,none,[]⟩)(I:∀N,O (.fn 53) [.y9] N=some ⟨.y9,none,[]⟩)(Q:∀N,O (.fn 54) [.y9] N=some ⟨.tuple [],none,[]⟩)(H:∀N,O (.fn 14) [vA p] N=some ⟨.int .i64 0,none,[]⟩):
  ∃Z,bO (aU prog) (fun _=>[41,41,41]) (aS prog) O 5 31 [.agg [pv,tv,.str nm,ev],vA p,.int .i64 0,.bool bck] M=some (.tuple [vA p,.int .i64 0],M++Z):=by
 have X:∀j,(M.length+j<M.length)=False:=fun j=>gN _ _
 subst y;unfold vA at e1 H |-;unfold vL at e1;refine⟨[.cells true 0 [pv,tv,.str nm,.y9],.cells true 0 (vL p),.cells true 0 (vL p)],?_⟩;cases bck<;>simp[-getElem?_pos,-AV.af2,-AV.known,-AV.cells,-cG,-List.all_eq_true,vS,mS,bO,ahi,f31,aR,fW,vL,e1,I,Q,H,X]
end
end
end Go.Proofs
namespace Go.Proofs
open Go.Eng
open Tryz
open Classical in
noncomputable def cX:List (FuncId×List AV×(Mem->Prop)×afA)->af3
 | [],_,_,_=>none
 |x::L,c,args,M=>if c=.fn x.1/\args=x.2.1/\x.2.2.1 M then some x.2.2.2 else cX L c args M
variable{L:List (FuncId×List AV×(Mem->Prop)×afA)}
theorem iM{P:Program}(h:∀x∈L,∀M,x.2.2.1 M->mu P (.fn x.1) x.2.1 M x.2.2.2):adM P (cX L):=cP fun c a M r Z=>by
 induction L with
 |nil=>simp[cX] at Z
 |cons x L ih=>
  rw[cX] at Z;split at Z
  .rename_i hc
   obtain⟨rfl,rfl,X⟩:=hc;cases Z;exact h x (by simp) M X
  .exact ih (fun y W=>h y (by simp[W])) Z
variable{f:FuncId}{m:Mem}{r:afA}
theorem bo{a:List AV}{p:Mem->Prop}(h:p m):cX ((f,a,p,r)::L) (.fn f) a m=some r:=by rw[cX,if_pos ⟨rfl,rfl,h⟩]
variable{g:FuncId}
theorem aO{a b:List AV}{p:Mem->Prop}(h:f≠g\/¬p m):cX ((f,a,p,r)::L) (.fn g) b m=cX L (.fn g) b m:=by rw[cX,if_neg (fun e=>h.elim (fun h=>h (by have:=e.1;cases this;rfl)) fun h=>h e.2.2)]
theorem sJ{b:List AV}{x1 x2 x3 y:FuncId×List AV×(Mem->Prop)×afA}(h:x1.1≠g/\x2.1≠g/\x3.1≠g/\y.1≠g):cX (x1::x2::x3::y::L) (.fn g) b m=cX L (.fn g) b m:=
 (aO (.inl h.1)).trans ((aO (.inl h.2.1)).trans ((aO (.inl h.2.2.1)).trans (aO (.inl h.2.2.2))))
noncomputable def mvL(y:Bool):List EvD->V3->V3
 | [],p=>p
 |w::l,p=>mvL y l (w.mv y p)
def dnK:Nat->Nat
 |0=>10 ^ 60
 |k+1=>5*dnK k
def vlK:Nat->Nat
 |0=>10 ^ 20
 |k+1=>2*vlK k+20
def plK(k:Nat)(p:V3):Prop:=∃D,D<=dnK k/\vSm D (vlK k) p
theorem Qr{k:Nat}(hk:k<=3):dnK k<=(10 ^ 63)/\vlK k<=(10 ^ 22):=by
 have:k=0\/k=1\/k=2\/k=3:=by omega
 rcases this with rfl | rfl | rfl | rfl<;>exact⟨by decide,by decide⟩
variable{w:EvD}
theorem Zu{s:af8}{k:Nat}{p:V3}(H:w.Ok s)(y:Bool)(h:plK k p)(hk:k<=3):plK (k+1) (w.mv y p):=by obtain⟨D,V,Z⟩:=h;obtain⟨S,X⟩:=Qr hk;obtain⟨E,O,W⟩:=Z5 H y Z (by omega) X;exact⟨E,by simp only[dnK];omega,W⟩
theorem XX{k:Nat}{p:V3}(h:plK k p)(hk:k<=3):plK 3 p:=by
 obtain⟨D,Z,X⟩:=h;have:k=0\/k=1\/k=2\/k=3:=by omega
 rcases this with rfl | rfl | rfl | rfl<;>simp only[dnK] at Z<;>exact⟨D,by simp only[dnK];omega,X.mono (by decide)⟩
def plL(y:Bool):List EvD->V3->Prop
 | [],p=>plK 3 p
 |w::l,p=>plK 3 p/\plL y l (w.mv y p)
theorem XZ{s:af8}{y:Bool}:∀{l:List EvD} {k:Nat} {p:V3},(∀w∈l,w.Ok s)->plK k p->k+l.length<=3->plL y l p
 | [],k,p,_,h,hk=>XX h (by simpa using hk)
 |w::l,k,p,hw,h,hk=>by rw[List.length_cons] at hk;exact⟨XX h (by omega),XZ (k:=k+1) (fun x Z=>hw x (by simp[Z])) (Zu (hw w (by simp)) y h (by omega)) (by omega)⟩
theorem XY{y:Bool}:∀{l:List EvD} {p:V3},plL y l p->plK 3 p
 | [],_,h=>h
 |_::_,_,h=>h.1
theorem qL{k:Nat}{p:V3}(h:plK k p)(hk:k<=3):vC p:=by obtain⟨D,W,Z⟩:=h;obtain⟨V,X⟩:=Qr hk;have:=Z.mono X;exact this.vC
variable{v:V3}
section
variable {s:af8}{p t q:Nat}{evs:List (List AV)}{cs:List Evc}{M:Mem}
section
variable (H:agX s p t q evs cs M)
include H
theorem Tryz.agX.aiV:∃Z:List EvD,Z.length=cs.length/\∀(i:Nat) c w,cs[i]? =some c->Z[i]? =some w->w.Ok s/\w.Fin/\c=w.con c.nm:=
 C4 (P:=fun _ c w=>EvD.Ok s w/\EvD.Fin w/\c=w.con c.nm) cs fun i c hc=>(H.aiv c (Lo hc)).evf
theorem Tryz.agX.aif{Q:List EvD}(R:∀(i:Nat) c w,cs[i]? =some c->Q[i]? =some w->w.Ok s/\c=w.con c.nm){i:Nat}{I:List AV}(h1:evs[i]? =some I)(h2:Q[i]? =some w)(y:Bool){k:Nat}(Y:plK k v)(hk:k<=3)(X:Mem):
  kO prog 52 [.agg I,vA v,.bool y] (M++X) (vA (w.mv y v)) (M++X):=by
 have W:=gL h1;obtain⟨c,hc⟩:∃c,cs[i]? =some c:=⟨_,GT (by rw[<-H.len];exact W)⟩
 obtain⟨V,S⟩:=R i c w hc h2;have Z:=(H.more X).con i I c h1 hc;rw[S] at Z;obtain⟨D,J,O⟩:=Y;obtain⟨G,K⟩:=Qr hk;exact II Z V y O (by omega) K
theorem jz(hd:Db [bC] (cs.map unE)=false)(y:vC v):kO prog 29 [.agg (bS s p t q cs.length),vA v] M (.int .i64 0) M:=by
 have V:aS prog 29=some f29:=by kernel_rfl
 obtain⟨S,O,h3,K⟩:=y;have X:adM prog (af3.or (fU 35 [.agg (bS s p t q cs.length)] (.int .i64 0) (fun N=>∃Z,N=M++Z)) (af dG)):=adM.or (gn fun N ⟨Z,hZ⟩=>by
  subst hZ;have:=(H.more Z).chk
  rwa [hd] at this) vN
 unfold bS at X |-;obtain⟨E,W⟩:=xE (evV q cs.length);have J:E.af2=true:=by rw[W];exact sI _ _
 rw[<-W] at X |-;have h:aa (aU prog) (fun _=>[]) (aS prog) (af3.or (fU 35 [.agg [.slice p 0 s.P.length none,.slice t 0 s.T.length none,.str bC,E]] (.int .i64 0) (fun N=>∃Z,N=M++Z)) (af dG)) 1 29 [.agg [.slice p 0 s.P.length none,.slice t 0 s.T.length none,.str bC,E],vA v] M=some ⟨.int .i64 0,none,[]⟩:=by
  clear X;have G:∀s,(AV.str s).af2=true:=fun _=>rfl
  have F:∀b o n c,(AV.slice b o n c).af2=true:=fun _ _ _ _=>rfl
  simp[-AV.af2,aa,V,f29,af3.or,fU,af,dG,vA,S,O,h3,K]
 have:=(ah ae (al _) X (ao _) h).1;simpa [afA.mem] using this
end
end
end Go.Proofs
namespace Go.Proofs
open Go.Eng
open Tryz
theorem FJ{e:List AV}(h:∀x∈e,x.af2=true):e.all AV.af2=true:=List.all_eq_true.2 h
variable{i ja jb:Nat}{u0 u1:EvD}
section
variable {s:af8}{p t q:Nat}{evs:List (List AV)}{cs:List Evc}{M:Mem}{ws:List EvD}{v:V3}
section
variable (H:agX s p t q evs cs M)(hd:Db [bC] (cs.map unE)=false)(hw:∀(i:Nat) c w,cs[i]? =some c->ws[i]? =some w->w.Ok s/\c=w.con c.nm)(bck:Bool)
include H hd hw bck
theorem FE(hn:cs.length=i+1){f0:List AV}(I:evs[ja]? =some f0)(R:ws[ja]? =some u0)(Q:plL bck [u0] v)(Y:(evs.flatten.drop (i*32)).take (1*32)=f0):
  kO prog 31 [.agg (bS s p t q cs.length),vA v,.int .i64 i,.bool bck] M (.tuple [vA (u0.mv bck v),.int .i64 0]) M:=by
 have n4:=H.small;obtain⟨o,hq⟩:=H.hq (by rintro rfl;have:=H.len;simp at this;omega);have lq:=gL hq;have V :∀Z,(M++Z)[q]? =some (.cells o 32 evs.flatten):=fun Z=>gU hq _
 have S:=H.flat
 have K:evV q cs.length=.slice q 0 cs.length none:=by unfold evV;rw[if_neg (by omega)]
 obtain⟨Q,C⟩:=Q;have B:=H.l32 f0 (Lo I);have A:=H.cok f0 (Lo I);obtain⟨z,u⟩:∃c,cs[ja]? =some c:=⟨_,GT (by rw[<-H.len];exact(gL I))⟩
 have g0:=hw _ z u0 u R;obtain⟨L,W⟩:∃L:List (FuncId×List AV×(Mem->Prop)×afA),L=[(29,[.agg (bS s p t q cs.length),vA v],(fun N=>N=M++[.cells true 0 (bS s p t q cs.length),.cells true 0 (vL v),.cells true 0 [.str [],.str [],.str []]]),⟨.int .i64 0,none,[]⟩),
  (53,[.slice q (i*32) 1 none],(fun N=>N=M++[.cells true 0 (bS s p t q cs.length),.cells true 0 (vL v),.cells true 0 [.str [],.str [],.str []]]),⟨.slice (M.length+4) 0 1 none,none,[.HS,.cells true 32 f0]⟩),
  (54,[.slice (M.length+4) 0 1 none],(fun _=>True),⟨.tuple [],none,[]⟩),
  (52,[.agg f0,vA v,.bool bck],(fun N=>(∃X,N=M++X)/\N.length=M.length+6),⟨vA (u0.mv bck v),none,[]⟩),
  (14,[vA (u0.mv bck v)],(fun _=>True),⟨.int .i64 0,none,[]⟩)]:=⟨_,rfl⟩
 have m:adM prog (cX L):=iM fun y J N G=>by
  rw[W] at J;simp only[lM] at J;rcases J with rfl | rfl | rfl | rfl | rfl
  .subst G
   exact aE (jz (H.more _) hd (qL Q (by decide)))
  .subst G
   have:=Hn (M:=M++[.cells true 0 (bS s p t q cs.length),.cells true 0 (vL v),.cells true 0 [.str [],.str [],.str []]]) (i:=i) (k:=1) (V _) (by rw[S];omega) (by decide) (by decide) (O4 H.cok);have F:List.length (M++[.cells true 0 (bS s p t q cs.length),.cells true 0 (vL v),.cells true 0 [.str [],.str [],.str []]]:Mem)+1=M.length+4:=by simp
   rw[Y,F] at this;exact aC this
  .exact aE (Fg (N:=N) (b:=M.length+4) (k:=1) (by decide))
  .obtain⟨⟨X,rfl⟩,_⟩:=G
   exact aE (H.aif hw I R bck (k:=3) Q (by decide) X)
  .exact aE (jU (qL C (by decide)) N)
 have j:cX L (.fn 29) [.agg (bS s p t q cs.length),vA v] (M++[.cells true 0 (bS s p t q cs.length),.cells true 0 (vL v),.cells true 0 [.str [],.str [],.str []]])=some ⟨.int .i64 0,none,[]⟩:=by rw[W];exact bo rfl
 have e2:cX L (.fn 53) [.slice q (i*32) 1 none] (M++[.cells true 0 (bS s p t q cs.length),.cells true 0 (vL v),.cells true 0 [.str [],.str [],.str []]])=some ⟨.slice (M.length+4) 0 1 none,none,[.HS,.cells true 32 f0]⟩:=by rw[W,aO (.inl (by decide))];exact bo rfl
 have e3:∀N,cX L (.fn 54) [.slice (M.length+4) 0 1 none] N=some ⟨.tuple [],none,[]⟩:=fun N=>by rw[W,aO (.inl (by decide)),aO (.inl (by decide))];exact bo trivial
 have q0:∀X:Mem,X.length=6->cX L (.fn 52) [.agg f0,vA v,.bool bck] (M++X)=some ⟨vA (u0.mv bck v),none,[]⟩:=fun X hX=>by rw[W,aO (.inl (by decide)),aO (.inl (by decide)),aO (.inl (by decide))];exact bo ⟨⟨_,rfl⟩,by rw[Nm,hX]⟩
 have e5:∀N,cX L (.fn 14) [vA (u0.mv bck v)] N=some ⟨.int .i64 0,none,[]⟩:=fun N=>by rw[W,sJ (by simp)];exact bo trivial
 obtain⟨new,h⟩:=LN (O:=cX L) (M:=M) (D:=[]) bck rfl rfl (sI q cs.length) K (by omega) (by omega) V (by rw[S];omega) j e2 e3 q0 e5 B (FJ A);exact kO.forget rfl (bl ae (al _) m (ao _) h)
theorem FF(hn:cs.length=i+2){f0:List AV}(I:evs[ja]? =some f0)(Y:ws[ja]? =some u0){f1:List AV}(Q:evs[jb]? =some f1)(y1:ws[jb]? =some u1)(R:plL bck [u0,u1] v){D:List AV}(hD:(evs.flatten.drop (i*32)).take (2*32)=D)(hb:bck=true->D=f1++f0)(hf:bck=false->D=f0++f1):
  kO prog 31 [.agg (bS s p t q cs.length),vA v,.int .i64 i,.bool bck] M (.tuple [vA (u1.mv bck (u0.mv bck v)),.int .i64 0]) M:=by
 have n4:=H.small;obtain⟨o,hq⟩:=H.hq (by rintro rfl;have:=H.len;simp at this;omega);have lq:=gL hq;have S :∀Z,(M++Z)[q]? =some (.cells o 32 evs.flatten):=fun Z=>gU hq _
 have K:=H.flat
 have G:evV q cs.length=.slice q 0 cs.length none:=by unfold evV;rw[if_neg (by omega)]
 obtain⟨R,p1,p2⟩:=R;have A:=H.l32 f0 (Lo I);have z:=H.cok f0 (Lo I);obtain⟨u,m⟩:∃c,cs[ja]? =some c:=⟨_,GT (by rw[<-H.len];exact(gL I))⟩
 have g0:=hw _ u u0 m Y;have j:=H.l32 f1 (Lo Q);have k1:=H.cok f1 (Lo Q);obtain⟨c1,z1⟩:∃c,cs[jb]? =some c:=⟨_,GT (by rw[<-H.len];exact(gL Q))⟩
 have g1:=hw _ c1 u1 z1 y1;obtain⟨L,W⟩:∃L:List (FuncId×List AV×(Mem->Prop)×afA),L=[(29,[.agg (bS s p t q cs.length),vA v],(fun N=>N=M++[.cells true 0 (bS s p t q cs.length),.cells true 0 (vL v),.cells true 0 [.str [],.str [],.str []]]),⟨.int .i64 0,none,[]⟩),
  (53,[.slice q (i*32) 2 none],(fun N=>N=M++[.cells true 0 (bS s p t q cs.length),.cells true 0 (vL v),.cells true 0 [.str [],.str [],.str []]]),⟨.slice (M.length+4) 0 2 none,none,[.HS,.cells true 32 D]⟩),
  (54,[.slice (M.length+4) 0 2 none],(fun N=>N=M++[.cells true 0 (bS s p t q cs.length),.cells true 0 (vL v),.cells true 0 [.str [],.str [],.str []],.HS,.cells true 32 D]/\bck=true),⟨.tuple [],some (M++[.cells true 0 (bS s p t q cs.length),.cells true 0 (vL v),.cells true 0 [.str [],.str [],.str []],.HS,.cells true 32 (f0++f1)]),[]⟩),
  (52,[.agg f0,vA v,.bool bck],(fun N=>(∃X,N=M++X)/\N.length=M.length+6),⟨vA (u0.mv bck v),none,[]⟩),
  (52,[.agg f1,vA (u0.mv bck v),.bool bck],(fun N=>(∃X,N=M++X)/\N.length=M.length+7),⟨vA (u1.mv bck (u0.mv bck v)),none,[]⟩),
  (14,[vA (u1.mv bck (u0.mv bck v))],(fun _=>True),⟨.int .i64 0,none,[]⟩)]:=⟨_,rfl⟩
 have hO:adM prog (cX L):=iM fun y F N J=>by
  rw[W] at F;simp only[lM] at F;rcases F with rfl | rfl | rfl | rfl | rfl | rfl
  .subst J
   exact aE (jz (H.more _) hd (qL R (by decide)))
  .subst J
   have:=Hn (M:=M++[.cells true 0 (bS s p t q cs.length),.cells true 0 (vL v),.cells true 0 [.str [],.str [],.str []]]) (i:=i) (k:=2) (S _) (by rw[K];omega) (by decide) (by decide) (O4 H.cok);have C:List.length (M++[.cells true 0 (bS s p t q cs.length),.cells true 0 (vL v),.cells true 0 [.str [],.str [],.str []]]:Mem)+1=M.length+4:=by simp
   rw[hD,C] at this;exact aC this
  .obtain⟨rfl,V⟩:=J
   have hr:(M++[.cells true 0 (bS s p t q cs.length),.cells true 0 (vL v),.cells true 0 [.str [],.str [],.str []],.HS,.cells true 32 D])[M.length+4]? =some (.cells true 32 (f1++f0)):=by rw[iG,hb V];rfl
   have:=Re j A k1 z ((H.more _).con _ f1 c1 Q z1 |>.refs 0) ((H.more _).con _ f0 u I m |>.refs 0) hr;rw[H2] at this;exact⟨by simpa [afA.mem] using this,fun x hx=>by cases hx;simp⟩
  .obtain⟨⟨X,rfl⟩,_⟩:=J
   exact aE (H.aif hw I Y bck (k:=3) R (by decide) X)
  .obtain⟨⟨X,rfl⟩,_⟩:=J
   exact aE (H.aif hw Q y1 bck (k:=3) p1 (by decide) X)
  .exact aE (jU (qL p2 (by decide)) N)
 have e1:cX L (.fn 29) [.agg (bS s p t q cs.length),vA v] (M++[.cells true 0 (bS s p t q cs.length),.cells true 0 (vL v),.cells true 0 [.str [],.str [],.str []]])=some ⟨.int .i64 0,none,[]⟩:=by rw[W];exact bo rfl
 have e2:cX L (.fn 53) [.slice q (i*32) 2 none] (M++[.cells true 0 (bS s p t q cs.length),.cells true 0 (vL v),.cells true 0 [.str [],.str [],.str []]])=some ⟨.slice (M.length+4) 0 2 none,none,[.HS,.cells true 32 D]⟩:=by rw[W,aO (.inl (by decide))];exact bo rfl
 have e3:bck=true->cX L (.fn 54) [.slice (M.length+4) 0 2 none] (M++[.cells true 0 (bS s p t q cs.length),.cells true 0 (vL v),.cells true 0 [.str [],.str [],.str []],.HS,.cells true 32 D])=some ⟨.tuple [],some (M++[.cells true 0 (bS s p t q cs.length),.cells true 0 (vL v),.cells true 0 [.str [],.str [],.str []],.HS,.cells true 32 (f0++f1)]),[]⟩:=fun V=>by rw[W,aO (.inl (by decide)),aO (.inl (by decide))];exact bo ⟨rfl,V⟩
 have q0:∀X:Mem,X.length=6->cX L (.fn 52) [.agg f0,vA v,.bool bck] (M++X)=some ⟨vA (u0.mv bck v),none,[]⟩:=fun X B=>by rw[W,aO (.inl (by decide)),aO (.inl (by decide)),aO (.inl (by decide))];exact bo ⟨⟨_,rfl⟩,by rw[Nm,B]⟩
 have q1:∀X:Mem,X.length=7->cX L (.fn 52) [.agg f1,vA (u0.mv bck v),.bool bck] (M++X)=some ⟨vA (u1.mv bck (u0.mv bck v)),none,[]⟩:=fun X B=>by rw[W,aO (.inl (by decide)),aO (.inl (by decide)),aO (.inl (by decide)),aO (.inr (by intro h;have:=h.2;rw[Nm] at this;omega))];exact bo ⟨⟨_,rfl⟩,by rw[Nm,B]⟩
 have e5:∀N,cX L (.fn 14) [vA (u1.mv bck (u0.mv bck v))] N=some ⟨.int .i64 0,none,[]⟩:=fun N=>by rw[W,sJ (by simp),aO (.inl (by decide))];exact bo trivial
 obtain⟨new,h⟩:=LO (O:=cX L) (M:=M) bck rfl rfl (sI q cs.length) G (by omega) (by omega) S (by rw[K];omega) e1 e2 e3 hf q0 q1 e5 A (FJ z) j (FJ k1);exact kO.forget rfl (bl ae (al _) hO (ao _) h)
theorem FG(hn:cs.length=i+3){f0:List AV}(Q:evs[ja]? =some f0)(y0:ws[ja]? =some u0){f1:List AV}(R:evs[jb]? =some f1)(y1:ws[jb]? =some u1){jc:Nat}{f2:List AV}{I:EvD}(Y:evs[jc]? =some f2)(y2:ws[jc]? =some I)(hv:plL bck [u0,u1,I] v){D:List AV}(hD:(evs.flatten.drop (i*32)).take (3*32)=D)(hb:bck=true->D=f2++(f1++f0))(hf:bck=false->D=f0++(f1++f2)):
  kO prog 31 [.agg (bS s p t q cs.length),vA v,.int .i64 i,.bool bck] M (.tuple [vA (I.mv bck (u1.mv bck (u0.mv bck v))),.int .i64 0]) M:=by
 have n4:=H.small;obtain⟨o,hq⟩:=H.hq (by rintro rfl;have:=H.len;simp at this;omega);have lq:=gL hq;have K :∀Z,(M++Z)[q]? =some (.cells o 32 evs.flatten):=fun Z=>gU hq _
 have J:=H.flat
 have F:evV q cs.length=.slice q 0 cs.length none:=by unfold evV;rw[if_neg (by omega)]
 obtain⟨hv,p1,p2,p3⟩:=hv;have A:=H.l32 f0 (Lo Q);have z:=H.cok f0 (Lo Q);obtain⟨u,m⟩:∃c,cs[ja]? =some c:=⟨_,GT (by rw[<-H.len];exact(gL Q))⟩
 have g0:=hw _ u u0 m y0;have j:=H.l32 f1 (Lo R);have k1:=H.cok f1 (Lo R);obtain⟨c1,z1⟩:∃c,cs[jb]? =some c:=⟨_,GT (by rw[<-H.len];exact(gL R))⟩
 have g1:=hw _ c1 u1 z1 y1;have l2:=H.l32 f2 (Lo Y);have k2:=H.cok f2 (Lo Y);obtain⟨c2,z2⟩:∃c,cs[jc]? =some c:=⟨_,GT (by rw[<-H.len];exact(gL Y))⟩
 have g2:=hw _ c2 I z2 y2;obtain⟨L,W⟩:∃L:List (FuncId×List AV×(Mem->Prop)×afA),L=[(29,[.agg (bS s p t q cs.length),vA v],(fun N=>N=M++[.cells true 0 (bS s p t q cs.length),.cells true 0 (vL v),.cells true 0 [.str [],.str [],.str []]]),⟨.int .i64 0,none,[]⟩),
  (53,[.slice q (i*32) 3 none],(fun N=>N=M++[.cells true 0 (bS s p t q cs.length),.cells true 0 (vL v),.cells true 0 [.str [],.str [],.str []]]),⟨.slice (M.length+4) 0 3 none,none,[.HS,.cells true 32 D]⟩),
  (54,[.slice (M.length+4) 0 3 none],(fun N=>N=M++[.cells true 0 (bS s p t q cs.length),.cells true 0 (vL v),.cells true 0 [.str [],.str [],.str []],.HS,.cells true 32 D]/\bck=true),⟨.tuple [],some (M++[.cells true 0 (bS s p t q cs.length),.cells true 0 (vL v),.cells true 0 [.str [],.str [],.str []],.HS,.cells true 32 (f0++(f1++f2))]),[]⟩),
  (52,[.agg f0,vA v,.bool bck],(fun N=>(∃X,N=M++X)/\N.length=M.length+6),⟨vA (u0.mv bck v),none,[]⟩),
  (52,[.agg f1,vA (u0.mv bck v),.bool bck],(fun N=>(∃X,N=M++X)/\N.length=M.length+7),⟨vA (u1.mv bck (u0.mv bck v)),none,[]⟩),
  (52,[.agg f2,vA (u1.mv bck (u0.mv bck v)),.bool bck],(fun N=>(∃X,N=M++X)/\N.length=M.length+8),⟨vA (I.mv bck (u1.mv bck (u0.mv bck v))),none,[]⟩),
  (14,[vA (I.mv bck (u1.mv bck (u0.mv bck v)))],(fun _=>True),⟨.int .i64 0,none,[]⟩)]:=⟨_,rfl⟩
 have hO:adM prog (cX L):=iM fun y C N S=>by
  rw[W] at C;simp only[lM] at C;rcases C with rfl | rfl | rfl | rfl | rfl | rfl | rfl
  .subst S
   exact aE (jz (H.more _) hd (qL hv (by decide)))
  .subst S
   have:=Hn (M:=M++[.cells true 0 (bS s p t q cs.length),.cells true 0 (vL v),.cells true 0 [.str [],.str [],.str []]]) (i:=i) (k:=3) (K _) (by rw[J];omega) (by decide) (by decide) (O4 H.cok);have B:List.length (M++[.cells true 0 (bS s p t q cs.length),.cells true 0 (vL v),.cells true 0 [.str [],.str [],.str []]]:Mem)+1=M.length+4:=by simp
   rw[hD,B] at this;exact aC this
  .obtain⟨rfl,V⟩:=S
   have hr:(M++[.cells true 0 (bS s p t q cs.length),.cells true 0 (vL v),.cells true 0 [.str [],.str [],.str []],.HS,.cells true 32 D])[M.length+4]? =some (.cells true 32 (f2++(f1++f0))):=by rw[iG,hb V];rfl
   have:=Rf l2 j A k2 k1 z ((H.more _).con _ f2 c2 Y z2 |>.refs 0) ((H.more _).con _ f1 c1 R z1 |>.refs 0) ((H.more _).con _ f0 u Q m |>.refs 0) hr;rw[H2] at this;exact⟨by simpa [afA.mem] using this,fun x hx=>by cases hx;simp⟩
  .obtain⟨⟨X,rfl⟩,_⟩:=S
   exact aE (H.aif hw Q y0 bck (k:=3) hv (by decide) X)
  .obtain⟨⟨X,rfl⟩,_⟩:=S
   exact aE (H.aif hw R y1 bck (k:=3) p1 (by decide) X)
  .obtain⟨⟨X,rfl⟩,_⟩:=S
   exact aE (H.aif hw Y y2 bck (k:=3) p2 (by decide) X)
  .exact aE (jU (qL p3 (by decide)) N)
 have e1:cX L (.fn 29) [.agg (bS s p t q cs.length),vA v] (M++[.cells true 0 (bS s p t q cs.length),.cells true 0 (vL v),.cells true 0 [.str [],.str [],.str []]])=some ⟨.int .i64 0,none,[]⟩:=by rw[W];exact bo rfl
 have e2:cX L (.fn 53) [.slice q (i*32) 3 none] (M++[.cells true 0 (bS s p t q cs.length),.cells true 0 (vL v),.cells true 0 [.str [],.str [],.str []]])=some ⟨.slice (M.length+4) 0 3 none,none,[.HS,.cells true 32 D]⟩:=by rw[W,aO (.inl (by decide))];exact bo rfl
 have e3:bck=true->cX L (.fn 54) [.slice (M.length+4) 0 3 none] (M++[.cells true 0 (bS s p t q cs.length),.cells true 0 (vL v),.cells true 0 [.str [],.str [],.str []],.HS,.cells true 32 D])=some ⟨.tuple [],some (M++[.cells true 0 (bS s p t q cs.length),.cells true 0 (vL v),.cells true 0 [.str [],.str [],.str []],.HS,.cells true 32 (f0++(f1++f2))]),[]⟩:=fun V=>by rw[W,aO (.inl (by decide)),aO (.inl (by decide))];exact bo ⟨rfl,V⟩
 have q0:∀X:Mem,X.length=6->cX L (.fn 52) [.agg f0,vA v,.bool bck] (M++X)=some ⟨vA (u0.mv bck v),none,[]⟩:=fun X G=>by rw[W,aO (.inl (by decide)),aO (.inl (by decide)),aO (.inl (by decide))];exact bo ⟨⟨_,rfl⟩,by rw[Nm,G]⟩
 have q1:∀X:Mem,X.length=7->cX L (.fn 52) [.agg f1,vA (u0.mv bck v),.bool bck] (M++X)=some ⟨vA (u1.mv bck (u0.mv bck v)),none,[]⟩:=fun X G=>by rw[W,aO (.inl (by decide)),aO (.inl (by decide)),aO (.inl (by decide)),aO (.inr (by intro h;have:=h.2;rw[Nm] at this;omega))];exact bo ⟨⟨_,rfl⟩,by rw[Nm,G]⟩
 have q2:∀X:Mem,X.length=8->cX L (.fn 52) [.agg f2,vA (u1.mv bck (u0.mv bck v)),.bool bck] (M++X)=some ⟨vA (I.mv bck (u1.mv bck (u0.mv bck v))),none,[]⟩:=fun X G=>by rw[W,aO (.inl (by decide)),aO (.inl (by decide)),aO (.inl (by decide)),aO (.inr (by intro h;have:=h.2;rw[Nm] at this;omega)),aO (.inr (by intro h;have:=h.2;rw[Nm] at this;omega))];exact bo ⟨⟨_,rfl⟩,by rw[Nm,G]⟩
 have e5:∀N,cX L (.fn 14) [vA (I.mv bck (u1.mv bck (u0.mv bck v)))] N=some ⟨.int .i64 0,none,[]⟩:=fun N=>by rw[W,sJ (by simp),aO (.inl (by decide)),aO (.inl (by decide))];exact bo trivial
 obtain⟨new,h⟩:=LP (O:=cX L) (M:=M) bck rfl rfl (sI q cs.length) F (by omega) (by omega) K (by rw[J];omega) e1 e2 e3 hf q0 q1 q2 e5 A (FJ z) j (FJ k1) l2 (FJ k2);exact kO.forget rfl (bl ae (al _) hO (ao _) h)
end
end
end Go.Proofs
namespace Go.Proofs
open Go.Eng
open Tryz
section
variable{α:Type}{l:List α}
include α l
theorem HQ{i:Nat}(h:l.length=i+1):∃a,l[i]? =some a/\l.drop i=[a]:=by refine⟨l[i],GT (by omega),?_⟩;rw[N2 (by omega),Mp (by omega)]
theorem HR{i:Nat}(h:l.length=i+2):∃a b,l[i]? =some a/\l[i+1]? =some b/\l.drop i=[a,b]:=by obtain⟨b,Z,X⟩:=HQ (l:=l) (i:=i+1) (by omega);exact⟨l[i],b,GT (by omega),Z,by rw[N2 (by omega),X]⟩
theorem P8{i:Nat}(h:l.length=i+3):∃a b c,l[i]? =some a/\l[i+1]? =some b/\l[i+2]? =some c/\l.drop i=[a,b,c]:=by obtain⟨b,c,Z,X,h3⟩:=HR (l:=l) (i:=i+1) (by omega);exact⟨l[i],b,c,GT (by omega),Z,X,by rw[N2 (by omega),h3]⟩
end
section
variable {s:af8}{p t q:Nat}{evs:List (List AV)}{cs:List Evc}{M:Mem}{ws:List EvD}{v:V3}
section
variable (H:agX s p t q evs cs M)
include H
theorem Tryz.agX.aiw{i:Nat}(y:cs.length=i+1):∃f0,evs[i]? =some f0/\(evs.flatten.drop (i*32)).take (1*32)=f0:=by obtain⟨f0,Z,X⟩:=HQ (l:=evs) (i:=i) (by rw[H.len];exact y);have W:=H.l32 f0 (Lo Z);exact⟨f0,Z,by rw[sK i H.l32,X];rw[GE (by simp;omega)];simp⟩
theorem Tryz.agX.aiW{i:Nat}(y:cs.length=i+2):∃f0 f1,evs[i]? =some f0/\evs[i+1]? =some f1/\(evs.flatten.drop (i*32)).take (2*32)=f0++f1:=by obtain⟨f0,f1,Z,X,h3⟩:=HR (l:=evs) (i:=i) (by rw[H.len];exact y);have W:=H.l32 f0 (Lo Z);have V:=H.l32 f1 (Lo X);exact⟨f0,f1,Z,X,by rw[sK i H.l32,h3];rw[GE (by simp;omega)];simp⟩
theorem Tryz.agX.aiX{i:Nat}(y:cs.length=i+3):∃f0 f1 f2,evs[i]? =some f0/\evs[i+1]? =some f1/\evs[i+2]? =some f2/\(evs.flatten.drop (i*32)).take (3*32)=f0++(f1++f2):=by obtain⟨f0,f1,f2,Z,X,h3,W⟩:=P8 (l:=evs) (i:=i) (by rw[H.len];exact y);have V:=H.l32 f0 (Lo Z);have S:=H.l32 f1 (Lo X);have O:=H.l32 f2 (Lo h3);exact⟨f0,f1,f2,Z,X,h3,by rw[sK i H.l32,W];rw[GE (by simp;omega)];simp⟩
end
theorem TK{M:Mem}{b:Nat}(y:M[b]? =some .HS):kO prog 53 [.slice b 0 0 none] M (.slice (M.length+1) 0 0 none) (M++[.HS,.cells true 32 []]):=by
 have W:=gL y;have X :∀Z,(M++Z)[b]? =some .HS:=fun Z=>gU y _
 have h:bO (aU prog) (fun _=>[]) (aS prog) bD 1 53 [.slice b 0 0 none] M=some (.slice (M.length+1) 0 0 none,M++[.HS,.cells true 32 []]):=by simp[bO,aie,f53,R7,X]
 exact bl ae (al _) (aj _) (ao _) h
theorem RD(M:Mem):kO prog 53 [.y9] M .y9 M:=by refine aD (aj _) ?_ M;simp[aa,aie,f53,R7]
theorem I5(M:Mem):kO prog 54 [.y9] M (.tuple []) M:=by have w1:IntKind.i64.wrap (-1)= -1:=rfl;refine dv (aj _) (lv:=fun _=>[2,3]) (K:=4) rfl rfl ?_ M;simp[aa,ahN,f54,aR,fW,w1]
section
variable (H:agX s p t q evs cs M)(hd:Db [bC] (cs.map unE)=false)
include H hd
theorem FD(I:Bool)(Q:plK 3 v)(h00:cs.length=0):
  kO prog 31 [.agg (bS s p t q cs.length),vA v,.int .i64 cs.length,.bool I] M (.tuple [vA v,.int .i64 0]) M:=by
 have Y:=H.small;have S:=jU (qL Q (by decide));obtain⟨B,J⟩:=xE (α:=Mem) [.cells true 0 (bS s p t q cs.length),.cells true 0 (vL v),.cells true 0 [.str [],.str [],.str []]];by_cases D:cs.length=0
 .have W:evV q cs.length=.y9:=by unfold evV;rw[if_pos D]
  obtain⟨L,X⟩:∃L:List (FuncId×List AV×(Mem->Prop)×afA),L=[(29,[.agg (bS s p t q cs.length),vA v],(fun N=>N=M++B),⟨.int .i64 0,none,[]⟩),
   (53,[.y9],(fun _=>True),⟨.y9,none,[]⟩),(54,[.y9],(fun _=>True),⟨.tuple [],none,[]⟩),(14,[vA v],(fun _=>True),⟨.int .i64 0,none,[]⟩)]:=⟨_,rfl⟩
  have C:adM prog (cX L):=iM fun y V N G=>by
   rw[X] at V;simp only[lM] at V;rcases V with rfl | rfl | rfl | rfl
   .subst G
    exact aE (jz (H.more _) hd (qL Q (by decide)))
   .exact aE (RD N)
   .exact aE (I5 N)
   .exact aE (S N)
  have K:cX L (.fn 29) [.agg (bS s p t q cs.length),vA v] (M++B)=some ⟨.int .i64 0,none,[]⟩:=by rw[X];exact bo rfl
  have F:∀N,cX L (.fn 53) [.y9] N=some ⟨.y9,none,[]⟩:=fun N=>by rw[X,aO (.inl (by decide))];exact bo trivial
  have A:∀N,cX L (.fn 54) [.y9] N=some ⟨.tuple [],none,[]⟩:=fun N=>by rw[X,aO (.inl (by decide)),aO (.inl (by decide))];exact bo trivial
  have z:∀N,cX L (.fn 14) [vA v] N=some ⟨.int .i64 0,none,[]⟩:=fun N=>by rw[X,aO (.inl (by decide)),aO (.inl (by decide)),aO (.inl (by decide))];exact bo trivial
  rw[J] at K;obtain⟨u,h⟩:=LQ (O:=cX L) (M:=M) I rfl rfl W K F A z;rw[D] at h |-;exact kO.forget rfl (bl ae (al _) C (ao _) h)
 .exact absurd h00 D
theorem GK(h3:cs.length<=3)(R:ws.length=cs.length)(Q:∀(i:Nat) c w,cs[i]? =some c->ws[i]? =some w->w.Ok s/\c=w.con c.nm)(y:Bool){i:Nat}(I:plL y (if y then (ws.drop i).reverse else ws.drop i) v)(Y:i<=cs.length)(h00:i=cs.length->cs.length=0):
  kO prog 31 [.agg (bS s p t q cs.length),vA v,.int .i64 i,.bool y] M (.tuple [vA (mvL y (if y then (ws.drop i).reverse else ws.drop i) v),.int .i64 0]) M:=by
 have Z:cs.length=i\/cs.length=i+1\/cs.length=i+2\/cs.length=i+3:=by omega
 rcases Z with Z | Z | Z | Z
 .have:ws.drop i=[]:=Mp (by omega)
  rw[this] at I |-;rw[<-Z];cases y
  .exact FD H hd false I (h00 Z.symm)
  .exact FD H hd true I (h00 Z.symm)
 .obtain⟨J,W,X⟩:=HQ (l:=ws) (i:=i) (by omega)
  obtain⟨f0,V,S⟩:=H.aiw Z;rw[X] at I |-;cases y
  .exact FE H hd Q false Z V W I S
  .exact FE H hd Q true Z V W I S
 .obtain⟨J,F,W,O,X⟩:=HR (l:=ws) (i:=i) (by omega)
  obtain⟨f0,f1,V,K,S⟩:=H.aiW Z;rw[X] at I |-;cases y with
  |false=>exact FF H hd Q false Z V W K O I S (fun h=>by cases h) (fun _=>rfl)
  |true=>exact FF H hd Q true Z K O V W I S (fun _=>rfl) (fun h=>by cases h)
 .obtain⟨J,F,D,W,O,y2,X⟩:=P8 (l:=ws) (i:=i) (by omega)
  obtain⟨f0,f1,f2,V,K,G,S⟩:=H.aiX Z;rw[X] at I |-;cases y with
  |false=>exact FG H hd Q false Z V W K O G y2 I S (fun h=>by cases h) (fun _=>rfl)
  |true=>exact FG H hd Q true Z G y2 K O V W I S (fun _=>rfl) (fun h=>by cases h)
end
end
section
variable {s:af8}{p t q:Nat}{evs:List (List AV)}{cs:List Evc}{M:Mem}{ws:List EvD}{v:V3}
theorem Tv{x:Int}{a1 a2 a3:List UInt8}{e:Int}(y:Bool)(E:AV)(H:E.af2=true)(pv tv:AV)(I:pv.af2=true)(Q:tv.af2=true)(nm:List UInt8)(h:∀Z,kO prog 31 [.agg [pv,tv,.str nm,E],vA v,.int .i64 x,.bool y] (M++Z) (.tuple [.agg [.str a1,.str a2,.str a3],.int .i64 e]) (M++Z)):
  kO prog (if y then 12 else 13) [.agg [pv,tv,.str nm,E],vA v,.int .i64 x] M (.tuple [.agg [.str a1,.str a2,.str a3],.int .i64 e]) M:=by
 have W:adM prog (fU 31 [.agg [pv,tv,.str nm,E],vA v,.int .i64 x,.bool y] (.tuple [.agg [.str a1,.str a2,.str a3],.int .i64 e]) (fun N=>∃Z,N=M++Z)):=gn fun N ⟨Z,hZ⟩=>by subst hZ;exact h Z
 clear h;have X:∀s,(AV.str s).af2=true:=fun _=>rfl
 cases y with
 |true=>
  have V:aS prog 12=some f12:=by kernel_rfl
  have h:aa (aU prog) (fun _=>[]) (aS prog) (fU 31 [.agg [pv,tv,.str nm,E],vA v,.int .i64 x,.bool true] (.tuple [.agg [.str a1,.str a2,.str a3],.int .i64 e]) (fun N=>∃Z,N=M++Z)) 1 12 [.agg [pv,tv,.str nm,E],vA v,.int .i64 x] M=some ⟨.tuple [.agg [.str a1,.str a2,.str a3],.int .i64 e],none,[]⟩:=by clear W;simp[-AV.af2,X,aa,V,f12,fU,vA]
  have:=(ah ae (al _) W (ao _) h).1;simpa [afA.mem] using this
 |false=>
  have V:aS prog 13=some f13:=by kernel_rfl
  have h:aa (aU prog) (fun _=>[]) (aS prog) (fU 31 [.agg [pv,tv,.str nm,E],vA v,.int .i64 x,.bool false] (.tuple [.agg [.str a1,.str a2,.str a3],.int .i64 e]) (fun N=>∃Z,N=M++Z)) 1 13 [.agg [pv,tv,.str nm,E],vA v,.int .i64 x] M=some ⟨.tuple [.agg [.str a1,.str a2,.str a3],.int .i64 e],none,[]⟩:=by clear W;simp[-AV.af2,X,aa,V,f13,fU,vA]
  have:=(ah ae (al _) W (ao _) h).1;simpa [afA.mem] using this
noncomputable def mvI(ws:List EvD)(y:Bool)(i:Nat)(v:V3):V3:=mvL y (if y then (ws.drop i).reverse else ws.drop i) v
theorem qz(H:agX s p t q evs cs M)(hd:Db [bC] (cs.map unE)=false)(h3:cs.length<=3)(I:ws.length=cs.length)(Q:∀(i:Nat) c w,cs[i]? =some c->ws[i]? =some w->w.Ok s/\c=w.con c.nm)(y:Bool){i:Nat}(R:plL y (if y then (ws.drop i).reverse else ws.drop i) v)(Y:i<=cs.length)(h00:i=cs.length->cs.length=0):
  kO prog (if y then 12 else 13) [.agg (bS s p t q cs.length),vA v,.int .i64 i] M (.tuple [vA (mvI ws y i v),.int .i64 0]) M:=
 Tv y _ (sI _ _) _ _ rfl rfl bC fun Z=>GK (H.more Z) hd h3 I Q y R Y h00
end
end Go.Proofs
