/- See Q54. -/
import Derived.Test.YtgafjliihahjgaaGreatDoorQ51
import Derived.Test.YtgafjliihahjgaaGreatDoorQ36
set_option linter.all false
namespace Go.Proofs
open Go.Eng
section
variable {O:Oracle}{M:Mem}{pv tv ev:AV}{n i q:Nat}{v:V3}{env:Env}
set_option maxRecDepth 16384 in
set_option maxHeartbeats 16000000 in
theorem Mf{b:V3}(hn:n=i+0) (hn2:n≤1000) (hm:1≤M.length) (rp:∀x,pv.refsOk (fun b=>decide (b<M.length+x))=true) (rt:∀x,tv.refsOk (fun b=>decide (b<M.length+x))=true) (re:∀x,ev.refsOk (fun b=>decide (b<M.length+x))=true) (cp:pv.cellOk=true) (ct:tv.cellOk=true) (ce:ev.cellOk=true) (kk:pv.known=true∧tv.known=true∧ev.known=true) (hlen:∀N,jw (aM Tryz.prog) 38 N ev=some (.int .i64 n))
  (hev:(n=0∧ev=.nilslice)∨(0<n∧ev=.slice q 0 n none)) {o:Bool}{D:List AV}(hq:0<n→∀Z,(M++Z)[q]? =some (.cells o 32 D)) (hD:D.length=n*32)
  : ∀env:Env,(ab env 2=.int .i64 i∧ab env 7=.ptr M.length 0∧ab env 9=.ptr (M.length+2) 0∧ab env 10=.int .i64 0∧ab env 11=.ptr (M.length+3) 0∧ab env 12=.int .i64 0∧ab env 13=.ptr (M.length+4) 0∧ab env 14=.ptr (M.length+5) 0)→bV O dW (M++[.cells true 0 [pv,tv,.str ba,ev],.cells true 0 (vL v),.cells true 0 (vL b),.cells true 0 (vL v),.cells true 0 (vL b),.cells true 0 (vL v)]) env:=by
 rintro env ⟨l2,l7,l9,l10,l11,l12,l13,l14⟩ d;have w0:IntKind.i64.wrap 0=0:=rfl;have w1:IntKind.i64.wrap 1=1:=rfl;have w2:IntKind.i64.wrap 2=2:=rfl;have w3:IntKind.i64.wrap 3=3:=rfl;have hjl:∀j,(M.length+j<1)=False:=fun j=>by rw[eq_iff_iff,iff_false];omega
 have hjl0:(M.length<1)=False:=by rw[eq_iff_iff,iff_false];omega
 have tk:∀Z:Mem,(M++Z).take 1=M.take 1:=fun Z=>List.take_append_of_le_length (by omega)
 obtain⟨k1,k2,k4⟩:=kk;have eV:∀a b c,gT (aM Tryz.prog) 20 31 (.agg [.str a,.str b,.str c]) (.agg [.str a,.str b,.str c])=some true:=fun a b c=>cP (d:=18) a b c
 rw[sd];have hls:∀N b o n,jw (aM Tryz.prog) 38 N (.slice b o n none)=some (.int .i64 n):=fun _ _ _ _=>by simp
 have hln:∀N,jw (aM Tryz.prog) 38 N .nilslice=some (.int .i64 0):=fun _=>by simp
 have a1:¬(n:Int)<(i:Int):=by omega
 have a2:¬(i:Int)<0:=by omega
 have a3:i≤n:=by omega
 have a4:n-i=0:=by omega
 have wi:IntKind.i64.wrap ((i:Int)-1)=(i:Int)-1:=aj (by omega) (by omega);have gi:((i:Int)≤(i:Int)-1)=False:=by rw[eq_iff_iff,iff_false];omega
 simp only[vL];have h:∃e',aT (aM Tryz.prog) zk O 6 138 1 true (.seq (dG 8 aS) (.seq (dG 9 aS) .ret)) ⟨env,M++[.cells true 0 [pv,tv,.str ba,ev],.cells true 0 [.str (ah v.1),.str (ah v.2.1),.str (ah v.2.2)],.cells true 0 [.str (ah b.1),.str (ah b.2.1),.str (ah b.2.2)],.cells true 0 [.str (ah v.1),.str (ah v.2.1),.str (ah v.2.2)],.cells true 0 [.str (ah b.1),.str (ah b.2.1),.str (ah b.2.2)],.cells true 0 [.str (ah v.1),.str (ah v.2.1),.str (ah v.2.2)]],d⟩=some (.ret,e')∧ab e'.env 6=.bool true∧e'.mem.take 1=(M++[.cells true 0 [pv,tv,.str ba,ev],.cells true 0 [.str (ah v.1),.str (ah v.2.1),.str (ah v.2.2)],.cells true 0 [.str (ah b.1),.str (ah b.2.1),.str (ah b.2.2)],.cells true 0 [.str (ah v.1),.str (ah v.2.1),.str (ah v.2.2)],.cells true 0 [.str (ah b.1),.str (ah b.2.1),.str (ah b.2.2)],.cells true 0 [.str (ah v.1),.str (ah v.2.1),.str (ah v.2.2)]]:Mem).take 1:=by
  have hin:n=i:=by omega
  subst hin;rcases hev with⟨h0,rfl⟩ | ⟨h0,rfl⟩
  ·subst h0
   simp (maxSteps:=1000000) [-getElem?_pos,-AV.cellOk,-AV.known,-AV.cells,-bY,-List.all_eq_true,mS,-jw,aS,Tryz.f5,dG,eV,tk,aB,dV,zk,hlen,l2,l7,l9,l10,l11,l12,l13,l14]
  ·have hq' :=hq h0
   have a7:¬n=0:=by omega
   simp (maxSteps:=1000000) [-getElem?_pos,-AV.cellOk,-AV.known,-AV.cells,-bY,-List.all_eq_true,mS,-jw,aS,Tryz.f5,dG,eV,tk,aB,dV,zk,hls,l2,l7,l9,l10,l11,l12,l13,l14,a1,hq',hD,h0,a7]
 obtain⟨⟨e1,e2,e3⟩,k1,k2,k3⟩:=h;exact⟨(e1,e2,e3),k1,k2,k3⟩
end
end Go.Proofs
namespace Go.Proofs
open Go.Eng
section
variable {O:Oracle}{M:Mem}{pv tv ev:AV}{n i q:Nat}{v:V3}{env:Env}
set_option maxRecDepth 16384 in
set_option maxHeartbeats 16000000 in
theorem Mg{b d1 k0v:V3}(hn:n=i+1) (hn2:n≤1000) (hm:1≤M.length) (rp:∀x,pv.refsOk (fun b=>decide (b<M.length+x))=true) (rt:∀x,tv.refsOk (fun b=>decide (b<M.length+x))=true) (re:∀x,ev.refsOk (fun b=>decide (b<M.length+x))=true) (cp:pv.cellOk=true) (ct:tv.cellOk=true) (ce:ev.cellOk=true) (kk:pv.known=true∧tv.known=true∧ev.known=true) (hlen:∀N,jw (aM Tryz.prog) 38 N ev=some (.int .i64 n))
  (hev:ev=.slice q 0 n none) {o:Bool}{D:List AV}(hq:∀Z,(M++Z)[q]? =some (.cells o 32 D)) (hD:D.length=n*32) {f0:List AV}
  (r0:(D.drop ((i+0)*32)).take 32=f0) (m0:f0.length=32) (g0:f0.all AV.cellOk=true) (s0:∀x,AV.refsOkL (fun b=>decide (b<M.length+x)) f0=true)
  (z0:∀X:Mem,X.length=8→O (.fn 21) [.agg [pv,tv],.agg f0,vA v] (M++X)=some ⟨.tuple [vA d1,.int .i64 0],none,[]⟩)
  : ∀env:Env,(ab env 2=.int .i64 i∧ab env 7=.ptr M.length 0∧ab env 9=.ptr (M.length+2) 0∧ab env 10=.int .i64 0∧ab env 11=.ptr (M.length+3) 0∧ab env 12=.int .i64 0∧ab env 13=.ptr (M.length+4) 0∧ab env 14=.ptr (M.length+5) 0)→bV O dW (M++[.cells true 0 [pv,tv,.str ba,ev],.cells true 0 (vL v),.cells true 0 (vL b),.cells true 0 (vL d1),.cells true 0 (vL b),.cells true 0 (vL v),.cells true 0 (vL k0v)]) env:=by
 rintro env ⟨l2,l7,l9,l10,l11,l12,l13,l14⟩ d;have w0:IntKind.i64.wrap 0=0:=rfl;have w1:IntKind.i64.wrap 1=1:=rfl;have w2:IntKind.i64.wrap 2=2:=rfl;have w3:IntKind.i64.wrap 3=3:=rfl;have hjl:∀j,(M.length+j<1)=False:=fun j=>by rw[eq_iff_iff,iff_false];omega
 have hjl0:(M.length<1)=False:=by rw[eq_iff_iff,iff_false];omega
 have tk:∀Z:Mem,(M++Z).take 1=M.take 1:=fun Z=>List.take_append_of_le_length (by omega)
 obtain⟨k1,k2,k4⟩:=kk;have eV:∀a b c,gT (aM Tryz.prog) 20 31 (.agg [.str a,.str b,.str c]) (.agg [.str a,.str b,.str c])=some true:=fun a b c=>cP (d:=18) a b c
 rw[sd];have hls:∀N b o n,jw (aM Tryz.prog) 38 N (.slice b o n none)=some (.int .i64 n):=fun _ _ _ _=>by simp
 have hln:∀N,jw (aM Tryz.prog) 38 N .nilslice=some (.int .i64 0):=fun _=>by simp
 have a1:¬(n:Int)<(i:Int):=by omega
 have a2:¬(i:Int)<0:=by omega
 have a3:i≤n:=by omega
 have a4:n-i=1:=by omega
 have wi:IntKind.i64.wrap ((i:Int)-1)=(i:Int)-1:=aj (by omega) (by omega);have gi:((i:Int)≤(i:Int)-1)=False:=by rw[eq_iff_iff,iff_false];omega
 have a5:¬i=n:=by omega
 have a6:i<n:=by omega
 have hq2:∀x,(q<M.length+x)=True:=fun x=>by rw[eq_iff_iff,iff_true];have:=hq [];rw[List.append_nil] at this;have:=(List.getElem?_eq_some_iff.1 this).1;omega
 rw[Nat.add_zero] at r0;have wn:IntKind.i64.wrap ((n:Int)-1)=(i:Int):=by rw[aj (by omega) (by omega)];omega
 have p0:i*32+32≤D.length:=by omega
 have p0' :i*32+0+32≤D.length:=by omega
 have x0:(D.drop (i*32+0)).take 32=f0:=by rw[show i*32+0=i*32 by omega];exact r0
 have t0:f0.take 32=f0:=List.take_of_length_le (by omega);have pz:n*32≤D.length:=by omega
 have pz2:i*32+32≤D.length:=by omega
 subst hev;unfold vA at z0;simp only[vL];have h:∃e',aT (aM Tryz.prog) zk O 6 138 1 true (.seq (dG 8 aS) (.seq (dG 9 aS) .ret)) ⟨env,M++[.cells true 0 [pv,tv,.str ba,.slice q 0 n none],.cells true 0 [.str (ah v.1),.str (ah v.2.1),.str (ah v.2.2)],.cells true 0 [.str (ah b.1),.str (ah b.2.1),.str (ah b.2.2)],.cells true 0 [.str (ah d1.1),.str (ah d1.2.1),.str (ah d1.2.2)],.cells true 0 [.str (ah b.1),.str (ah b.2.1),.str (ah b.2.2)],.cells true 0 [.str (ah v.1),.str (ah v.2.1),.str (ah v.2.2)],.cells true 0 [.str (ah k0v.1),.str (ah k0v.2.1),.str (ah k0v.2.2)]],d⟩=some (.ret,e')∧ab e'.env 6=.bool true∧e'.mem.take 1=(M++[.cells true 0 [pv,tv,.str ba,.slice q 0 n none],.cells true 0 [.str (ah v.1),.str (ah v.2.1),.str (ah v.2.2)],.cells true 0 [.str (ah b.1),.str (ah b.2.1),.str (ah b.2.2)],.cells true 0 [.str (ah d1.1),.str (ah d1.2.1),.str (ah d1.2.2)],.cells true 0 [.str (ah b.1),.str (ah b.2.1),.str (ah b.2.2)],.cells true 0 [.str (ah v.1),.str (ah v.2.1),.str (ah v.2.2)],.cells true 0 [.str (ah k0v.1),.str (ah k0v.2.1),.str (ah k0v.2.2)]]:Mem).take 1:=by simp (maxSteps:=1000000) [-getElem?_pos,-AV.cellOk,-AV.known,-AV.cells,-bY,-List.all_eq_true,vS,mS,-jw,aS,Tryz.f5,dG,eV,tk,w1,aB,dV,zk,hls,l2,l7,l9,l10,l11,l12,l13,l14,a3,a4,a6,hq,p0,r0,m0,g0,t0,pz,z0]
 obtain⟨⟨e1,e2,e3⟩,k1,k2,k3⟩:=h;exact⟨(e1,e2,e3),k1,k2,k3⟩
end
end Go.Proofs
namespace Go.Proofs
open Go.Eng
section
variable {O:Oracle}{M:Mem}{pv tv ev:AV}{n i q:Nat}{v:V3}{env:Env}
set_option maxRecDepth 16384 in
set_option maxHeartbeats 16000000 in
theorem Mh{b d1 d2 k0v k1v:V3}(hn:n=i+2) (hn2:n≤1000) (hm:1≤M.length) (rp:∀x,pv.refsOk (fun b=>decide (b<M.length+x))=true) (rt:∀x,tv.refsOk (fun b=>decide (b<M.length+x))=true) (re:∀x,ev.refsOk (fun b=>decide (b<M.length+x))=true) (cp:pv.cellOk=true) (ct:tv.cellOk=true) (ce:ev.cellOk=true) (kk:pv.known=true∧tv.known=true∧ev.known=true) (hlen:∀N,jw (aM Tryz.prog) 38 N ev=some (.int .i64 n))
  (hev:ev=.slice q 0 n none) {o:Bool}{D:List AV}(hq:∀Z,(M++Z)[q]? =some (.cells o 32 D)) (hD:D.length=n*32) {f0 f1:List AV}
  (r0:(D.drop ((i+0)*32)).take 32=f0) (m0:f0.length=32) (g0:f0.all AV.cellOk=true) (s0:∀x,AV.refsOkL (fun b=>decide (b<M.length+x)) f0=true)
  (r1:(D.drop ((i+1)*32)).take 32=f1) (m1:f1.length=32) (g1:f1.all AV.cellOk=true) (s1:∀x,AV.refsOkL (fun b=>decide (b<M.length+x)) f1=true)
  (z0:∀X:Mem,X.length=9→O (.fn 21) [.agg [pv,tv],.agg f0,vA v] (M++X)=some ⟨.tuple [vA d1,.int .i64 0],none,[]⟩)
  (z1:∀X:Mem,X.length=11→O (.fn 21) [.agg [pv,tv],.agg f1,vA d1] (M++X)=some ⟨.tuple [vA d2,.int .i64 0],none,[]⟩)
  : ∀env:Env,(ab env 2=.int .i64 i∧ab env 7=.ptr M.length 0∧ab env 9=.ptr (M.length+2) 0∧ab env 10=.int .i64 0∧ab env 11=.ptr (M.length+3) 0∧ab env 12=.int .i64 0∧ab env 13=.ptr (M.length+4) 0∧ab env 14=.ptr (M.length+5) 0)→bV O dW (M++[.cells true 0 [pv,tv,.str ba,ev],.cells true 0 (vL v),.cells true 0 (vL b),.cells true 0 (vL d2),.cells true 0 (vL b),.cells true 0 (vL v),.cells true 0 (vL k0v),.cells true 0 (vL k1v)]) env:=by
 rintro env ⟨l2,l7,l9,l10,l11,l12,l13,l14⟩ d;have w0:IntKind.i64.wrap 0=0:=rfl;have w1:IntKind.i64.wrap 1=1:=rfl;have w2:IntKind.i64.wrap 2=2:=rfl;have w3:IntKind.i64.wrap 3=3:=rfl;have hjl:∀j,(M.length+j<1)=False:=fun j=>by rw[eq_iff_iff,iff_false];omega
 have hjl0:(M.length<1)=False:=by rw[eq_iff_iff,iff_false];omega
 have tk:∀Z:Mem,(M++Z).take 1=M.take 1:=fun Z=>List.take_append_of_le_length (by omega)
 obtain⟨k1,k2,k4⟩:=kk;have eV:∀a b c,gT (aM Tryz.prog) 20 31 (.agg [.str a,.str b,.str c]) (.agg [.str a,.str b,.str c])=some true:=fun a b c=>cP (d:=18) a b c
 rw[sd];have hls:∀N b o n,jw (aM Tryz.prog) 38 N (.slice b o n none)=some (.int .i64 n):=fun _ _ _ _=>by simp
 have hln:∀N,jw (aM Tryz.prog) 38 N .nilslice=some (.int .i64 0):=fun _=>by simp
 have a1:¬(n:Int)<(i:Int):=by omega
 have a2:¬(i:Int)<0:=by omega
 have a3:i≤n:=by omega
 have a4:n-i=2:=by omega
 have wi:IntKind.i64.wrap ((i:Int)-1)=(i:Int)-1:=aj (by omega) (by omega);have gi:((i:Int)≤(i:Int)-1)=False:=by rw[eq_iff_iff,iff_false];omega
 have a5:¬i=n:=by omega
 have a6:i<n:=by omega
 have hq2:∀x,(q<M.length+x)=True:=fun x=>by rw[eq_iff_iff,iff_true];have:=hq [];rw[List.append_nil] at this;have:=(List.getElem?_eq_some_iff.1 this).1;omega
 obtain⟨y1,hy1⟩:∃y,y=i+1:=⟨_,rfl⟩
 rw[←hy1] at r1;have c1:(i:Int)≤(y1:Int):=by omega
 have c1' :i≤y1:=by omega
 have n1:y1<n:=by omega
 have wy1:IntKind.i64.wrap ((y1:Int)-1)=(i:Int):=by rw[aj (by omega) (by omega)];omega
 rw[Nat.add_zero] at r0;have wn:IntKind.i64.wrap ((n:Int)-1)=(y1:Int):=by rw[aj (by omega) (by omega)];omega
 have p0:i*32+32≤D.length:=by omega
 have p0' :i*32+0+32≤D.length:=by omega
 have x0:(D.drop (i*32+0)).take 32=f0:=by rw[show i*32+0=i*32 by omega];exact r0
 have t0:f0.take 32=f0:=List.take_of_length_le (by omega);have p1:y1*32+32≤D.length:=by omega
 have p1' :i*32+32+32≤D.length:=by omega
 have x1:(D.drop (i*32+32)).take 32=f1:=by rw[show i*32+32=y1*32 by omega];exact r1
 have t1:f1.take 32=f1:=List.take_of_length_le (by omega);have pz:n*32≤D.length:=by omega
 have pz2:i*32+64≤D.length:=by omega
 subst hev;unfold vA at z0 z1;simp only[vL];have h:∃e',aT (aM Tryz.prog) zk O 6 138 1 true (.seq (dG 8 aS) (.seq (dG 9 aS) .ret)) ⟨env,M++[.cells true 0 [pv,tv,.str ba,.slice q 0 n none],.cells true 0 [.str (ah v.1),.str (ah v.2.1),.str (ah v.2.2)],.cells true 0 [.str (ah b.1),.str (ah b.2.1),.str (ah b.2.2)],.cells true 0 [.str (ah d2.1),.str (ah d2.2.1),.str (ah d2.2.2)],.cells true 0 [.str (ah b.1),.str (ah b.2.1),.str (ah b.2.2)],.cells true 0 [.str (ah v.1),.str (ah v.2.1),.str (ah v.2.2)],.cells true 0 [.str (ah k0v.1),.str (ah k0v.2.1),.str (ah k0v.2.2)],.cells true 0 [.str (ah k1v.1),.str (ah k1v.2.1),.str (ah k1v.2.2)]],d⟩=some (.ret,e')∧ab e'.env 6=.bool true∧e'.mem.take 1=(M++[.cells true 0 [pv,tv,.str ba,.slice q 0 n none],.cells true 0 [.str (ah v.1),.str (ah v.2.1),.str (ah v.2.2)],.cells true 0 [.str (ah b.1),.str (ah b.2.1),.str (ah b.2.2)],.cells true 0 [.str (ah d2.1),.str (ah d2.2.1),.str (ah d2.2.2)],.cells true 0 [.str (ah b.1),.str (ah b.2.1),.str (ah b.2.2)],.cells true 0 [.str (ah v.1),.str (ah v.2.1),.str (ah v.2.2)],.cells true 0 [.str (ah k0v.1),.str (ah k0v.2.1),.str (ah k0v.2.2)],.cells true 0 [.str (ah k1v.1),.str (ah k1v.2.1),.str (ah k1v.2.2)]]:Mem).take 1:=by simp (maxSteps:=1000000) [-getElem?_pos,-AV.cellOk,-AV.known,-AV.cells,-bY,-List.all_eq_true,vS,mS,-jw,aS,Tryz.f5,dG,eV,tk,w1,w2,aB,dV,zk,hls,l2,l7,l9,l10,l11,l12,l13,l14,a3,a4,a6,hq,p0,r0,m0,g0,t0,p1',x1,m1,g1,t1,pz,z0,z1]
 obtain⟨⟨e1,e2,e3⟩,k1,k2,k3⟩:=h;exact⟨(e1,e2,e3),k1,k2,k3⟩
end
end Go.Proofs
namespace Go.Proofs
open Go.Eng
section
variable {O:Oracle}{M:Mem}{pv tv ev:AV}{n i q:Nat}{v:V3}{env:Env}
set_option maxRecDepth 16384 in
set_option maxHeartbeats 16000000 in
theorem Mi{b d1 d2 d3 k0v k1v k2v:V3}(hn:n=i+3) (hn2:n≤1000) (hm:1≤M.length) (rp:∀x,pv.refsOk (fun b=>decide (b<M.length+x))=true) (rt:∀x,tv.refsOk (fun b=>decide (b<M.length+x))=true) (re:∀x,ev.refsOk (fun b=>decide (b<M.length+x))=true) (cp:pv.cellOk=true) (ct:tv.cellOk=true) (ce:ev.cellOk=true) (kk:pv.known=true∧tv.known=true∧ev.known=true) (hlen:∀N,jw (aM Tryz.prog) 38 N ev=some (.int .i64 n))
  (hev:ev=.slice q 0 n none) {o:Bool}{D:List AV}(hq:∀Z,(M++Z)[q]? =some (.cells o 32 D)) (hD:D.length=n*32) {f0 f1 f2:List AV}
  (r0:(D.drop ((i+0)*32)).take 32=f0) (m0:f0.length=32) (g0:f0.all AV.cellOk=true) (s0:∀x,AV.refsOkL (fun b=>decide (b<M.length+x)) f0=true)
  (r1:(D.drop ((i+1)*32)).take 32=f1) (m1:f1.length=32) (g1:f1.all AV.cellOk=true) (s1:∀x,AV.refsOkL (fun b=>decide (b<M.length+x)) f1=true)
  (r2:(D.drop ((i+2)*32)).take 32=f2) (m2:f2.length=32) (g2:f2.all AV.cellOk=true) (s2:∀x,AV.refsOkL (fun b=>decide (b<M.length+x)) f2=true)
  (z0:∀X:Mem,X.length=10→O (.fn 21) [.agg [pv,tv],.agg f0,vA v] (M++X)=some ⟨.tuple [vA d1,.int .i64 0],none,[]⟩)
  (z1:∀X:Mem,X.length=12→O (.fn 21) [.agg [pv,tv],.agg f1,vA d1] (M++X)=some ⟨.tuple [vA d2,.int .i64 0],none,[]⟩)
  (z2:∀X:Mem,X.length=14→O (.fn 21) [.agg [pv,tv],.agg f2,vA d2] (M++X)=some ⟨.tuple [vA d3,.int .i64 0],none,[]⟩)
  : ∀env:Env,(ab env 2=.int .i64 i∧ab env 7=.ptr M.length 0∧ab env 9=.ptr (M.length+2) 0∧ab env 10=.int .i64 0∧ab env 11=.ptr (M.length+3) 0∧ab env 12=.int .i64 0∧ab env 13=.ptr (M.length+4) 0∧ab env 14=.ptr (M.length+5) 0)→bV O dW (M++[.cells true 0 [pv,tv,.str ba,ev],.cells true 0 (vL v),.cells true 0 (vL b),.cells true 0 (vL d3),.cells true 0 (vL b),.cells true 0 (vL v),.cells true 0 (vL k0v),.cells true 0 (vL k1v),.cells true 0 (vL k2v)]) env:=by
 rintro env ⟨l2,l7,l9,l10,l11,l12,l13,l14⟩ d;have w0:IntKind.i64.wrap 0=0:=rfl;have w1:IntKind.i64.wrap 1=1:=rfl;have w2:IntKind.i64.wrap 2=2:=rfl;have w3:IntKind.i64.wrap 3=3:=rfl;have hjl:∀j,(M.length+j<1)=False:=fun j=>by rw[eq_iff_iff,iff_false];omega
 have hjl0:(M.length<1)=False:=by rw[eq_iff_iff,iff_false];omega
 have tk:∀Z:Mem,(M++Z).take 1=M.take 1:=fun Z=>List.take_append_of_le_length (by omega)
 obtain⟨k1,k2,k4⟩:=kk;have eV:∀a b c,gT (aM Tryz.prog) 20 31 (.agg [.str a,.str b,.str c]) (.agg [.str a,.str b,.str c])=some true:=fun a b c=>cP (d:=18) a b c
 rw[sd];have hls:∀N b o n,jw (aM Tryz.prog) 38 N (.slice b o n none)=some (.int .i64 n):=fun _ _ _ _=>by simp
 have hln:∀N,jw (aM Tryz.prog) 38 N .nilslice=some (.int .i64 0):=fun _=>by simp
 have a1:¬(n:Int)<(i:Int):=by omega
 have a2:¬(i:Int)<0:=by omega
 have a3:i≤n:=by omega
 have a4:n-i=3:=by omega
 have wi:IntKind.i64.wrap ((i:Int)-1)=(i:Int)-1:=aj (by omega) (by omega);have gi:((i:Int)≤(i:Int)-1)=False:=by rw[eq_iff_iff,iff_false];omega
 have a5:¬i=n:=by omega
 have a6:i<n:=by omega
 have hq2:∀x,(q<M.length+x)=True:=fun x=>by rw[eq_iff_iff,iff_true];have:=hq [];rw[List.append_nil] at this;have:=(List.getElem?_eq_some_iff.1 this).1;omega
 obtain⟨y1,hy1⟩:∃y,y=i+1:=⟨_,rfl⟩
 rw[←hy1] at r1;have c1:(i:Int)≤(y1:Int):=by omega
 have c1' :i≤y1:=by omega
 have n1:y1<n:=by omega
 have wy1:IntKind.i64.wrap ((y1:Int)-1)=(i:Int):=by rw[aj (by omega) (by omega)];omega
 obtain⟨y2,hy2⟩:∃y,y=i+2:=⟨_,rfl⟩
 rw[←hy2] at r2;have c2:(i:Int)≤(y2:Int):=by omega
 have c2' :i≤y2:=by omega
 have n2:y2<n:=by omega
 have wy2:IntKind.i64.wrap ((y2:Int)-1)=(y1:Int):=by rw[aj (by omega) (by omega)];omega
 rw[Nat.add_zero] at r0;have wn:IntKind.i64.wrap ((n:Int)-1)=(y2:Int):=by rw[aj (by omega) (by omega)];omega
 have p0:i*32+32≤D.length:=by omega
 have p0' :i*32+0+32≤D.length:=by omega
 have x0:(D.drop (i*32+0)).take 32=f0:=by rw[show i*32+0=i*32 by omega];exact r0
 have t0:f0.take 32=f0:=List.take_of_length_le (by omega);have p1:y1*32+32≤D.length:=by omega
 have p1' :i*32+32+32≤D.length:=by omega
 have x1:(D.drop (i*32+32)).take 32=f1:=by rw[show i*32+32=y1*32 by omega];exact r1
 have t1:f1.take 32=f1:=List.take_of_length_le (by omega);have p2:y2*32+32≤D.length:=by omega
 have p2' :i*32+64+32≤D.length:=by omega
 have x2:(D.drop (i*32+64)).take 32=f2:=by rw[show i*32+64=y2*32 by omega];exact r2
 have t2:f2.take 32=f2:=List.take_of_length_le (by omega);have pz:n*32≤D.length:=by omega
 have pz2:i*32+96≤D.length:=by omega
 subst hev;unfold vA at z0 z1 z2;simp only[vL];have h:∃e',aT (aM Tryz.prog) zk O 6 138 1 true (.seq (dG 8 aS) (.seq (dG 9 aS) .ret)) ⟨env,M++[.cells true 0 [pv,tv,.str ba,.slice q 0 n none],.cells true 0 [.str (ah v.1),.str (ah v.2.1),.str (ah v.2.2)],.cells true 0 [.str (ah b.1),.str (ah b.2.1),.str (ah b.2.2)],.cells true 0 [.str (ah d3.1),.str (ah d3.2.1),.str (ah d3.2.2)],.cells true 0 [.str (ah b.1),.str (ah b.2.1),.str (ah b.2.2)],.cells true 0 [.str (ah v.1),.str (ah v.2.1),.str (ah v.2.2)],.cells true 0 [.str (ah k0v.1),.str (ah k0v.2.1),.str (ah k0v.2.2)],.cells true 0 [.str (ah k1v.1),.str (ah k1v.2.1),.str (ah k1v.2.2)],.cells true 0 [.str (ah k2v.1),.str (ah k2v.2.1),.str (ah k2v.2.2)]],d⟩=some (.ret,e')∧ab e'.env 6=.bool true∧e'.mem.take 1=(M++[.cells true 0 [pv,tv,.str ba,.slice q 0 n none],.cells true 0 [.str (ah v.1),.str (ah v.2.1),.str (ah v.2.2)],.cells true 0 [.str (ah b.1),.str (ah b.2.1),.str (ah b.2.2)],.cells true 0 [.str (ah d3.1),.str (ah d3.2.1),.str (ah d3.2.2)],.cells true 0 [.str (ah b.1),.str (ah b.2.1),.str (ah b.2.2)],.cells true 0 [.str (ah v.1),.str (ah v.2.1),.str (ah v.2.2)],.cells true 0 [.str (ah k0v.1),.str (ah k0v.2.1),.str (ah k0v.2.2)],.cells true 0 [.str (ah k1v.1),.str (ah k1v.2.1),.str (ah k1v.2.2)],.cells true 0 [.str (ah k2v.1),.str (ah k2v.2.1),.str (ah k2v.2.2)]]:Mem).take 1:=by simp (maxSteps:=1000000) [-getElem?_pos,-AV.cellOk,-AV.known,-AV.cells,-bY,-List.all_eq_true,vS,mS,-jw,aS,Tryz.f5,dG,eV,tk,w1,w2,w3,aB,dV,zk,hls,l2,l7,l9,l10,l11,l12,l13,l14,a3,a4,a6,hq,p0,r0,m0,g0,t0,p1',x1,m1,g1,t1,p2',x2,m2,g2,t2,pz,z0,z1,z2]
 obtain⟨⟨e1,e2,e3⟩,k1,k2,k3⟩:=h;exact⟨(e1,e2,e3),k1,k2,k3⟩
end
end Go.Proofs
namespace Go.Proofs
open Go.Eng
theorem Bj{g:FuncId}{a:List AV}{m:Mem}:∀{L:List (FuncId×List AV×(Mem→Prop)×CallRes)},(∀x∈L,x.1≠g)→cv L (.fn g) a m=none
 | [],_=>rfl
 |x::L,h=>by rw[cv,if_neg (fun e=>h x (by simp) (by have:=e.1;cases this;rfl))];exact Bj fun y hy=>h y (by simp[hy])
def TQ(A B:Oracle):Prop:=∀c a m r,A c a m=some r→B c a m=some r
def oZ(f:FuncId):Prop:=f=12∨f=13∨f=20∨f=21
def jg(s:Sheet) (p t q n:Nat) (v:V3) (x:Int) (M:Mem):Prop:=
 ∃L,OracleOk Tryz.prog (cv L)∧(∀y∈L,oZ y.1)∧∀O,TQ (cv L) O→∀env:Env,(ab env 2=.int .i64 x∧ab env 7=.ptr M.length 0∧ab env 8=.ptr (M.length+1) 0)→bV O gL (M++[.cells true 0 (aR s p t q n),.cells true 0 (vL v)]) env
section
variable {s:Sheet}{p t q:Nat}{evs:List (List AV)}{cs:List Evc}{M:Mem}{ws:List EvD}{v:V3}
theorem Tryz.HstC.rowJ(H:Tryz.HstC s p t q evs cs M) {j:Nat}{f:List AV}(h:evs[j]? =some f):(evs.flatten.drop (j*32)).take 32=f:=by have l:=H.l32 f (List.mem_of_getElem? h);rw[ot j H.l32];obtain⟨hj,rfl⟩:=List.getElem?_eq_some_iff.1 h;rw[List.drop_eq_getElem_cons hj,List.flatten_cons,List.take_append_of_le_length (by omega),List.take_of_length_le (by omega)]
theorem Tryz.HstC.mlC(H:Tryz.HstC s p t q evs cs M):1≤M.length∧(∀x,(AV.slice p 0 s.P.length none).refsOk (fun b=>decide (b<M.length+x))=true)∧(∀x,(AV.slice t 0 s.T.length none).refsOk (fun b=>decide (b<M.length+x))=true)∧(∀x,(evV q cs.length).refsOk (fun b=>decide (b<M.length+x))=true)∧(evV q cs.length).known=true:=by
 obtain⟨_,h1⟩:=H.hp;obtain⟨_,h2⟩:=H.ht;have l1:=(List.getElem?_eq_some_iff.1 h1).1;have l2:=(List.getElem?_eq_some_iff.1 h2).1;refine⟨by omega,fun x=>?_,fun x=>?_,fun x=>H.refE _ fun b hb=>by simp only[decide_eq_true_eq];omega,by unfold evV;split<;>rfl⟩
 ·simp only[AV.refsOk,decide_eq_true_eq];omega
 ·simp only[AV.refsOk,decide_eq_true_eq];omega
theorem GO(H:Tryz.HstC s p t q evs cs M) (hd:tn [ba] (cs.map unE)=false) (hv:plK 0 v) {x:Int}(hx:x<0∨(cs.length:Int)<x):jg s p t q cs.length v x M:=by
 obtain⟨hm,rp,rt,re,ke⟩:=H.mlC;obtain⟨N1,hN1⟩:∃N1:Mem,N1=M++[.cells true 0 (aR s p t q cs.length),.cells true 0 (vL v)]:=⟨_,rfl⟩
 obtain⟨N2,hN2⟩:∃N2:Mem,N2=M++[.cells true 0 (aR s p t q cs.length),.cells true 0 (vL v),.cells true 0 [.str [],.str [],.str []]]:=⟨_,rfl⟩
 refine⟨[(12,[.agg (aR s p t q cs.length),vA v,.int .i64 x],(fun N=>N=N1),⟨.tuple [Is,.int .i64 3],none,[]⟩),(13,[.agg (aR s p t q cs.length),vA v,.int .i64 x],(fun N=>N=N2),⟨.tuple [Is,.int .i64 3],none,[]⟩)],gk fun y hy N hp=>?_,fun y hy=>?_,fun O hO env=>?_⟩
 ·simp only[List.mem_cons,List.not_mem_nil,or_false] at hy
  rcases hy with rfl | rfl
  ·subst hp
   subst hN1;exact ag (by simpa using mR (H.more _) hd true hv hx)
  ·subst hp
   subst hN2;exact ag (by simpa using mR (H.more _) hd false hv hx)
 ·simp only[List.mem_cons,List.not_mem_nil,or_false] at hy
  rcases hy with rfl | rfl
  ·exact .inl rfl
  ·exact .inr (.inl rfl)
 ·have e1:=hO _ _ _ _ (aQ (f:=12) (a:=[.agg (aR s p t q cs.length),vA v,.int .i64 x]) (p:=fun N=>N=N1) (r:=⟨.tuple [Is,.int .i64 3],none,[]⟩) (L:=[(13,[.agg (aR s p t q cs.length),vA v,.int .i64 x],(fun N=>N=N2),⟨.tuple [Is,.int .i64 3],none,[]⟩)]) rfl)
  have e2:=hO _ _ _ _ ((ak (f:=12) (a:=[.agg (aR s p t q cs.length),vA v,.int .i64 x]) (p:=fun N=>N=N1) (r:=⟨.tuple [Is,.int .i64 3],none,[]⟩) (.inl (by decide))).trans (aQ (f:=13) (a:=[.agg (aR s p t q cs.length),vA v,.int .i64 x]) (p:=fun N=>N=N2) (r:=⟨.tuple [Is,.int .i64 3],none,[]⟩) (L:=[]) rfl));rw[hN1] at e1;rw[hN2] at e2;exact ob (v:=v) hm rp rt re rfl rfl (eG _ _) ⟨rfl,rfl,ke⟩ e1 e2 (Jv (n:=cs.length) hx hm rp rt re rfl rfl (eG _ _) ⟨rfl,rfl,ke⟩ (cd q cs.length)) env
set_option maxRecDepth 8192 in
set_option maxHeartbeats 3200000 in
theorem GK(H:Tryz.HstC s p t q evs cs M) (hd:tn [ba] (cs.map unE)=false) (h3:cs.length≤3) (hwl:ws.length=cs.length) (hw:∀(i:Nat) c w,cs[i]? =some c→ws[i]? =some w→w.Ok s∧c=w.con c.nm) (hv:plK 0 v) {i:Nat}(hn:cs.length=i+0):jg s p t q cs.length v i M:=by
 obtain⟨hm,rp,rt,re,ke⟩:=H.mlC;have hfl:=H.flat
 have hwd:ws.drop i=[]:=List.drop_of_length_le (by omega);have hB:mvI ws true i v=v:=by unfold mvI;rw[hwd];rfl
 have hF:mvI ws false i v=v:=by unfold mvI;rw[hwd];rfl
 obtain⟨N1,hN1⟩:∃N1:Mem,N1=M++[.cells true 0 (aR s p t q cs.length),.cells true 0 (vL v)]:=⟨_,rfl⟩
 obtain⟨N2,hN2⟩:∃N2:Mem,N2=M++[.cells true 0 (aR s p t q cs.length),.cells true 0 (vL v),.cells true 0 (vL v)]:=⟨_,rfl⟩
 obtain⟨L,hL⟩:∃L:List (FuncId×List AV×(Mem→Prop)×CallRes),L=[(12,[.agg (aR s p t q cs.length),vA v,.int .i64 i],(fun N=>N=N1),⟨.tuple [vA v,.int .i64 0],none,[]⟩),
  (13,[.agg (aR s p t q cs.length),vA v,.int .i64 i],(fun N=>N=N2),⟨.tuple [vA v,.int .i64 0],none,[]⟩)]:=⟨_,rfl⟩
 have hO1:OracleOk Tryz.prog (cv L):=gk fun y hy N hp=>by
  rw[hL] at hy;simp only[List.mem_cons,List.not_mem_nil,or_false] at hy;rcases hy with rfl | rfl
  ·subst hp
   have:=cY (H.more [.cells true 0 (aR s p t q cs.length),.cells true 0 (vL v)]) hd h3 hwl hw true hv (i:=i) (by omega);rw[hB] at this;subst hN1;exact ag (by simpa using this)
  ·subst hp
   have:=cY (H.more [.cells true 0 (aR s p t q cs.length),.cells true 0 (vL v),.cells true 0 (vL v)]) hd h3 hwl hw false hv (i:=i) (by omega);rw[hF] at this;subst hN2;exact ag (by simpa using this)
 refine⟨L,hO1,fun y hy=>?_,fun O hO env=>?_⟩
 ·rw[hL] at hy
  simp only[List.mem_cons,List.not_mem_nil,or_false] at hy;rcases hy with rfl | rfl
  ·exact .inl rfl
  ·exact .inr (.inl rfl)
 have e1:cv L (.fn 12) [.agg (aR s p t q cs.length),vA v,.int .i64 i] N1=some ⟨.tuple [vA v,.int .i64 0],none,[]⟩:=by rw[hL];exact aQ rfl
 have e2:cv L (.fn 13) [.agg (aR s p t q cs.length),vA v,.int .i64 i] N2=some ⟨.tuple [vA v,.int .i64 0],none,[]⟩:=by rw[hL,ak (.inl (by decide))];exact aQ rfl
 rw[hN1] at e1;rw[hN2] at e2;have hc:=Mf (O:=O) (M:=M) (pv:=.slice p 0 s.P.length none) (tv:=.slice t 0 s.T.length none) (ev:=evV q cs.length) (n:=cs.length) (i:=i) (q:=q) (v:=v) (b:=v) hn (by omega) hm rp rt re rfl rfl (eG _ _) ⟨rfl,rfl,ke⟩ (cd q cs.length) (D:=evs.flatten) (o:=(if h:evs=[] then true else (H.hq h).choose)) (by
  by_cases h0:cs.length=0
  ·exact .inl ⟨h0,by unfold evV;rw[if_pos h0]⟩
  ·exact .inr ⟨by omega,by unfold evV;rw[if_neg h0]⟩) (fun h0 Z=>by
  have he:evs≠[]:=by rintro rfl;have:=H.len;simp at this;omega
  rw[dif_neg he];have hq:=(H.hq he).choose_spec;rw[List.getElem?_append_left (List.getElem?_eq_some_iff.1 hq).1];exact hq) hfl
 have hb:=Mb (O:=O) (M:=M) (pv:=.slice p 0 s.P.length none) (tv:=.slice t 0 s.T.length none) (ev:=evV q cs.length) (n:=cs.length) (i:=i) (v:=v) (c:=v) hn (by omega) hm rp rt re rfl rfl (eG _ _) ⟨rfl,rfl,ke⟩ (cd q cs.length) hc;have hi:=o6 (O:=O) (M:=M) (pv:=.slice p 0 s.P.length none) (tv:=.slice t 0 s.T.length none) (ev:=evV q cs.length) (n:=cs.length) (i:=i) (v:=v) (b:=v) (c:=v) (by omega) hm rp rt re rfl rfl (eG _ _) ⟨rfl,rfl,ke⟩ (cd q cs.length) hb;exact ob (v:=v) hm rp rt re rfl rfl (eG _ _) ⟨rfl,rfl,ke⟩ (hO _ _ _ _ e1) (hO _ _ _ _ e2) hi env
set_option maxRecDepth 8192 in
set_option maxHeartbeats 3200000 in
theorem GL(H:Tryz.HstC s p t q evs cs M) (hd:tn [ba] (cs.map unE)=false) (h3:cs.length≤3) (hwl:ws.length=cs.length) (hw:∀(i:Nat) c w,cs[i]? =some c→ws[i]? =some w→w.Ok s∧c=w.con c.nm) (hv:plK 0 v) {i:Nat}(hn:cs.length=i+1):jg s p t q cs.length v i M:=by
 obtain⟨hm,rp,rt,re,ke⟩:=H.mlC;have hfl:=H.flat
 obtain⟨o,hq⟩:=H.hq (by rintro rfl;have:=H.len;simp at this;omega);have lq:=(List.getElem?_eq_some_iff.1 hq).1;have hq' :∀Z,(M++Z)[q]? =some (.cells o 32 evs.flatten):=fun Z=>by rw[List.getElem?_append_left lq];exact hq
 have hev:evV q cs.length=.slice q 0 cs.length none:=by unfold evV;rw[if_neg (by omega)]
 obtain⟨f0,i0,-⟩:=sE (l:=evs) (i:=i) (by rw[H.len];exact hn);obtain⟨u0,y0,hwd⟩:=sE (l:=ws) (i:=i) (by rw[hwl];exact hn);have l0:=H.l32 f0 (List.mem_of_getElem? i0);have k0:=mY (H.cok f0 (List.mem_of_getElem? i0));obtain⟨c0,z0⟩:∃c,cs[i]? =some c:=⟨_,List.getElem?_eq_getElem (by omega)⟩
 have g0:=hw _ c0 u0 z0 y0;have s0:=(H.con _ f0 c0 i0 z0).refs;have r0:(evs.flatten.drop ((i+0)*32)).take 32=f0:=H.rowJ i0;have hB:mvI ws true i v=(u0.mv true v):=by unfold mvI;rw[hwd];rfl
 have hF:mvI ws false i v=(u0.mv false v):=by unfold mvI;rw[hwd];rfl
 obtain⟨N1,hN1⟩:∃N1:Mem,N1=M++[.cells true 0 (aR s p t q cs.length),.cells true 0 (vL v)]:=⟨_,rfl⟩
 obtain⟨N2,hN2⟩:∃N2:Mem,N2=M++[.cells true 0 (aR s p t q cs.length),.cells true 0 (vL v),.cells true 0 (vL (u0.mv true v))]:=⟨_,rfl⟩
 obtain⟨L,hL⟩:∃L:List (FuncId×List AV×(Mem→Prop)×CallRes),L=[(12,[.agg (aR s p t q cs.length),vA v,.int .i64 i],(fun N=>N=N1),⟨.tuple [vA (u0.mv true v),.int .i64 0],none,[]⟩),
  (13,[.agg (aR s p t q cs.length),vA v,.int .i64 i],(fun N=>N=N2),⟨.tuple [vA (u0.mv false v),.int .i64 0],none,[]⟩),
  (20,[shB s p t,.agg f0,vA v],(fun N=>(∃X,N=M++X)∧N.length=M.length+6),⟨.tuple [vA (u0.mv true v),.int .i64 0],none,[]⟩),
  (21,[shB s p t,.agg f0,vA v],(fun N=>(∃X,N=M++X)∧N.length=M.length+8),⟨.tuple [vA (u0.mv false v),.int .i64 0],none,[]⟩)]:=⟨_,rfl⟩
 have hO1:OracleOk Tryz.prog (cv L):=gk fun y hy N hp=>by
  rw[hL] at hy;simp only[List.mem_cons,List.not_mem_nil,or_false] at hy;rcases hy with rfl | rfl | rfl | rfl
  ·subst hp
   have:=cY (H.more [.cells true 0 (aR s p t q cs.length),.cells true 0 (vL v)]) hd h3 hwl hw true hv (i:=i) (by omega);rw[hB] at this;subst hN1;exact ag (by simpa using this)
  ·subst hp
   have:=cY (H.more [.cells true 0 (aR s p t q cs.length),.cells true 0 (vL v),.cells true 0 (vL (u0.mv true v))]) hd h3 hwl hw false hv (i:=i) (by omega);rw[hF] at this;subst hN2;exact ag (by simpa using this)
  ·obtain⟨⟨X,rfl⟩,_⟩:=hp
   exact ag (by simpa using H.undoAt hw i0 y0 true (k:=0) hv (by decide) X)
  ·obtain⟨⟨X,rfl⟩,_⟩:=hp
   exact ag (by simpa using H.undoAt hw i0 y0 false (k:=0) hv (by decide) X)
 refine⟨L,hO1,fun y hy=>?_,fun O hO env=>?_⟩
 ·rw[hL] at hy
  simp only[List.mem_cons,List.not_mem_nil,or_false] at hy;rcases hy with rfl | rfl | rfl | rfl
  ·exact .inl rfl
  ·exact .inr (.inl rfl)
  ·exact .inr (.inr (.inl rfl))
  ·exact .inr (.inr (.inr rfl))
 have e1:cv L (.fn 12) [.agg (aR s p t q cs.length),vA v,.int .i64 i] N1=some ⟨.tuple [vA (u0.mv true v),.int .i64 0],none,[]⟩:=by rw[hL];exact aQ rfl
 have e2:cv L (.fn 13) [.agg (aR s p t q cs.length),vA v,.int .i64 i] N2=some ⟨.tuple [vA (u0.mv false v),.int .i64 0],none,[]⟩:=by rw[hL,ak (.inl (by decide))];exact aQ rfl
 have q0:∀X:Mem,X.length=6→O (.fn 20) [shB s p t,.agg f0,vA v] (M++X)=some ⟨.tuple [vA (u0.mv true v),.int .i64 0],none,[]⟩:=fun X hX=>hO _ _ _ _ (by rw[hL,ak (.inl (by decide)),ak (.inl (by decide))];exact aQ ⟨⟨_,rfl⟩,by rw[List.length_append,hX]⟩)
 have q1:∀X:Mem,X.length=8→O (.fn 21) [shB s p t,.agg f0,vA v] (M++X)=some ⟨.tuple [vA (u0.mv false v),.int .i64 0],none,[]⟩:=fun X hX=>hO _ _ _ _ (by rw[hL,ak (.inl (by decide)),ak (.inl (by decide)),ak (.inl (by decide))];exact aQ ⟨⟨_,rfl⟩,by rw[List.length_append,hX]⟩)
 rw[hN1] at e1;rw[hN2] at e2;have hc:=Mg (O:=O) (M:=M) (pv:=.slice p 0 s.P.length none) (tv:=.slice t 0 s.T.length none) (ev:=evV q cs.length) (n:=cs.length) (i:=i) (q:=q) (v:=v) (b:=(u0.mv true v)) (d1:=(u0.mv false v)) (k0v:=(u0.mv true v)) hn (by omega) hm rp rt re rfl rfl (eG _ _) ⟨rfl,rfl,ke⟩ (cd q cs.length) hev hq' hfl r0 l0 k0 s0 q1;have hb:=Mc (O:=O) (M:=M) (pv:=.slice p 0 s.P.length none) (tv:=.slice t 0 s.T.length none) (ev:=evV q cs.length) (n:=cs.length) (i:=i) (q:=q) (v:=v) (c:=(u0.mv false v)) (b1:=(u0.mv true v)) hn (by omega) hm rp rt re rfl rfl (eG _ _) ⟨rfl,rfl,ke⟩ (cd q cs.length) hev hq' hfl r0 l0 k0 s0 q0 hc;have hi:=o6 (O:=O) (M:=M) (pv:=.slice p 0 s.P.length none) (tv:=.slice t 0 s.T.length none) (ev:=evV q cs.length) (n:=cs.length) (i:=i) (v:=v) (b:=(u0.mv true v)) (c:=(u0.mv false v)) (by omega) hm rp rt re rfl rfl (eG _ _) ⟨rfl,rfl,ke⟩ (cd q cs.length) hb;exact ob (v:=v) hm rp rt re rfl rfl (eG _ _) ⟨rfl,rfl,ke⟩ (hO _ _ _ _ e1) (hO _ _ _ _ e2) hi env
set_option maxRecDepth 8192 in
set_option maxHeartbeats 3200000 in
theorem GM(H:Tryz.HstC s p t q evs cs M) (hd:tn [ba] (cs.map unE)=false) (h3:cs.length≤3) (hwl:ws.length=cs.length) (hw:∀(i:Nat) c w,cs[i]? =some c→ws[i]? =some w→w.Ok s∧c=w.con c.nm) (hv:plK 0 v) {i:Nat}(hn:cs.length=i+2):jg s p t q cs.length v i M:=by
 obtain⟨hm,rp,rt,re,ke⟩:=H.mlC;have hfl:=H.flat
 obtain⟨o,hq⟩:=H.hq (by rintro rfl;have:=H.len;simp at this;omega);have lq:=(List.getElem?_eq_some_iff.1 hq).1;have hq' :∀Z,(M++Z)[q]? =some (.cells o 32 evs.flatten):=fun Z=>by rw[List.getElem?_append_left lq];exact hq
 have hev:evV q cs.length=.slice q 0 cs.length none:=by unfold evV;rw[if_neg (by omega)]
 obtain⟨f0,f1,i0,i1,-⟩:=sF (l:=evs) (i:=i) (by rw[H.len];exact hn);obtain⟨u0,u1,y0,y1,hwd⟩:=sF (l:=ws) (i:=i) (by rw[hwl];exact hn);have l0:=H.l32 f0 (List.mem_of_getElem? i0);have k0:=mY (H.cok f0 (List.mem_of_getElem? i0));obtain⟨c0,z0⟩:∃c,cs[i]? =some c:=⟨_,List.getElem?_eq_getElem (by omega)⟩
 have g0:=hw _ c0 u0 z0 y0;have s0:=(H.con _ f0 c0 i0 z0).refs;have r0:(evs.flatten.drop ((i+0)*32)).take 32=f0:=H.rowJ i0;have l1:=H.l32 f1 (List.mem_of_getElem? i1);have k1:=mY (H.cok f1 (List.mem_of_getElem? i1));obtain⟨c1,z1⟩:∃c,cs[i+1]? =some c:=⟨_,List.getElem?_eq_getElem (by omega)⟩
 have g1:=hw _ c1 u1 z1 y1;have s1:=(H.con _ f1 c1 i1 z1).refs;have r1:(evs.flatten.drop ((i+1)*32)).take 32=f1:=H.rowJ i1;have pb1:plK 1 (u1.mv true v):=nh (k:=0) g1.1 true hv (by decide);have pd1:plK 1 (u0.mv false v):=nh (k:=0) g0.1 false hv (by decide);have hB:mvI ws true i v=(u0.mv true (u1.mv true v)):=by unfold mvI;rw[hwd];rfl
 have hF:mvI ws false i v=(u1.mv false (u0.mv false v)):=by unfold mvI;rw[hwd];rfl
 obtain⟨N1,hN1⟩:∃N1:Mem,N1=M++[.cells true 0 (aR s p t q cs.length),.cells true 0 (vL v)]:=⟨_,rfl⟩
 obtain⟨N2,hN2⟩:∃N2:Mem,N2=M++[.cells true 0 (aR s p t q cs.length),.cells true 0 (vL v),.cells true 0 (vL (u0.mv true (u1.mv true v)))]:=⟨_,rfl⟩
 obtain⟨L,hL⟩:∃L:List (FuncId×List AV×(Mem→Prop)×CallRes),L=[(12,[.agg (aR s p t q cs.length),vA v,.int .i64 i],(fun N=>N=N1),⟨.tuple [vA (u0.mv true (u1.mv true v)),.int .i64 0],none,[]⟩),
  (13,[.agg (aR s p t q cs.length),vA v,.int .i64 i],(fun N=>N=N2),⟨.tuple [vA (u1.mv false (u0.mv false v)),.int .i64 0],none,[]⟩),
  (20,[shB s p t,.agg f1,vA v],(fun N=>(∃X,N=M++X)∧N.length=M.length+6),⟨.tuple [vA (u1.mv true v),.int .i64 0],none,[]⟩),
  (20,[shB s p t,.agg f0,vA (u1.mv true v)],(fun N=>(∃X,N=M++X)∧N.length=M.length+7),⟨.tuple [vA (u0.mv true (u1.mv true v)),.int .i64 0],none,[]⟩),
  (21,[shB s p t,.agg f0,vA v],(fun N=>(∃X,N=M++X)∧N.length=M.length+9),⟨.tuple [vA (u0.mv false v),.int .i64 0],none,[]⟩),
  (21,[shB s p t,.agg f1,vA (u0.mv false v)],(fun N=>(∃X,N=M++X)∧N.length=M.length+11),⟨.tuple [vA (u1.mv false (u0.mv false v)),.int .i64 0],none,[]⟩)]:=⟨_,rfl⟩
 have hO1:OracleOk Tryz.prog (cv L):=gk fun y hy N hp=>by
  rw[hL] at hy;simp only[List.mem_cons,List.not_mem_nil,or_false] at hy;rcases hy with rfl | rfl | rfl | rfl | rfl | rfl
  ·subst hp
   have:=cY (H.more [.cells true 0 (aR s p t q cs.length),.cells true 0 (vL v)]) hd h3 hwl hw true hv (i:=i) (by omega);rw[hB] at this;subst hN1;exact ag (by simpa using this)
  ·subst hp
   have:=cY (H.more [.cells true 0 (aR s p t q cs.length),.cells true 0 (vL v),.cells true 0 (vL (u0.mv true (u1.mv true v)))]) hd h3 hwl hw false hv (i:=i) (by omega);rw[hF] at this;subst hN2;exact ag (by simpa using this)
  ·obtain⟨⟨X,rfl⟩,_⟩:=hp
   exact ag (by simpa using H.undoAt hw i1 y1 true (k:=0) hv (by decide) X)
  ·obtain⟨⟨X,rfl⟩,_⟩:=hp
   exact ag (by simpa using H.undoAt hw i0 y0 true (k:=1) pb1 (by decide) X)
  ·obtain⟨⟨X,rfl⟩,_⟩:=hp
   exact ag (by simpa using H.undoAt hw i0 y0 false (k:=0) hv (by decide) X)
  ·obtain⟨⟨X,rfl⟩,_⟩:=hp
   exact ag (by simpa using H.undoAt hw i1 y1 false (k:=1) pd1 (by decide) X)
 refine⟨L,hO1,fun y hy=>?_,fun O hO env=>?_⟩
 ·rw[hL] at hy
  simp only[List.mem_cons,List.not_mem_nil,or_false] at hy;rcases hy with rfl | rfl | rfl | rfl | rfl | rfl
  ·exact .inl rfl
  ·exact .inr (.inl rfl)
  ·exact .inr (.inr (.inl rfl))
  ·exact .inr (.inr (.inl rfl))
  ·exact .inr (.inr (.inr rfl))
  ·exact .inr (.inr (.inr rfl))
 have e1:cv L (.fn 12) [.agg (aR s p t q cs.length),vA v,.int .i64 i] N1=some ⟨.tuple [vA (u0.mv true (u1.mv true v)),.int .i64 0],none,[]⟩:=by rw[hL];exact aQ rfl
 have e2:cv L (.fn 13) [.agg (aR s p t q cs.length),vA v,.int .i64 i] N2=some ⟨.tuple [vA (u1.mv false (u0.mv false v)),.int .i64 0],none,[]⟩:=by rw[hL,ak (.inl (by decide))];exact aQ rfl
 have q0:∀X:Mem,X.length=6→O (.fn 20) [shB s p t,.agg f1,vA v] (M++X)=some ⟨.tuple [vA (u1.mv true v),.int .i64 0],none,[]⟩:=fun X hX=>hO _ _ _ _ (by rw[hL,ak (.inl (by decide)),ak (.inl (by decide))];exact aQ ⟨⟨_,rfl⟩,by rw[List.length_append,hX]⟩)
 have q1:∀X:Mem,X.length=7→O (.fn 20) [shB s p t,.agg f0,vA (u1.mv true v)] (M++X)=some ⟨.tuple [vA (u0.mv true (u1.mv true v)),.int .i64 0],none,[]⟩:=fun X hX=>hO _ _ _ _ (by rw[hL,ak (.inl (by decide)),ak (.inl (by decide)),ak (.inr (by intro h;have:=h.2;rw[List.length_append] at this;omega))];exact aQ ⟨⟨_,rfl⟩,by rw[List.length_append,hX]⟩)
 have q2:∀X:Mem,X.length=9→O (.fn 21) [shB s p t,.agg f0,vA v] (M++X)=some ⟨.tuple [vA (u0.mv false v),.int .i64 0],none,[]⟩:=fun X hX=>hO _ _ _ _ (by rw[hL,ak (.inl (by decide)),ak (.inl (by decide)),ak (.inl (by decide)),ak (.inl (by decide))];exact aQ ⟨⟨_,rfl⟩,by rw[List.length_append,hX]⟩)
 have q3:∀X:Mem,X.length=11→O (.fn 21) [shB s p t,.agg f1,vA (u0.mv false v)] (M++X)=some ⟨.tuple [vA (u1.mv false (u0.mv false v)),.int .i64 0],none,[]⟩:=fun X hX=>hO _ _ _ _ (by rw[hL,ak (.inl (by decide)),ak (.inl (by decide)),ak (.inl (by decide)),ak (.inl (by decide)),ak (.inr (by intro h;have:=h.2;rw[List.length_append] at this;omega))];exact aQ ⟨⟨_,rfl⟩,by rw[List.length_append,hX]⟩)
 rw[hN1] at e1;rw[hN2] at e2;have hc:=Mh (O:=O) (M:=M) (pv:=.slice p 0 s.P.length none) (tv:=.slice t 0 s.T.length none) (ev:=evV q cs.length) (n:=cs.length) (i:=i) (q:=q) (v:=v) (b:=(u0.mv true (u1.mv true v))) (d1:=(u0.mv false v)) (d2:=(u1.mv false (u0.mv false v))) (k0v:=(u1.mv true v)) (k1v:=(u0.mv true (u1.mv true v))) hn (by omega) hm rp rt re rfl rfl (eG _ _) ⟨rfl,rfl,ke⟩ (cd q cs.length) hev hq' hfl r0 l0 k0 s0 r1 l1 k1 s1 q2 q3;have hb:=Md (O:=O) (M:=M) (pv:=.slice p 0 s.P.length none) (tv:=.slice t 0 s.T.length none) (ev:=evV q cs.length) (n:=cs.length) (i:=i) (q:=q) (v:=v) (c:=(u1.mv false (u0.mv false v))) (b1:=(u1.mv true v)) (b2:=(u0.mv true (u1.mv true v))) hn (by omega) hm rp rt re rfl rfl (eG _ _) ⟨rfl,rfl,ke⟩ (cd q cs.length) hev hq' hfl r0 l0 k0 s0 r1 l1 k1 s1 q0 q1 hc;have hi:=o6 (O:=O) (M:=M) (pv:=.slice p 0 s.P.length none) (tv:=.slice t 0 s.T.length none) (ev:=evV q cs.length) (n:=cs.length) (i:=i) (v:=v) (b:=(u0.mv true (u1.mv true v))) (c:=(u1.mv false (u0.mv false v))) (by omega) hm rp rt re rfl rfl (eG _ _) ⟨rfl,rfl,ke⟩ (cd q cs.length) hb;exact ob (v:=v) hm rp rt re rfl rfl (eG _ _) ⟨rfl,rfl,ke⟩ (hO _ _ _ _ e1) (hO _ _ _ _ e2) hi env
set_option maxRecDepth 8192 in
set_option maxHeartbeats 3200000 in
theorem GN(H:Tryz.HstC s p t q evs cs M) (hd:tn [ba] (cs.map unE)=false) (h3:cs.length≤3) (hwl:ws.length=cs.length) (hw:∀(i:Nat) c w,cs[i]? =some c→ws[i]? =some w→w.Ok s∧c=w.con c.nm) (hv:plK 0 v) {i:Nat}(hn:cs.length=i+3):jg s p t q cs.length v i M:=by
 obtain⟨hm,rp,rt,re,ke⟩:=H.mlC;have hfl:=H.flat
 obtain⟨o,hq⟩:=H.hq (by rintro rfl;have:=H.len;simp at this;omega);have lq:=(List.getElem?_eq_some_iff.1 hq).1;have hq' :∀Z,(M++Z)[q]? =some (.cells o 32 evs.flatten):=fun Z=>by rw[List.getElem?_append_left lq];exact hq
 have hev:evV q cs.length=.slice q 0 cs.length none:=by unfold evV;rw[if_neg (by omega)]
 obtain⟨f0,f1,f2,i0,i1,i2,-⟩:=xd (l:=evs) (i:=i) (by rw[H.len];exact hn);obtain⟨u0,u1,u2,y0,y1,y2,hwd⟩:=xd (l:=ws) (i:=i) (by rw[hwl];exact hn);have l0:=H.l32 f0 (List.mem_of_getElem? i0);have k0:=mY (H.cok f0 (List.mem_of_getElem? i0));obtain⟨c0,z0⟩:∃c,cs[i]? =some c:=⟨_,List.getElem?_eq_getElem (by omega)⟩
 have g0:=hw _ c0 u0 z0 y0;have s0:=(H.con _ f0 c0 i0 z0).refs;have r0:(evs.flatten.drop ((i+0)*32)).take 32=f0:=H.rowJ i0;have l1:=H.l32 f1 (List.mem_of_getElem? i1);have k1:=mY (H.cok f1 (List.mem_of_getElem? i1));obtain⟨c1,z1⟩:∃c,cs[i+1]? =some c:=⟨_,List.getElem?_eq_getElem (by omega)⟩
 have g1:=hw _ c1 u1 z1 y1;have s1:=(H.con _ f1 c1 i1 z1).refs;have r1:(evs.flatten.drop ((i+1)*32)).take 32=f1:=H.rowJ i1;have l2:=H.l32 f2 (List.mem_of_getElem? i2);have k2:=mY (H.cok f2 (List.mem_of_getElem? i2));obtain⟨c2,z2⟩:∃c,cs[i+2]? =some c:=⟨_,List.getElem?_eq_getElem (by omega)⟩
 have g2:=hw _ c2 u2 z2 y2;have s2:=(H.con _ f2 c2 i2 z2).refs;have r2:(evs.flatten.drop ((i+2)*32)).take 32=f2:=H.rowJ i2;have pb1:plK 1 (u2.mv true v):=nh (k:=0) g2.1 true hv (by decide);have pd1:plK 1 (u0.mv false v):=nh (k:=0) g0.1 false hv (by decide);have pb2:plK 2 (u1.mv true (u2.mv true v)):=nh (k:=1) g1.1 true pb1 (by decide);have pd2:plK 2 (u1.mv false (u0.mv false v)):=nh (k:=1) g1.1 false pd1 (by decide);have hB:mvI ws true i v=(u0.mv true (u1.mv true (u2.mv true v))):=by unfold mvI;rw[hwd];rfl
 have hF:mvI ws false i v=(u2.mv false (u1.mv false (u0.mv false v))):=by unfold mvI;rw[hwd];rfl
 obtain⟨N1,hN1⟩:∃N1:Mem,N1=M++[.cells true 0 (aR s p t q cs.length),.cells true 0 (vL v)]:=⟨_,rfl⟩
 obtain⟨N2,hN2⟩:∃N2:Mem,N2=M++[.cells true 0 (aR s p t q cs.length),.cells true 0 (vL v),.cells true 0 (vL (u0.mv true (u1.mv true (u2.mv true v))))]:=⟨_,rfl⟩
 obtain⟨L,hL⟩:∃L:List (FuncId×List AV×(Mem→Prop)×CallRes),L=[(12,[.agg (aR s p t q cs.length),vA v,.int .i64 i],(fun N=>N=N1),⟨.tuple [vA (u0.mv true (u1.mv true (u2.mv true v))),.int .i64 0],none,[]⟩),
  (13,[.agg (aR s p t q cs.length),vA v,.int .i64 i],(fun N=>N=N2),⟨.tuple [vA (u2.mv false (u1.mv false (u0.mv false v))),.int .i64 0],none,[]⟩),
  (20,[shB s p t,.agg f2,vA v],(fun N=>(∃X,N=M++X)∧N.length=M.length+6),⟨.tuple [vA (u2.mv true v),.int .i64 0],none,[]⟩),
  (20,[shB s p t,.agg f1,vA (u2.mv true v)],(fun N=>(∃X,N=M++X)∧N.length=M.length+7),⟨.tuple [vA (u1.mv true (u2.mv true v)),.int .i64 0],none,[]⟩),
  (20,[shB s p t,.agg f0,vA (u1.mv true (u2.mv true v))],(fun N=>(∃X,N=M++X)∧N.length=M.length+8),⟨.tuple [vA (u0.mv true (u1.mv true (u2.mv true v))),.int .i64 0],none,[]⟩),
  (21,[shB s p t,.agg f0,vA v],(fun N=>(∃X,N=M++X)∧N.length=M.length+10),⟨.tuple [vA (u0.mv false v),.int .i64 0],none,[]⟩),
  (21,[shB s p t,.agg f1,vA (u0.mv false v)],(fun N=>(∃X,N=M++X)∧N.length=M.length+12),⟨.tuple [vA (u1.mv false (u0.mv false v)),.int .i64 0],none,[]⟩),
  (21,[shB s p t,.agg f2,vA (u1.mv false (u0.mv false v))],(fun N=>(∃X,N=M++X)∧N.length=M.length+14),⟨.tuple [vA (u2.mv false (u1.mv false (u0.mv false v))),.int .i64 0],none,[]⟩)]:=⟨_,rfl⟩
 have hO1:OracleOk Tryz.prog (cv L):=gk fun y hy N hp=>by
  rw[hL] at hy;simp only[List.mem_cons,List.not_mem_nil,or_false] at hy;rcases hy with rfl | rfl | rfl | rfl | rfl | rfl | rfl | rfl
  ·subst hp
   have:=cY (H.more [.cells true 0 (aR s p t q cs.length),.cells true 0 (vL v)]) hd h3 hwl hw true hv (i:=i) (by omega);rw[hB] at this;subst hN1;exact ag (by simpa using this)
  ·subst hp
   have:=cY (H.more [.cells true 0 (aR s p t q cs.length),.cells true 0 (vL v),.cells true 0 (vL (u0.mv true (u1.mv true (u2.mv true v))))]) hd h3 hwl hw false hv (i:=i) (by omega);rw[hF] at this;subst hN2;exact ag (by simpa using this)
  ·obtain⟨⟨X,rfl⟩,_⟩:=hp
   exact ag (by simpa using H.undoAt hw i2 y2 true (k:=0) hv (by decide) X)
  ·obtain⟨⟨X,rfl⟩,_⟩:=hp
   exact ag (by simpa using H.undoAt hw i1 y1 true (k:=1) pb1 (by decide) X)
  ·obtain⟨⟨X,rfl⟩,_⟩:=hp
   exact ag (by simpa using H.undoAt hw i0 y0 true (k:=2) pb2 (by decide) X)
  ·obtain⟨⟨X,rfl⟩,_⟩:=hp
   exact ag (by simpa using H.undoAt hw i0 y0 false (k:=0) hv (by decide) X)
  ·obtain⟨⟨X,rfl⟩,_⟩:=hp
   exact ag (by simpa using H.undoAt hw i1 y1 false (k:=1) pd1 (by decide) X)
  ·obtain⟨⟨X,rfl⟩,_⟩:=hp
   exact ag (by simpa using H.undoAt hw i2 y2 false (k:=2) pd2 (by decide) X)
 refine⟨L,hO1,fun y hy=>?_,fun O hO env=>?_⟩
 ·rw[hL] at hy
  simp only[List.mem_cons,List.not_mem_nil,or_false] at hy;rcases hy with rfl | rfl | rfl | rfl | rfl | rfl | rfl | rfl
  ·exact .inl rfl
  ·exact .inr (.inl rfl)
  ·exact .inr (.inr (.inl rfl))
  ·exact .inr (.inr (.inl rfl))
  ·exact .inr (.inr (.inl rfl))
  ·exact .inr (.inr (.inr rfl))
  ·exact .inr (.inr (.inr rfl))
  ·exact .inr (.inr (.inr rfl))
 have e1:cv L (.fn 12) [.agg (aR s p t q cs.length),vA v,.int .i64 i] N1=some ⟨.tuple [vA (u0.mv true (u1.mv true (u2.mv true v))),.int .i64 0],none,[]⟩:=by rw[hL];exact aQ rfl
 have e2:cv L (.fn 13) [.agg (aR s p t q cs.length),vA v,.int .i64 i] N2=some ⟨.tuple [vA (u2.mv false (u1.mv false (u0.mv false v))),.int .i64 0],none,[]⟩:=by rw[hL,ak (.inl (by decide))];exact aQ rfl
 have q0:∀X:Mem,X.length=6→O (.fn 20) [shB s p t,.agg f2,vA v] (M++X)=some ⟨.tuple [vA (u2.mv true v),.int .i64 0],none,[]⟩:=fun X hX=>hO _ _ _ _ (by rw[hL,ak (.inl (by decide)),ak (.inl (by decide))];exact aQ ⟨⟨_,rfl⟩,by rw[List.length_append,hX]⟩)
 have q1:∀X:Mem,X.length=7→O (.fn 20) [shB s p t,.agg f1,vA (u2.mv true v)] (M++X)=some ⟨.tuple [vA (u1.mv true (u2.mv true v)),.int .i64 0],none,[]⟩:=fun X hX=>hO _ _ _ _ (by rw[hL,ak (.inl (by decide)),ak (.inl (by decide)),ak (.inr (by intro h;have:=h.2;rw[List.length_append] at this;omega))];exact aQ ⟨⟨_,rfl⟩,by rw[List.length_append,hX]⟩)
 have q2:∀X:Mem,X.length=8→O (.fn 20) [shB s p t,.agg f0,vA (u1.mv true (u2.mv true v))] (M++X)=some ⟨.tuple [vA (u0.mv true (u1.mv true (u2.mv true v))),.int .i64 0],none,[]⟩:=fun X hX=>hO _ _ _ _ (by rw[hL,ak (.inl (by decide)),ak (.inl (by decide)),ak (.inr (by intro h;have:=h.2;rw[List.length_append] at this;omega)),ak (.inr (by intro h;have:=h.2;rw[List.length_append] at this;omega))];exact aQ ⟨⟨_,rfl⟩,by rw[List.length_append,hX]⟩)
 have q3:∀X:Mem,X.length=10→O (.fn 21) [shB s p t,.agg f0,vA v] (M++X)=some ⟨.tuple [vA (u0.mv false v),.int .i64 0],none,[]⟩:=fun X hX=>hO _ _ _ _ (by rw[hL,ak (.inl (by decide)),ak (.inl (by decide)),ak (.inl (by decide)),ak (.inl (by decide)),ak (.inl (by decide))];exact aQ ⟨⟨_,rfl⟩,by rw[List.length_append,hX]⟩)
 have q4:∀X:Mem,X.length=12→O (.fn 21) [shB s p t,.agg f1,vA (u0.mv false v)] (M++X)=some ⟨.tuple [vA (u1.mv false (u0.mv false v)),.int .i64 0],none,[]⟩:=fun X hX=>hO _ _ _ _ (by rw[hL,ak (.inl (by decide)),ak (.inl (by decide)),ak (.inl (by decide)),ak (.inl (by decide)),ak (.inl (by decide)),ak (.inr (by intro h;have:=h.2;rw[List.length_append] at this;omega))];exact aQ ⟨⟨_,rfl⟩,by rw[List.length_append,hX]⟩)
 have q5:∀X:Mem,X.length=14→O (.fn 21) [shB s p t,.agg f2,vA (u1.mv false (u0.mv false v))] (M++X)=some ⟨.tuple [vA (u2.mv false (u1.mv false (u0.mv false v))),.int .i64 0],none,[]⟩:=fun X hX=>hO _ _ _ _ (by rw[hL,ak (.inl (by decide)),ak (.inl (by decide)),ak (.inl (by decide)),ak (.inl (by decide)),ak (.inl (by decide)),ak (.inr (by intro h;have:=h.2;rw[List.length_append] at this;omega)),ak (.inr (by intro h;have:=h.2;rw[List.length_append] at this;omega))];exact aQ ⟨⟨_,rfl⟩,by rw[List.length_append,hX]⟩)
 rw[hN1] at e1;rw[hN2] at e2;have hc:=Mi (O:=O) (M:=M) (pv:=.slice p 0 s.P.length none) (tv:=.slice t 0 s.T.length none) (ev:=evV q cs.length) (n:=cs.length) (i:=i) (q:=q) (v:=v) (b:=(u0.mv true (u1.mv true (u2.mv true v)))) (d1:=(u0.mv false v)) (d2:=(u1.mv false (u0.mv false v))) (d3:=(u2.mv false (u1.mv false (u0.mv false v)))) (k0v:=(u2.mv true v)) (k1v:=(u1.mv true (u2.mv true v))) (k2v:=(u0.mv true (u1.mv true (u2.mv true v)))) hn (by omega) hm rp rt re rfl rfl (eG _ _) ⟨rfl,rfl,ke⟩ (cd q cs.length) hev hq' hfl r0 l0 k0 s0 r1 l1 k1 s1 r2 l2 k2 s2 q3 q4 q5;have hb:=Me (O:=O) (M:=M) (pv:=.slice p 0 s.P.length none) (tv:=.slice t 0 s.T.length none) (ev:=evV q cs.length) (n:=cs.length) (i:=i) (q:=q) (v:=v) (c:=(u2.mv false (u1.mv false (u0.mv false v)))) (b1:=(u2.mv true v)) (b2:=(u1.mv true (u2.mv true v))) (b3:=(u0.mv true (u1.mv true (u2.mv true v)))) hn (by omega) hm rp rt re rfl rfl (eG _ _) ⟨rfl,rfl,ke⟩ (cd q cs.length) hev hq' hfl r0 l0 k0 s0 r1 l1 k1 s1 r2 l2 k2 s2 q0 q1 q2 hc;have hi:=o6 (O:=O) (M:=M) (pv:=.slice p 0 s.P.length none) (tv:=.slice t 0 s.T.length none) (ev:=evV q cs.length) (n:=cs.length) (i:=i) (v:=v) (b:=(u0.mv true (u1.mv true (u2.mv true v)))) (c:=(u2.mv false (u1.mv false (u0.mv false v)))) (by omega) hm rp rt re rfl rfl (eG _ _) ⟨rfl,rfl,ke⟩ (cd q cs.length) hb;exact ob (v:=v) hm rp rt re rfl rfl (eG _ _) ⟨rfl,rfl,ke⟩ (hO _ _ _ _ e1) (hO _ _ _ _ e2) hi env
theorem Jt(H:Tryz.HstC s p t q evs cs M) (hd:tn [ba] (cs.map unE)=false) (h3:cs.length≤3) (hv:plK 0 v) (x:Int):jg s p t q cs.length v x M:=by
 by_cases hx:x<0∨(cs.length:Int)<x
 ·exact GO H hd hv hx
 ·obtain⟨ws,hwl,hw⟩:=H.evds
  obtain⟨i,rfl⟩:∃i:Nat,x=i:=⟨x.toNat,by omega⟩
  have hk:cs.length=i+0∨cs.length=i+1∨cs.length=i+2∨cs.length=i+3:=by omega
  rcases hk with hk | hk | hk | hk
  ·exact GK H hd h3 hwl hw hv hk
  ·exact GL H hd h3 hwl hw hv hk
  ·exact GM H hd h3 hwl hw hv hk
  ·exact GN H hd h3 hwl hw hv hk
end
end Go.Proofs
namespace Go.Proofs
open Go.Eng
section
variable {O:Oracle}{N new:Mem}{s:Sheet}{a:AV}{x:Z3}{p t q n:Nat}{v:V3}
set_option maxRecDepth 16384 in
set_option maxHeartbeats 16000000 in
theorem Mj{i:Int}{o1 o2:Bool}(hN:3≤N.length) (ha:a=.nilslice∨∃k,a=.slice 0 0 k none)
  (h1:∀Z,(N++Z)[1]? =some (.cells o1 0 [.int .u8 s.kind,.int .i8 s.sx,.int .i8 s.sy,.bool s.half,a])) (h2:∀Z,(N++Z)[2]? =some (.cells o2 0 [.int .i8 x.1,.int .i8 x.2.1,.int .i8 x.2.2]))
  (ok:OkN (N.length+new.length) new) (hr:RefT (N.length+new.length) (aR s p t q n))
  (eM:O (.fn 9) [gx s a] N=some ⟨.agg (aR s p t q n),none,new⟩)
  (eP:O (.fn 16) [gx s a,zB x] (N++new)=some ⟨vA v,none,[]⟩)
  (hT:∀env:Env,(ab env 2=.int .i64 i∧ab env 7=.ptr (N++new).length 0∧ab env 8=.ptr ((N++new).length+1) 0)→bV O gL ((N++new)++[.cells true 0 (aR s p t q n),.cells true 0 (vL v)]) env):
  ∀env:Env,(ab env 2=.int .i64 i∧ab env 3=.ptr 1 0∧ab env 4=.ptr 2 0)→bV O (.seq (dG 2 aS) gL) N env:=by
 rintro env ⟨l2,l3,l4⟩ d;obtain⟨os',hops⟩:∃os',aE Tryz.f5=os' :=⟨_,rfl⟩
 have hbs' :=br hops (ls:=[[0,1,0,0,15,0,0,127,255],[0,0,0,0,13,31],[0,1,0,4,0,28,60,0,255,511,1023,1023,0,6143,16383]]) gA;simp only[aE,bC,Tryz.f5,List.nil_append,List.append_nil,List.cons_append] at hops;subst hops;simp only[List.map_cons,List.map_nil,List.cons.injEq,and_true] at hbs';obtain⟨hb0,hb1,hb2⟩:=hbs';have hjl:∀j,(N.length+j<1)=False:=fun j=>by rw[eq_iff_iff,iff_false];omega
 have hjl0:(N.length<1)=False:=by rw[eq_iff_iff,iff_false];omega
 have hjk:(N.length≤0)=False:=by rw[eq_iff_iff,iff_false];omega
 have hj1:(1<N.length)=True:=by rw[eq_iff_iff,iff_true];omega
 have hj2:(2<N.length)=True:=by rw[eq_iff_iff,iff_true];omega
 have hj0:(0<N.length)=True:=by rw[eq_iff_iff,iff_true];omega
 have hjp:∀j,(0<N.length+j)=True:=fun j=>by rw[eq_iff_iff,iff_true];omega
 have tk:∀Z:Mem,(N++Z).take 1=N.take 1:=fun Z=>List.take_append_of_le_length (by omega)
 have h1' :N[1]? =some (.cells o1 0 [.int .u8 s.kind,.int .i8 s.sx,.int .i8 s.sy,.bool s.half,a]):=by have:=h1 [];rwa [List.append_nil] at this
 have h2' :N[2]? =some (.cells o2 0 [.int .i8 x.1,.int .i8 x.2.1,.int .i8 x.2.2]):=by have:=h2 [];rwa [List.append_nil] at this
 obtain⟨F,hF⟩:=kX (β:=Env×Mem×Bool) (fun env d h=>hT env h d);have hF1:=fun env d h=>(hF env d h).1
 have hF2:=fun env d h=>(hF env d h).2.1
 have hF3:=fun env d h=>(hF env d h).2.2
 clear hF hT;obtain⟨T,hTe⟩:∃T,T=gL:=⟨_,rfl⟩
 rw[←hTe];simp only[←hTe] at hF1;have cev:=eG q n;have kev:(evV q n).known=true:=by unfold evV;split<;>rfl
 have o_0:=ok (fun b=>decide (b<N.length+new.length)) (by intro b hb;simp only[decide_eq_true_eq];exact hb);have q_1:=fun j=>hr (fun b=>decide (b<N.length+(new.length+j))) (by intro b hb;simp only[decide_eq_true_eq];omega)
 have q_0:=hr (fun b=>decide (b<N.length+new.length)) (by intro b hb;simp only[decide_eq_true_eq];omega);unfold aR at eM hF1 hF2 hF3 q_1 q_0;simp only[AV.refsOkL,Bool.and_eq_true] at q_1 q_0;have q11:=fun j=>(q_1 j).1
 have q12:=fun j=>(q_1 j).2.1
 have q13:=fun j=>(q_1 j).2.2.2.1
 obtain⟨q01,q02,_,q03,_⟩:=q_0;clear q_1 hr ok;obtain⟨E,hE⟩:∃E,E=evV q n:=⟨_,rfl⟩
 simp only[←hE] at cev kev eM hF1 hF3 q13 q03;unfold vA gx zB at eP;unfold gx at eM;simp only[vL,List.append_assoc,List.length_append,Nat.add_assoc,tk] at hF1 hF2 hF3;have h:∃e',aT (aM Tryz.prog) zk O 6 138 1 true (.seq (dG 2 aS) T) ⟨env,N,d⟩=some (.ret,e')∧ab e'.env 6=.bool true∧e'.mem.take 1=N.take 1:=by
  clear hTe hE;rcases ha with rfl | ⟨k,rfl⟩<;>
  simp[-getElem?_pos,-AV.cellOk,-AV.known,-AV.cells,-bY,-List.all_eq_true,vS,rS,mS,aS,Tryz.f5,dG,hjk,hj0,hj1,hj2,hjp,-bu,-bd,-aD,-AV.refsOk,-Slot.refsOk,mH,bD hb0,dy,eZ,gf,dx,cj,kQ,bef,Nat.testBit,h1,h2,h1',l2,l3,l4,cev,o_0,q11,q12,q13,q01,q02,q03,eM,eP,hF1,hF2,hF3]
 obtain⟨⟨e1,e2,e3⟩,k1,k2,k3⟩:=h;exact⟨(e1,e2,e3),k1,k2,k3⟩
end
end Go.Proofs
namespace Go.Proofs
open Go.Eng
theorem JR(ds:List Deed):AV.refsL 1 (eO ds)=[]:=by
 induction ds with
 |nil=>rfl
 |cons d l ih=>exact ih
theorem C8(ds:List Deed):AV.closeds (eO ds)=true:=by
 induction ds with
 |nil=>rfl
 |cons d l ih=>exact ih
theorem HZ{ds:List Deed}{X:Slot}(h:X=.absent∨X=.cells false 12 (eO ds)):Slot.refs 1 X=[]∧∀f,Slot.ren f X=X:=by
 rcases h with rfl | rfl
 ·exact⟨rfl,fun _=>rfl⟩
 ·exact⟨JR ds,fun f=>congrArg (Slot.cells false 12) (bH (C8 ds))⟩
set_option maxRecDepth 16384 in
set_option maxHeartbeats 8000000 in
theorem Ju{O:Oracle}(hO:OracleOk Tryz.prog O) {s:Sheet}{a:AV}{x:Z3}{X:Slot}{i:Int}
  (hack:a.cellOk=true) (hakn:a.known=true) (hX:Slot.refs 1 X=[]∧∀f,Slot.ren f X=X)
  (e1:O (.fn 7) [] [X,.cells true 0 [.int .u8 s.kind,.int .i8 s.sx,.int .i8 s.sy,.bool s.half,a],.cells true 0 [.int .i8 x.1,.int .i8 x.2.1,.int .i8 x.2.2]]=some ⟨.bool true,none,[]⟩)
  (e2:O (.fn 8) [gx s a] [X,.cells true 0 [.int .u8 s.kind,.int .i8 s.sx,.int .i8 s.sy,.bool s.half,a],.cells true 0 [.int .i8 x.1,.int .i8 x.2.1,.int .i8 x.2.2]]=some ⟨.bool true,none,[]⟩)
  (hT:∀env:Env,(ab env 2=.int .i64 i∧ab env 3=.ptr 1 0∧ab env 4=.ptr 2 0)→bV O (.seq (dG 2 aS) gL) [X,.cells true 0 [.int .u8 s.kind,.int .i8 s.sx,.int .i8 s.sy,.bool s.half,a],.cells true 0 [.int .i8 x.1,.int .i8 x.2.1,.int .i8 x.2.2]] env):
  ACallsTo Tryz.prog 5 [gx s a,zB x,.int .i64 i] [X] (.bool true) [X]:=by
 have hG:aL Tryz.prog 5=some Tryz.f5:=by kernel_rfl
 obtain⟨x1,x2⟩:=hX;have hb:=Qt;obtain⟨F,hF⟩:=kX (β:=Env×Mem×Bool) (fun env d h=>hT env h d);have hF1:=fun env d h=>(hF env d h).1
 have hF2:=fun env d h=>(hF env d h).2.1
 have hF3:=fun env d h=>(hF env d h).2.2
 clear hF hT;obtain⟨T,hTe⟩:∃T,T=Code.seq (dG 2 aS) gL:=⟨_,rfl⟩
 simp only[←hTe] at hF1;rw[←hTe] at hb;simp only[List.take_succ_cons,List.take_zero] at hF3;have h:∃r,aa (aM Tryz.prog) zk (aL Tryz.prog) O 6 5 [gx s a,zB x,.int .i64 i] [X]=some r∧r.v=.bool true∧r.mem [X]=[X]:=by unfold aa;rw[hG];dsimp only;rw[hb];dsimp only;clear hTe hb hO;simp only[gx] at e2;simp[-AV.cellOk,-AV.known,-AV.cells,vS,-jw,-List.all_eq_true,aS,Tryz.f5,dG,-Slot.ren,-Slot.refs,gx,zB,e1,e2,hF1,hF2,hF3,x1,x2];split<;>simp[-Slot.ren,-Slot.refs]
 obtain⟨r,h1,h2,h3⟩:=h;have:=(al ae (aw _) hO (az _) h1).1
 rwa [h2,h3] at this
set_option maxRecDepth 16384 in
set_option maxHeartbeats 4000000 in
theorem jY(s:Sheet) (hs:s.Ok) (ds:List Deed) (hd:∀d∈ds,d.Ok) (X:Slot) (a:AV) (hx:SK ds X a) (hX:X=.absent∨X=.cells false 12 (eO ds)) (x:Z3) (hz:z8 x) (i:Int):
  ACallsTo Tryz.prog 5 [gx s a,zB x,.int .i64 i] [X] (.bool true) [X]:=by
 have hG:aL Tryz.prog 5=some Tryz.f5:=by kernel_rfl
 have hfit:=fun N=>Lv s a ds.length (by rcases hx with⟨rfl,rfl⟩ | ⟨_,rfl⟩;exact .inl ⟨rfl,rfl⟩;exact .inr rfl) N
 have hack:a.cellOk=true:=by rcases hx with⟨_,rfl⟩ | ⟨_,rfl⟩<;>rfl
 have hakn:a.known=true:=by rcases hx with⟨_,rfl⟩ | ⟨_,rfl⟩<;>rfl
 by_cases h3:ds.length≤3
 rotate_left
 ·have hO:OracleOk Tryz.prog (af (bG [(7,[],.bool true),(8,[gx s a],.bool false)])):=cF fun y hy M=>by
   simp only[List.mem_cons,List.not_mem_nil,or_false] at hy;rcases hy with rfl | rfl
   ·exact rN M
   ·have:=hfit M;rwa [decide_eq_false h3] at this
  have h:aa (aM Tryz.prog) (fun _=>[]) (aL Tryz.prog) (af (bG [(7,[],.bool true),(8,[gx s a],.bool false)])) 1 5 [gx s a,zB x,.int .i64 i] [X]=some ⟨.bool true,none,[]⟩:=by clear hO hfit;simp[-AV.cellOk,-List.all_eq_true,aa,hG,Tryz.f5,af,bG,gx,zB];done
  have:=(al ae (aw _) hO (az _) h).1;simpa [CallRes.mem] using this
 obtain⟨N,hN⟩:∃N:Mem,N=[X,.cells true 0 [.int .u8 s.kind,.int .i8 s.sx,.int .i8 s.sy,.bool s.half,a],.cells true 0 [.int .i8 x.1,.int .i8 x.2.1,.int .i8 x.2.2]]:=⟨_,rfl⟩
 have hlN:N.length=3:=by rw[hN];rfl
 have hxN:(ds=[]∧a=.nilslice)∨∃b o,N[b]? =some (.cells o 12 (eO ds))∧a=.slice b 0 ds.length none:=by
  rcases hx with⟨h,rfl⟩ | ⟨h,rfl⟩
  ·exact .inl ⟨h,rfl⟩
  ·refine .inr ⟨0,false,?_,rfl⟩
   rw[hN];simpa using h
 obtain⟨q,evs,cs,new,hK,H,ok,hnd,hl⟩:=IM s hs ds hd h3 N a hxN;have hd0:tn [ba] (cs.map unE)=false:=Bf (by simpa using hnd);have hP:=Ej s x hz a (N++new) (by
  rcases hxN with⟨_,h⟩ | ⟨b,o,hb,h⟩
  ·exact .inl h
  ·exact .inr ⟨b,_,h,by rw[List.length_append];have:=(List.getElem?_eq_some_iff.1 hb).1;omega⟩)
 have hF:=hfit N;rw[decide_eq_true h3] at hF;obtain⟨L,hL,hLF,hrun⟩:=Jt H hd0 (by omega) (S9 s x hz) i;obtain⟨H1,hH1⟩:∃L:List (FuncId×List AV×(Mem→Prop)×CallRes),L=[(7,[],(fun M=>M=N),⟨.bool true,none,[]⟩),(8,[gx s a],(fun M=>M=N),⟨.bool true,none,[]⟩),(9,[gx s a],(fun M=>M=N),⟨.agg (aR s (N.length+2) (N.length+3) q cs.length),none,new⟩),(16,[gx s a,zB x],(fun M=>M=N++new),⟨vA (plV s x),none,[]⟩)]:=⟨_,rfl⟩
 have hO1:OracleOk Tryz.prog (cv H1):=gk fun y hy M hp=>by
  rw[hH1] at hy;simp only[List.mem_cons,List.not_mem_nil,or_false] at hy;rcases hy with rfl | rfl | rfl | rfl<;>simp only at hp<;>rw[hp]
  ·exact ag (by simpa using rN N)
  ·exact ag (by simpa using hF)
  ·exact ag hK
  ·exact ag (by simpa using hP)
 obtain⟨O,hOe⟩:∃O,O=Oracle.or (cv L) (cv H1):=⟨_,rfl⟩
 have hO:OracleOk Tryz.prog O:=by rw[hOe];exact OracleOk.or hL hO1
 have hext:TQ (cv L) O:=fun c a m r h=>by rw[hOe];simp[Oracle.or,h]
 have hout:∀f a m,¬oZ f→O (.fn f) a m=cv H1 (.fn f) a m:=fun f a m h=>by rw[hOe];simp[Oracle.or,Bj (L:=L) (g:=f) (a:=a) (m:=m) (fun y hy e=>h (e▸hLF y hy))]
 have e1:O (.fn 7) [] N=some ⟨.bool true,none,[]⟩:=by rw[hout _ _ _ (by unfold oZ;decide),hH1];exact aQ rfl
 have e2:O (.fn 8) [gx s a] N=some ⟨.bool true,none,[]⟩:=by rw[hout _ _ _ (by unfold oZ;decide),hH1,ak (.inl (by decide))];exact aQ rfl
 have e3:O (.fn 9) [gx s a] N=some ⟨.agg (aR s (N.length+2) (N.length+3) q cs.length),none,new⟩:=by rw[hout _ _ _ (by unfold oZ;decide),hH1,ak (.inl (by decide)),ak (.inl (by decide))];exact aQ rfl
 have e4:O (.fn 16) [gx s a,zB x] (N++new)=some ⟨vA (plV s x),none,[]⟩:=by rw[hout _ _ _ (by unfold oZ;decide),hH1,ak (.inl (by decide)),ak (.inl (by decide)),ak (.inl (by decide))];exact aQ rfl
 have hmk:=Mj (i:=i) (o1:=true) (o2:=true) (by omega:3≤N.length) (by rcases hx with⟨_,h⟩ | ⟨_,h⟩;exact .inl h;exact .inr ⟨_,h⟩) (fun Z=>by rw[hN];rfl) (fun Z=>by rw[hN];rfl) ok (by have:=H.refs;rwa [List.length_append] at this) e3 e4 (hrun O hext);rw[hN] at e1 e2 hmk;exact Ju hO hack hakn (HZ hX) e1 e2 hmk
end Go.Proofs
